/- Part 4 of what stands behind these statements: laws and walks of the functions that are reached. Conditions: those that each theorem names. -/
import Derived.Test.YtfpekahfdalfkaaGreatDoorE3
set_option linter.unusedVariables false
set_option linter.unusedSimpArgs false
namespace Go.Proofs.YtfpekahfdalfkaaGreatDoor
open _root_.Go renaming Value->AbI,World->AbJ,TypeId->AbQ,Program->Acg,Operand->AbV
open _root_.List renaming replicate->AbX,mem_append->Acb,mem_singleton->AbW,getElem?_cons_succ->Adl,getElem?_eq_some_iff->Acf,mem_cons->Acy,not_mem_nil->Adz,length_take->Ab5,size_toArray->Ab4,length_drop->Ab6,length_replicate->Ab8,length_cons->Ach,length_nil->Acl,map_append->Adc,length_append->AbP,getD_eq_getElem?_getD->AbN,getElem?_eq_getElem->AbT,length_map->Ab9,all_eq_true->Acx,mem_map->Acw,getElem?_toArray->AcN,getElem?_eq_none->AcR,getElem?_cons_zero->Ad8
open _root_.Go.Lib renaming byteCells->AbK,byteCells_length->AbZ,compareBytes->Acd
open _root_.Go.Proofs.Tryz renaming prog->AbL
open _root_.Nat renaming lt_of_lt_of_le->AcE,le_refl->AbO,zero_le->Ack,le_trans->AbM,not_lt_zero->Ads,blt->AdY,le_of_ble_eq_true->Ab2,beq->Aea,beq_refl->Afx
open _root_.Go.Instr renaming build->AdF,buildSlice->Acq
open _root_.Go.Value renaming bool->Acs,slice->AbR,ownBlock->AbS
open _root_.Prod renaming fst->Aci
open _root_.And renaming intro->Acr
open _root_.Int renaming toNat_natCast->Ab0
open _root_.Go.World renaming cell?->Ad6,cell?_spot->AeA,drew->AfB
open _root_.Array renaming replicate->Adx,getD_eq_getD_getElem?->AcC,getElem?_append->AfS,getElem?_replicate->Adg
open _root_.Go.RowKit.Below renaming refl->AcB
open Go.RowKit
def BW(b:Bs)(a fin:Nat):Option (Bs × Nat):=
 match A3 0 ((b.take fin).drop a)with
 | none=>none
 | some x=>if 1048576<x.1 then none else if(b.take fin).length<a+x.2+x.1 then none else some (((b.take fin).drop (a+x.2)).take x.1,a+x.2+x.1)
structure Ent where
 pos:Nat
 based:Bool
 base:Bs
 bytes:Bs
abbrev Ai:=Ent × AbI
def dEnt:Ai:=(⟨0,false,AbX 32 0,[]⟩, .slice none 0 0)
def entC(x:Ai):List AbI:=NI x.1.pos :: .bool x.1.based :: (AbK x.1.base++ [x.2])
def EntsOk(w:AbJ)(xs:List Ai):Prop:=∀x∈xs,RB w x.2 x.1.bytes/\x.1.base.length=32
theorem EntsOk.keep{w w' :AbJ}{xs:List Ai}(h:EntsOk w xs)(k:Ext w w'):EntsOk w' xs:=fun x hx=>⟨(h x hx).1.keep k,(h x hx).2⟩
def NewV(n:Nat)(v:AbI):Prop:=∀k,v.ownBlock=some k->n<=k
theorem NewV.nil(n:Nat):NewV n (.slice none 0 0):=fun k h=>by cases h
def NewM{α:Type}(n:Nat)(M:Bs->Option (α × AbI)):Prop:=∀id x,M id=some x->NewV n x.2
theorem NewM.none{α:Type}(n:Nat):NewM (α:=α) n (fun _=> .none):=fun _ _ h=>by cases h
theorem NewM.put{α:Type}{n:Nat}{M:Bs->Option (α × AbI)}(h:NewM n M)(id:Bs){x:α × AbI}(hx:NewV n x.2):NewM n (updM M id (some x)):=fun a c hc=>by
 unfold updM at hc;split at hc
 ·cases hc;exact hx
 ·exact h a c hc
theorem NewM.get{n:Nat}{M:Bs->Option Ai}(h:NewM n M)(k:Bs):NewV n ((M k).getD dEnt).2:=by
 cases e:M k with
 | none=>exact NewV.nil n
 | some c=>exact h k c e
theorem Nq{α:Type}{l:List α}{y:α}{P:α->Prop}(h:∀x∈l,P x)(hy:P y):∀x∈l++ [y],P x:=fun x hx=>by
 rcases Acb.1 hx with hx | hx
 ·exact h x hx
 ·rw[AbW.1 hx];exact hy
theorem entC_len{x:Ai}(h:x.1.base.length=32):(entC x).length=35:=by simp[entC,AbK,h]
theorem Nr{x:Ai}(h:x.1.base.length=32):(entC x)[34]? =some x.2:=by
 unfold entC;rw[Adl,Adl,List.getElem?_append_right (by rw[AbZ,h];omega),AbZ,h];rfl
theorem Ep{w:AbJ}{g:Nat}{x:Ai}{t:AbQ}{fr:Nat × Nat}(hb:w.heap[g]? =some (.cells (entC x).toArray t fr)):w.rangeAt g 2 (AbK x.1.base):=fun j u hu=>by
 refine cellAt hb ?_;unfold entC;rw[show 2+j=j+1+1 by omega,Adl,Adl,List.getElem?_append_left (Acf.1 hu).1];exact hu
theorem Bx{x:Ai}(h:x.2.oneCell' =true):∀u∈entC x,u.oneCell' =true:=by
 intro u hu;simp only[entC,Acy,Acb,Adz,or_false]at hu;rcases hu with rfl | rfl | hu | rfl
 ·rfl
 ·rfl
 ·exact Ag _ u hu
 ·exact h
def entOne(b:Bs)(fin pos:Nat):Option (Ent × Nat):=
 if pos<fin/\(b.getD pos 0).toNat<=1 then
  if b.getD pos 0=1 then
   if fin-(pos+1)<32 then none
   else(BW b (pos+33) fin).map fun x=>(⟨pos,true,((b.take fin).drop (pos+1)).take 32,x.1⟩,x.2)
  else(BW b (pos+1) fin).map fun x=>(⟨pos,false,AbX 32 0,x.1⟩,x.2)
 else none
def Da(b:Bs)(fin first:Nat):Nat->Option (List Ent × Nat)
 | 0=>some ([],first)
 | i+1=>(Da b fin first i).bind fun x=>(entOne b fin x.2).map fun y=>(x.1++ [y.1],y.2)
theorem DG{b:Bs}{fin first i:Nat}(h:Da b fin first i=none):∀k,Da b fin first (i+k)=none
 | 0=>h
 | k+1=>by
  show(Da b fin first (i+k)).bind _=none;rw[DG h k];rfl
theorem Hu{b:Bs}{fin first i:Nat}{es:List Ent}{p:Nat}(h:Da b fin first i=some (es,p)):Da b fin first (i+1)=(entOne b fin p).map fun y=>(es++ [y.1],y.2):=by
 show(Da b fin first i).bind _=_;rw[h];rfl
def Ct(b:Bs)(n first fin:Nat):Option (List Ent):=(Da b fin first n).bind fun x=>if x.2=fin then some x.1 else none
theorem Ns{b:Bs}{a fin:Nat}{s:Bs}{n:Nat}(h:BW b a fin=some (s,n))(ha:a<=fin)(hf:fin<=b.length):n<=fin/\a<=n:=by
 unfold BW at h;split at h
 ·cases h
 ·split at h
  ·cases h
  ·split at h
   ·cases h
   ·rename_i h1
    cases h;rw[Ab5]at h1;omega
set_option maxRecDepth 100000
set_option maxHeartbeats 1600000
theorem FQ:Plain AbL 210:=fun _ _=>by kernel_rfl
theorem FR:Plain AbL 129:=fun _ _=>by kernel_rfl
theorem Nt(w:AbJ)(v:AbI)(b:Bs)(hr:RB w v b)(a fin:Nat)(ha:a<=fin)(hf:fin<=b.length):
  Calls AbL 172 #[v,NI a,NI fin] w fun r w' =>(∃x,r = .returned x/\∃s n,BW b a fin=some (s,n)/\x = .tuple #[St s,NI n]/\Ext w w')\/∃ch,r = .panicked ch/\BW b a fin=none/\ch= [CO 6]/\Ext w w' :=by
 refine gG (args:= [v,NI a,NI fin]) Tryz.func172 rfl 25 rfl rfl ?_;have hE:=AaY w;have htk:(b.take fin).length=fin:=by rw[Ab5];omega
 rcases hd:A3 0 ((b.take fin).drop a)with _ | ⟨xn,xk⟩
 ·have hP:BW b a fin=none:=by unfold BW;rw[hd]
  refine gS (YB (xs:=b) (n:=fin) F7 PO rfl (hr.keep hE) rfl (by omega) fun c f ha5=>(gS (Yf FQ rfl rfl rfl ?_)));refine((show Calls _ _ _ _ (fun e w2=>e = .returned (.tuple #[St (([]:Ah5)),NI 0,NI 6])/\Ext _ w2)from(FO _ c (b.take (fin)) f a (by omega) 1048576).mono fun e w2 ⟨h1,h2⟩=>by subst h2;subst h1;refine⟨?_,AaY _⟩;unfold B2;rw[hd];simp only;rfl)).mono ?_;rintro e w7 ⟨rfl,g⟩;refine⟨_,rfl,?_⟩;refine gS (AaZ (vs:= [St (([]:Ah5)),NI 0,NI 6]) rfl rfl (gS (AaZ (vs:= [St (([]:Ah5)),NI 0,NI 6]) rfl rfl (gS (AaZ (vs:= [St (([]:Ah5)),NI 0,NI 6]) rfl rfl (gS (XQ (a:=(6:Nat)) (b:=(0:Nat)) rfl rfl (AI _ _ _ _) (gP (X8 FR rfl rfl ?_)))))))));refine Aq (AS _ (decide ((6:Nat)=(0))) 6) ?_ ?_;rotate_left
  ·rintro ch ac ⟨rfl,hb,hx⟩;refine Au ?_;have hno:=of_decide_eq_false hb;have hE:=hE.trans g;exact .inr ⟨_,rfl,hP,rfl,hE.trans hx⟩
  rintro v_ ad ⟨rfl,h,ae⟩;have af:=of_decide_eq_true h;refine BA rfl (vr (St (([]:Ah5))) rfl) (vr (NI 0) rfl) ?_;omega
 by_cases hm:1048576<xn
 ·have hP:BW b a fin=none:=by unfold BW;rw[hd];simp only;rw[if_pos hm]
  refine gS (YB (xs:=b) (n:=fin) F7 PO rfl (hr.keep hE) rfl (by omega) fun i j ha19=>(gS (Yf FQ rfl rfl rfl ?_)));refine((show Calls _ _ _ _ (fun e w2=>e = .returned (.tuple #[St (([]:Ah5)),NI 0,NI 2])/\Ext _ w2)from(FO _ i (b.take (fin)) j a (by omega) 1048576).mono fun e w2 ⟨h1,h2⟩=>by subst h2;subst h1;refine⟨?_,AaY _⟩;unfold B2;rw[hd];simp only;rw[if_pos (by omega)];rfl)).mono ?_;rintro e ag ⟨rfl,k⟩;refine⟨_,rfl,?_⟩;refine gS (AaZ (vs:= [St (([]:Ah5)),NI 0,NI 2]) rfl rfl (gS (AaZ (vs:= [St (([]:Ah5)),NI 0,NI 2]) rfl rfl (gS (AaZ (vs:= [St (([]:Ah5)),NI 0,NI 2]) rfl rfl (gS (XQ (a:=(2:Nat)) (b:=(0:Nat)) rfl rfl (AI _ _ _ _) (gP (X8 FR rfl rfl ?_)))))))));refine Aq (AS _ (decide ((2:Nat)=(0))) 6) ?_ ?_;rotate_left
  ·rintro ch ah ⟨rfl,hb,hx⟩;refine Au ?_;have hno:=of_decide_eq_false hb;have hE:=hE.trans k;exact .inr ⟨_,rfl,hP,rfl,hE.trans hx⟩
  rintro v_ ai ⟨rfl,l,aj⟩;have ak:=of_decide_eq_true l;refine BA rfl (vr (St (([]:Ah5))) rfl) (vr (NI 0) rfl) ?_;omega
 by_cases hl:(b.take fin).length<a+xk+xn
 ·have hP:BW b a fin=none:=by unfold BW;rw[hd];simp only;rw[if_neg hm,if_pos hl]
  refine gS (YB (xs:=b) (n:=fin) F7 PO rfl (hr.keep hE) rfl (by omega) fun m o ha33=>(gS (Yf FQ rfl rfl rfl ?_)));refine((show Calls _ _ _ _ (fun e w2=>e = .returned (.tuple #[St (([]:Ah5)),NI 0,NI 6])/\Ext _ w2)from(FO _ m (b.take (fin)) o a (by omega) 1048576).mono fun e w2 ⟨h1,h2⟩=>by subst h2;subst h1;refine⟨?_,AaY _⟩;unfold B2;rw[hd];simp only;rw[if_neg (by omega),if_pos hl];rfl)).mono ?_;rintro e al ⟨rfl,p⟩;refine⟨_,rfl,?_⟩;refine gS (AaZ (vs:= [St (([]:Ah5)),NI 0,NI 6]) rfl rfl (gS (AaZ (vs:= [St (([]:Ah5)),NI 0,NI 6]) rfl rfl (gS (AaZ (vs:= [St (([]:Ah5)),NI 0,NI 6]) rfl rfl (gS (XQ (a:=(6:Nat)) (b:=(0:Nat)) rfl rfl (AI _ _ _ _) (gP (X8 FR rfl rfl ?_)))))))));refine Aq (AS _ (decide ((6:Nat)=(0))) 6) ?_ ?_;rotate_left
  ·rintro ch am ⟨rfl,hb,hx⟩;refine Au ?_;have hno:=of_decide_eq_false hb;have hE:=hE.trans p;exact .inr ⟨_,rfl,hP,rfl,hE.trans hx⟩
  rintro v_ an ⟨rfl,q,ao⟩;have ap:=of_decide_eq_true q;refine BA rfl (vr (St (([]:Ah5))) rfl) (vr (NI 0) rfl) ?_;omega
 have hP:BW b a fin=some (((b.take fin).drop (a+xk)).take xn,a+xk+xn):=by unfold BW;rw[hd];simp only;rw[if_neg hm,if_neg hl]
 refine gS (YB (xs:=b) (n:=fin) F7 PO rfl (hr.keep hE) rfl (by omega) fun t u ha47=>(gS (Yf FQ rfl rfl rfl ?_)));refine((show Calls _ _ _ _ (fun e w2=>e = .returned (.tuple #[St (((b.take fin).drop (a+xk)).take xn),NI (a+xk+xn),NI 0])/\Ext _ w2)from(FO _ t (b.take (fin)) u a (by omega) 1048576).mono fun e w2 ⟨h1,h2⟩=>by subst h2;subst h1;refine⟨?_,AaY _⟩;unfold B2;rw[hd];simp only;rw[if_neg (by omega),if_neg hl];rfl)).mono ?_;rintro e aq ⟨rfl,y⟩;refine⟨_,rfl,?_⟩;refine gS (AaZ (vs:= [St (((b.take fin).drop (a+xk)).take xn),NI (a+xk+xn),NI 0]) rfl rfl (gS (AaZ (vs:= [St (((b.take fin).drop (a+xk)).take xn),NI (a+xk+xn),NI 0]) rfl rfl (gS (AaZ (vs:= [St (((b.take fin).drop (a+xk)).take xn),NI (a+xk+xn),NI 0]) rfl rfl (gS (XQ (a:=(0:Nat)) (b:=(0:Nat)) rfl rfl (AI _ _ _ _) (gP (X8 FR rfl rfl ?_)))))))));refine Aq (AS _ (decide ((0:Nat)=(0))) 6) ?_ ?_;rotate_left
 ·rintro ch ar ⟨rfl,hb,hx⟩;refine Au ?_;have hno:=of_decide_eq_false hb;exact absurd rfl hno
 rintro v_ au ⟨rfl,z,aa⟩;have av:=of_decide_eq_true z;refine BA rfl (vr (St (((b.take fin).drop (a+xk)).take xn)) rfl) (vr (NI (a+xk+xn)) rfl) ?_;have hZ1:=y.trans aa;have hE:=hE.trans hZ1;exact .inl ⟨_,rfl,_,_,hP,rfl,hE⟩
def EntsIn(w:AbJ)(va:AbI)(xs:List Ai):Prop:=∀x∈xs,RB w x.2 x.1.bytes/\x.1.base.length=32/\∀k,x.2.ownBlock=some k->k<w.heap.size/\va.ownBlock≠some k
theorem EntsIn.keep{w w' :AbJ}{va:AbI}{xs:List Ai}(h:EntsIn w va xs)(k:Ext w w'):EntsIn w' va xs:=fun x hx=>
 ⟨(h x hx).1.keep k,(h x hx).2.1,fun j hj=>⟨AcE ((h x hx).2.2 j hj).1 k.size,((h x hx).2.2 j hj).2⟩⟩
theorem EntsIn.nil(w:AbJ)(va:AbI):EntsIn w va []:=fun x hx=>by cases hx
theorem Ze{w:AbJ}{va:AbI}{xs:List Ai}(h:EntsIn w va xs){x:Ai}(h1:RB w x.2 x.1.bytes)(h2:x.1.base.length=32)(h3:∀k,x.2.ownBlock=some k->k<w.heap.size/\va.ownBlock≠some k):EntsIn w va (xs++ [x]):=fun y hy=>by
 rcases Acb.1 hy with hy | hy
 ·exact h y hy
 ·rw[AbW.1 hy];exact⟨h1,h2,h3⟩
theorem Hv{w w' :AbJ}{v v' x:AbI}{m:Ah5}(h:RB w x m)(hx:∀k,x.ownBlock=some k->v.ownBlock≠some k)(gr:Grew w w' v v'):RB w' x m:=by
 refine h.kept gr.by_ ?_;cases hv:x.ownBlock with
 | none=>exact .inl rfl
 | some g=>exact .inr (fun e=>hx g hv (by rw[<-e]))
theorem EntsIn.grew{w w' :AbJ}{va va' :AbI}{xs:List Ai}(h:EntsIn w va xs)(g:Grew w w' va va'):EntsIn w' va' xs:=fun x hx=>
 ⟨Hv (h x hx).1 (fun k hk=>((h x hx).2.2 k hk).2) g,(h x hx).2.1,fun j hj=>⟨AcE ((h x hx).2.2 j hj).1 g.by_.size,fun e=>(g.fresh j e).elim (fun q=>((h x hx).2.2 j hj).2 q) (fun q=>by have:=((h x hx).2.2 j hj).1;omega)⟩⟩
theorem EntsIn.ok{w:AbJ}{va:AbI}{xs:List Ai}(h:EntsIn w va xs):EntsOk w xs:=fun x hx=>⟨(h x hx).1,(h x hx).2.1⟩
section
variable {P : Acg} {K : AbI -> AbJ -> Prop} {ρ : Ac} {w : AbJ} {d : Option Tmp} {ty : AbQ} {pos : String} {af : Array Edge} {gd : Option (Nat × Bool)}
theorem Zo{t e s:AbQ}{u:TypeDesc}(hs:P.underlying s=some u)(ht:P.underlying t=some (.slice e))(he:P.underlying e=some (.int .u8)){x:AbV}{l:Ah5}(hx:Aa ρ x=St l)(hl:l.length<=9223372036854775807) 
  (hk:∀v w',RB w' v l->Ext w w' ->(∀k,v.ownBlock=some k->w.heap.size<=k/\k<w'.heap.size)->K v w'):Yk P K ((execOp (Aa ρ) ⟨d, .convert s t x,ty,pos,af,gd⟩).run P w):=by
 have hr:=Lib.run_convert_string_bytes (P:=P) w s t e ⟨l.toArray⟩ hs ht he;have hsz:(⟨l.toArray⟩:ByteArray).size=l.length:=by simp[ByteArray.size]
 rw[hsz]at hr;refine Aa4 (v:= .slice (some ⟨w.heap.size,0,none⟩) l.length (grownCap w l.length 0 e)) (w' :=Lib.bytesWorld w e ⟨l.toArray⟩) ?_ (hk _ _ ?_ (Lib.bytesWorld_below w e _) ?_)
 ·unfold execOp;simp only[hx,hr,Sem.run_bind,Sem.run_pure,Result.andThen_ok]
 ·refine⟨by rw[AbZ,Nat.mul_one],_,_,rfl,grownCap_ge w _ _ _,grownCap_le_maxLen w _ _ _ (by simpa [maxLen] using hl),(fun h=>by cases h),fun a ha j u hu=> ?_⟩;cases ha;have hj:j<l.length:=by have:=(Acf.1 hu).1;rwa [AbZ]at this
  have hc:=Lib.bytesWorld_cell w e ⟨l.toArray⟩ j (by rw[hsz];exact hj);rw[show(⟨w.heap.size,0,none⟩:Addr).add j=⟨w.heap.size,j,none⟩ by simp[Addr.add];exact fun h=>h.symm];rw[hc,<-hu,I2 hj]
 ·intro k hk;cases hk;rw[Lib.bytesWorld_size];exact⟨AbO _,Nat.lt_succ_self _⟩
theorem JN(p:Nat)(q:Bool)(B s:Bs)(v:AbI):entC (⟨p,q,B,s⟩,v)= [NI p, .bool q]++AbK B++ [v]:=rfl
theorem Z8{t' :AbQ}{x y:AbV}{g p:Nat}{q:Bool}{B B' s:Bs}{v:AbI}{t:AbQ}(hx:Aa ρ x = .pointer (some ⟨g,2,none⟩))(hy:Aa ρ y = .agg (AbK B').toArray)(hg:w.heap[g]? =some (.cells (entC (⟨p,q,B,s⟩,v)).toArray t (0,0)))(hB:B.length=32)(hB' :B'.length=32)(hi:(P.info? t').map (·.size)=some 32) 
  (hk:∀w',w'.heap[g]? =some (.cells (entC (⟨p,q,B',s⟩,v)).toArray t (0,0))->w.grownBy w' (some g)->w'.heap.size=w.heap.size->K undef w'):Yk P K ((execOp (Aa ρ) ⟨d, .store t' x y,ty,pos,af,gd⟩).run P w):=
 ZQ (a:= [NI p, .bool q]) (m:=AbK B) (z:= [v]) hx hy (by rw[<-JN];exact hg) rfl (by rw[AbZ,AbZ,hB,hB']) (by rw[AbZ,hB'];exact hi) (Ag _) hk
theorem R7(p:Nat)(q:Bool)(B s:Bs)(v v' :AbI)(hB:B.length=32):(entC (⟨p,q,B,s⟩,v)).set 34 v' =entC (⟨p,q,B,s⟩,v'):=by
 rw[JN,JN,List.set_append_right _ _ (by simp[AbK,hB])]
 congr 1
 simp[AbK,hB]
theorem Zy{t' :AbQ}{x y:AbV}{g p:Nat}{q:Bool}{B s s' :Bs}{v v' :AbI}{t:AbQ}(hx:Aa ρ x = .pointer (some ⟨g,34,none⟩))(hy:Aa ρ y=v')(hg:w.heap[g]? =some (.cells (entC (⟨p,q,B,s⟩,v)).toArray t (0,0)))(hB:B.length=32)(hi:(P.info? t').map (·.size)=some 1)(hr:RB w v' s') 
  (hk:∀w',w'.heap[g]? =some (.cells (entC (⟨p,q,B,s'⟩,v')).toArray t (0,0))->w.grownBy w' (some g)->w'.heap.size=w.heap.size->K undef w'):Yk P K ((execOp (Aa ρ) ⟨d, .store t' x y,ty,pos,af,gd⟩).run P w):=
 X5 (i:=34) hx hy hg (by rw[entC_len (x:=(⟨p,q,B,s⟩,v)) hB];decide) hi hr.one.1 hr.one.2 fun w' h1 h2 h3=>hk w' (by rw[R7 p q B s v v' hB]at h1;exact h1) h2 h3
end
theorem Be{P:Acg}{t:AbQ}{x:Ai}(hi:(P.info? t).map (·.size)=some 35)(h:x.1.base.length=32):(P.info? t).map (·.size)=some (entC x).toArray.size:=by rw[Ab4,entC_len h];exact hi
theorem Br{x y:Ai}(h:x.1.base.length=32)(h' :y.1.base.length=32):(entC x).toArray.size=(entC y).toArray.size:=by rw[Ab4,Ab4,entC_len h,entC_len h']
theorem R8{b:Bs}{fin pos:Nat}(h:pos<fin/\(b.getD pos 0).toNat<=1):entOne b fin pos =
 if b.getD pos 0=1 then
  if fin-(pos+1)<32 then none
  else(BW b (pos+33) fin).map fun x=>(⟨pos,true,((b.take fin).drop (pos+1)).take 32,x.1⟩,x.2)
 else(BW b (pos+1) fin).map fun x=>(⟨pos,false,AbX 32 0,x.1⟩,x.2):=if_pos h
theorem Gx{b:Bs}{a fin:Nat}{s:Bs}{n:Nat}(h:BW b a fin=some (s,n))(hf:fin<=b.length):s.length<=b.length:=by
 unfold BW at h;split at h
 ·cases h
 ·split at h
  ·cases h
  ·split at h
   ·cases h
   ·cases h;rw[Ab5,Ab6,Ab5];omega
theorem Kx{b:Bs}{fin pos:Nat}{e:Ent}{n:Nat}(h:entOne b fin pos=some (e,n))(hf:fin<=b.length):n<=fin/\pos<n:=by
 unfold entOne at h;split at h
 ·rename_i hc
  split at h
  ·split at h
   ·cases h
   ·cases ht:BW b (pos+33) fin with
    | none=>rw[ht]at h;cases h
    | some x=>rw[ht]at h;cases h;have:=Ns ht (by omega) hf;omega
  ·cases ht:BW b (pos+1) fin with
   | none=>rw[ht]at h;cases h
   | some x=>rw[ht]at h;cases h;have:=Ns ht (by omega) hf;omega
 ·cases h
theorem Hw(z0:Int)(z1:Bool)(w:AbJ):(AdF 208 #[(0, .int .i64 z0),(1, .bool z1)]).run AbL w = .ok (.agg (Value.int .i64 z0 :: Acs z1 :: (AbK (AbX 32 0)++ [AbR none 0 0])).toArray) w:=by kernel_rfl
theorem Hx{d:Option Tmp}{ty:AbQ}{pos:String}{af:Array Edge}{gd:Option (Nat × Bool)}(σ:AbV->AbI)(w:AbJ):(execOp σ ⟨d, .alloc 208,ty,pos,af,gd⟩).run AbL w = .ok (.value (PQ w.heap.size 0)) (w.alloc (.cells (entC dEnt).toArray 208)):=by kernel_rfl
theorem EA:(Tryz.prog.info? 208).map (·.size)=some 35:=by kernel_rfl
theorem Gb:A4 AbL 208 1 1:=fun b o w=>by simp[go_sem]
theorem JO:Tryz.prog.underlying 4=some (.bool):=by kernel_rfl
theorem Ky:Plain AbL 171:=fun _ _=>by kernel_rfl
theorem Nu:A4 AbL 208 2 2:=fun b o w=>by simp[go_sem]
theorem Kz:Plain AbL 172:=fun _ _=>by kernel_rfl
theorem Ix:A4 AbL 208 3 34:=fun b o w=>by simp[go_sem]
theorem KA:∃fs,Tryz.prog.underlying 208=some (.struct fs):=Fs (by kernel_rfl)
theorem Qe(c0 c1 c2 c3 c4 c5 c6 c7 c8 c9 c10 c11 c12 c13 c14 c15 c16 c17 c18 c19 c20 c21 c22 c23 c24 c25 c26 c27 c28 c29 c30 c31 c32 c33 c34:AbI)(w:AbJ):(Acq 200 1 #[(0, .agg #[c0,c1,c2,c3,c4,c5,c6,c7,c8,c9,c10,c11,c12,c13,c14,c15,c16,c17,c18,c19,c20,c21,c22,c23,c24,c25,c26,c27,c28,c29,c30,c31,c32,c33,c34])]).run AbL w = .ok (.slice (some ⟨w.heap.size,0,none⟩) 1 1) (w.alloc (.cells #[c0,c1,c2,c3,c4,c5,c6,c7,c8,c9,c10,c11,c12,c13,c14,c15,c16,c17,c18,c19,c20,c21,c22,c23,c24,c25,c26,c27,c28,c29,c30,c31,c32,c33,c34] 208)):=by kernel_rfl
theorem KB:∀(cs:Array AbI),cs.size=35->∀w:AbJ,(Acq 200 1 #[(0, .agg cs)]).run AbL w = .ok (.slice (some ⟨w.heap.size,0,none⟩) 1 1) (w.alloc (.cells cs 208))
 | ⟨c0 :: c1 :: c2 :: c3 :: c4 :: c5 :: c6 :: c7 :: c8 :: c9 :: c10 :: c11 :: c12 :: c13 :: c14 :: c15 :: c16 :: c17 :: c18 :: c19 :: c20 :: c21 :: c22 :: c23 :: c24 :: c25 :: c26 :: c27 :: c28 :: c29 :: c30 :: c31 :: c32 :: c33 :: c34 :: []⟩,_,w=>Qe c0 c1 c2 c3 c4 c5 c6 c7 c8 c9 c10 c11 c12 c13 c14 c15 c16 c17 c18 c19 c20 c21 c22 c23 c24 c25 c26 c27 c28 c29 c30 c31 c32 c33 c34 w
theorem pk12_ig208:∃z,(Tryz.prog.info? 208).map (fun i=>(i.zero,i.size,i.bytes))=some (some z,35,72)/\z.cells.size=35:=E8 (by kernel_rfl)
theorem FS:Tryz.prog.underlying 200=some (.slice 208):=by kernel_rfl
theorem OF(w:AbJ)(v:AbI)(b:Bs)(hr:RB w v b)(n first fin:Nat)(hff:first<=fin)(hf:fin<=b.length)(hn:n<=1048576)(hb:b.length<=1048576):
  Calls AbL 130 #[v,NI n,NI first,NI fin] w fun r w' =>(∃x,r = .returned x/\∃es:List Ai,Ct b n first fin=some (es.map Aci)/\RG 35 entC w' x es/\EntsOk w' es/\(∀x∈es,NewV w.heap.size x.2)/\Ext w w')\/∃ch,r = .panicked ch/\Ct b n first fin=none/\ch= [CO 6]/\Ext w w' :=by
 refine gG (args:= [v,NI n,NI first,NI fin]) Tryz.func130 rfl 77 rfl rfl ?_;have hE:=AaY w;have hen0:OG w.heap.size 208 35 entC w (AbR none 0 0) ([]:List Ai):=Abg _ _ _ _ _;refine gL (fun(ρ:Ac) (wz:AbJ)=>∃i:Nat,∃es:List Ai,∃p:Nat,∃va:AbI,ρ 0=(v:AbI)/\ρ 1=(NI n:AbI)/\ρ 3=(NI fin:AbI)/\ρ 8=((AbR none 0 0):AbI)/\ρ 16=(NI n:AbI)/\ρ 17=(NI i:AbI)/\ρ 2=(NI p:AbI)/\ρ 9=(va:AbI)/\Ext w wz/\EntsIn wz va es/\OG w.heap.size 208 35 (entC) wz va (es)/\(Da b fin first i=some (es.map Aci,p))/\(i<=n)/\(p<=fin)/\(es.length=i)/\(∀x∈es,NewV w.heap.size x.2)/\True) (fun ρ _=>n-(intOf (ρ 17)).toNat) ⟨0,[],first,(AbR none 0 0),rfl,rfl,rfl,rfl,rfl,rfl,rfl,rfl,hE,EntsIn.nil _ _,Bc hen0 (rfl),rfl,Ack _,by omega,rfl,(fun x hx=>by cases hx),trivial⟩ ?_;clear hen0;clear hE;rintro be w6 ⟨i,es,p,va,u,T1,z,T8,a5,ao,g,T9,hE,hEn,hr_va,hs,hi,hp,hil,hnw,-⟩;have q17:=ao;refine gS (XQ (a:=(i:Nat)) (b:=(n:Nat)) ao a5 (AK _ _ _ _) ?_);refine cD rfl (fun bh=> ?_) fun bh=> ?_
 ·have hil0:i<n:=bh;have hst:=Hu hs;have hlen:(b.take fin).length=fin:=by rw[Ab5];omega
  by_cases hlt:p<fin
  ·by_cases hle:(b.getD p 0).toNat<=1
   ·have hO1:=R8 ⟨hlt,hle⟩;by_cases h1:b.getD p 0=1
    ·rw[if_pos h1]at hO1;have h1n:(b.getD p 0).toNat=1:=by rw[h1];rfl
     by_cases hg:fin-(p+1)<32
     ·rw[if_pos hg]at hO1;refine gS (XQ (a:=(p:Nat)) (b:=(fin:Nat)) g z (AK _ _ _ _) (kT (hlt) (gS (Yd (l:=b) (i:=p) F7 PO (XV (hr.keep hE) u) g (by omega) fun dr bi=>(gS (X4 u5 rfl (Yb bi rfl) (gS (XQ (a:=((b.getD (p) 0).toNat:Nat)) (b:=(1:Nat)) rfl rfl (Dw _ _ _ _) (kT (hle) (gS (XY rfl rfl (gP (X8 FR rfl rfl ?_)))))))))))));refine Aq (AS _ (true) 6) ?_ ?_;rotate_left
      ·rintro ch ds ⟨rfl,hb,hx⟩;refine Au ?_;cases hb
      rintro v_ bj ⟨rfl,dt,bk⟩;have hEn:EntsIn bj va es:=(hEn.keep bk);clear bi;have hE:=hE.trans bk;refine gS (Yd (l:=b) (i:=p) F7 PO (XV (hr.keep hE) u) g (by omega) fun du bm=>(gS (X4 u5 rfl (Yb bm rfl) (gS (XQ (a:=((b.getD (p) 0).toNat:Nat)) (b:=(1:Nat)) rfl rfl (AI _ _ _ _) (kT (h1n) (gS (YD g (vr (.bool (true)) rfl) (fun w=>Hw (p:Int) true w) (gS (Aa3 Hx fun bn co dv bo cp dw=> ?_))))))))));have ad:=AaY bj;have dx:=hE.size;have ab:=bo;clear bo;have dy:bn<co.heap.size:=by omega
      refine gS (XT (vr (PQ bn 0) rfl) (vr (.agg (entC ((⟨p,true,AbX 32 0,[]⟩, .slice none 0 0))).toArray) rfl) ab (Br (x:=((⟨p,true,AbX 32 0,[]⟩, .slice none 0 0):Ai)) (y:=dEnt) (by simp) (by simp[dEnt])) (Be (x:=((⟨p,true,AbX 32 0,[]⟩, .slice none 0 0):Ai)) EA (by simp)) (Bx (x:=((⟨p,true,AbX 32 0,[]⟩, .slice none 0 0):Ai)) rfl) fun dz bp cq d0=> ?_);clear ab;have ab:=bp;clear bp;have d1:=bl ab;clear bm;have ad:=ad.trans cp;have ad:=Ab ad cq (AbM (AbO _) (by omega));have hE:=hE.trans ad;refine gS (XR (xv:=NI p) (yv:=NI 1) g rfl rfl (Ah _ _ _ (by omega)) (gS (Aa0 Gb rfl (gS (XP JO rfl rfl (cellAt ab (show(entC ((⟨p,true,AbX 32 0,[]⟩, .slice none 0 0)))[1]? =some (.bool (true):AbI)from rfl)) (cT rfl (gS (YB (xs:=b) (n:=fin) F7 PO u (hr.keep hE) z (by omega) fun cr cs ha44=>(gS (XS Ky rfl rfl ?_))))))))));refine((show Calls _ _ _ _ (fun e w2=>e = .returned (.tuple #[AB zero32,NI 0,NI 6])/\Ext _ w2)from(JE _ cr (b.take fin) cs (p+1) (by omega)).mono fun e w2 ⟨h1,h2⟩=>by subst h1;refine⟨?_,h2⟩;unfold D4;rw[hlen];rw[if_pos (by omega)];rfl)).mono ?_;rintro e d2 ⟨rfl,a6⟩;refine⟨_,rfl,?_⟩;refine gS (AaZ (vs:= [AB zero32,NI 0,NI 6]) rfl rfl (gS (AaZ (vs:= [AB zero32,NI 0,NI 6]) rfl rfl (gS (AaZ (vs:= [AB zero32,NI 0,NI 6]) rfl rfl (gS (Aa3 Tn fun bq ct cu br cv d3=> ?_)))))));have hE:=hE.trans a6;have ad:=ad.trans a6;have cw:=hE.size;have ab:=eb a6 ab;have d4:=As (bl ab) cu;have ap:=br;clear br;have d5:bq<ct.heap.size:=by omega
      refine gS (XT (vr (PQ bq 0) rfl) (vr (AB zero32) rfl) ap (by exact BC (by decide) Ab8) (by exact Ad (by decide)) (Ag _) fun d6 bs cx d7=> ?_);clear ap;have ap:=bs;clear bs;have d8:=bl ap;refine gS (XQ (a:=(6:Nat)) (b:=(0:Nat)) rfl rfl (AI _ _ _ _) (kF (by decide) (gP (X8 FR rfl rfl ?_))));refine Aq (AS _ (false) 6) ?_ ?_;rotate_left
      ·rintro ch d9 ⟨rfl,hb,hx⟩;refine Au ?_;have o:=DG (show Da b fin first (i+1)=none by rw[hst,hO1];rfl) (n-(i+1));rw[show i+1+(n-(i+1))=n by omega]at o;have hE:=hE.trans cv;have hE:=Ab hE cx (AbM cw (by omega));exact .inr ⟨_,rfl,by unfold Ct;rw[o];rfl,rfl,hE.trans hx⟩
      rintro v_ ea ⟨rfl,cy,ec⟩;cases cy
     rw[if_neg hg]at hO1;have ac:(((b.take fin).drop (p+1)).take 32).length=32:=by rw[Ab5,Ab6,hlen];omega
     refine gS (XQ (a:=(p:Nat)) (b:=(fin:Nat)) g z (AK _ _ _ _) (kT (hlt) (gS (Yd (l:=b) (i:=p) F7 PO (XV (hr.keep hE) u) g (by omega) fun ed bt=>(gS (X4 u5 rfl (Yb bt rfl) (gS (XQ (a:=((b.getD (p) 0).toNat:Nat)) (b:=(1:Nat)) rfl rfl (Dw _ _ _ _) (kT (hle) (gS (XY rfl rfl (gP (X8 FR rfl rfl ?_)))))))))))));refine Aq (AS _ (true) 6) ?_ ?_;rotate_left
     ·rintro ch ee ⟨rfl,hb,hx⟩;refine Au ?_;cases hb
     rintro v_ bu ⟨rfl,ef,a7⟩;have hEn:EntsIn bu va es:=(hEn.keep a7);clear bt;have hE:=hE.trans a7;refine gS (Yd (l:=b) (i:=p) F7 PO (XV (hr.keep hE) u) g (by omega) fun eg bv=>(gS (X4 u5 rfl (Yb bv rfl) (gS (XQ (a:=((b.getD (p) 0).toNat:Nat)) (b:=(1:Nat)) rfl rfl (AI _ _ _ _) (kT (h1n) (gS (YD g (vr (.bool (true)) rfl) (fun w=>Hw (p:Int) true w) (gS (Aa3 Hx fun aq cz eh bw bx ei=> ?_))))))))));have f:=AaY bu;have bz:=hE.size;have hr_va:=hr_va.keep a7;have ar:OB va aq:=A9 hr_va.2 (by omega);have c:=bw;clear bw;have ej:aq<cz.heap.size:=by omega
     refine gS (XT (vr (PQ aq 0) rfl) (vr (.agg (entC ((⟨p,true,AbX 32 0,[]⟩, .slice none 0 0))).toArray) rfl) c (Br (x:=((⟨p,true,AbX 32 0,[]⟩, .slice none 0 0):Ai)) (y:=dEnt) (by simp) (by simp[dEnt])) (Be (x:=((⟨p,true,AbX 32 0,[]⟩, .slice none 0 0):Ai)) EA (by simp)) (Bx (x:=((⟨p,true,AbX 32 0,[]⟩, .slice none 0 0):Ai)) rfl) fun el b0 b1 em=> ?_);clear c;have c:=b0;clear b0;have en:=bl c;clear bv;have f:=f.trans bx;have f:=Ab f b1 (AbM (AbO _) (by omega));have hE:=hE.trans f;refine gS (XR (xv:=NI p) (yv:=NI 1) g rfl rfl (Ah _ _ _ (by omega)) (gS (Aa0 Gb rfl (gS (XP JO rfl rfl (cellAt c (show(entC ((⟨p,true,AbX 32 0,[]⟩, .slice none 0 0)))[1]? =some (.bool (true):AbI)from rfl)) (cT rfl (gS (YB (xs:=b) (n:=fin) F7 PO u (hr.keep hE) z (by omega) fun c0 c1 ha108=>(gS (XS Ky rfl rfl ?_))))))))));refine((show Calls _ _ _ _ (fun e w2=>e = .returned (.tuple #[AB (((b.take fin).drop (p+1)).take 32),NI (p+1+32),NI 0])/\Ext _ w2)from(JE _ c0 (b.take fin) c1 (p+1) (by omega)).mono fun e w2 ⟨h1,h2⟩=>by subst h1;refine⟨?_,h2⟩;unfold D4;rw[hlen];rw[if_neg (by omega)];rfl)).mono ?_;rintro e eo ⟨rfl,au⟩;refine⟨_,rfl,?_⟩;refine gS (AaZ (vs:= [AB (((b.take fin).drop (p+1)).take 32),NI (p+1+32),NI 0]) rfl rfl (gS (AaZ (vs:= [AB (((b.take fin).drop (p+1)).take 32),NI (p+1+32),NI 0]) rfl rfl (gS (AaZ (vs:= [AB (((b.take fin).drop (p+1)).take 32),NI (p+1+32),NI 0]) rfl rfl (gS (Aa3 Tn fun a8 c2 c3 b2 av ep=> ?_)))))));have hE:=hE.trans au;have f:=f.trans au;have c4:=hE.size;have c5:=f.size;have c:=eb au c;have eq:=As (bl c) c3;have hr_va:=hr_va.keep bx;have hr_va:=Abc hr_va b1 ar;have hr_va:=hr_va.keep au;have b3:OB va a8:=A9 hr_va.2 (by omega);have j:=b2;clear b2;have er:a8<c2.heap.size:=by omega
     refine gS (XT (vr (PQ a8 0) rfl) (vr (AB (((b.take fin).drop (p+1)).take 32)) rfl) j (by exact BC ac Ab8) (by exact Ad ac) (Ag _) fun et b4 aw eu=> ?_);clear j;have j:=b4;clear b4;have ew:=bl j;refine gS (XQ (a:=(0:Nat)) (b:=(0:Nat)) rfl rfl (AI _ _ _ _) (kT (rfl) (gP (X8 FR rfl rfl ?_))));refine Aq (AS _ (true) 6) ?_ ?_;rotate_left
     ·rintro ch ex ⟨rfl,hb,hx⟩;refine Au ?_;cases hb
     rintro v_ ey ⟨rfl,ez,ai⟩;have c:=eb av c;have c:=kb aw c (by omega);have c:=eb ai c;have j:=eb ai j;refine gS (XU rfl j U7 rfl (by exact Ad ac) (gS (Aa0 Nu rfl (gS (Z8 (B:=AbX 32 0) (B' :=((b.take fin).drop (p+1)).take 32) rfl rfl c (by simp) ac Rl fun e0 b5 ax e1=> ?_)))));clear c;have c:=b5;clear b5;have e2:=bl c;have hE:=hE.trans av;have hE:=Ab hE aw (AbM c4 (by omega));have hE:=hE.trans ai;have hE:=Ab hE ax (AbM bz (by omega));refine gP (Zx Kz u rfl z ?_);refine Aq (Nt _ v b (hr.keep hE) (p+33) fin (by omega) hf) ?_ ?_;rotate_left
     ·rintro ch e3 ⟨hT,rfl,hx⟩;refine Au ?_;have hO1:entOne b fin p=none:=by rw[hO1,show BW b (p+33) fin=none from hT];rfl
      have o:=DG (show Da b fin first (i+1)=none by rw[hst,hO1];rfl) (n-(i+1));rw[show i+1+(n-(i+1))=n by omega]at o;exact .inr ⟨_,rfl,by unfold Ct;rw[o];rfl,rfl,hE.trans hx⟩
     rintro v_ c6 ⟨ts,tn,hT,rfl,aj⟩;have hO:entOne b fin p=some (⟨p,true,((b.take fin).drop (p+1)).take 32,ts⟩,tn):=by rw[hO1,show BW b (p+33) fin=some (ts,tn)from hT];rfl
     refine gS (AaZ (vs:= [St (ts),NI tn]) rfl rfl (gS (AaZ (vs:= [St (ts),NI tn]) rfl rfl (gS (Zo Pi F7 u5 rfl (by have:=Gx hT hf;omega) fun q c7 ae ak ay=> ?_)))));have j:=kb ax j (by omega);have j:=eb aj j;have c:=eb aj c;have c8:OB q aq:=fun e=>by have h1:=(ay _ e).1;have h2:=(bl c);omega
     have hr_va:=hr_va.keep av;have hr_va:=Abc hr_va aw b3;have hr_va:=hr_va.keep ai;have hr_va:=Abc hr_va ax ar;have hr_va:=hr_va.keep aj;have hva:∀k,AbS va=some k->k<c6.heap.size:=fun k hk=>((hr_va).2.lt k hk).2;have hkv:∀k,AbS q=some k->k<c7.heap.size/\OB va k:=fun k hk=>⟨(ay k hk).2,fun e=>by have h1:=hva k e;have h2:=(ay k hk).1;omega⟩;have hE:=hE.trans aj;have hnv:NewV w.heap.size q:=fun k hk=>AbM (hE).size (ay k hk).1;have c:=eb ak c;refine gS (Aa0 Ix rfl (gS (Zy (s:= []) (s' :=ts) rfl rfl c ac Kn ae fun b6 b7 al e4=> ?_)));clear c;have c:=b7;clear b7;have e5:=bl c;have hkv2:∀k,AbS q=some k->k<b6.heap.size/\OB va k:=fun k hk=>⟨by have:=(hkv k hk).1;omega,(hkv k hk).2⟩;have f:=f.trans av;have f:=Ab f aw (AbM c5 (by omega));have f:=f.trans ai;have f:=Ab f ax (AbM (AbO _) (by omega));have f:=f.trans (aj.trans ak);have f:=Ab f al (AbM (AbO _) (by omega));have ae:=Abp ae al (.inr c8);have hEn:EntsIn b6 va (es++ [((⟨p,true,((b.take fin).drop (p+1)).take 32,ts⟩,q):Ai)]):=Ze (hEn.keep f) ae ac hkv2;have hone_:=Bx (x:=((⟨p,true,((b.take fin).drop (p+1)).take 32,ts⟩,q):Ai)) (Aa8 ae).2;refine gS (XU rfl c (KA).choose_spec rfl (Be (x:=((⟨p,true,((b.take fin).drop (p+1)).take 32,ts⟩,q):Ai)) EA ac) (gS (Yu (a:=((⟨p,true,((b.take fin).drop (p+1)).take 32,ts⟩,q))) (enc:=entC) (vr (.agg (entC ((⟨p,true,((b.take fin).drop (p+1)).take 32,ts⟩,q))).toArray) rfl) ((entC_len (x:=((⟨p,true,((b.take fin).drop (p+1)).take 32,ts⟩,q):Ai)) ac)) KB fun c9 b8 b9 am=> ?_)));have hEn:EntsIn b8 va (es++ [((⟨p,true,((b.take fin).drop (p+1)).take 32,ts⟩,q):Ai)]):=(hEn.keep am);have hE:=hE.trans ak;have hE:=Ab hE al (AbM bz (by omega));have hE:=hE.trans am;have hr_va:=hr_va.keep ak;have hr_va:=Abc hr_va al ar;have hr_va:=hr_va.keep am;refine gS (X7 _ _ w.heap.size _ 72 FS pk12_ig208.choose_spec.1 pk12_ig208.choose_spec.2 FS (es) ([((⟨p,true,((b.take fin).drop (p+1)).take 32,ts⟩,q))]) (Abf hr_va T9) (XW b9 (vr c9 rfl)) (fun y hy=>by rw[AbW.1 hy];exact hone_) (by simp only[Ach,Acl];omega) (by simp only[Ach,Acl];omega) hE.size fun a9 ca da af=> ?_);have hEn_:=hEn;have af:Grew b8 ca va a9:= .eqv T9 af;have c:=eb am c;have j:=eb ak j;have j:=kb al j (by omega);have j:=eb am j;have hE:=Ao hE af hr_va.2 (AbO _);have j:=Ar j af b3;clear ae;have c:=Ar c af ar;clear b9;clear hr_va;have hEn:EntsIn ca a9 (es++ [((⟨p,true,((b.take fin).drop (p+1)).take 32,ts⟩,q):Ai)]):=EntsIn.grew hEn_ af;clear hEn_;refine gS (XR (xv:=NI i) (yv:=NI 1) ao rfl rfl (Ah _ _ _ (by omega)) (gK (Acr ⟨i+1,es++ [(⟨p,true,((b.take fin).drop (p+1)).take 32,ts⟩,q)],tn,a9,u,T1,z,T8,a5,rfl,rfl,rfl,hE,hEn,Bc da (rfl),by rw[hst,hO,Adc];rfl,by omega,(Kx hO hf).1,by rw[AbP,hil];rfl,Nq hnw hnv,trivial⟩ ?_)));show n-(intOf (NI ((i)+(1)))).toNat<n-(intOf (be 17)).toNat;rw[q17];simp only[intOf,Ab0];omega
    rw[if_neg h1]at hO1;have h1n:¬(b.getD p 0).toNat=1:=fun h=>h1 (UInt8.toNat_inj.1 (by rw[h];rfl));refine gS (XQ (a:=(p:Nat)) (b:=(fin:Nat)) g z (AK _ _ _ _) (kT (hlt) (gS (Yd (l:=b) (i:=p) F7 PO (XV (hr.keep hE) u) g (by omega) fun e6 cb=>(gS (X4 u5 rfl (Yb cb rfl) (gS (XQ (a:=((b.getD (p) 0).toNat:Nat)) (b:=(1:Nat)) rfl rfl (Dw _ _ _ _) (kT (hle) (gS (XY rfl rfl (gP (X8 FR rfl rfl ?_)))))))))))));refine Aq (AS _ (true) 6) ?_ ?_;rotate_left
    ·rintro ch e7 ⟨rfl,hb,hx⟩;refine Au ?_;cases hb
    rintro v_ cc ⟨rfl,e8,ba⟩;have hEn:EntsIn cc va es:=(hEn.keep ba);clear cb;have hE:=hE.trans ba;refine gS (Yd (l:=b) (i:=p) F7 PO (XV (hr.keep hE) u) g (by omega) fun e9 cd=>(gS (X4 u5 rfl (Yb cd rfl) (gS (XQ (a:=((b.getD (p) 0).toNat:Nat)) (b:=(1:Nat)) rfl rfl (AI _ _ _ _) (kF (h1n) (gS (YD g (vr (.bool (false)) rfl) (fun w=>Hw (p:Int) false w) (gS (Aa3 Hx fun az db fa ce cf fb=> ?_))))))))));have aa:=AaY cc;have dc:=hE.size;have hr_va:=hr_va.keep ba;have bb:OB va az:=A9 hr_va.2 (by omega);have m:=ce;clear ce;have fc:az<db.heap.size:=by omega
    refine gS (XT (vr (PQ az 0) rfl) (vr (.agg (entC ((⟨p,false,AbX 32 0,[]⟩, .slice none 0 0))).toArray) rfl) m (Br (x:=((⟨p,false,AbX 32 0,[]⟩, .slice none 0 0):Ai)) (y:=dEnt) (by simp) (by simp[dEnt])) (Be (x:=((⟨p,false,AbX 32 0,[]⟩, .slice none 0 0):Ai)) EA (by simp)) (Bx (x:=((⟨p,false,AbX 32 0,[]⟩, .slice none 0 0):Ai)) rfl) fun fd cg ci fe=> ?_);clear m;have m:=cg;clear cg;have ff:=bl m;clear cd;have aa:=aa.trans cf;have aa:=Ab aa ci (AbM (AbO _) (by omega));have hE:=hE.trans aa;refine gS (XR (xv:=NI p) (yv:=NI 1) g rfl rfl (Ah _ _ _ (by omega)) (gS (Aa0 Gb rfl (gS (XP JO rfl rfl (cellAt m (show(entC ((⟨p,false,AbX 32 0,[]⟩, .slice none 0 0)))[1]? =some (.bool (false):AbI)from rfl)) (cF rfl (gP (Zx Kz u rfl z ?_))))))));refine Aq (Nt _ v b (hr.keep hE) (p+1) fin (by omega) hf) ?_ ?_;rotate_left
    ·rintro ch fg ⟨hT,rfl,hx⟩;refine Au ?_;have hO1:entOne b fin p=none:=by rw[hO1,show BW b (p+1) fin=none from hT];rfl
     have o:=DG (show Da b fin first (i+1)=none by rw[hst,hO1];rfl) (n-(i+1));rw[show i+1+(n-(i+1))=n by omega]at o;exact .inr ⟨_,rfl,by unfold Ct;rw[o];rfl,rfl,hE.trans hx⟩
    rintro v_ dd ⟨ts,tn,hT,rfl,a0⟩;have hO:entOne b fin p=some (⟨p,false,AbX 32 0,ts⟩,tn):=by rw[hO1,show BW b (p+1) fin=some (ts,tn)from hT];rfl
    refine gS (AaZ (vs:= [St (ts),NI tn]) rfl rfl (gS (AaZ (vs:= [St (ts),NI tn]) rfl rfl (gS (Zo Pi F7 u5 rfl (by have:=Gx hT hf;omega) fun t de ag a1 a2=> ?_)))));have m:=eb a0 m;have df:OB t az:=fun e=>by have h1:=(a2 _ e).1;have h2:=(bl m);omega
    have hr_va:=hr_va.keep cf;have hr_va:=Abc hr_va ci bb;have hr_va:=hr_va.keep a0;have hva:∀k,AbS va=some k->k<dd.heap.size:=fun k hk=>((hr_va).2.lt k hk).2;have hkv:∀k,AbS t=some k->k<de.heap.size/\OB va k:=fun k hk=>⟨(a2 k hk).2,fun e=>by have h1:=hva k e;have h2:=(a2 k hk).1;omega⟩;have hE:=hE.trans a0;have hnv:NewV w.heap.size t:=fun k hk=>AbM (hE).size (a2 k hk).1;have m:=eb a1 m;refine gS (Aa0 Ix rfl (gS (Zy (s:= []) (s' :=ts) rfl rfl m (by simp) Kn ag fun cj ck a3 fh=> ?_)));clear m;have m:=ck;clear ck;have fi:=bl m;have hkv2:∀k,AbS t=some k->k<cj.heap.size/\OB va k:=fun k hk=>⟨by have:=(hkv k hk).1;omega,(hkv k hk).2⟩;have aa:=aa.trans (a0.trans a1);have aa:=Ab aa a3 (AbM (AbO _) (by omega));have ag:=Abp ag a3 (.inr df);have hEn:EntsIn cj va (es++ [((⟨p,false,AbX 32 0,ts⟩,t):Ai)]):=Ze (hEn.keep aa) ag (by simp) hkv2;have hone_:=Bx (x:=((⟨p,false,AbX 32 0,ts⟩,t):Ai)) (Aa8 ag).2;refine gS (XU rfl m (KA).choose_spec rfl (Be (x:=((⟨p,false,AbX 32 0,ts⟩,t):Ai)) EA (by simp)) (gS (Yu (a:=((⟨p,false,AbX 32 0,ts⟩,t))) (enc:=entC) (vr (.agg (entC ((⟨p,false,AbX 32 0,ts⟩,t))).toArray) rfl) ((entC_len (x:=((⟨p,false,AbX 32 0,ts⟩,t):Ai)) (by simp))) KB fun dh cl cm a4=> ?_)));have hEn:EntsIn cl va (es++ [((⟨p,false,AbX 32 0,ts⟩,t):Ai)]):=(hEn.keep a4);have hE:=hE.trans a1;have hE:=Ab hE a3 (AbM dc (by omega));have hE:=hE.trans a4;have hr_va:=hr_va.keep a1;have hr_va:=Abc hr_va a3 bb;have hr_va:=hr_va.keep a4;refine gS (X7 _ _ w.heap.size _ 72 FS pk12_ig208.choose_spec.1 pk12_ig208.choose_spec.2 FS (es) ([((⟨p,false,AbX 32 0,ts⟩,t))]) (Abf hr_va T9) (XW cm (vr dh rfl)) (fun y hy=>by rw[AbW.1 hy];exact hone_) (by simp only[Ach,Acl];omega) (by simp only[Ach,Acl];omega) hE.size fun bc cn di an=> ?_);have hEn_:=hEn;have an:Grew cl cn va bc:= .eqv T9 an;have m:=eb a4 m;have hE:=Ao hE an hr_va.2 (AbO _);clear ag;have m:=Ar m an bb;clear cm;clear hr_va;have hEn:EntsIn cn bc (es++ [((⟨p,false,AbX 32 0,ts⟩,t):Ai)]):=EntsIn.grew hEn_ an;clear hEn_;refine gS (XR (xv:=NI i) (yv:=NI 1) ao rfl rfl (Ah _ _ _ (by omega)) (gK (Acr ⟨i+1,es++ [(⟨p,false,AbX 32 0,ts⟩,t)],tn,bc,u,T1,z,T8,a5,rfl,rfl,rfl,hE,hEn,Bc di (rfl),by rw[hst,hO,Adc];rfl,by omega,(Kx hO hf).1,by rw[AbP,hil];rfl,Nq hnw hnv,trivial⟩ ?_)));show n-(intOf (NI ((i)+(1)))).toNat<n-(intOf (be 17)).toNat;rw[q17];simp only[intOf,Ab0];omega
   have hO1:entOne b fin p=none:=by unfold entOne;rw[if_neg (fun h=>hle h.2)]
   refine gS (XQ (a:=(p:Nat)) (b:=(fin:Nat)) g z (AK _ _ _ _) (kT (hlt) (gS (Yd (l:=b) (i:=p) F7 PO (XV (hr.keep hE) u) g (by omega) fun fj dj=>(gS (X4 u5 rfl (Yb dj rfl) (gS (XQ (a:=((b.getD (p) 0).toNat:Nat)) (b:=(1:Nat)) rfl rfl (Dw _ _ _ _) (kF (hle) (gS (XY rfl rfl (gP (X8 FR rfl rfl ?_)))))))))))));refine Aq (AS _ (false) 6) ?_ ?_;rotate_left
   ·rintro ch fk ⟨rfl,hb,hx⟩;refine Au ?_;have o:=DG (show Da b fin first (i+1)=none by rw[hst,hO1];rfl) (n-(i+1));rw[show i+1+(n-(i+1))=n by omega]at o;exact .inr ⟨_,rfl,by unfold Ct;rw[o];rfl,rfl,hE.trans hx⟩
   rintro v_ fl ⟨rfl,dk,fm⟩;cases dk
  have hO1:entOne b fin p=none:=by unfold entOne;rw[if_neg (fun h=>hlt h.1)]
  refine gS (XQ (a:=(p:Nat)) (b:=(fin:Nat)) g z (AK _ _ _ _) (kF (hlt) (gS (X2 rfl rfl (gP (X8 FR rfl rfl ?_))))));refine Aq (AS _ (false) 6) ?_ ?_;rotate_left
  ·rintro ch fn ⟨rfl,hb,hx⟩;refine Au ?_;have o:=DG (show Da b fin first (i+1)=none by rw[hst,hO1];rfl) (n-(i+1));rw[show i+1+(n-(i+1))=n by omega]at o;exact .inr ⟨_,rfl,by unfold Ct;rw[o];rfl,rfl,hE.trans hx⟩
  rintro v_ fo ⟨rfl,dl,fp⟩;cases dl
 have hin:i=n:=by omega
 refine gS (XQ (a:=(p:Nat)) (b:=(fin:Nat)) g z (AI _ _ _ _) (gP (X8 FR rfl rfl ?_)));refine Aq (AS _ (decide ((p:Nat)=(fin))) 6) ?_ ?_;rotate_left
 ·rintro ch fq ⟨rfl,hb,hx⟩;refine Au ?_;have hno:=of_decide_eq_false hb;exact .inr ⟨_,rfl,by unfold Ct;rw[<-hin,hs];exact if_neg hno,rfl,hE.trans hx⟩
 rintro v_ dm ⟨rfl,dn,bd⟩;have hEn:EntsIn dm va es:=(hEn.keep bd);have dp:=of_decide_eq_true dn;refine Bp rfl T9 ?_;have hE:=hE.trans bd;have hr_va:=hr_va.keep bd;exact .inl ⟨_,rfl,es,by unfold Ct;rw[<-hin,hs];exact if_pos dp,X1 hr_va,hEn.ok,hnw,hE⟩
abbrev Bz(x:Ai):AbI:= .agg (entC x).toArray
theorem Gc:KL AbL 3 (MapKept.IsKey (.int .i64)):=ZH (by kernel_rfl)
theorem Gd:∀n:Nat,True->MapKept.IsKey (.int .i64) (NI n):=fun n _=>by first | exact⟨_,rfl⟩ | simp[MapKept.IsKey]
theorem G4{a b:Nat}(h:NI a=NI b):a=b:=by injection h with _ h;exact Int.ofNat.inj h
theorem Db:∀u:AbJ,(zeroValue 208).run AbL u = .ok (Bz dEnt) u:=fun _=>by kernel_rfl
structure IxS (α : Type) where
 ids:List Bs
 G:Nat->Option α
 M:Bs->Option α
section
variable {α : Type} (at_ : α -> Nat) (d : α) (t : Bs) (es : List α)
def DQ:Nat->Nat->Option α
 | 0=>fun _=>none
 | i+1=>updM (DQ i) (at_ (es.getD i d)) (some (es.getD i d))
def BQ(i:Nat):Bs:=(t.drop (36*i)).take 32
def EG(i:Nat):Nat:=D5 ((t.drop (36*i)).drop 32)
def DM(i:Nat)(s:IxS α)(c:α):IxS α:=⟨s.ids++ [BQ t i],updM s.G (at_ c) none,updM s.M (BQ t i) (some c)⟩
def Dm(i:Nat)(s:IxS α):Option (IxS α):=
 match s.G (EG t i)with
 | none=>none
 | some c=>if i=0\/Acd (s.ids.getD (i-1) []) (BQ t i)<0 then some (DM at_ t i s c)else none
def DA:Nat->Option (IxS α)
 | 0=>some ⟨[],DQ at_ d es es.length,fun _=>none⟩
 | i+1=>(DA i).bind (Dm at_ t i)
variable {at_ d t es}
theorem EO{i:Nat}(h:DA at_ d t es i=none):∀k,DA at_ d t es (i+k)=none
 | 0=>h
 | k+1=>by
  show(DA at_ d t es (i+k)).bind _=none;rw[EO h k];rfl
theorem Fx{i:Nat}{s:IxS α}(h:DA at_ d t es i=some s):DA at_ d t es (i+1)=Dm at_ t i s:=by
 show(DA at_ d t es i).bind _=_;rw[h];rfl
theorem Jp:∀i,i<=es.length->∀k c,DQ at_ d es i k=some c->c∈es/\at_ c=k
 | 0,_,_,_,h=>by cases h
 | i+1,hi,k,c,h=>by
  unfold DQ updM at h;split at h
  ·rename_i hk
   cases h;refine⟨?_,hk.symm⟩;rw[AbN,AbT (by omega)];exact List.getElem_mem _
  ·exact Jp i (by omega) k c h
structure WG (t : Bs) (es : List α) (i : Nat) (s : IxS α) : Prop where
 len:s.ids.length=i
 ids:∀x∈s.ids,∃j,j<i/\x=BQ t j
 G:∀k c,s.G k=some c->c∈es
 M:∀k c,s.M k=some c->c∈es
 all:∀x∈s.ids,(s.M x).isSome=true
theorem I6:∀i s,DA at_ d t es i=some s->WG t es i s
 | 0,s,h=>by
  cases h;exact⟨rfl,(fun x hx=>by cases hx),(fun k c hk=>(Jp _ (AbO _) k c hk).1),(fun k c hk=>by cases hk),(fun x hx=>by cases hx)⟩
 | i+1,s,h=>by
  cases h1:DA at_ d t es i with
  | none=>rw[EO h1 1]at h;cases h
  | some s0=>
   have ih:=I6 i s0 h1;rw[Fx h1]at h;unfold Dm at h;split at h
   ·cases h
   ·rename_i c hc
    split at h
    ·cases h;have hcm:=ih.G _ c hc;refine⟨?_,fun x hx=> ?_,fun k c' hk=> ?_,fun k c' hk=> ?_,fun x hx=> ?_⟩
     ·show(s0.ids++ [BQ t i]).length=i+1;rw[AbP,ih.len];rfl
     ·rcases Acb.1 hx with hx | hx
      ·obtain⟨j,hj,e⟩:=ih.ids x hx;exact⟨j,by omega,e⟩
      ·exact⟨i,by omega,AbW.1 hx⟩
     ·unfold DM updM at hk
      dsimp only at hk
      split at hk
      ·cases hk
      ·exact ih.G k c' hk
     ·unfold DM updM at hk
      dsimp only at hk
      split at hk
      ·cases hk;exact hcm
      ·exact ih.M k c' hk
     ·unfold DM updM
      dsimp only
      split
      ·rfl
      ·rename_i hne
       rcases Acb.1 hx with hx | hx
       ·exact ih.all x hx
       ·exact absurd (AbW.1 hx) hne
    ·cases h
end
theorem rowId_len{t:Bs}{i n:Nat}(h:t.length=36*n)(hi:i<n):(BQ t i).length=32:=by
 unfold BQ;rw[Ab5,Ab6];omega
theorem OH:∀w' :AbJ,(sizeOf 208).run AbL w' = .ok 35 w' :=fun _=>by kernel_rfl
theorem Ge:A4 AbL 208 0 0:=fun b o w=>by simp[go_sem]
theorem DH:Tryz.prog.underlying 262=some (.map 3 208):=by kernel_rfl
theorem FT:Plain AbL 127:=fun _ _=>by kernel_rfl
theorem LU:∀(cs:Array AbI),cs.size=32->∀w:AbJ,(Acq 42 1 #[(0, .agg cs)]).run AbL w = .ok (.slice (some ⟨w.heap.size,0,none⟩) 1 1) (w.alloc (.cells cs 33))
 | ⟨[c0,c1,c2,c3,c4,c5,c6,c7,c8,c9,c10,c11,c12,c13,c14,c15,c16,c17,c18,c19,c20,c21,c22,c23,c24,c25,c26,c27,c28,c29,c30,c31]⟩,_,w=>To c0 c1 c2 c3 c4 c5 c6 c7 c8 c9 c10 c11 c12 c13 c14 c15 c16 c17 c18 c19 c20 c21 c22 c23 c24 c25 c26 c27 c28 c29 c30 c31 w
theorem KC:Tryz.prog.underlying 202=some (.map 33 208):=by kernel_rfl
theorem Qf(w:AbJ)(v:AbI)(t:Bs)(hr:RB w v t)(ve:AbI)(es:List Ai)(hg:RG 35 entC w ve es)(hok:EntsOk w es)(htl:t.length=36*es.length)(hn:es.length<=1048576):
  Calls AbL 131 #[v,ve] w fun r w' =>(∃x,r = .returned x/\∃s vi b,DA (fun x:Ai=>x.1.pos) dEnt t es es.length=some s/\x = .tuple #[vi, .map (some b)]/\RG 32 AbK w' vi s.ids/\MapF rk Bz (fun id:Ah5 =>id.length=32) w' b s.M/\NewV w.heap.size vi/\Ext w w')\/∃ch,r = .panicked ch/\DA (fun x:Ai=>x.1.pos) dEnt t es es.length=none/\ch= [CO 6]/\Ext w w' :=by
 refine gG (args:= [v,ve]) Tryz.func131 rfl 83 rfl rfl ?_;have hE:=AaY w;refine gS (YJ NI Bz (fun _:Nat=>True) fun u w4 ew b5 dc ex=> ?_);have ey:u<w4.heap.size:=by omega
 have hE:=hE.trans dc;refine gS (X6 FS (XW (hg.keep hE) rfl) (gL (fun(ρ:Ac) (wz:AbJ)=>∃m:Nat,ρ 0=(v:AbI)/\ρ 1=(ve:AbI)/\ρ 4=((AbR none 0 0):AbI)/\ρ 5=((Value.map none):AbI)/\ρ 6=(.map (some u):AbI)/\ρ 19=(ve:AbI)/\ρ 20=(NI es.length:AbI)/\ρ 21=(NI m:AbI)/\Ext w wz/\MapF NI Bz (fun _:Nat=>True) wz u (DQ (fun x:Ai=>x.1.pos) dEnt es m)/\(m<=es.length)/\True) (fun ρ _=>es.length-(intOf (ρ 21)).toNat) ⟨0,rfl,rfl,rfl,rfl,rfl,rfl,rfl,rfl,hE,B5 b5 (rfl),Ack _,trivial⟩ ?_));clear b5;clear hE;rintro dd b6 ⟨m,T0,T1,T4,T5,T6,aq,ar,aj,hE,hb6l,hm,-⟩;have q21:=aj;refine gS (XQ (a:=(m:Nat)) (b:=(es.length:Nat)) aj ar (AK _ _ _ _) ?_);refine cD rfl (fun b7=> ?_) fun b7=> ?_
 ·have hmi:=AO dEnt (l:=es) (i:=m) b7;have hel:=hok _ hmi;have de:(entC (es.getD (m) dEnt)).length=35:=(Aa6 (hg.keep hE) dEnt (by omega));refine gS (X9 FS OH (by decide) dEnt (XW (hg.keep hE) aq) aj (by omega) fun ez b8=>(gS (Yg (Yc b8 rfl) (KA).choose_spec rfl (by rw[de];exact EA) (gS (Aa3 Hx fun b9 df dh ca cb e0=> ?_)))));have a3:=AaY b6;have e1:=hE.size;have e2:=As hb6l.lt dh;have au:=ca;clear ca;have e3:b9<df.heap.size:=by omega
  refine gS (XT (vr (PQ b9 0) rfl) (vr (.agg (entC (es.getD (m) dEnt)).toArray) rfl) au (Br (x:=((es.getD (m) dEnt):Ai)) (y:=(dEnt:Ai)) hel.2 (by simp[dEnt])) (Be (x:=((es.getD (m) dEnt):Ai)) EA hel.2) (Bx (x:=((es.getD (m) dEnt):Ai)) (Aa8 hel.1).2) fun e4 cc cd e5=> ?_);have hb6l:=hb6l.keep cb;have hb6l:=Aa2 hb6l cd (Am (by omega));clear au;have au:=cc;clear cc;have e6:=bl au;clear b8;refine gS (Aa0 Ge rfl (gS (XP Tk rfl rfl (cellAt au ((show(entC ((es.getD (m) dEnt)))[0]? =some (NI (((es.getD (m) dEnt)).1.pos):AbI)from rfl))) (gS (XU rfl au (KA).choose_spec rfl (Be (x:=((es.getD (m) dEnt):Ai)) EA hel.2) ?_)))));have a3:=a3.trans cb;have a3:=Ab a3 cd (AbM (AbO _) (by omega));have hE:=hE.trans a3;refine gS (YG (ek:=NI) (ev:=Bz) (D:=(fun _:Nat=>True)) (c:=((es.getD (m) dEnt))) Gc Gd DH T6 (vr (NI (((es.getD (m) dEnt)).1.pos)) rfl) (vr (.agg (entC ((es.getD (m) dEnt))).toArray) rfl) hb6l trivial fun di ce dj e7=> ?_);clear hb6l;have e8:u<di.heap.size:=ce.lt;have hE:=Ab hE dj (AbM (AbO _) (by omega));refine gS (XR (xv:=NI m) (yv:=NI 1) aj rfl rfl (Ah _ _ _ (by omega)) (gK (Acr ⟨m+1,T0,T1,T4,T5,T6,aq,ar,rfl,hE,B5 ce (rfl),by omega,trivial⟩ ?_)));show es.length-(intOf (NI ((m)+(1)))).toNat<es.length-(intOf (dd 21)).toNat;rw[q21];simp only[intOf,Ab0];omega
 have hie:m=es.length:=by omega
 have hids0:OG w.heap.size 33 32 AbK b6 (AbR none 0 0) ([]:List Bs):=Abg _ _ _ _ _;have dk:AbS (AbR none 0 0)≠some u:=fun h=>by cases h
 refine gS (YJ rk Bz (fun id:Ah5 =>id.length=32) fun ae dl dm cf bh e9=> ?_);have cg:=hE.size;have fa:=As hb6l.lt dm;have dn:AbS (AbR none 0 0)≠some ae:=A9 hids0.2 (by omega);have fb:ae<dl.heap.size:=by omega
 have hE:=hE.trans bh;have hb6l:=hb6l.keep bh;have hids0:=hids0.keep bh;refine gS (X6 FS (XW (hg.keep hE) T1) (gL (fun(ρ:Ac) (wz:AbJ)=>∃i:Nat,∃s:IxS Ai,∃vi:AbI,ρ 0=(v:AbI)/\ρ 1=(ve:AbI)/\ρ 4=((AbR none 0 0):AbI)/\ρ 5=((Value.map none):AbI)/\ρ 6=(.map (some u):AbI)/\ρ 10=(.map (some ae):AbI)/\ρ 19=(ve:AbI)/\ρ 20=(NI es.length:AbI)/\ρ 21=(NI m:AbI)/\ρ 32=(NI es.length:AbI)/\ρ 33=(NI i:AbI)/\ρ 9=(vi:AbI)/\Ext w wz/\OG w.heap.size 33 32 (AbK) wz vi (s.ids)/\MapF NI Bz (fun _:Nat=>True) wz u (s.G)/\MapF rk Bz (fun id:Ah5 =>id.length=32) wz ae (s.M)/\(DA (fun x:Ai=>x.1.pos) dEnt t es i=some s)/\(i<=es.length)/\(OB vi u)/\(OB vi ae)/\True) (fun ρ _=>es.length-(intOf (ρ 33)).toNat) ⟨0,⟨[],DQ (fun x:Ai=>x.1.pos) dEnt es es.length,fun _=>none⟩,(AbR none 0 0),T0,T1,T4,T5,T6,rfl,aq,ar,aj,rfl,rfl,rfl,hE,Bc hids0 (rfl),B5 hb6l (by rw[hie]),B5 cf (rfl),rfl,Ack _,dk,dn,trivial⟩ ?_));clear hb6l;clear hids0;clear cf;clear hE;rintro ci fc ⟨i,s,vi,T0,T1,T4,T5,T6,a4,aq,ar,aj,bi,ac,T9,hE,hr_vi,hb6ll,hb49l,hs,hi,hap_vi_n3,hap_vi_n46,-⟩;have q33:=ac;refine gS (XQ (a:=(i:Nat)) (b:=(es.length:Nat)) ac bi (AK _ _ _ _) ?_);refine cD rfl (fun cj=> ?_) fun cj=> ?_
 ·have hil:i<es.length:=cj;have hI:=I6 i s hs;have hIl:=hI.len;have hst:=Fx hs;have h32:=rowId_len htl hil;refine gS (XR (xv:=NI 36) (yv:=NI i) rfl ac rfl (Ci _ _ _ (by omega)) (gS (Yn (xs:=t) (l:=(36)*(i)) F7 PO T0 (hr.keep hE) rfl (by omega) fun dp o ha69=>(gS (XS Ky rfl rfl ?_)))));refine((show Calls _ _ _ _ (fun e w2=>e = .returned (.tuple #[AB (BQ t i),NI 32,NI 0])/\Ext _ w2)from(JE _ dp (t.drop ((36)*(i))) o 0 (Ack _)).mono fun e w2 ⟨h1,h2⟩=>by subst h1;refine⟨?_,h2⟩;unfold D4 BQ;rw[if_neg (by simp only[Ab6];omega),List.drop_zero];rfl)).mono ?_;rintro e dq ⟨rfl,ak⟩;refine⟨_,rfl,?_⟩;refine gS (AaZ (vs:= [AB (BQ t i),NI 32,NI 0]) rfl rfl (gS (AaZ (vs:= [AB (BQ t i),NI 32,NI 0]) rfl rfl (gS (AaZ (vs:= [AB (BQ t i),NI 32,NI 0]) rfl rfl (gS (Aa3 Tn fun bj dr ck cl p fd=> ?_)))))));have g:=AaY dq;have hE:=hE.trans ak;have bb:=hE.size;have hb6ll:=hb6ll.keep ak;have fe:=As hb6ll.lt ck;have hb49l:=hb49l.keep ak;have ff:=As hb49l.lt ck;have hr_vi:=hr_vi.keep ak;have a5:OB vi bj:=A9 hr_vi.2 (by omega);have f:=cl;clear cl;have fg:bj<dr.heap.size:=by omega
  refine gS (XT (vr (PQ bj 0) rfl) (vr (AB (BQ t i)) rfl) f (by exact BC h32 Ab8) (by exact Ad h32) (Ag _) fun fh cm q fi=> ?_);have hb6ll:=hb6ll.keep p;have hb6ll:=Aa2 hb6ll q (Am (by omega));have hb49l:=hb49l.keep p;have hb49l:=Aa2 hb49l q (Am (by omega));clear f;have f:=cm;clear cm;have fj:=bl f;rcases hG:s.G (EG t i)with _ | c
  ·have hO:Dm (fun x:Ai=>x.1.pos) t i s=none:=by unfold Dm;rw[hG]
   have o:=o.keep ak;have g:=g.trans p;have g:=Ab g q (AbM (AbO _) (by omega));refine gS (Yn (xs:=t.drop ((36)*(i))) (l:=32) F7 PO rfl (o.keep g) rfl (by simp only[Ab6];omega) fun ds dt ha95=>(gS (XX FT rfl (((show Calls _ _ _ _ (fun e w2=>e = .returned (NI (EG t i))/\Ext _ w2)from DP _ ds ((t.drop ((36)*(i)):Ah5).drop (32)) dt (by simp only[Ab6];omega))).mono ?_))));rintro e du ⟨rfl,bc⟩;refine⟨_,rfl,?_⟩;have hE:=hE.trans p;have hE:=Ab hE q (AbM bb (by omega));have hE:=hE.trans bc;have hb6ll:=hb6ll.keep bc;refine gS (YC (ek:=NI) (ev:=Bz) (D:=(fun _:Nat=>True)) Gc Gd (fun _ _=>G4) DH (z:=Bz dEnt) Db T6 rfl hb6ll trivial hG (gS (AaZ (vs:= [.agg (entC (dEnt)).toArray, .bool (false)]) rfl rfl (gS (AaZ (vs:= [.agg (entC (dEnt)).toArray, .bool (false)]) rfl rfl (gS (Aa3 Hx fun cn dv co cp bk fk=> ?_)))))));have am:=AaY du;have g:=g.trans bc;have fl:=hE.size;have fm:=g.size;have fn:=As hb6ll.lt co;have hb49l:=hb49l.keep bc;have fo:=As hb49l.lt co;have bd:=cp;clear cp;have fp:cn<dv.heap.size:=by omega
   refine gS (XT (vr (PQ cn 0) rfl) (vr (.agg (entC (dEnt)).toArray) rfl) bd (Br (x:=((dEnt):Ai)) (y:=(dEnt:Ai)) (by simp[dEnt]) (by simp[dEnt])) (Be (x:=((dEnt):Ai)) EA (by simp[dEnt])) (Bx (x:=((dEnt):Ai)) rfl) fun fq cq bm fr=> ?_);have hb6ll:=hb6ll.keep bk;have hb6ll:=Aa2 hb6ll bm (Am (by omega));have hb49l:=hb49l.keep bk;have hb49l:=Aa2 hb49l bm (Am (by omega));clear bd;have bd:=cq;clear cq;have fs:=bl bd;refine CA [0,1,2,3,4,5,6,7,8,9,10,11,12,13,14,15] [11,15] [] fun ft dw=>(ys (X2 rfl rfl zz) (U6 (X8 FR rfl rfl ?_)));refine Aq (AS _ (false) 6) ?_ ?_;rotate_left
   ·rintro ch fu ⟨rfl,hb,hx⟩;refine Au ?_;rw[hO]at hst;have a6:=EO hst (es.length-(i+1));rw[show i+1+(es.length-(i+1))=es.length by omega]at a6;have am:=am.trans bk;have am:=Ab am bm (AbM (AbO _) (by omega));have am:=am.trans dw;have hE:=hE.trans am;exact .inr ⟨_,rfl,a6,rfl,hE.trans hx⟩
   rintro v_ fv ⟨rfl,dx,fw⟩;cases dx
  have hcm:=hI.G _ c hG;have hcl:=hok _ hcm;by_cases h0:i=0
  ·have hO:Dm (fun x:Ai=>x.1.pos) t i s=some (DM (fun x:Ai=>x.1.pos) t i s c):=by unfold Dm;rw[hG];exact if_pos (.inl h0)
   rw[hO]at hst;have o:=o.keep ak;have g:=g.trans p;have g:=Ab g q (AbM (AbO _) (by omega));refine gS (Yn (xs:=t.drop ((36)*(i))) (l:=32) F7 PO rfl (o.keep g) rfl (by simp only[Ab6];omega) fun dy dz ha131=>(gS (XX FT rfl (((show Calls _ _ _ _ (fun e w2=>e = .returned (NI (EG t i))/\Ext _ w2)from DP _ dy ((t.drop ((36)*(i)):Ah5).drop (32)) dz (by simp only[Ab6];omega))).mono ?_))));rintro e d0 ⟨rfl,av⟩;refine⟨_,rfl,?_⟩;have hE:=hE.trans p;have hE:=Ab hE q (AbM bb (by omega));have hE:=hE.trans av;have hb6ll:=hb6ll.keep av;refine gS (Yw (ek:=NI) (ev:=Bz) (D:=(fun _:Nat=>True)) Gc Gd (fun _ _=>G4) DH (z:=Bz dEnt) Db T6 rfl hb6ll trivial hG (gS (AaZ (vs:= [.agg (entC (c)).toArray, .bool (true)]) rfl rfl (gS (AaZ (vs:= [.agg (entC (c)).toArray, .bool (true)]) rfl rfl (gS (Aa3 Hx fun bn d1 bo cr aw fx=> ?_)))))));have an:=AaY d0;have g:=g.trans av;have fy:=hE.size;have d2:=g.size;have fz:=As hb6ll.lt bo;have hb49l:=hb49l.keep av;have f0:=As hb49l.lt bo;have hr_vi:=hr_vi.keep p;have hr_vi:=Abc hr_vi q a5;have hr_vi:=hr_vi.keep av;have cs:OB vi bn:=A9 hr_vi.2 (by omega);have j:=cr;clear cr;have f1:bn<d1.heap.size:=by omega
   refine gS (XT (vr (PQ bn 0) rfl) (vr (.agg (entC (c)).toArray) rfl) j (Br (x:=((c):Ai)) (y:=(dEnt:Ai)) hcl.2 (by simp[dEnt])) (Be (x:=((c):Ai)) EA hcl.2) (Bx (x:=((c):Ai)) (Aa8 hcl.1).2) fun f2 ct ax f3=> ?_);have hb6ll:=hb6ll.keep aw;have hb6ll:=Aa2 hb6ll ax (Am (by omega));have hb49l:=hb49l.keep aw;have hb49l:=Aa2 hb49l ax (Am (by omega));clear j;have j:=ct;clear ct;have f4:=bl j;refine CA [0,1,2,3,4,5,6,7,8,9,10,11,12,13,14,15] [11,15] [] fun f5 d3=>(ys (XQ (a:=(i:Nat)) (b:=(0:Nat)) ac rfl (AI _ _ _ _) zz) (kT (h0) (ys (XY rfl rfl zz) (ys (XY rfl rfl zz) (U6 (X8 FR rfl rfl ?_))))));refine Aq (AS _ (true) 6) ?_ ?_;rotate_left
   ·rintro ch f6 ⟨rfl,hb,hx⟩;refine Au ?_;cases hb
   rintro v_ f7 ⟨rfl,f8,d4⟩;have hZ1:=d3.trans d4;have hb6ll:=hb6ll.keep hZ1;have j:=eb hZ1 j;refine gS (Aa0 Ge rfl (gS (XP Tk rfl rfl (cellAt j ((show(entC ((c)))[0]? =some (NI (((c)).1.pos):AbI)from rfl))) ?_)));have an:=an.trans aw;have an:=Ab an ax (AbM (AbO _) (by omega));have an:=an.trans hZ1;have hE:=hE.trans an;have g:=g.trans aw;have g:=Ab g ax (AbM d2 (by omega));have g:=g.trans hZ1;refine gS (Zu (ek:=NI) (ev:=Bz) (D:=(fun _:Nat=>True)) Gc Gd (fun _ _=>G4) DH T6 rfl hb6ll trivial fun d5 af a7 f9=> ?_);have hb49l:=hb49l.keep hZ1;have hb49l:=Aa2 hb49l a7 (Am (by omega));clear hb6ll;have ga:u<d5.heap.size:=af.lt;refine DZ [0,1,2,3,6,4,5,7,8] [4,5,7,8] [] [1,6] fun gb bp=> ?_;have f:=eb av f;have gc:=As (bl f) bo;have f:=eb aw f;have f:=kb ax f (by omega);have f:=eb hZ1 f;have f:=kb a7 f (by omega);have f:=eb bp f;have j:=kb a7 j (by omega);have j:=eb bp j;refine XA f j ?_;refine yf (fun _ ⟨f,_,_⟩=>XU rfl f U7 rfl (by exact Ad h32) zz) (ys (XU rfl f U7 rfl (by exact Ad h32) zz) (yf (fun _ ⟨_,j,_⟩=>XU rfl j (KA).choose_spec rfl (Be (x:=((c):Ai)) EA hcl.2) zz) (yI (Yu (a:=(BQ t i)) (enc:=AbK) (vr (AB (BQ t i)) rfl) (by rw[AbZ];exact h32) LU fun d6 d7 cu bq=> ?_))));have hr_vi:=hr_vi.keep aw;have hr_vi:=Abc hr_vi ax cs;have hr_vi:=hr_vi.keep hZ1;have hr_vi:=Abc hr_vi a7 hap_vi_n3;have hZ2:=bp.trans bq;have hr_vi:=hr_vi.keep hZ2;have hE:=Ab hE a7 (AbM (AbO _) (by omega));have hE:=hE.trans hZ2;have f:=eb bq f;have j:=eb bq j;refine⟨⟨f,j,trivial⟩,?_⟩;refine yI (X7 _ _ w.heap.size _ 32 Nd pk6_ig33.choose_spec.1 pk6_ig33.choose_spec.2 Nd (s.ids) ([(BQ t i)]) (Abf hr_vi T9) (XW cu (vr d6 rfl)) (fun _ _=>Ag _) (by simp only[Ach,Acl];omega) (by simp only[Ach,Acl];omega) hE.size fun be d8 br ag=> ?_);have ag:Grew d7 d8 vi be:= .eqv T9 ag;have af:=af.keep hZ2;have d9:OB be u:=Ap ag hap_vi_n3 af.lt;have hb49l:=hb49l.keep hZ2;have cv:OB be ae:=Ap ag hap_vi_n46 hb49l.lt;have hE:=Ao hE ag hr_vi.2 (AbO _);have hb49l:=Aba hb49l ag hap_vi_n46;have f:=Ar f ag a5;have j:=Ar j ag cs;have af:=Aba af ag hap_vi_n3;clear cu;clear hr_vi;refine⟨⟨f,j,trivial⟩,?_⟩;refine yI (Abb rfl ?_);refine⟨⟨f,j,trivial⟩,?_⟩;refine yD rfl (YG (ek:=rk) (ev:=Bz) (D:=(fun id:Ah5 =>id.length=32)) (c:=((c))) Ce Cf KC a4 (vr (AB (BQ t i)) rfl) (vr (.agg (entC ((c))).toArray) rfl) hb49l h32 fun ea cw bs gd=> ?_);have af:=Aa2 af bs (Am (by omega));clear hb49l;have ge:ae<ea.heap.size:=cw.lt;have hE:=Ab hE bs (AbM cg (by omega));have br:=Abc br bs cv;refine gS (XR (xv:=NI i) (yv:=NI 1) ac rfl rfl (Ah _ _ _ (by omega)) (gK (Acr ⟨i+1,DM (fun x:Ai=>x.1.pos) t i s c,be,T0,T1,T4,T5,T6,a4,aq,ar,aj,bi,rfl,rfl,hE,Bc br (rfl),B5 af (rfl),B5 cw (rfl),hst,by omega,d9,cv,trivial⟩ ?_)));show es.length-(intOf (NI ((i)+(1)))).toNat<es.length-(intOf (ci 33)).toNat;rw[q33];simp only[intOf,Ab0];omega
  by_cases hlt:Acd (s.ids.getD (i-1) []) (BQ t i)<0
  ·have hO:Dm (fun x:Ai=>x.1.pos) t i s=some (DM (fun x:Ai=>x.1.pos) t i s c):=by unfold Dm;rw[hG];exact if_pos (.inr hlt)
   rw[hO]at hst;have o:=o.keep ak;have g:=g.trans p;have g:=Ab g q (AbM (AbO _) (by omega));refine gS (Yn (xs:=t.drop ((36)*(i))) (l:=32) F7 PO rfl (o.keep g) rfl (by simp only[Ab6];omega) fun ec ed ha192=>(gS (XX FT rfl (((show Calls _ _ _ _ (fun e w2=>e = .returned (NI (EG t i))/\Ext _ w2)from DP _ ec ((t.drop ((36)*(i)):Ah5).drop (32)) ed (by simp only[Ab6];omega))).mono ?_))));rintro e ee ⟨rfl,ay⟩;refine⟨_,rfl,?_⟩;have hE:=hE.trans p;have hE:=Ab hE q (AbM bb (by omega));have hE:=hE.trans ay;have hb6ll:=hb6ll.keep ay;refine gS (Yw (ek:=NI) (ev:=Bz) (D:=(fun _:Nat=>True)) Gc Gd (fun _ _=>G4) DH (z:=Bz dEnt) Db T6 rfl hb6ll trivial hG (gS (AaZ (vs:= [.agg (entC (c)).toArray, .bool (true)]) rfl rfl (gS (AaZ (vs:= [.agg (entC (c)).toArray, .bool (true)]) rfl rfl (gS (Aa3 Hx fun bt ef cx cy a8 gf=> ?_)))))));have ad:=AaY ee;have g:=g.trans ay;have gg:=hE.size;have eg:=g.size;have gh:=As hb6ll.lt cx;have hb49l:=hb49l.keep ay;have gi:=As hb49l.lt cx;have hr_vi:=hr_vi.keep p;have hr_vi:=Abc hr_vi q a5;have hr_vi:=hr_vi.keep ay;have cz:OB vi bt:=A9 hr_vi.2 (by omega);have n:=cy;clear cy;have gj:bt<ef.heap.size:=by omega
   refine gS (XT (vr (PQ bt 0) rfl) (vr (.agg (entC (c)).toArray) rfl) n (Br (x:=((c):Ai)) (y:=(dEnt:Ai)) hcl.2 (by simp[dEnt])) (Be (x:=((c):Ai)) EA hcl.2) (Bx (x:=((c):Ai)) (Aa8 hcl.1).2) fun gk c0 a9 gl=> ?_);have hb6ll:=hb6ll.keep a8;have hb6ll:=Aa2 hb6ll a9 (Am (by omega));have hb49l:=hb49l.keep a8;have hb49l:=Aa2 hb49l a9 (Am (by omega));clear n;have n:=c0;clear c0;have gm:=bl n;refine CA [0,1,2,3,4,5,6,7,8,9,10,11,12,13,14,15] [11,15] [] fun gn bu=>(ys (XQ (a:=(i:Nat)) (b:=(0:Nat)) ac rfl (AI _ _ _ _) zz) (kF (h0) (ys (XR (xv:=NI i) (yv:=NI 1) ac rfl rfl (BB _ _ _ (by omega) (by omega)) zz) ?_)));have hr_vi:=hr_vi.keep a8;have hr_vi:=Abc hr_vi a9 cz;have hr_vi:=hr_vi.keep bu;have c1:(AbK ((s.ids).getD ((i)-(1)) ([]:Ah5))).length=32:=(Aa6 (X1 hr_vi) ([]:Ah5) (by omega));have ad:=ad.trans a8;have ad:=Ab ad a9 (AbM (AbO _) (by omega));have ad:=ad.trans bu;have f:=eb (ay.trans ad) f;refine yA (X9 Nd RA (by decide) ([]:Ah5) (XW (X1 hr_vi) T9) rfl (by omega) fun go az=>(ys (Yg (Yc az rfl) U7 rfl (by rw[c1];exact Rl) zz) (ys (XU rfl f U7 rfl (by exact Ad h32) zz) (yC (XS RD rfl rfl ((GN _ ((s.ids).getD ((i)-(1)) ([]:Ah5)) (BQ t i) ((AC (c1))) (h32)).mono ?_))))));rintro e gp ⟨rfl,bv⟩;refine⟨_,rfl,?_⟩;have az:=Abm az bv;refine ys (XQ rfl rfl (Fk _ .i64 (Acd ((s.ids).getD ((i)-(1)) ([]:Ah5)) (BQ t i):Int) ((0:Nat):Int)) zz) (kT (hlt) (ys (X2 rfl rfl zz) (ys (XY rfl rfl zz) (U6 (X8 FR rfl rfl ?_)))));refine Aq (AS _ (true) 6) ?_ ?_;rotate_left
   ·rintro ch gq ⟨rfl,hb,hx⟩;refine Au ?_;cases hb
   rintro v_ gr ⟨rfl,gs,bw⟩;have az:=Abm az bw;clear az;have hZ3:=(bu.trans bv).trans bw;have hb6ll:=hb6ll.keep hZ3;have n:=eb hZ3 n;refine gS (Aa0 Ge rfl (gS (XP Tk rfl rfl (cellAt n ((show(entC ((c)))[0]? =some (NI (((c)).1.pos):AbI)from rfl))) ?_)));have hZ4:=bv.trans bw;have ad:=ad.trans hZ4;have hE:=hE.trans ad;have g:=g.trans a8;have g:=Ab g a9 (AbM eg (by omega));have g:=g.trans hZ3;refine gS (Zu (ek:=NI) (ev:=Bz) (D:=(fun _:Nat=>True)) Gc Gd (fun _ _=>G4) DH T6 rfl hb6ll trivial fun eh ah ba gt=> ?_);have hb49l:=hb49l.keep hZ3;have hb49l:=Aa2 hb49l ba (Am (by omega));clear hb6ll;have gu:u<eh.heap.size:=ah.lt;refine DZ [0,1,2,3,6,4,5,7,8] [4,5,7,8] [] [1,6] fun gv bx=> ?_;have f:=eb hZ4 f;have f:=kb ba f (by omega);have f:=eb bx f;have n:=kb ba n (by omega);have n:=eb bx n;refine XA f n ?_;refine yf (fun _ ⟨f,_,_⟩=>XU rfl f U7 rfl (by exact Ad h32) zz) (ys (XU rfl f U7 rfl (by exact Ad h32) zz) (yf (fun _ ⟨_,n,_⟩=>XU rfl n (KA).choose_spec rfl (Be (x:=((c):Ai)) EA hcl.2) zz) (yI (Yu (a:=(BQ t i)) (enc:=AbK) (vr (AB (BQ t i)) rfl) (by rw[AbZ];exact h32) LU fun ei ej c2 bz=> ?_))));have hr_vi:=hr_vi.keep hZ4;have hr_vi:=Abc hr_vi ba hap_vi_n3;have hZ5:=bx.trans bz;have hr_vi:=hr_vi.keep hZ5;have hE:=Ab hE ba (AbM (AbO _) (by omega));have hE:=hE.trans hZ5;have f:=eb bz f;have n:=eb bz n;refine⟨⟨f,n,trivial⟩,?_⟩;refine yI (X7 _ _ w.heap.size _ 32 Nd pk6_ig33.choose_spec.1 pk6_ig33.choose_spec.2 Nd (s.ids) ([(BQ t i)]) (Abf hr_vi T9) (XW c2 (vr ei rfl)) (fun _ _=>Ag _) (by simp only[Ach,Acl];omega) (by simp only[Ach,Acl];omega) hE.size fun bf el b0 ai=> ?_);have ai:Grew ej el vi bf:= .eqv T9 ai;have ah:=ah.keep hZ5;have em:OB bf u:=Ap ai hap_vi_n3 ah.lt;have hb49l:=hb49l.keep hZ5;have c3:OB bf ae:=Ap ai hap_vi_n46 hb49l.lt;have hE:=Ao hE ai hr_vi.2 (AbO _);have hb49l:=Aba hb49l ai hap_vi_n46;have f:=Ar f ai a5;have n:=Ar n ai cz;have ah:=Aba ah ai hap_vi_n3;clear c2;clear hr_vi;refine⟨⟨f,n,trivial⟩,?_⟩;refine yI (Abb rfl ?_);refine⟨⟨f,n,trivial⟩,?_⟩;refine yD rfl (YG (ek:=rk) (ev:=Bz) (D:=(fun id:Ah5 =>id.length=32)) (c:=((c))) Ce Cf KC a4 (vr (AB (BQ t i)) rfl) (vr (.agg (entC ((c))).toArray) rfl) hb49l h32 fun en c4 b1 gw=> ?_);have ah:=Aa2 ah b1 (Am (by omega));clear hb49l;have gx:ae<en.heap.size:=c4.lt;have hE:=Ab hE b1 (AbM cg (by omega));have b0:=Abc b0 b1 c3;refine gS (XR (xv:=NI i) (yv:=NI 1) ac rfl rfl (Ah _ _ _ (by omega)) (gK (Acr ⟨i+1,DM (fun x:Ai=>x.1.pos) t i s c,bf,T0,T1,T4,T5,T6,a4,aq,ar,aj,bi,rfl,rfl,hE,Bc b0 (rfl),B5 ah (rfl),B5 c4 (rfl),hst,by omega,em,c3,trivial⟩ ?_)));show es.length-(intOf (NI ((i)+(1)))).toNat<es.length-(intOf (ci 33)).toNat;rw[q33];simp only[intOf,Ab0];omega
  have hO:Dm (fun x:Ai=>x.1.pos) t i s=none:=by unfold Dm;rw[hG];exact if_neg (fun h=>h.elim h0 hlt)
  have o:=o.keep ak;have g:=g.trans p;have g:=Ab g q (AbM (AbO _) (by omega));refine gS (Yn (xs:=t.drop ((36)*(i))) (l:=32) F7 PO rfl (o.keep g) rfl (by simp only[Ab6];omega) fun eo ep ha258=>(gS (XX FT rfl (((show Calls _ _ _ _ (fun e w2=>e = .returned (NI (EG t i))/\Ext _ w2)from DP _ eo ((t.drop ((36)*(i)):Ah5).drop (32)) ep (by simp only[Ab6];omega))).mono ?_))));rintro e eq ⟨rfl,a0⟩;refine⟨_,rfl,?_⟩;have hE:=hE.trans p;have hE:=Ab hE q (AbM bb (by omega));have hE:=hE.trans a0;have hb6ll:=hb6ll.keep a0;refine gS (Yw (ek:=NI) (ev:=Bz) (D:=(fun _:Nat=>True)) Gc Gd (fun _ _=>G4) DH (z:=Bz dEnt) Db T6 rfl hb6ll trivial hG (gS (AaZ (vs:= [.agg (entC (c)).toArray, .bool (true)]) rfl rfl (gS (AaZ (vs:= [.agg (entC (c)).toArray, .bool (true)]) rfl rfl (gS (Aa3 Hx fun c5 er c6 c7 b2 gy=> ?_)))))));have ab:=AaY eq;have g:=g.trans a0;have gz:=hE.size;have g0:=g.size;have g1:=As hb6ll.lt c6;have hb49l:=hb49l.keep a0;have g2:=As hb49l.lt c6;have bg:=c7;clear c7;have g3:c5<er.heap.size:=by omega
  refine gS (XT (vr (PQ c5 0) rfl) (vr (.agg (entC (c)).toArray) rfl) bg (Br (x:=((c):Ai)) (y:=(dEnt:Ai)) hcl.2 (by simp[dEnt])) (Be (x:=((c):Ai)) EA hcl.2) (Bx (x:=((c):Ai)) (Aa8 hcl.1).2) fun g4 c8 b3 g5=> ?_);have hb6ll:=hb6ll.keep b2;have hb6ll:=Aa2 hb6ll b3 (Am (by omega));have hb49l:=hb49l.keep b2;have hb49l:=Aa2 hb49l b3 (Am (by omega));clear bg;have bg:=c8;clear c8;have g6:=bl bg;refine CA [0,1,2,3,4,5,6,7,8,9,10,11,12,13,14,15] [11,15] [] fun g7 et=>(ys (XQ (a:=(i:Nat)) (b:=(0:Nat)) ac rfl (AI _ _ _ _) zz) (kF (h0) (ys (XR (xv:=NI i) (yv:=NI 1) ac rfl rfl (BB _ _ _ (by omega) (by omega)) zz) ?_)));have hr_vi:=hr_vi.keep p;have hr_vi:=Abc hr_vi q a5;have ab:=ab.trans b2;have ab:=Ab ab b3 (AbM (AbO _) (by omega));have ab:=ab.trans et;have hr_vi:=hr_vi.keep (a0.trans ab);have c9:(AbK ((s.ids).getD ((i)-(1)) ([]:Ah5))).length=32:=(Aa6 (X1 hr_vi) ([]:Ah5) (by omega));have f:=eb (a0.trans ab) f;refine yA (X9 Nd RA (by decide) ([]:Ah5) (XW (X1 hr_vi) T9) rfl (by omega) fun g8 b4=>(ys (Yg (Yc b4 rfl) U7 rfl (by rw[c9];exact Rl) zz) (ys (XU rfl f U7 rfl (by exact Ad h32) zz) (yC (XS RD rfl rfl ((GN _ ((s.ids).getD ((i)-(1)) ([]:Ah5)) (BQ t i) ((AC (c9))) (h32)).mono ?_))))));rintro e g9 ⟨rfl,da⟩;refine⟨_,rfl,?_⟩;have b4:=Abm b4 da;refine ys (XQ rfl rfl (Fk _ .i64 (Acd ((s.ids).getD ((i)-(1)) ([]:Ah5)) (BQ t i):Int) ((0:Nat):Int)) zz) (kF (hlt) (ys (X2 rfl rfl zz) (ys (XY rfl rfl zz) (U6 (X8 FR rfl rfl ?_)))));refine Aq (AS _ (false) 6) ?_ ?_;rotate_left
  ·rintro ch ha ⟨rfl,hb,hx⟩;refine Au ?_;rw[hO]at hst;have a6:=EO hst (es.length-(i+1));rw[show i+1+(es.length-(i+1))=es.length by omega]at a6;have ab:=ab.trans da;have hE:=hE.trans ab;exact .inr ⟨_,rfl,a6,rfl,hE.trans hx⟩
  rintro v_ hc ⟨rfl,eu,hd⟩;cases eu
 have hie1:i=es.length:=by omega
 refine BA rfl T9 a4 ?_;exact .inl ⟨_,rfl,s,_,_,by rw[<-hie1];exact hs,rfl,X1 hr_vi,hb49l,(fun k hk=>(hr_vi.2.lt k hk).1),hE⟩
theorem Y8{P:Acg}{K:AbI->AbJ->Prop}{ρ:Ac}{w:AbJ}{d:Option Tmp}{ty:AbQ}{pos:String}{af:Array Edge}{gd:Option (Nat × Bool)}{α β:Type}{ek:α->AbI}{ev:β->AbI}{D:α->Prop}{b:Nat}{G:α->Option β}{t Kt E:AbQ}{OK:AbI->Prop} 
  (L:KL P Kt OK) (hD:∀a,D a->OK (ek a)) (hi:∀a c,ek a=ek c->a=c) (ht:P.underlying t=some (.map Kt E)) {df:β} (hz:∀u:AbJ,(zeroValue E).run P u = .ok (ev df) u) {x y:AbV} {a:α}
  (hm:Aa ρ x = .map (some b)) (hy:Aa ρ y=ek a) (h:MapF ek ev D w b G) (ha:D a) (hk:K (ev ((G a).getD df)) w):Yk P K ((execOp (Aa ρ) ⟨d, .lookup t x y false,ty,pos,af,gd⟩).run P w):=
 Zk L hD hi ht hz hm hy h ha (by cases e:G a <;> rw[e]at hk <;> exact hk)
def Nv(w:AbJ)(x:Ai):Prop:=RB w x.2 x.1.bytes/\x.1.base.length=32/\x.1.bytes.length<=1048576
def MOk(w:AbJ)(M:Bs->Option Ai):Prop:=∀k c,M k=some c->Nv w c
theorem MOk.keep{w w' :AbJ}{M:Bs->Option Ai}(h:MOk w M)(k:Ext w w'):MOk w' M:=fun a c hc=>⟨(h a c hc).1.keep k,(h a c hc).2⟩
theorem MOk.get{w:AbJ}{M:Bs->Option Ai}(h:MOk w M)(k:Bs):Nv w ((M k).getD dEnt):=by
 cases e:M k with
 | none=>exact⟨Abi w,by simp[dEnt],by simp[dEnt]⟩
 | some c=>exact h k c e
def AD(M:Bs->Option Ai)(k:Bs):Ent:=((M k).getD dEnt).1
section
variable (E : Bs -> Ent)
def A8:Nat->Ent->Option Nat
 | 0,e=>if e.based then none else some 0
 | n+1,e=>if e.based then(A8 n (E e.base)).map (· + 1)else some 0
def BM:Nat->Bs->Option (Bs × Nat)
 | 0,_=>none
 | n+1,id=>
  if(E id).based then(BM n (E id).base).bind fun x=>if(A7 x.1 (E id).bytes).2=0 then(if(A7 x.1 (E id).bytes).1.length<=262144 then some ((A7 x.1 (E id).bytes).1,x.2+1)else none)else none
  else if(E id).bytes.length<=262144 then some ((E id).bytes,0)else none
variable {E}
theorem Ea{n:Nat}{e:Ent}(h:e.based=false):A8 E n e=some 0:=by
 cases n <;> (unfold A8;rw[h];rfl)
theorem EY{e:Ent}(h:e.based=true):A8 E 0 e=none:=by unfold A8;rw[h];rfl
theorem DB{n:Nat}{e:Ent}(h:e.based=true):A8 E (n+1) e=(A8 E n (E e.base)).map (· + 1):=by
 show(if e.based=true then _ else _)=_;rw[if_pos h]
theorem Qg{n c:Nat}{e:Ent}(h:e.based=true):(A8 E (n+1) e).map (· + c)=(A8 E n (E e.base)).map (· + (c+1)):=by
 rw[DB h];cases A8 E n (E e.base)with
 | none=>rfl
 | some d=>show some (d+1+c)=some (d+(c+1));rw[Nat.add_assoc,Nat.add_comm 1 c]
theorem Gf:∀(n m:Nat) (e:Ent) (d:Nat),A8 E n e=some d->d<=m->A8 E m e=some d
 | n,m,e,d,h,hm=>by
  cases hb:e.based with
  | false=>rw[Ea hb]at h ⊢;exact h
  | true=>
   cases n with
   | zero=>rw[EY hb]at h;cases h
   | succ n=>
    rw[DB hb]at h;cases h1:A8 E n (E e.base)with
    | none=>rw[h1]at h;cases h
    | some d1=>
     rw[h1]at h;cases h;cases m with
     | zero=>simp at hm
     | succ m=>rw[DB hb,Gf n m _ d1 h1 (by simpa using hm)];rfl
end
theorem Iy:A4 AbL 212 0 0:=fun b o w=>by simp[go_sem]
theorem Qh(w:AbJ)(gm be bm:Nat)(M:Bs->Option Ai)(hmk:w.heap[gm]? =some (.cells ([.map (some be), .map (some bm)]).toArray 212 (0,0)))(hme:MapF rk Bz (fun id:Ah5 =>id.length=32) w be M)(hMO:MOk w M)(id:Bs)(hid:id.length=32):
  Calls AbL 133 #[PQ gm 0,AB id] w fun r w' =>(∃x,r = .returned x/\∃d,A8 (AD M) 50 (AD M id)=some d/\x=NI d/\Ext w w')\/∃ch,r = .panicked ch/\A8 (AD M) 50 (AD M id)=none/\ch= [CO 17]/\Ext w w' :=by
 refine gG (args:= [PQ gm 0,AB id]) Tryz.func133 rfl 29 rfl rfl ?_;have hE:=AaY w;refine gS (Abh (vr (AB id) rfl) fun s w3 ab ac an a3=> ?_);have a4:=As hme.lt ab;have e:=ac;clear ac;have a5:s<w3.heap.size:=by omega
 refine DZ [0,1,2,3,4,5,6,7] [6,7] [1,2] [3,4,5] fun ao ad=> ?_;have hZ1:=an.trans ad;have hE:=hE.trans hZ1;have ap:=hE.size;have k:=AaY ao;have a6:=As (bl hmk) ab;have hmk:=eb hZ1 hmk;have hme:=hme.keep hZ1;have e:=eb ad e;refine DS k ?_;refine yp (Aa1 rfl zz) (yp (Aa0 Iy rfl zz) (yf (fun _ ⟨hZ,_⟩=>XP KC rfl rfl (cellAt (eb hZ hmk) rfl) zz) (yf (fun _ ⟨hZ,_⟩=>XU rfl (eb hZ e) U7 rfl (by exact Ad hid) zz) (yf (fun _ ⟨hZ,_⟩=>Y8 (ek:=rk) (ev:=Bz) (D:=(fun id:Ah5 =>id.length=32)) (df:=dEnt) Ce Cf (fun _ _=>B9) KC Db rfl rfl (hme.keep hZ) hid zz) (yE (Aa3 Hx fun t aq u ae i a7=> ?_))))));have a8:=As hme.lt u;have h:=ae;clear ae;have a9:t<aq.heap.size:=by omega
 have k:=k.trans i;refine⟨k,?_⟩;refine yD rfl (XT (vr (PQ t 0) rfl) (vr (.agg (entC ((M (id)).getD dEnt)).toArray) rfl) h (Br (x:=(((M (id)).getD dEnt):Ai)) (y:=(dEnt:Ai)) (hMO.get (id)).2.1 (by simp[dEnt])) (Be (x:=(((M (id)).getD dEnt):Ai)) EA (hMO.get (id)).2.1) (Bx (x:=(((M (id)).getD dEnt):Ai)) (Aa8 (hMO.get (id)).1).2) fun ba af l bb=> ?_);have hme:=hme.keep i;have hme:=Aa2 hme l (Am (by omega));clear h;have h:=af;clear af;have bc:=bl h;have bd:=As (bl hmk) u;have hmk:=eb i hmk;have hmk:=kb l hmk (by omega);have bf:=As (bl e) u;have e:=eb i e;have e:=kb l e (by omega);have hE:=hE.trans i;have hE:=Ab hE l (AbM ap (by omega));refine gL (fun(ρ:Ac) (wz:AbJ)=>∃c:Nat,∃x:Ai,∃q:Nat,ρ 0=(PQ gm 0:AbI)/\ρ 1=(AB id:AbI)/\ρ 3=(PQ s 0:AbI)/\ρ 4=(NI 0:AbI)/\ρ 5=(NI c:AbI)/\ρ 6=(PQ q 0:AbI)/\wz.heap[gm]? =some (.cells ([.map (some be), .map (some bm)]).toArray 212 (0,0))/\MapF rk Bz (fun id:Ah5 =>id.length=32) wz be M/\Ext w wz/\wz.heap[s]? =some (.cells (AbK id).toArray 33 (0,0))/\wz.heap[q]? =some (.cells (entC (x)).toArray 208 (0,0))/\(c<=50)/\(A8 (AD M) 50 (AD M id)=(A8 (AD M) (50-c) x.1).map (· + c))/\(Nv w x)/\(w.heap.size<=q)/\True) (fun ρ _=>51-(intOf (ρ 5)).toNat) ⟨0,(M id).getD dEnt,t,rfl,rfl,rfl,rfl,rfl,rfl,hmk,hme,hE,e,h,Ack _,by simp[AD],hMO.get id,by omega,trivial⟩ ?_;clear h;clear hmk hme hE e;rintro ar bg ⟨c,x,q,T0,T1,T3,T4,v,T6,hmk,hme,hE,e,hbq,hc,hd,hxo,hqw,-⟩;have q5:=v;refine gS (Aa0 Gb T6 (gS (XP JO rfl rfl (cellAt hbq ((show(entC (x))[1]? =some (.bool ((x).1.based):AbI)from rfl))) ?_)));refine cB ((x).1.based) rfl (fun m=> ?_) fun m=> ?_
 ·have ax:x.1.based=true:=m;refine gS (XR (xv:=NI c) (yv:=NI 1) v rfl rfl (Ah _ _ _ (by omega)) (gS (XQ (a:=((c)+(1):Nat)) (b:=(50:Nat)) rfl rfl (Dw _ _ _ _) (gP (X8 FR rfl rfl ?_)))));refine Aq (AS _ (decide (((c)+(1))<=(50))) 17) ?_ ?_;rotate_left
  ·rintro ch bh ⟨rfl,hb,hx⟩;refine Au ?_;have hno:=of_decide_eq_false hb;refine .inr ⟨_,rfl,?_,rfl,hE.trans hx⟩;rw[hd,show 50-c=0 by omega,EY m];rfl
  rintro v_ ay ⟨rfl,az,j⟩;have bi:=of_decide_eq_true az;have hbq:=eb j hbq;refine gS (XU T6 hbq (KA).choose_spec rfl (Be (x:=(x:Ai)) EA hxo.2.1) (gS (Aa3 Hx fun n a0 a1 ai z bj=> ?_)));have g:=AaY ay;have hE:=hE.trans j;have aj:=hE.size;have hme:=hme.keep j;have bk:=As hme.lt a1;have f:=ai;clear ai;have bn:n<a0.heap.size:=by omega
  refine gS (XT (vr (PQ n 0) rfl) (vr (.agg (entC (x)).toArray) rfl) f (Br (x:=((x):Ai)) (y:=(dEnt:Ai)) hxo.2.1 (by simp[dEnt])) (Be (x:=((x):Ai)) EA hxo.2.1) (Bx (x:=((x):Ai)) (Aa8 hxo.1).2) fun bo ak aa bp=> ?_);have hme:=hme.keep z;have hme:=Aa2 hme aa (Am (by omega));clear f;have f:=ak;clear ak;have bq:=bl f;refine CA [0,1,2,3,4,5,6,7] [7] [] fun br o=> ?_;have g:=g.trans z;have g:=Ab g aa (AbM (AbO _) (by omega));have g:=g.trans o;have hmk:=eb (j.trans g) hmk;have hme:=hme.keep o;have f:=eb o f;refine ys (Aa1 T0 zz) (ys (Aa0 Iy rfl zz) (ys (XP KC rfl rfl (cellAt hmk rfl) zz) (ys (Aa0 Nu rfl zz) (ys (Ym rfl (Ep (x:=((x):Ai)) f) U7 rfl (by rw[AbZ,hxo.2.1];exact Rl) zz) (ys (Y8 (ek:=rk) (ev:=Bz) (D:=(fun id:Ah5 =>id.length=32)) (df:=dEnt) Ce Cf (fun _ _=>B9) KC Db rfl rfl hme hxo.2.1 zz) (yC (XT (vr (PQ n 0) rfl) (vr (.agg (entC ((M (((x)).1.base)).getD dEnt)).toArray) rfl) f (Br (x:=(((M (((x)).1.base)).getD dEnt):Ai)) (y:=((x):Ai)) (hMO.get (((x)).1.base)).2.1 hxo.2.1) (Be (x:=(((M (((x)).1.base)).getD dEnt):Ai)) EA (hMO.get (((x)).1.base)).2.1) (Bx (x:=(((M (((x)).1.base)).getD dEnt):Ai)) (Aa8 (hMO.get (((x)).1.base)).1).2) fun bs al p bt=> ?_)))))));have hme:=Aa2 hme p (Am (by omega));clear f;have f:=al;clear al;have bu:=bl f;have g:=Ab g p (AbM (AbO _) (by omega));have e:=eb (j.trans g) e;have hE:=hE.trans z;have hE:=Ab hE aa (AbM aj (by omega));have hE:=hE.trans o;have hE:=Ab hE p (AbM aj (by omega));have hmk:=kb p hmk (by omega);refine gK (Acr ⟨c+1,(M x.1.base).getD dEnt,n,T0,T1,T3,T4,rfl,rfl,hmk,hme,hE,e,f,by omega,hd.trans (by rw[show 50-c=(50-(c+1))+1 by omega];exact Qg ax),hMO.get _,by omega,trivial⟩ ?_);show 51-(intOf (NI ((c)+(1)))).toNat<51-(intOf (ar 5)).toNat;rw[q5];simp only[intOf,Ab0];omega
 have a2:x.1.based=false:=by simpa using m
 refine Bp rfl v ?_;exact .inl ⟨_,rfl,c,by rw[hd,Ea a2];exact congrArg some (Nat.zero_add c),rfl,hE⟩
abbrev Cp:=(Bs × Nat)× AbI
abbrev Ch(x:Cp):AbI:= .agg ([x.2,NI x.1.2]).toArray
def Lg:Cp:=(([],0), .slice none 0 0)
theorem G5:∀u:AbJ,(zeroValue 215).run AbL u = .ok (Ch Lg) u:=fun _=>by kernel_rfl
theorem Cn{v:AbI}{n:Nat}(h:v.oneCell' =true):∀u∈([v,NI n]).toArray.toList,u.oneCell' =true:=by
 intro u hu;simp only[Acy,Adz,or_false]at hu;rcases hu with rfl | rfl
 ·exact h
 ·rfl
def IsMapB(w:AbJ)(b:Nat):Prop:=∃es c,w.heap[b]? =some (.map es c)
theorem YP{α β:Type}{ek:α->AbI}{ev:β->AbI}{D:α->Prop}{w:AbJ}{b:Nat}{G:α->Option β}(h:MapF ek ev D w b G):IsMapB w b:=by
 obtain⟨es,c,h,-⟩:=h;exact⟨_,c,h⟩
def Eb(w:AbJ)(b:Nat):Prop:=∀j x,w.cell? ⟨b,j,none⟩≠some (B8 x)
theorem IsMapB.noB8{w:AbJ}{b:Nat}(h:IsMapB w b):Eb w b:=fun j x hc=>by
 obtain⟨es,c,hm⟩:=h;unfold Ad6 at hc;rw[hm]at hc;simp at hc
theorem JP{w:AbJ}{g k:Nat}{v:AbI}{T:AbQ}{fr:Nat × Nat}(hb:w.heap[g]? =some (.cells ([v,NI k]).toArray T fr))(hv:∃ao n c,v = .slice ao n c):Eb w g:=fun j x hc=>by
 obtain⟨ao,n,c,rfl⟩:=hv;unfold Ad6 at hc;rw[hb]at hc
 match j,hc with
 | 0,hc=>simp at hc
 | 1,hc=>simp at hc
 | j+2,hc=>simp at hc
theorem RB.keepN{w w' :AbJ}{b:Nat}{v:AbI}{l:Ah5}(h:RB w v l)(hm:Eb w b)(hg:w.grownBy w' (some b)):RB w' v l:=by
 by_cases hv:v.ownBlock=some b
 ·obtain⟨h1,ao,cap,rfl,h2,h3,h4,h5⟩:=h;refine⟨h1,ao,cap,rfl,h2,h3,h4,fun a ha j u hu=> ?_⟩;subst ha;exfalso;have hb:a.block=b:=by injection hv
  have hc:=h5 a rfl j u hu;have hj:j<l.length:=by have:=(Acf.1 hu).1;rwa [AbZ]at this
  rw[I2 hj]at hu;cases hu;have hsp:=AeA hc;obtain⟨ab,ao,asp⟩:=a;have e:({ block:=ab,off:=ao,spot:=asp } :Addr).add j=⟨b,(({ block:=ab,off:=ao,spot:=asp } :Addr).add j).off,none⟩:=by
   have h1:(({ block:=ab,off:=ao,spot:=asp } :Addr).add j).block=b:=by rw[<-hb];unfold Addr.add;split <;> rfl
   generalize ({ block:=ab,off:=ao,spot:=asp } :Addr).add j=q at h1 hsp ⊢
   obtain⟨q1,q2,q3⟩:=q;simp only at h1 hsp;rw[h1,hsp]
  rw[e]at hc;exact hm _ _ hc
 ·exact h.kept hg (.inr hv)
theorem MOk.keepN{w w' :AbJ}{b:Nat}{M:Bs->Option Ai}(h:MOk w M)(hm:Eb w b)(hg:w.grownBy w' (some b)):MOk w' M:=fun a c hc=>⟨(h a c hc).1.keepN hm hg,(h a c hc).2⟩
theorem BX.keep{w0 w w' :AbJ}{r:Option Nat}(h:BX w0.heap.size r w0 w)(k:Ext w w'):BX w0.heap.size r w0 w' :=h.trans (Yq k h.size)
theorem BX.set{w0 w w' :AbJ}{r:Option Nat}{g:Nat}(h:BX w0.heap.size r w0 w)(hg:w.grownBy w' (some g))(hn:w0.heap.size<=g):BX w0.heap.size r w0 w' :=h.trans (Yr hg h.size (fun k hk=>by cases hk;exact .inr hn))
theorem BX.put{w0 w w' :AbJ}{b:Nat}(h:BX w0.heap.size (some b) w0 w)(hg:w.grownBy w' (some b)):BX w0.heap.size (some b) w0 w' :=h.trans (Yr hg h.size (fun k hk=> .inl hk))
def HOk(w:AbJ)(M:Bs->Option Ai)(H:Bs->Option Cp):Prop:=∀id x,H id=some x->RB w x.2 x.1.1/\∃n d,A8 (AD M) n (AD M id)=some d/\BM (AD M) (d+1) id=some x.1
theorem HOk.keep{w w' :AbJ}{M:Bs->Option Ai}{H:Bs->Option Cp}(h:HOk w M H)(k:Ext w w'):HOk w' M H:=fun a c hc=>⟨(h a c hc).1.keep k,(h a c hc).2⟩
theorem HOk.keepN{w w' :AbJ}{b:Nat}{M:Bs->Option Ai}{H:Bs->Option Cp}(h:HOk w M H)(hm:Eb w b)(hg:w.grownBy w' (some b)):HOk w' M H:=fun a c hc=>⟨(h a c hc).1.keepN hm hg,(h a c hc).2⟩
theorem HOk.nil{w:AbJ}{M:Bs->Option Ai}:HOk w M (fun _=>none):=fun _ _ h=>by cases h
theorem HOk.put{w:AbJ}{M:Bs->Option Ai}{H:Bs->Option Cp}(h:HOk w M H){id:Bs}{x:Cp}(h1:RB w x.2 x.1.1){n d:Nat}(h2:A8 (AD M) n (AD M id)=some d)(h3:BM (AD M) (d+1) id=some x.1):HOk w M (updM H id (some x)):=fun a c hc=>by
 unfold updM at hc;split at hc
 ·rename_i e
  cases hc;subst e;exact⟨h1,n,d,h2,h3⟩
 ·exact h a c hc
section
variable {E : Bs -> Ent}
theorem Nw{n m:Nat}{e:Ent}{d d' :Nat}(h:A8 E n e=some d)(h' :A8 E m e=some d'):d=d' :=by
 have h1:=Gf n (max d d') e d h (Nat.le_max_left _ _);have h2:=Gf m (max d d') e d' h' (Nat.le_max_right _ _);rw[h1]at h2;cases h2;rfl
theorem Nx{n:Nat}{e:Ent}{d:Nat}(hb:e.based=true)(h:A8 E n e=some d):∃n' d',d=d' +1/\A8 E n' (E e.base)=some d' :=by
 cases n with
 | zero=>rw[EY hb]at h;cases h
 | succ n=>
  rw[DB hb]at h;cases h1:A8 E n (E e.base)with
  | none=>rw[h1]at h;cases h
  | some d1=>rw[h1]at h;cases h;exact⟨n,d1,rfl,h1⟩
theorem FD{n:Nat}{id:Bs}(hb:(E id).based=true):BM E (n+1) id=(BM E n (E id).base).bind fun x=>if(A7 x.1 (E id).bytes).2=0 then(if(A7 x.1 (E id).bytes).1.length<=262144 then some ((A7 x.1 (E id).bytes).1,x.2+1)else none)else none:=by
 show(if _=true then _ else _)=_;rw[if_pos hb]
theorem Gg{n:Nat}{id:Bs}(hb:(E id).based=false):BM E (n+1) id=if(E id).bytes.length<=262144 then some ((E id).bytes,0)else none:=by
 show(if _=true then _ else _)=_;rw[if_neg (by rw[hb];decide)]
theorem Hy:∀ {n:Nat} {id:Bs} {b:Bs} {k:Nat},BM E n id=some (b,k)->b.length<=262144/\k<n
 | 0,_,_,_,h=>by cases h
 | n+1,id,b,k,h=>by
  cases hb:(E id).based with
  | false=>
   rw[Gg hb]at h;split at h
   ·cases h;exact⟨‹_›,Nat.succ_pos _⟩
   ·cases h
  | true=>
   rw[FD hb]at h;cases h1:BM E n (E id).base with
   | none=>rw[h1]at h;cases h
   | some x=>
    rw[h1]at h;have h2:(if(A7 x.1 (E id).bytes).2=0 then(if(A7 x.1 (E id).bytes).1.length<=262144 then some ((A7 x.1 (E id).bytes).1,x.2+1)else none)else none)=some (b,k):=h;split at h2
    ·split at h2
     ·cases h2;have:=Hy (b:=x.1) (k:=x.2) h1;exact⟨‹_›,by omega⟩
     ·cases h2
    ·cases h2
end
theorem Bi:(Tryz.prog.info? 215).map (·.size)=some 2:=by kernel_rfl
theorem DI{d:Option Tmp}{ty:AbQ}{pos:String}{af:Array Edge}{gd:Option (Nat × Bool)}(σ:AbV->AbI)(w:AbJ):(execOp σ ⟨d, .alloc 215,ty,pos,af,gd⟩).run AbL w = .ok (.value (PQ w.heap.size 0)) (w.alloc (.cells ([(AbR none 0 0),NI 0]).toArray 215)):=by kernel_rfl
theorem Ec:A4 AbL 212 1 1:=fun b o w=>by simp[go_sem]
theorem CH:Tryz.prog.underlying 161=some (.map 33 215):=by kernel_rfl
theorem HY{z0:AbI}(h0:∃ao n c,z0 = .slice ao n c)(w:AbJ):(AdF 215 #[(0,z0)]).run AbL w = .ok (.agg ([z0,NI 0]:List AbI).toArray) w:=by obtain⟨_,_,_,rfl⟩:=h0;kernel_rfl
theorem Gh:A4 AbL 215 0 0:=fun b o w=>by simp[go_sem]
theorem Dn:∃fs,Tryz.prog.underlying 215=some (.struct fs):=Fs (by kernel_rfl)
theorem Qi:Plain AbL 134:=fun _ _=>by kernel_rfl
theorem Qj:Plain AbL 173:=fun _ _=>by kernel_rfl
theorem Ny:A4 AbL 215 1 1:=fun b o w=>by simp[go_sem]
theorem KD{z0:AbI}(h0:∃ao n c,z0 = .slice ao n c)(z1:Int)(w:AbJ):(AdF 215 #[(0,z0),(1, .int .i64 z1)]).run AbL w = .ok (.agg ([z0, .int .i64 z1]:List AbI).toArray) w:=by obtain⟨_,_,_,rfl⟩:=h0;kernel_rfl
theorem Qk(gm be bm:Nat)(M:Bs->Option Ai)(d:Nat)(ih:∀d1,d1<d->∀(w:AbJ) (H:Bs->Option Cp) (id:Bs) (hmk:w.heap[gm]? =some (.cells ([.map (some be), .map (some bm)]).toArray 212 (0,0))) (hme:MapF rk Bz (fun id:Ah5 =>id.length=32) w be M) (hmm:MapF rk Ch (fun id:Ah5 =>id.length=32) w bm H) (hMO:MOk w M) (hHO:HOk w M H) (hne:be≠bm) (hid:id.length=32) (hd50:d1<=50) (n0:Nat) (hdp:A8 (AD M) n0 (AD M id)=some d1) (n0w:Nat) (hNM:NewM n0w M) (hNH:NewM n0w H) (b7:n0w<=w.heap.size),Calls AbL 134 #[PQ gm 0,AB id] w fun r w' =>(∃x,r = .returned x/\∃v b k H',x = .agg ([v,NI k]).toArray/\BM (AD M) (d1+1) id=some (b,k)/\RB w' v b/\MapF rk Ch (fun id:Ah5 =>id.length=32) w' bm H' /\HOk w' M H' /\BX w.heap.size (some bm) w w' /\NewV n0w v/\NewM n0w H')\/∃ch,r = .panicked ch/\BM (AD M) (d1+1) id=none/\ch= [CO 6]/\BX w.heap.size (some bm) w w')(w:AbJ)(H:Bs->Option Cp)(id:Bs)(hmk:w.heap[gm]? =some (.cells ([.map (some be), .map (some bm)]).toArray 212 (0,0)))(hme:MapF rk Bz (fun id:Ah5 =>id.length=32) w be M)(hmm:MapF rk Ch (fun id:Ah5 =>id.length=32) w bm H)(hMO:MOk w M)(hHO:HOk w M H)(hne:be≠bm)(hid:id.length=32)(hd50:d<=50)(n0:Nat)(hdp:A8 (AD M) n0 (AD M id)=some d)(n0w:Nat)(hNM:NewM n0w M)(hNH:NewM n0w H)(b7:n0w<=w.heap.size):
  Calls AbL 134 #[PQ gm 0,AB id] w fun r w' =>(∃x,r = .returned x/\∃v b k H',x = .agg ([v,NI k]).toArray/\BM (AD M) (d+1) id=some (b,k)/\RB w' v b/\MapF rk Ch (fun id:Ah5 =>id.length=32) w' bm H' /\HOk w' M H' /\BX w.heap.size (some bm) w w' /\NewV n0w v/\NewM n0w H')\/∃ch,r = .panicked ch/\BM (AD M) (d+1) id=none/\ch= [CO 6]/\BX w.heap.size (some bm) w w' :=by
 have hX:=BX.refl w.heap.size (some bm) w;have hgb:gm≠bm:=fun e=>by obtain⟨es_,c_,h_⟩:=YP hmm;rw[<-e,hmk]at h_;cases h_
 have hbl:=hmm.lt;have hgl:=(bl hmk);have hel:=hme.lt;refine gG (args:= [PQ gm 0,AB id]) Tryz.func134 rfl 66 rfl rfl ?_;have hE:=AaY w;refine gS (Abh (vr (AB id) rfl) fun n2 w3 bd ci a6 ew=> ?_);have ex:=As hme.lt bd;have ey:=As hmm.lt bd;have f:=ci;clear ci;have ez:n2<w3.heap.size:=by omega
 refine gS (Aa3 DI fun am dv aq cj b8 e0=> ?_);have hE:=hE.trans a6;have dw:=hE.size;have hme:=hme.keep a6;have e1:=As hme.lt aq;have hmm:=hmm.keep a6;have e2:=As hmm.lt aq;have g:=cj;clear cj;have e3:am<dv.heap.size:=by omega
 rcases hH:H id with _ | x
 ·rcases hb:(AD M id).based with _ | _
  ·have hcg:=Gg (n:=d) (E:=AD M) hb;have hbx:((M (id)).getD dEnt).1.based=false:=hb;refine DZ [0,1,2,3,4,5,6,7,8,9,10,11] [9,10] [1,2,7,8] [3,4,5] fun ck cl=> ?_;have m:=AaY ck;have hZ1:=b8.trans cl;have hE:=hE.trans hZ1;have dx:=hE.size;have bq:=AaY ck;have cm:=As (bl hmk) bd;have hmk:=eb a6 hmk;have cn:=As (bl hmk) aq;have hmk:=eb hZ1 hmk;have co:=As (bl f) aq;have f:=eb hZ1 f;have hmm:=hmm.keep hZ1;refine DS bq ?_;refine yp (Aa1 rfl zz) (yp (Aa0 Ec rfl zz) (yf (fun _ ⟨hZ,_⟩=>XP CH rfl rfl (cellAt (eb hZ hmk) rfl) zz) (yf (fun _ ⟨hZ,_⟩=>XU rfl (eb hZ f) U7 rfl (by exact Ad hid) zz) (yf (fun _ ⟨hZ,_⟩=>YC (ek:=rk) (ev:=Ch) (D:=(fun id:Ah5 =>id.length=32)) Ce Cf (fun _ _=>B9) CH (z:=Ch Lg) G5 rfl rfl (hmm.keep hZ) hid hH zz) (yp (AaZ (vs:= [.agg ([(AbR none 0 0),NI 0]).toArray, .bool (false)]) rfl rfl zz) (yp (AaZ (vs:= [.agg ([(AbR none 0 0),NI 0]).toArray, .bool (false)]) rfl rfl zz) (yE (Aa3 DI fun b9 dy br cp az e4=> ?_))))))));have hme:=hme.keep hZ1;have e5:=As hme.lt br;have e6:=As hmm.lt br;have ar:=cp;clear cp;have e7:b9<dy.heap.size:=by omega
   have bq:=bq.trans az;refine⟨bq,?_⟩;refine yD rfl (XT (vr (PQ b9 0) rfl) (vr (.agg ([(AbR none 0 0),NI 0]).toArray) rfl) ar rfl (show(Tryz.prog.info? 215).map (·.size)=some 2 from Bi) (Cn rfl) fun e8 cq a7 e9=> ?_);have hme:=hme.keep az;have hme:=Aa2 hme a7 (Am (by omega));have hmm:=hmm.keep az;have hmm:=Aa2 hmm a7 (Am (by omega));clear ar;have ar:=cq;clear cq;have fa:=bl ar;refine cF rfl (DZ [0,1,2,3,4,5,6,7] [6,7] [1,2] [3,4,5] fun cr a0=> ?_);have ad:=AaY cr;have hE:=hE.trans az;have hE:=Ab hE a7 (AbM dx (by omega));have hE:=hE.trans a0;have m:=m.trans az;have m:=Ab m a7 (AbM (AbO _) (by omega));have m:=m.trans a0;have dz:=hE.size;have bs:=AaY cr;have fb:=As (bl hmk) br;have hmk:=eb az hmk;have hmk:=kb a7 hmk (by omega);have hmk:=eb a0 hmk;have fc:=As (bl f) br;have f:=eb az f;have f:=kb a7 f (by omega);have f:=eb a0 f;have hme:=hme.keep a0;refine DS bs ?_;refine yp (Aa1 rfl zz) (yp (Aa0 Iy rfl zz) (yf (fun _ ⟨hZ,_⟩=>XP KC rfl rfl (cellAt (eb hZ hmk) rfl) zz) (yf (fun _ ⟨hZ,_⟩=>XU rfl (eb hZ f) U7 rfl (by exact Ad hid) zz) (yf (fun _ ⟨hZ,_⟩=>Y8 (ek:=rk) (ev:=Bz) (D:=(fun id:Ah5 =>id.length=32)) (df:=dEnt) Ce Cf (fun _ _=>B9) KC Db rfl rfl (hme.keep hZ) hid zz) (yE (Aa3 Hx fun ca d0 bt cs au fd=> ?_))))));have fe:=As hme.lt bt;have hmm:=hmm.keep a0;have ff:=As hmm.lt bt;have ae:=cs;clear cs;have fg:ca<d0.heap.size:=by omega
   have bs:=bs.trans au;refine⟨bs,?_⟩;refine yD rfl (XT (vr (PQ ca 0) rfl) (vr (.agg (entC ((M (id)).getD dEnt)).toArray) rfl) ae (Br (x:=(((M (id)).getD dEnt):Ai)) (y:=(dEnt:Ai)) (hMO.get (id)).2.1 (by simp[dEnt])) (Be (x:=(((M (id)).getD dEnt):Ai)) EA (hMO.get (id)).2.1) (Bx (x:=(((M (id)).getD dEnt):Ai)) (Aa8 (hMO.get (id)).1).2) fun ct cu a1 fh=> ?_);have hme:=hme.keep au;have hme:=Aa2 hme a1 (Am (by omega));have hmm:=hmm.keep au;have hmm:=Aa2 hmm a1 (Am (by omega));clear ae;have ae:=cu;clear cu;have fi:=bl ae;refine gS (Aa0 Ix rfl ?_);have hE:=hE.trans au;have hE:=Ab hE a1 (AbM dz (by omega));have hre91:RB ct (((M (id)).getD dEnt)).2 (AD M id).bytes:=(MOk.get (hMO.keep hE) id).1;refine gS (XP F7 rfl rfl (cellAt ae (Nr (x:=(((M (id)).getD dEnt):Ai)) (hMO.get (id)).2.1)) (gS (Zb (vr ((((M (id)).getD dEnt)).2) rfl) (fun w=>HY (Abr hre91) w) (gS (Aa3 DI fun cb d3 cv cw bf fj=> ?_)))));have s:=AaY ct;have d4:=m.size;have m:=m.trans au;have m:=Ab m a1 (AbM d4 (by omega));have ad:=ad.trans au;have ad:=Ab ad a1 (AbM (AbO _) (by omega));have fk:=hE.size;have fl:=As hme.lt cv;have fm:=As hmm.lt cv;have ah:=cw;clear cw;have fn:cb<d3.heap.size:=by omega
   have s:=s.trans bf;refine gS (XT (vr (PQ cb 0) rfl) (vr (.agg ([(((M (id)).getD dEnt)).2,NI 0]).toArray) rfl) ah rfl (show(Tryz.prog.info? 215).map (·.size)=some 2 from Bi) (Cn (Aa8 (hre91.keep s)).2) fun fo cx bg fp=> ?_);have hme:=hme.keep bf;have hme:=Aa2 hme bg (Am (by omega));have hmm:=hmm.keep bf;have hmm:=Aa2 hmm bg (Am (by omega));clear ah;have ah:=cx;clear cx;have fq:=bl ah;have s:=Ab s bg (AbM (AbO _) (by omega));have ae:=eb s ae;refine gS (Aa0 Gb rfl (gS (XP JO rfl rfl (cellAt ae ((show(entC (((M (id)).getD dEnt)))[1]? =some (.bool false:AbI)from congrArg (fun b=>some (Acs b)) hbx))) (cF rfl (gS (Aa0 Gh rfl (gS (XP F7 rfl rfl (cellAt ah rfl) (gS (XZ F7 (XV (hre91.keep s) rfl) (gS (XQ (a:=(((AD M id).bytes:Ah5).length:Nat)) (b:=(262144:Nat)) rfl rfl (Dw _ _ _ _) (gP (X8 FR rfl rfl ?_))))))))))))));refine Aq (AS _ (decide ((((AD M id).bytes:Ah5).length)<=(262144))) 6) ?_ ?_;rotate_left
   ·rintro ch fr ⟨rfl,hb,hx⟩;refine Au ?_;have hno:=of_decide_eq_false hb;have hE:=hE.trans s;refine .inr ⟨_,rfl,?_,rfl,(BX.keep (hX.keep hE) hx)⟩;rw[hcg];exact if_neg hno
   rintro v_ fs ⟨rfl,d5,d6⟩;have d7:=of_decide_eq_true d5;have hcf:BM (AD M) (d+1) id=some ((AD M id).bytes,0):=hcg.trans (if_pos d7);refine CA [0,1,2,3,4,5,6] [6] [] fun d8 d9=> ?_;have ft:=As (bl hmk) bt;have hmk:=eb au hmk;have hmk:=kb a1 hmk (by omega);have hZ2:=d6.trans d9;have s:=s.trans hZ2;have hmk:=eb s hmk;have fu:=As (bl f) bt;have f:=eb au f;have f:=kb a1 f (by omega);have f:=eb s f;have hmm:=hmm.keep hZ2;have ah:=eb hZ2 ah;refine ys (Aa1 rfl zz) (ys (Aa0 Ec rfl zz) (ys (XP CH rfl rfl (cellAt hmk rfl) zz) (ys (XU rfl f U7 rfl (by exact Ad hid) zz) (ys (XU rfl ah (Dn).choose_spec rfl (show(Tryz.prog.info? 215).map (·.size)=some 2 from Bi) zz) (yC (YG (ek:=rk) (ev:=Ch) (D:=(fun id:Ah5 =>id.length=32)) (c:=((((AD M id).bytes,0),(((M (id)).getD dEnt)).2):Cp)) Ce Cf CH (vr (.map (some bm)) rfl) (vr (AB id) rfl) (vr (.agg ([(((M (id)).getD dEnt)).2,NI 0]).toArray) rfl) hmm hid fun ac cc ai fv=> ?_))))));have hE:=hE.trans s;have hP:=HOk.put (hHO.keep hE) (id:=id) (x:=((((AD M id).bytes,0),(((M (id)).getD dEnt)).2):Cp)) (hre91.keep s) hdp hcf;have hm137:Eb d8 bm:=(YP hmm).noB8;have hX:BX w.heap.size (some bm) w ac:=BX.put (hX.keep hE) ai;have hmk:ac.heap[gm]? =some (.cells ([.map (some be), .map (some bm)]).toArray 212 (0,0)):=kb ai hmk (by omega);have hme:=hme.keep hZ2;have hme:MapF rk Bz (fun id:Ah5 =>id.length=32) ac be M:=Aa2 hme ai (Am (by omega));clear hmm;have hMO:MOk ac M:=(hMO.keep hE).keepN hm137 ai;have f:ac.heap[n2]? =some (.cells (AbK id).toArray 33 (0,0)):=kb ai f (by omega);have ea:=m.size;have m:=m.trans bf;have m:=Ab m bg (AbM ea (by omega));have m:=m.trans hZ2;have g:=eb (cl.trans m) g;have g:ac.heap[am]? =some (.cells ([(AbR none 0 0),NI 0]).toArray 215 (0,0)):=kb ai g (by omega);have ec:=ad.size;have ad:=ad.trans bf;have ad:=Ab ad bg (AbM ec (by omega));have ad:=ad.trans hZ2;have ar:=eb (a0.trans ad) ar;have ar:ac.heap[b9]? =some (.cells ([(AbR none 0 0),NI 0]).toArray 215 (0,0)):=kb ai ar (by omega);have ae:=eb hZ2 ae;have ae:ac.heap[ca]? =some (.cells (entC (((M (id)).getD dEnt))).toArray 208 (0,0)):=kb ai ae (by omega);have hre91:RB ac (((M (id)).getD dEnt)).2 (AD M id).bytes:=(hre91.keep s).keepN hm137 ai;have ah:ac.heap[cb]? =some (.cells ([(((M (id)).getD dEnt)).2,NI 0]).toArray 215 (0,0)):=kb ai ah (by omega);have hP:HOk ac M (updM H (id) (some (((((AD M id).bytes,0),(((M (id)).getD dEnt)).2):Cp)))):=hP.keepN hm137 ai;have fw:=AaY ac;have fx:=hX.size;refine gS (XU rfl ah (Dn).choose_spec rfl (show(Tryz.prog.info? 215).map (·.size)=some 2 from Bi) (gS (XT (vr (PQ am 0) rfl) (vr (.agg ([(((M (id)).getD dEnt)).2,NI 0]).toArray) rfl) g rfl (show(Tryz.prog.info? 215).map (·.size)=some 2 from Bi) (Cn (Aa8 hre91).2) fun bh cy a8 fy=> ?_)));have hnb_:Eb ac am:=JP g ⟨_,_,_,rfl⟩;have hX:BX w.heap.size (some bm) w bh:=BX.set hX a8 (by omega);have hme:=Aa2 hme a8 (Am (by omega));have hMO:MOk bh M:=hMO.keepN hnb_ a8;have hre91:RB bh (((M (id)).getD dEnt)).2 (AD M id).bytes:=hre91.keepN hnb_ a8;have hP:HOk bh M (updM H (id) (some (((((AD M id).bytes,0),(((M (id)).getD dEnt)).2):Cp)))):=hP.keepN hnb_ a8;have cc:=Aa2 cc a8 (Am (by omega));clear g;have g:=cy;clear cy;have fz:=bl g;have f0:=AaY bh;have f1:=hX.size;refine LI rfl (Aa9 rfl g (Dn).choose_spec rfl ((show(Tryz.prog.info? 215).map (·.size)=some 2 from Bi))) ?_;exact .inl ⟨_,rfl,_,_,_,_,rfl,hcf,hre91,cc,hP,hX,(hNM.get id),NewM.put hNH id (hNM.get id)⟩
  have hcg:=FD (n:=d) (E:=AD M) hb;have hbx:((M (id)).getD dEnt).1.based=true:=hb;obtain⟨na_,d1,hd1,hdp1⟩:=Nx hb hdp;refine DZ [0,1,2,3,4,5,6,7,8,9,10,11] [9,10] [1,2,7,8] [3,4,5] fun cz c0=> ?_;have o:=AaY cz;have hZ3:=b8.trans c0;have hE:=hE.trans hZ3;have ed:=hE.size;have bu:=AaY cz;have cm:=As (bl hmk) bd;have hmk:=eb a6 hmk;have cn:=As (bl hmk) aq;have hmk:=eb hZ3 hmk;have co:=As (bl f) aq;have f:=eb hZ3 f;have hmm:=hmm.keep hZ3;refine DS bu ?_;refine yp (Aa1 rfl zz) (yp (Aa0 Ec rfl zz) (yf (fun _ ⟨hZ,_⟩=>XP CH rfl rfl (cellAt (eb hZ hmk) rfl) zz) (yf (fun _ ⟨hZ,_⟩=>XU rfl (eb hZ f) U7 rfl (by exact Ad hid) zz) (yf (fun _ ⟨hZ,_⟩=>YC (ek:=rk) (ev:=Ch) (D:=(fun id:Ah5 =>id.length=32)) Ce Cf (fun _ _=>B9) CH (z:=Ch Lg) G5 rfl rfl (hmm.keep hZ) hid hH zz) (yp (AaZ (vs:= [.agg ([(AbR none 0 0),NI 0]).toArray, .bool (false)]) rfl rfl zz) (yp (AaZ (vs:= [.agg ([(AbR none 0 0),NI 0]).toArray, .bool (false)]) rfl rfl zz) (yE (Aa3 DI fun bv ee bw c1 a2 f2=> ?_))))))));have hme:=hme.keep hZ3;have f3:=As hme.lt bw;have f4:=As hmm.lt bw;have j:=c1;clear c1;have f5:bv<ee.heap.size:=by omega
  have bu:=bu.trans a2;refine⟨bu,?_⟩;refine yD rfl (XT (vr (PQ bv 0) rfl) (vr (.agg ([(AbR none 0 0),NI 0]).toArray) rfl) j rfl (show(Tryz.prog.info? 215).map (·.size)=some 2 from Bi) (Cn rfl) fun f6 c2 a9 f7=> ?_);have hme:=hme.keep a2;have hme:=Aa2 hme a9 (Am (by omega));have hmm:=hmm.keep a2;have hmm:=Aa2 hmm a9 (Am (by omega));clear j;have j:=c2;clear c2;have f8:=bl j;refine cF rfl (DZ [0,1,2,3,4,5,6,7] [6,7] [1,2] [3,4,5] fun c3 a3=> ?_);have ak:=AaY c3;have hE:=hE.trans a2;have hE:=Ab hE a9 (AbM ed (by omega));have hE:=hE.trans a3;have o:=o.trans a2;have o:=Ab o a9 (AbM (AbO _) (by omega));have o:=o.trans a3;have ef:=hE.size;have bx:=AaY c3;have f9:=As (bl hmk) bw;have hmk:=eb a2 hmk;have hmk:=kb a9 hmk (by omega);have hmk:=eb a3 hmk;have ga:=As (bl f) bw;have f:=eb a2 f;have f:=kb a9 f (by omega);have f:=eb a3 f;have hme:=hme.keep a3;refine DS bx ?_;refine yp (Aa1 rfl zz) (yp (Aa0 Iy rfl zz) (yf (fun _ ⟨hZ,_⟩=>XP KC rfl rfl (cellAt (eb hZ hmk) rfl) zz) (yf (fun _ ⟨hZ,_⟩=>XU rfl (eb hZ f) U7 rfl (by exact Ad hid) zz) (yf (fun _ ⟨hZ,_⟩=>Y8 (ek:=rk) (ev:=Bz) (D:=(fun id:Ah5 =>id.length=32)) (df:=dEnt) Ce Cf (fun _ _=>B9) KC Db rfl rfl (hme.keep hZ) hid zz) (yE (Aa3 Hx fun bz eg b0 c4 av gb=> ?_))))));have gc:=As hme.lt b0;have hmm:=hmm.keep a3;have gd:=As hmm.lt b0;have h:=c4;clear c4;have ge:bz<eg.heap.size:=by omega
  have bx:=bx.trans av;refine⟨bx,?_⟩;refine yD rfl (XT (vr (PQ bz 0) rfl) (vr (.agg (entC ((M (id)).getD dEnt)).toArray) rfl) h (Br (x:=(((M (id)).getD dEnt):Ai)) (y:=(dEnt:Ai)) (hMO.get (id)).2.1 (by simp[dEnt])) (Be (x:=(((M (id)).getD dEnt):Ai)) EA (hMO.get (id)).2.1) (Bx (x:=(((M (id)).getD dEnt):Ai)) (Aa8 (hMO.get (id)).1).2) fun c5 c6 a4 gf=> ?_);have hme:=hme.keep av;have hme:=Aa2 hme a4 (Am (by omega));have hmm:=hmm.keep av;have hmm:=Aa2 hmm a4 (Am (by omega));clear h;have h:=c6;clear c6;have gg:=bl h;refine gS (Aa0 Ix rfl ?_);have hE:=hE.trans av;have hE:=Ab hE a4 (AbM ef (by omega));have hre211:RB c5 (((M (id)).getD dEnt)).2 (AD M id).bytes:=(MOk.get (hMO.keep hE) id).1;refine gS (XP F7 rfl rfl (cellAt h (Nr (x:=(((M (id)).getD dEnt):Ai)) (hMO.get (id)).2.1)) (gS (Zb (vr ((((M (id)).getD dEnt)).2) rfl) (fun w=>HY (Abr hre211) w) (gS (Aa3 DI fun ba eh c7 c8 bi gh=> ?_)))));have al:=AaY c5;have ei:=o.size;have o:=o.trans av;have o:=Ab o a4 (AbM ei (by omega));have ak:=ak.trans av;have ak:=Ab ak a4 (AbM (AbO _) (by omega));have gi:=hE.size;have gj:=As hme.lt c7;have gk:=As hmm.lt c7;have i:=c8;clear c8;have gl:ba<eh.heap.size:=by omega
  have al:=al.trans bi;refine gS (XT (vr (PQ ba 0) rfl) (vr (.agg ([(((M (id)).getD dEnt)).2,NI 0]).toArray) rfl) i rfl (show(Tryz.prog.info? 215).map (·.size)=some 2 from Bi) (Cn (Aa8 (hre211.keep al)).2) fun c9 da bj gn=> ?_);have hme:=hme.keep bi;have hme:=Aa2 hme bj (Am (by omega));have hmm:=hmm.keep bi;have hmm:=Aa2 hmm bj (Am (by omega));clear i;have i:=da;clear da;have go:=bl i;have gp:=As (bl hmk) b0;have hmk:=eb av hmk;have hmk:=kb a4 hmk (by omega);have al:=Ab al bj (AbM (AbO _) (by omega));have hmk:=eb al hmk;have h:=eb al h;have hE:=hE.trans al;refine gS (Aa0 Gb rfl (gS (XP JO rfl rfl (cellAt h ((show(entC (((M (id)).getD dEnt)))[1]? =some (.bool true:AbI)from congrArg (fun b=>some (Acs b)) hbx))) (cT rfl (gS (Aa0 Nu rfl (gS (Ym rfl (Ep (x:=(((M (id)).getD dEnt):Ai)) h) U7 rfl (by rw[AbZ,(hMO.get (id)).2.1];exact Rl) (gP (X8 Qi rfl rfl ?_))))))))));refine Aq (ih d1 (by omega) c9 H ((M (id)).getD dEnt).1.base hmk hme hmm (hMO.keep hE) (hHO.keep hE) hne (MOk.get (hMO.keep hE) id).2.1 (by omega) na_ hdp1 n0w hNM hNH (AbM b7 (hX.keep hE).size)) ?_ ?_;rotate_left
  ·rintro ch gq ⟨hno,rfl,hx⟩;refine Au ?_;refine .inr ⟨_,rfl,?_,rfl,BX.put (hX.keep hE) hx.grown⟩;rw[hcg,show BM (AD M) d (AD M id).base=none from by rw[hd1];exact hno];rfl
  rintro v_ af ⟨a5,bb,kk,H1,rfl,db,ag,hm250,hHO251,ej,hNv1,hNH1⟩;have aj:=ej.grown;have hm257:Eb c9 bm:=(YP hmm).noB8;have hX:BX w.heap.size (some bm) w af:=BX.put (hX.keep hE) aj;have hmk:af.heap[gm]? =some (.cells ([.map (some be), .map (some bm)]).toArray 212 (0,0)):=kb aj hmk (by omega);have hme:MapF rk Bz (fun id:Ah5 =>id.length=32) af be M:=Aa2 hme aj (Am (by omega));clear hmm;have hMO:MOk af M:=(hMO.keep hE).keepN hm257 aj;have hHO:HOk af M H:=(hHO.keep hE).keepN hm257 aj;have gr:=As (bl f) b0;have f:=eb av f;have f:=kb a4 f (by omega);have f:=eb al f;have f:af.heap[n2]? =some (.cells (AbK id).toArray 33 (0,0)):=kb aj f (by omega);have el:=o.size;have o:=o.trans bi;have o:=Ab o bj (AbM el (by omega));have g:=eb (c0.trans o) g;have g:af.heap[am]? =some (.cells ([(AbR none 0 0),NI 0]).toArray 215 (0,0)):=kb aj g (by omega);have em:=ak.size;have ak:=ak.trans bi;have ak:=Ab ak bj (AbM em (by omega));have j:=eb (a3.trans ak) j;have j:af.heap[bv]? =some (.cells ([(AbR none 0 0),NI 0]).toArray 215 (0,0)):=kb aj j (by omega);have h:af.heap[bz]? =some (.cells (entC (((M (id)).getD dEnt))).toArray 208 (0,0)):=kb aj h (by omega);have hre211:RB af (((M (id)).getD dEnt)).2 (AD M id).bytes:=(hre211.keep al).keepN hm257 aj;have i:af.heap[ba]? =some (.cells ([(((M (id)).getD dEnt)).2,NI 0]).toArray 215 (0,0)):=kb aj i (by omega);have l:=AaY af;have gs:=hX.size;have hcl:=Hy db;rw[show BM (AD M) d (AD M id).base=some (bb,kk)from by rw[hd1];exact db]at hcg;refine gS (Aa3 DI fun cd en aw dc an gt=> ?_);have gu:=As hme.lt aw;have gv:=As hm250.lt aw;have ab:=dc;clear dc;have gw:cd<en.heap.size:=by omega
  have l:=l.trans an;refine gS (XT (vr (PQ cd 0) rfl) (vr (.agg ([a5,NI kk]).toArray) rfl) ab rfl (show(Tryz.prog.info? 215).map (·.size)=some 2 from Bi) (Cn (Aa8 (ag.keep l)).2) fun dd de ao gx=> ?_);have hme:=hme.keep an;have hme:=Aa2 hme ao (Am (by omega));have hm250:=hm250.keep an;have hm250:=Aa2 hm250 ao (Am (by omega));clear ab;have ab:=de;clear de;have gy:=bl ab;refine gS (Aa0 Gh rfl (gS (XP F7 rfl rfl (cellAt ab rfl) (gS (Aa0 Ix rfl ?_)))));have l:=Ab l ao (AbM (AbO _) (by omega));have hre282:RB dd (((M (id)).getD dEnt)).2 (AD M id).bytes:=(MOk.get (hMO.keep l) id).1;have gz:=As (bl h) aw;have h:=eb an h;have h:=kb ao h (by omega);refine gS (XP F7 rfl rfl (cellAt h (Nr (x:=(((M (id)).getD dEnt):Ai)) (hMO.get (id)).2.1)) (gS (XS Qj rfl rfl ((RN _ a5 (((M (id)).getD dEnt)).2 bb (AD M id).bytes (ag.keep l) hre282 (by omega) (by have:(AD M id).bytes.length<=1048576:=(MOk.get (hMO.keep l) id).2.2;omega)).mono ?_))));rintro e g0 ⟨t,rfl,q,dh,hap_⟩;refine⟨_,rfl,?_⟩;have hsz_:n0w<=dd.heap.size:=AbM b7 ((hX.keep l)).size;have hNa:NewV n0w t:=fun k hk=>AbM hsz_ (hap_ k hk).1;refine gS (AaZ (vs:= [t,NI ((A7 bb (AD M id).bytes).2)]) rfl rfl (gS (AaZ (vs:= [t,NI ((A7 bb (AD M id).bytes).2)]) rfl rfl (gS (XQ (a:=((A7 bb (AD M id).bytes).2:Nat)) (b:=(0:Nat)) rfl rfl (AI _ _ _ _) (gP (X8 FR rfl rfl ?_)))))));refine Aq (AS _ (decide (((A7 bb (AD M id).bytes).2:Nat)=(0))) 6) ?_ ?_;rotate_left
  ·rintro ch g1 ⟨rfl,hb,hx⟩;refine Au ?_;have hno:=of_decide_eq_false hb;have l:=l.trans dh;refine .inr ⟨_,rfl,?_,rfl,(BX.keep (hX.keep l) hx)⟩;rw[hcg];exact if_neg hno
  rintro v_ bc ⟨rfl,eo,di⟩;have ep:=of_decide_eq_true eo;have hap:=ep;have g2:=As (bl i) aw;have i:=eb an i;have i:=kb ao i (by omega);have hZ4:=dh.trans di;have i:=eb hZ4 i;have ab:=eb hZ4 ab;have q:=q.keep di;refine gS (Aa0 Ny rfl (gS (XP Tk rfl rfl (cellAt ab rfl) (gS (XR (xv:=NI kk) (yv:=NI 1) rfl rfl rfl (Ah _ _ _ (by omega)) (gS (YD (vr t rfl) (vr (NI ((kk)+(1))) rfl) (fun w=>KD (Abr q) ((((kk)+(1):Nat):Int)) w) (gS (XT (vr (PQ ba 0) rfl) (vr (.agg ([t,NI ((kk)+(1))]).toArray) rfl) i rfl (show(Tryz.prog.info? 215).map (·.size)=some 2 from Bi) (Cn (Aa8 q).2) fun ax dj u g3=> ?_)))))))));have l:=l.trans hZ4;have hnb_:Eb bc ba:=JP i (Abr (hre211.keep l));have hX:BX w.heap.size (some bm) w bc:=(hX.keep l);have hMO:MOk bc M:=(hMO.keep l);have hre211:RB bc (((M (id)).getD dEnt)).2 (AD M id).bytes:=(hre211.keep l);have ag:RB bc a5 bb:=(ag.keep l);have hHO251:HOk bc M H1:=(hHO251.keep l);have hX:BX w.heap.size (some bm) w ax:=BX.set hX u (by omega);have hme:=hme.keep hZ4;have hme:=Aa2 hme u (Am (by omega));have hMO:MOk ax M:=hMO.keepN hnb_ u;have hre211:RB ax (((M (id)).getD dEnt)).2 (AD M id).bytes:=hre211.keepN hnb_ u;have ag:RB ax a5 bb:=ag.keepN hnb_ u;have hm250:=hm250.keep hZ4;have hm250:=Aa2 hm250 u (Am (by omega));have hHO251:HOk ax M H1:=hHO251.keepN hnb_ u;have hre282:=hre282.keep hZ4;have hre282:RB ax (((M (id)).getD dEnt)).2 (AD M id).bytes:=hre282.keepN hnb_ u;have q:RB ax t (A7 bb (AD M id).bytes).1:=q.keepN hnb_ u;clear i;have i:=dj;clear dj;have g4:=bl i;have g5:=AaY ax;have g6:=hX.size;refine gS (Aa0 Gh rfl (gS (XP F7 rfl rfl (cellAt i rfl) (gS (XZ F7 (XV q rfl) (gS (XQ (a:=(((A7 bb (AD M id).bytes).1:Ah5).length:Nat)) (b:=(262144:Nat)) rfl rfl (Dw _ _ _ _) (gP (X8 FR rfl rfl ?_)))))))));refine Aq (AS _ (decide ((((A7 bb (AD M id).bytes).1:Ah5).length)<=(262144))) 6) ?_ ?_;rotate_left
  ·rintro ch g7 ⟨rfl,hb,hx⟩;refine Au ?_;have hno:=of_decide_eq_false hb;refine .inr ⟨_,rfl,?_,rfl,(BX.keep hX hx)⟩;rw[hcg];exact(if_pos hap).trans (if_neg hno)
  rintro v_ ce ⟨rfl,eq,b1⟩;have hX:BX w.heap.size (some bm) w ce:=(hX.keep b1);have hMO:MOk ce M:=(hMO.keep b1);have hHO251:HOk ce M H1:=(hHO251.keep b1);have er:=of_decide_eq_true eq;have hcf:BM (AD M) (d+1) id=some ((A7 bb (AD M id).bytes).1,kk+1):=hcg.trans ((if_pos hap).trans (if_pos er));refine CA [0,1,2,3,4,5,6] [6] [] fun b2 b3=> ?_;have hX:BX w.heap.size (some bm) w b2:=(hX.keep b3);have hMO:MOk b2 M:=(hMO.keep b3);have hHO251:HOk b2 M H1:=(hHO251.keep b3);have g8:=As (bl hmk) aw;have hmk:=eb an hmk;have hmk:=kb ao hmk (by omega);have hmk:=eb hZ4 hmk;have hmk:=kb u hmk (by omega);have hZ5:=b1.trans b3;have hmk:=eb hZ5 hmk;have g9:=As (bl f) aw;have f:=eb an f;have f:=kb ao f (by omega);have f:=eb hZ4 f;have f:=kb u f (by omega);have f:=eb hZ5 f;have hm250:=hm250.keep hZ5;have i:=eb hZ5 i;refine ys (Aa1 rfl zz) (ys (Aa0 Ec rfl zz) (ys (XP CH rfl rfl (cellAt hmk rfl) zz) (ys (XU rfl f U7 rfl (by exact Ad hid) zz) (ys (XU rfl i (Dn).choose_spec rfl (show(Tryz.prog.info? 215).map (·.size)=some 2 from Bi) zz) (yC (YG (ek:=rk) (ev:=Ch) (D:=(fun id:Ah5 =>id.length=32)) (c:=((((A7 bb (AD M id).bytes).1,(kk)+(1)),t):Cp)) Ce Cf CH (vr (.map (some bm)) rfl) (vr (AB id) rfl) (vr (.agg ([t,NI ((kk)+(1))]).toArray) rfl) hm250 hid fun p cf aa ha=> ?_))))));have q:=q.keep hZ5;have hP:=HOk.put hHO251 (id:=id) (x:=((((A7 bb (AD M id).bytes).1,(kk)+(1)),t):Cp)) q hdp hcf;have hm315:Eb b2 bm:=(YP hm250).noB8;have hX:BX w.heap.size (some bm) w p:=BX.put hX aa;have hmk:p.heap[gm]? =some (.cells ([.map (some be), .map (some bm)]).toArray 212 (0,0)):=kb aa hmk (by omega);have hme:=hme.keep hZ5;have hme:MapF rk Bz (fun id:Ah5 =>id.length=32) p be M:=Aa2 hme aa (Am (by omega));have hMO:MOk p M:=hMO.keepN hm315 aa;have f:p.heap[n2]? =some (.cells (AbK id).toArray 33 (0,0)):=kb aa f (by omega);have hc:=As (bl g) aw;have g:=eb an g;have g:=kb ao g (by omega);have g:=eb hZ4 g;have g:=kb u g (by omega);have g:=eb hZ5 g;have g:p.heap[am]? =some (.cells ([(AbR none 0 0),NI 0]).toArray 215 (0,0)):=kb aa g (by omega);have hd:=As (bl j) aw;have j:=eb an j;have j:=kb ao j (by omega);have j:=eb hZ4 j;have j:=kb u j (by omega);have j:=eb hZ5 j;have j:p.heap[bv]? =some (.cells ([(AbR none 0 0),NI 0]).toArray 215 (0,0)):=kb aa j (by omega);have h:=eb hZ4 h;have h:=kb u h (by omega);have h:=eb hZ5 h;have h:p.heap[bz]? =some (.cells (entC (((M (id)).getD dEnt))).toArray 208 (0,0)):=kb aa h (by omega);have hre211:=hre211.keep hZ5;have hre211:RB p (((M (id)).getD dEnt)).2 (AD M id).bytes:=hre211.keepN hm315 aa;have ag:=ag.keep hZ5;have ag:RB p a5 bb:=ag.keepN hm315 aa;clear hm250;have ab:=kb u ab (by omega);have ab:=eb hZ5 ab;have ab:p.heap[cd]? =some (.cells ([a5,NI kk]).toArray 215 (0,0)):=kb aa ab (by omega);have hre282:=hre282.keep hZ5;have hre282:RB p (((M (id)).getD dEnt)).2 (AD M id).bytes:=hre282.keepN hm315 aa;have q:RB p t (A7 bb (AD M id).bytes).1:=q.keepN hm315 aa;have i:p.heap[ba]? =some (.cells ([t,NI ((kk)+(1))]).toArray 215 (0,0)):=kb aa i (by omega);have hP:HOk p M (updM H1 (id) (some (((((A7 bb (AD M id).bytes).1,(kk)+(1)),t):Cp)))):=hP.keepN hm315 aa;have he:=AaY p;have hf:=hX.size;refine gS (XU rfl i (Dn).choose_spec rfl (show(Tryz.prog.info? 215).map (·.size)=some 2 from Bi) (gS (XT (vr (PQ am 0) rfl) (vr (.agg ([t,NI ((kk)+(1))]).toArray) rfl) g rfl (show(Tryz.prog.info? 215).map (·.size)=some 2 from Bi) (Cn (Aa8 q).2) fun ay dk ap hg=> ?_)));have hnb_:Eb p am:=JP g ⟨_,_,_,rfl⟩;have hX:BX w.heap.size (some bm) w ay:=BX.set hX ap (by omega);have hme:=Aa2 hme ap (Am (by omega));have hMO:MOk ay M:=hMO.keepN hnb_ ap;have hre211:RB ay (((M (id)).getD dEnt)).2 (AD M id).bytes:=hre211.keepN hnb_ ap;have ag:RB ay a5 bb:=ag.keepN hnb_ ap;have hre282:RB ay (((M (id)).getD dEnt)).2 (AD M id).bytes:=hre282.keepN hnb_ ap;have q:RB ay t (A7 bb (AD M id).bytes).1:=q.keepN hnb_ ap;have hP:HOk ay M (updM H1 (id) (some (((((A7 bb (AD M id).bytes).1,(kk)+(1)),t):Cp)))):=hP.keepN hnb_ ap;have cf:=Aa2 cf ap (Am (by omega));clear g;have g:=dk;clear dk;have hh:=bl g;have hi:=AaY ay;have hj:=hX.size;refine LI rfl (Aa9 rfl g (Dn).choose_spec rfl ((show(Tryz.prog.info? 215).map (·.size)=some 2 from Bi))) ?_;exact .inl ⟨_,rfl,_,_,_,_,rfl,hcf,q,cf,hP,hX,hNa,NewM.put hNH1 id hNa⟩
 obtain⟨hxr,nb_,d2,es,dl⟩:=hHO id x hH;have hdd:=Nw hdp es;rw[<-hdd]at dl;have hnx:=hNH id x hH;refine DZ [0,1,2,3,4,5,6,7,8,9,10,11] [9,10] [1,2,7,8] [3,4,5] fun dm dn=> ?_;have bk:=AaY dm;have hZ6:=b8.trans dn;have hE:=hE.trans hZ6;have et:=hE.size;have b4:=AaY dm;have cm:=As (bl hmk) bd;have hmk:=eb a6 hmk;have cn:=As (bl hmk) aq;have hmk:=eb hZ6 hmk;have co:=As (bl f) aq;have f:=eb hZ6 f;have hmm:=hmm.keep hZ6;refine DS b4 ?_;refine yp (Aa1 rfl zz) (yp (Aa0 Ec rfl zz) (yf (fun _ ⟨hZ,_⟩=>XP CH rfl rfl (cellAt (eb hZ hmk) rfl) zz) (yf (fun _ ⟨hZ,_⟩=>XU rfl (eb hZ f) U7 rfl (by exact Ad hid) zz) (yf (fun _ ⟨hZ,_⟩=>Yw (ek:=rk) (ev:=Ch) (D:=(fun id:Ah5 =>id.length=32)) Ce Cf (fun _ _=>B9) CH (z:=Ch Lg) G5 rfl rfl (hmm.keep hZ) hid hH zz) (yp (AaZ (vs:= [.agg ([x.2,NI x.1.2]).toArray, .bool (true)]) rfl rfl zz) (yp (AaZ (vs:= [.agg ([x.2,NI x.1.2]).toArray, .bool (true)]) rfl rfl zz) (yE (Aa3 DI fun dp eu dq dr bn hl=> ?_))))))));have hme:=hme.keep hZ6;have hm:=As hme.lt dq;have hn:=As hmm.lt dq;have bo:=dr;clear dr;have ho:dp<eu.heap.size:=by omega
 have b4:=b4.trans bn;refine⟨b4,?_⟩;have hE:=hE.trans bn;refine yD rfl (XT (vr (PQ dp 0) rfl) (vr (.agg ([x.2,NI x.1.2]).toArray) rfl) bo rfl (show(Tryz.prog.info? 215).map (·.size)=some 2 from Bi) (Cn (Aa8 (hxr.keep hE)).2) fun hp ds b5 hq=> ?_);have hme:=hme.keep bn;have hme:=Aa2 hme b5 (Am (by omega));have hmm:=hmm.keep bn;have hmm:=Aa2 hmm b5 (Am (by omega));clear bo;have bo:=ds;clear ds;have hr:=bl bo;have bk:=bk.trans bn;have bk:=Ab bk b5 (AbM (AbO _) (by omega));have g:=eb (dn.trans bk) g;have hE:=Ab hE b5 (AbM et (by omega));refine cT rfl (gS (XU rfl bo (Dn).choose_spec rfl (show(Tryz.prog.info? 215).map (·.size)=some 2 from Bi) (gS (XT (vr (PQ am 0) rfl) (vr (.agg ([x.2,NI x.1.2]).toArray) rfl) g rfl (show(Tryz.prog.info? 215).map (·.size)=some 2 from Bi) (Cn (Aa8 (hxr.keep hE)).2) fun hs dt cg ht=> ?_))));have hme:=Aa2 hme cg (Am (by omega));have hmm:=Aa2 hmm cg (Am (by omega));clear g;have g:=dt;clear dt;have hu:=bl g;refine LI rfl (Aa9 rfl g (Dn).choose_spec rfl ((show(Tryz.prog.info? 215).map (·.size)=some 2 from Bi))) ?_;have hE:=Ab hE cg (AbM dw (by omega));exact .inl ⟨_,rfl,_,_,_,H,rfl,dl,(hxr.keep hE),hmm,(hHO.keep hE),(hX.keep hE),hnx,hNH⟩
theorem R9(gm be bm:Nat)(M:Bs->Option Ai):∀(d:Nat) (w:AbJ) (H:Bs->Option Cp) (id:Bs) (hmk:w.heap[gm]? =some (.cells ([.map (some be), .map (some bm)]).toArray 212 (0,0))) (hme:MapF rk Bz (fun id:Ah5 =>id.length=32) w be M) (hmm:MapF rk Ch (fun id:Ah5 =>id.length=32) w bm H) (hMO:MOk w M) (hHO:HOk w M H) (hne:be≠bm) (hid:id.length=32) (hd50:d<=50) (a:Nat) (hdp:A8 (AD M) a (AD M id)=some d) (n0w:Nat) (hNM:NewM n0w M) (hNH:NewM n0w H) (c:n0w<=w.heap.size),Calls AbL 134 #[PQ gm 0,AB id] w fun r w' =>(∃x,r = .returned x/\∃v b k H',x = .agg ([v,NI k]).toArray/\BM (AD M) (d+1) id=some (b,k)/\RB w' v b/\MapF rk Ch (fun id:Ah5 =>id.length=32) w' bm H' /\HOk w' M H' /\BX w.heap.size (some bm) w w' /\NewV n0w v/\NewM n0w H')\/∃ch,r = .panicked ch/\BM (AD M) (d+1) id=none/\ch= [CO 6]/\BX w.heap.size (some bm) w w' :=by
 intro d
 induction d using Nat.strongRecOn with
 | _ d ih=>exact Qk gm be bm M d ih
def OOk(w:AbJ)(O:Bs->Option Cp):Prop:=∀id x,O id=some x->RB w x.2 x.1.1
theorem OOk.keep{w w' :AbJ}{O:Bs->Option Cp}(h:OOk w O)(k:Ext w w'):OOk w' O:=fun a c hc=>(h a c hc).keep k
theorem OOk.keepN{w w' :AbJ}{b:Nat}{O:Bs->Option Cp}(h:OOk w O)(hm:Eb w b)(hg:w.grownBy w' (some b)):OOk w' O:=fun a c hc=>(h a c hc).keepN hm hg
theorem OOk.nil(w:AbJ):OOk w (fun _=>none):=fun _ _ h=>by cases h
theorem OOk.put{w:AbJ}{O:Bs->Option Cp}(h:OOk w O){id:Bs}{x:Cp}(h1:RB w x.2 x.1.1):OOk w (updM O id (some x)):=fun a c hc=>by
 unfold updM at hc;split at hc
 ·cases hc;exact h1
 ·exact h a c hc
theorem entOne_len{b:Bs}{fin pos:Nat}{e:Ent}{n:Nat}(h:entOne b fin pos=some (e,n))(hf:fin<=b.length):e.bytes.length<=b.length:=by
 unfold entOne at h;split at h
 ·split at h
  ·split at h
   ·cases h
   ·cases ht:BW b (pos+33) fin with
    | none=>rw[ht]at h;cases h
    | some x=>rw[ht]at h;cases h;exact Gx (s:=x.1) (n:=x.2) ht hf
  ·cases ht:BW b (pos+1) fin with
   | none=>rw[ht]at h;cases h
   | some x=>rw[ht]at h;cases h;exact Gx (s:=x.1) (n:=x.2) ht hf
 ·cases h
theorem LV{b:Bs}{fin first:Nat}(hf:fin<=b.length):∀(n:Nat) (es:List Ent) (p:Nat),Da b fin first n=some (es,p)->es.length=n/\∀x∈es,x.bytes.length<=b.length
 | 0,es,p,h=>by cases h;exact⟨rfl,fun x hx=>by cases hx⟩
 | n+1,es,p,h=>by
  cases h1:Da b fin first n with
  | none=>rw[DG h1 1]at h;cases h
  | some x=>
   rw[Hu (es:=x.1) (p:=x.2) h1]at h;have ih:=LV hf n x.1 x.2 h1;cases h2:entOne b fin x.2 with
   | none=>rw[h2]at h;cases h
   | some y=>
    rw[h2]at h;cases h;refine⟨by rw[AbP,ih.1];rfl,fun z hz=> ?_⟩;rcases Acb.1 hz with hz | hz
    ·exact ih.2 z hz
    ·rw[AbW.1 hz];exact entOne_len (e:=y.1) (n:=y.2) h2 hf
theorem Iz{b:Bs}{n first fin:Nat}{es:List Ent}(h:Ct b n first fin=some es)(hf:fin<=b.length):es.length=n/\∀x∈es,x.bytes.length<=b.length:=by
 unfold Ct at h;cases h1:Da b fin first n with
 | none=>rw[h1]at h;cases h
 | some x=>
  rw[h1]at h;have h2:(if x.2=fin then some x.1 else none)=some es:=h;split at h2
  ·cases h2;exact LV hf n x.1 x.2 h1
  ·cases h2
def IxS.plain(s:IxS Ai):IxS Ent:=⟨s.ids,fun k=>(s.G k).map Aci,fun k=>(s.M k).map Aci⟩
theorem Hz{α β γ:Type}[DecidableEq α](G:α->Option β)(a:α)(y:Option β)(f:β->γ):(fun k=>(updM G a y k).map f)=updM (fun k=>(G k).map f) a (y.map f):=by
 funext k
 unfold updM;split <;> rfl
theorem placeGo_map(es:List Ai):∀i,(fun k=>(DQ (fun x:Ai=>x.1.pos) dEnt es i k).map Aci)=DQ Ent.pos dEnt.1 (es.map Aci) i
 | 0=>rfl
 | i+1=>by
  unfold DQ;rw[Hz,placeGo_map es i];have e:(es.map Aci).getD i dEnt.1=(es.getD i dEnt).1:=by
   rw[AbN,AbN,List.getElem?_map];cases es[i]? <;> rfl
  rw[e];rfl
theorem FU(t:Bs)(es:List Ai):∀i,DA Ent.pos dEnt.1 t (es.map Aci) i=(DA (fun x:Ai=>x.1.pos) dEnt t es i).map IxS.plain
 | 0=>by
  unfold DA;rw[Ab9,<-placeGo_map];rfl
 | i+1=>by
  cases h:DA (fun x:Ai=>x.1.pos) dEnt t es i with
  | none=>
   have h' :DA Ent.pos dEnt.1 t (es.map Aci) i=none:=by rw[FU t es i,h];rfl
   rw[EO h 1,EO h' 1];rfl
  | some s=>
   have h' :DA Ent.pos dEnt.1 t (es.map Aci) i=some s.plain:=by rw[FU t es i,h];rfl
   rw[Fx h,Fx h'];cases hG:s.G (EG t i)with
   | none=>
    have hG' :s.plain.G (EG t i)=none:=by show(s.G (EG t i)).map Aci=none;rw[hG];rfl
    unfold Dm;rw[hG,hG'];rfl
   | some c=>
    have hG' :s.plain.G (EG t i)=some c.1:=by show(s.G (EG t i)).map Aci=some c.1;rw[hG];rfl
    unfold Dm;rw[hG,hG'];by_cases hc:i=0\/Acd (s.ids.getD (i-1) []) (BQ t i)<0
    ·simp only[if_pos hc,if_pos (show i=0\/Acd (s.plain.ids.getD (i-1) []) (BQ t i)<0 from hc)];show some (DM Ent.pos t i s.plain c.1)=some (DM _ t i s c).plain;unfold DM IxS.plain
     dsimp only
     rw[Hz,Hz];rfl
    ·simp only[if_neg hc,if_neg (show ¬(i=0\/Acd (s.plain.ids.getD (i-1) []) (BQ t i)<0)from hc)];rfl
def KE(M:Bs->Option Ent)(k:Bs):Ent:=(M k).getD dEnt.1
theorem Jq(s:IxS Ai):AD s.M=KE s.plain.M:=by
 funext k
 show((s.M k).getD dEnt).1=((s.M k).map Aci).getD dEnt.1;cases s.M k <;> rfl
structure H0 where
 total:Nat
 O:Bs->Option (Bs × Nat)
def Dc(E:Bs->Ent)(id:Bs)(s:H0):Except Nat H0:=
 match A8 E 50 (E id)with
 | none=> .error 17
 | some d=>match BM E (d+1) id with
  | none=> .error 6
  | some x=>if Sha.sum x.1=id then(if s.total+x.1.length<=4194304 then .ok ⟨s.total+x.1.length,updM s.O id (some (x.1,d))⟩else .error 2)else .error 18
def Dx(E:Bs->Ent)(ids:List Bs):Nat->Except Nat H0
 | 0=> .ok ⟨0,fun _=>none⟩
 | i+1=>match Dx E ids i with
  | .error e=> .error e
  | .ok s=>Dc E (ids.getD i []) s
theorem KF{E:Bs->Ent}{id:Bs}{s:H0}(h:A8 E 50 (E id)=none):Dc E id s = .error 17:=by unfold Dc;rw[h]
theorem LW{E:Bs->Ent}{id:Bs}{s:H0}{d:Nat}(h:A8 E 50 (E id)=some d)(h2:BM E (d+1) id=none):Dc E id s = .error 6:=by
 unfold Dc;rw[h]
 dsimp only
 rw[h2]
theorem EZ{E:Bs->Ent}{id:Bs}{s:H0}{d:Nat}{b:Bs}{k:Nat}(h:A8 E 50 (E id)=some d)(h2:BM E (d+1) id=some (b,k)):Dc E id s=if Sha.sum b=id then(if s.total+b.length<=4194304 then .ok ⟨s.total+b.length,updM s.O id (some (b,d))⟩else .error 2)else .error 18:=by
 unfold Dc;rw[h]
 dsimp only
 rw[h2]
theorem E0{E:Bs->Ent}{ids:List Bs}{i:Nat}{s:H0}(h:Dx E ids i = .ok s):Dx E ids (i+1)=Dc E (ids.getD i []) s:=by
 show(match Dx E ids i with | .error e=>_ | .ok s=>_)=_;rw[h]
theorem Gy{E:Bs->Ent}{ids:List Bs}{i:Nat}{e:Nat}(h:Dx E ids i = .error e):∀k,Dx E ids (i+k) = .error e
 | 0=>h
 | k+1=>by
  show(match Dx E ids (i+k)with | .error e=>_ | .ok s=>_)=_;rw[Gy h k]
abbrev A0:=List Bs ×(Bs->Option (Bs × Nat))
def Gz(E:Bs->Ent)(ids:List Bs):Except Nat A0:=
 match Dx E ids ids.length with
 | .error e=> .error e
 | .ok o=> .ok (ids,o.O)
theorem Nz{E:Bs->Ent}{ids:List Bs}{o:H0}(h:Dx E ids ids.length = .ok o):Gz E ids = .ok (ids,o.O):=by unfold Gz;rw[h]
def KG(es:List Ent)(M:Bs->Option Ent):Bool:=es.all fun e=> !e.based||(M e.base).isSome
def Tw(b:Bs)(f:Nat)(ids:List Bs):Bool:=(List.range 256).all fun i=>D5 (b.drop (f+4*i))==(Ba ids).getD i 0
def G6(b:Bs)(f:Nat)(es:List Ent)(s:IxS Ent):Except Nat A0:=if Tw b f s.ids=true then(if KG es s.M=true then Gz (KE s.M) s.ids else .error 6)else .error 6
def GA(b:Bs)(f:Nat)(es:List Ent):Except Nat A0:=
 match DA Ent.pos dEnt.1 ((b.drop (f+1024)).take (b.length-36-(f+1024))) es es.length with
 | none=> .error 6
 | some s=>G6 b f es s
def HA(b:Bs)(n first f:Nat):Except Nat A0:=
 match Ct b n first f with
 | none=> .error 6
 | some es=>GA b f es
def I7(b:Bs)(f n first:Nat):Except Nat A0:=
 if b.getD 0 0=80/\first<=f/\f<=b.length-36/\n<=b.length-36 then(if b.length-36-f=1024+36*n then HA b n first f else .error 6)else .error 6
def Cu(b:Bs):Except Nat A0:=
 match A3 0 (b.drop 1)with
 | none=> .error 6
 | some x=>I7 b (D5 (b.drop (b.length-36))) x.1 (1+x.2)
theorem Vu{b:Bs}{f:Nat}{ids:List Bs}(h:Tw b f ids=true){i:Nat}(hi:i<256):D5 (b.drop (f+4*i))=(Ba ids).getD i 0:=by
 have:=Acx.1 h i (by simpa using hi);exact beq_iff_eq.1 this
theorem fanB_of{b:Bs}{f:Nat}{ids:List Bs}(h:∀i,i<256->D5 (b.drop (f+4*i))=(Ba ids).getD i 0):Tw b f ids=true:=
 Acx.2 fun i hi=>by rw[beq_iff_eq];exact h i (by simpa using hi)
theorem Sa{es:List Ai}{M:Bs->Option Ai}(h:KG (es.map Aci) (fun k=>(M k).map Aci)=true){q:Nat}(hq:q<es.length):(es.getD q dEnt).1.based=true->M (es.getD q dEnt).1.base≠none:=fun hb hn=>by
 have h1:=Acx.1 h (es.getD q dEnt).1 (Acw.2 ⟨_,AO dEnt hq,rfl⟩)
 dsimp only at h1
 rw[hb,hn]at h1;cases h1
theorem Sb{es:List Ai}{M:Bs->Option Ai}(h:∀q,q<es.length->(es.getD q dEnt).1.based=true->M (es.getD q dEnt).1.base≠none):KG (es.map Aci) (fun k=>(M k).map Aci)=true:=
 Acx.2 fun e he=>by
  obtain⟨x,hx,rfl⟩:=Acw.1 he;obtain⟨q,hq,rfl⟩:=List.getElem_of_mem hx;have h1:=h q hq;rw[show es.getD q dEnt=es[q] by rw[AbN,AbT hq];rfl]at h1;cases hb:(es[q]).1.based with
  | false=>rfl
  | true=>
   cases hm:M (es[q]).1.base with
   | none=>exact absurd hm (h1 hb)
   | some c=>dsimp only;rw[hm];rfl
theorem KH{E:Bs->Ent}:∀ {n:Nat} {e:Ent} {d:Nat},A8 E n e=some d->d<=n
 | 0,e,d,h=>by
  cases hb:e.based with
  | false=>rw[Ea hb]at h;cases h;exact AbO _
  | true=>rw[EY hb]at h;cases h
 | n+1,e,d,h=>by
  cases hb:e.based with
  | false=>rw[Ea hb]at h;cases h;exact Ack _
  | true=>
   rw[DB hb]at h;cases h1:A8 E n (E e.base)with
   | none=>rw[h1]at h;cases h
   | some d1=>rw[h1]at h;cases h;exact Nat.succ_le_succ (KH h1)
theorem AaV{w:AbJ}{t:Bs}{es:List Ai}{s:IxS Ai}{i n:Nat}(h:EntsOk w es)(hI:WG t es i s)(hb:∀x∈es.map Aci,x.bytes.length<=n)(hn:n<=1048576):MOk w s.M:=fun k c hc=>
 have hm:=hI.M k c hc
 ⟨(h c hm).1,(h c hm).2,AbM (hb c.1 (Acw.2 ⟨c,hm,rfl⟩)) hn⟩
theorem Ql:Plain AbL 130:=fun _ _=>by kernel_rfl
theorem Qm:Plain AbL 131:=fun _ _=>by kernel_rfl
theorem KI(z0:Nat)(z1:Nat)(w:AbJ):(AdF 212 #[(0, .map (some z0)),(1, .map (some z1))]).run AbL w = .ok (.agg ([.map (some z0), .map (some z1)]:List AbI).toArray) w:=by kernel_rfl
theorem KJ{z0:AbI}(h0:∃ao n c,z0 = .slice ao n c)(z1:Nat)(w:AbJ):(AdF 163 #[(0,z0),(1, .map (some z1))]).run AbL w = .ok (.agg ([z0, .map (some z1)]:List AbI).toArray) w:=by obtain⟨_,_,_,rfl⟩:=h0;kernel_rfl
theorem Qn:Plain AbL 133:=fun _ _=>by kernel_rfl
theorem Sc:Tryz.prog.eqGuardType Tryz.prog.depth 33=false:=by kernel_rfl
theorem NA:A4 AbL 163 1 1:=fun b o w=>by simp[go_sem]
theorem Tx(w:AbJ)(hG:Laid w)(v:AbI)(b:Bs)(hr:RB w v b)(h36:36<=b.length)(hb:b.length<=1048576):
  Calls AbL 79 #[v] w fun r w' =>(∃x,r = .returned x/\∃g vi bo ids O,x=PQ g 0/\Cu b = .ok (ids,fun k=>(O k).map Aci)/\w'.heap[g]? =some (.cells ([vi, .map (some bo)]).toArray 163 (0,0))/\RG 32 AbK w' vi ids/\MapF rk Ch (fun id:Ah5 =>id.length=32) w' bo O/\OOk w' O/\w.heap.size<=g/\w.heap.size<=bo/\NewV w.heap.size vi/\NewM w.heap.size O/\Ext w w')\/∃ch,r = .panicked ch/\∃c,Cu b = .error c/\ch= [CO c]/\Ext w w' :=by
 obtain⟨f,hf⟩:∃f,f=D5 (b.drop (b.length-36)):=⟨_,rfl⟩;refine gG (args:= [v]) Tryz.func79 rfl 168 rfl rfl ?_;have hE:=AaY w;refine gS (XZ F7 (XV (hr.keep hE) rfl) (gS (XR (xv:=NI b.length) (yv:=NI 36) rfl rfl rfl (BB _ _ _ (by omega) (by omega)) (gS (Yn (xs:=b) (l:=(b.length)-(36)) F7 PO rfl (hr.keep hE) rfl (by omega) fun v4 ey ha6=>(gS (XX FT rfl (((show Calls _ _ _ _ (fun e w2=>e = .returned (NI (f))/\Ext _ w2)from by rw[hf];exact DP _ v4 (b.drop ((b.length)-(36))) ey (by simp only[Ab6];omega))).mono ?_))))))));rintro e w8 ⟨rfl,ba⟩;refine⟨_,rfl,?_⟩;rcases hd:A3 0 (b.drop 1)with _ | ⟨n,k⟩
 ·have hP:Cu b = .error 6:=by unfold Cu;rw[hd]
  by_cases h80:(b.getD 0 0).toNat=80
  ·have hE:=hE.trans ba;refine gS (XS CG rfl rfl (((show Calls _ _ _ _ (fun e w2=>e = .returned (.tuple #[NI 0,NI 0,NI 6])/\Ext _ w2)from(Ez _ v b (hr.keep hE) 1 (by omega)).mono fun e w2 ⟨h1,h2⟩=>by subst h2;subst h1;rw[hd];exact⟨rfl,AaY _⟩)).mono ?_));rintro e hp ⟨rfl,ez⟩;refine⟨_,rfl,?_⟩;have hE:=hE.trans ez;refine gS (AaZ (vs:= [NI 0,NI 0,NI 6]) rfl rfl (gS (AaZ (vs:= [NI 0,NI 0,NI 6]) rfl rfl (gS (AaZ (vs:= [NI 0,NI 0,NI 6]) rfl rfl (gS (Yd (l:=b) (i:=0) F7 PO (XV (hr.keep hE) rfl) rfl (by omega) fun ht e0=>(gS (X4 u5 rfl (Yb e0 rfl) (gS (XQ (a:=((b.getD (0) 0).toNat:Nat)) (b:=(80:Nat)) rfl rfl (AI _ _ _ _) (kT (h80) (gS (XQ (a:=(6:Nat)) (b:=(0:Nat)) rfl rfl (AI _ _ _ _) (kF (by decide) (gS (XY rfl rfl (gS (X2 rfl rfl (gS (X2 rfl rfl (gS (X2 rfl rfl (gP (X8 FR rfl rfl ?_)))))))))))))))))))))))));refine Aq (AS _ (false) 6) ?_ ?_;rotate_left
   ·rintro ch hu ⟨rfl,hb,hx⟩;refine Au ?_;exact .inr ⟨_,rfl,6,hP,rfl,hE.trans hx⟩
   rintro v_ hv ⟨rfl,e1,hw⟩;cases e1
  have hE:=hE.trans ba;refine gS (XS CG rfl rfl (((show Calls _ _ _ _ (fun e w2=>e = .returned (.tuple #[NI 0,NI 0,NI 6])/\Ext _ w2)from(Ez _ v b (hr.keep hE) 1 (by omega)).mono fun e w2 ⟨h1,h2⟩=>by subst h2;subst h1;rw[hd];exact⟨rfl,AaY _⟩)).mono ?_));rintro e hy ⟨rfl,e2⟩;refine⟨_,rfl,?_⟩;have hE:=hE.trans e2;refine gS (AaZ (vs:= [NI 0,NI 0,NI 6]) rfl rfl (gS (AaZ (vs:= [NI 0,NI 0,NI 6]) rfl rfl (gS (AaZ (vs:= [NI 0,NI 0,NI 6]) rfl rfl (gS (Yd (l:=b) (i:=0) F7 PO (XV (hr.keep hE) rfl) rfl (by omega) fun hz e3=>(gS (X4 u5 rfl (Yb e3 rfl) (gS (XQ (a:=((b.getD (0) 0).toNat:Nat)) (b:=(80:Nat)) rfl rfl (AI _ _ _ _) (kF (h80) (gS (X2 rfl rfl (gS (X2 rfl rfl (gS (X2 rfl rfl (gS (X2 rfl rfl (gP (X8 FR rfl rfl ?_))))))))))))))))))))));refine Aq (AS _ (false) 6) ?_ ?_;rotate_left
  ·rintro ch h0 ⟨rfl,hb,hx⟩;refine Au ?_;exact .inr ⟨_,rfl,6,hP,rfl,hE.trans hx⟩
  rintro v_ h3 ⟨rfl,e4,h4⟩;cases e4
 have hP0:Cu b=I7 b f n (1+k):=by unfold Cu;rw[hd];show I7 b (D5 _) n (1+k)=_;rw[<-hf]
 by_cases h80:(b.getD 0 0).toNat=80
 ·by_cases q1:1+k<=f
  ·by_cases q2:f<=b.length-36
   ·by_cases q3:n<=b.length-36
    ·have hA:b.getD 0 0=80/\1+k<=f/\f<=b.length-36/\n<=b.length-36:=⟨UInt8.toNat_inj.1 (by rw[h80];rfl),q1,q2,q3⟩;have hE:=hE.trans ba;refine gS (XS CG rfl rfl (((show Calls _ _ _ _ (fun e w2=>e = .returned (.tuple #[NI n,NI (1+k),NI 0])/\Ext _ w2)from(Ez _ v b (hr.keep hE) 1 (by omega)).mono fun e w2 ⟨h1,h2⟩=>by subst h2;subst h1;rw[hd];exact⟨rfl,AaY _⟩)).mono ?_));rintro e h5 ⟨rfl,e5⟩;refine⟨_,rfl,?_⟩;have hE:=hE.trans e5;refine gS (AaZ (vs:= [NI n,NI (1+k),NI 0]) rfl rfl (gS (AaZ (vs:= [NI n,NI (1+k),NI 0]) rfl rfl (gS (AaZ (vs:= [NI n,NI (1+k),NI 0]) rfl rfl (gS (Yd (l:=b) (i:=0) F7 PO (XV (hr.keep hE) rfl) rfl (by omega) fun h6 c8=>(gS (X4 u5 rfl (Yb c8 rfl) (gS (XQ (a:=((b.getD (0) 0).toNat:Nat)) (b:=(80:Nat)) rfl rfl (AI _ _ _ _) (kT (h80) (gS (XQ (a:=(0:Nat)) (b:=(0:Nat)) rfl rfl (AI _ _ _ _) (kT (rfl) (gS (XY rfl rfl (gS (XQ (a:=(f:Nat)) (b:=(1+k:Nat)) rfl rfl (Ek _ _ _ _) (kT (q1) (gS (XY rfl rfl (gS (XQ (a:=(f:Nat)) (b:=((b.length)-(36):Nat)) rfl rfl (Dw _ _ _ _) (kT (q2) (gS (XY rfl rfl (gS (XQ (a:=(n:Nat)) (b:=((b.length)-(36):Nat)) rfl rfl (Dw _ _ _ _) (kT (q3) (gS (XY rfl rfl (gP (X8 FR rfl rfl ?_))))))))))))))))))))))))))))))))));refine Aq (AS _ (true) 6) ?_ ?_;rotate_left
     ·rintro ch h7 ⟨rfl,hb,hx⟩;refine Au ?_;cases hb
     rintro v_ h8 ⟨rfl,h9,c9⟩;clear c8;refine gS (XR (xv:=NI ((b.length)-(36))) (yv:=NI f) rfl rfl rfl (BB _ _ _ (by omega) (by omega)) (gS (XR (xv:=NI 36) (yv:=NI n) rfl rfl rfl (Ci _ _ _ (by omega)) (gS (XR (xv:=NI 1024) (yv:=NI ((36)*(n))) rfl rfl rfl (Ah _ _ _ (by omega)) (gS (XQ (a:=(((b.length)-(36))-(f):Nat)) (b:=((1024)+((36)*(n)):Nat)) rfl rfl (AI _ _ _ _) (gP (X8 FR rfl rfl ?_)))))))));refine Aq (AS _ (decide ((((b.length)-(36))-(f):Nat)=((1024)+((36)*(n))))) 6) ?_ ?_;rotate_left
     ·rintro ch ia ⟨rfl,hb,hx⟩;refine Au ?_;have hno:=of_decide_eq_false hb;have hE:=hE.trans c9;exact .inr ⟨_,rfl,6,hP0.trans ((if_pos hA).trans (if_neg hno)),rfl,hE.trans hx⟩
     rintro v_ ib ⟨rfl,e6,e7⟩;have e8:=of_decide_eq_true e6;have hq5:=e8;have hP1:Cu b=HA b n (1+k) f:=hP0.trans ((if_pos hA).trans (if_pos hq5));have hE:=hE.trans (c9.trans e7);refine gP (Aaq Ql rfl rfl rfl rfl ?_);refine Aq (OF _ v b (hr.keep hE) n (1+k) f (by omega) (by omega) (by omega) (by omega)) ?_ ?_;rotate_left
     ·rintro ch ic ⟨hno,rfl,hx⟩;refine Au ?_;exact .inr ⟨_,rfl,6,hP1.trans (by unfold HA;rw[hno]),rfl,hE.trans hx⟩
     rintro bq br ⟨es,hes,au,hok52,e9,fa⟩;have hnwE:∀x∈es,NewV w.heap.size x.2:=fun x hx k hk=>AbM (hE).size (e9 x hx k hk);have hok:=hok52;have hel:=Iz hes (by omega);rw[Ab9]at hel;have heln:=hel.1;have hP2:Cu b=GA b f (es.map Aci):=hP1.trans (by unfold HA;rw[hes]);have hE:=hE.trans fa;refine gS (XR (xv:=NI f) (yv:=NI 1024) rfl rfl rfl (Ah _ _ _ (by omega)) (gS (YO (xs:=b) (l:=(f)+(1024)) (n:=(b.length)-(36)) F7 PO rfl (hr.keep hE) rfl rfl (by omega) (by omega) fun fb fc ha60=>(gP (X8 Qm rfl rfl ?_)))));refine Aq (Qf _ fb ((b.drop (f+1024)).take (b.length-36-(f+1024))) fc bq es au hok (by rw[Ab5,Ab6];omega) (by omega)) ?_ ?_;rotate_left
     ·rintro ch ie ⟨hno,rfl,hx⟩;refine Au ?_;exact .inr ⟨_,rfl,6,hP2.trans (by unfold GA;rw[Ab9,FU,hno];rfl),rfl,hE.trans hx⟩
     rintro v_ bc ⟨s,ah,ab,his,rfl,bd,hm64,hNv0,da⟩;have hNvi:NewV w.heap.size ah:=fun k hk=>AbM (hE).size (hNv0 k hk);have p:=AaY br;have ig:=hE.size;have hI:=I6 _ _ his;have hNM:NewM w.heap.size s.M:=fun id c hc=>hnwE c (hI.M id c hc);have p:=p.trans da;have hMO:MOk bc s.M:=AaV (hok.keep p) hI hel.2 (by omega);have t:=AaY bc;have hE:=hE.trans da;have ih:=hE.size;have ii:=p.size;have hIl:=hI.len;have hlbe:=hm64.lt;have hP3:Cu b=G6 b f (es.map Aci) s.plain:=hP2.trans (by unfold GA;rw[Ab9,FU,his];rfl);refine gS (AaZ (vs:= [ah, .map (some ab)]) rfl rfl (gS (AaZ (vs:= [ah, .map (some ab)]) rfl rfl (gS (XX R5 rfl ((Pb _ ah s.ids (bd.keep t)).mono ?_))))));rintro e ij ⟨rfl,b8⟩;refine⟨_,rfl,?_⟩;have hE:=hE.trans b8;have p:=p.trans b8;have hm64:=hm64.keep b8;have t:=t.trans b8;refine gL (fun(ρ:Ac) (wz:AbJ)=>∃m:Nat,ρ 0=(v:AbI)/\ρ 2=(.pointer none:AbI)/\ρ 3=(NI ((b.length)-(36)):AbI)/\ρ 4=(NI f:AbI)/\ρ 5=(NI n:AbI)/\ρ 6=(NI (1+k):AbI)/\ρ 7=(NI 0:AbI)/\ρ 8=(bq:AbI)/\ρ 9=(ah:AbI)/\ρ 10=(.map (some ab):AbI)/\ρ 85=(.agg ((Ba (s.ids)).map fun x=>NI x).toArray:AbI)/\ρ 86=(NI m:AbI)/\Ext w wz/\Ext br wz/\MapF rk Bz (fun id:Ah5 =>id.length=32) wz ab s.M/\Ext bc wz/\(m<=256)/\(∀j,j<m->D5 (b.drop (f+4*j))=(Ba s.ids).getD j 0)/\True) (fun ρ _=>256-(intOf (ρ 86)).toNat) ⟨0,rfl,rfl,rfl,rfl,rfl,rfl,rfl,rfl,rfl,rfl,rfl,rfl,hE,p,hm64,t,Ack _,fun j hj=>absurd hj (Ads _),trivial⟩ ?_;clear hE hm64;rintro fd ik ⟨m,T0,T2,T3,T4,T5,T6,T7,T8,T9,af,ax,ai,hE,p,hm64,t,hm,hfan,-⟩;have q86:=ai;refine gS (XQ (a:=(m:Nat)) (b:=(256:Nat)) ai rfl (AK _ _ _ _) ?_);refine cD rfl (fun fe=> ?_) fun fe=> ?_
     ·refine gS (ZX (l:=Ba (s.ids)) (i:=m) D6 Tk rfl G2 ax ai (by omega) (by rw[BR]) (gS (XR (xv:=NI 4) (yv:=NI m) rfl ai rfl (Ci _ _ _ (by omega)) (gS (XR (xv:=NI f) (yv:=NI ((4)*(m))) T4 rfl rfl (Ah _ _ _ (by omega)) (gS (Yn (xs:=b) (l:=(f)+((4)*(m))) F7 PO T0 (hr.keep hE) rfl (by omega) fun ff fg ha89=>(gS (XX FT rfl (((show Calls _ _ _ _ (fun e w2=>e = .returned (NI (D5 (b.drop (f+4*m))))/\Ext _ w2)from by skip;exact DP _ ff (b.drop ((f)+((4)*(m)))) fg (by simp only[Ab6];omega))).mono ?_))))))))));rintro e il ⟨rfl,db⟩;refine⟨_,rfl,?_⟩;refine gS (XQ (a:=(D5 (b.drop (f+4*m)):Nat)) (b:=((Ba (s.ids)).getD (m) 0:Nat)) rfl rfl (AI _ _ _ _) (gP (X8 FR rfl rfl ?_)));refine Aq (AS _ (decide ((D5 (b.drop (f+4*m)):Nat)=((Ba (s.ids)).getD (m) 0))) 6) ?_ ?_;rotate_left
      ·rintro ch im ⟨rfl,hb,hx⟩;refine Au ?_;have hno:=of_decide_eq_false hb;have hE:=hE.trans db;exact .inr ⟨_,rfl,6,hP3.trans (if_neg (fun h=>hno (Vu h (by omega)))),rfl,hE.trans hx⟩
      rintro v_ io ⟨rfl,fh,fi⟩;have fj:=of_decide_eq_true fh;have hZ1:=db.trans fi;have hE:=hE.trans hZ1;have p:=p.trans hZ1;have hm64:=hm64.keep hZ1;have t:=t.trans hZ1;refine gS (XR (xv:=NI m) (yv:=NI 1) ai rfl rfl (Ah _ _ _ (by omega)) (gK (Acr ⟨m+1,T0,T2,T3,T4,T5,T6,T7,T8,T9,af,ax,rfl,hE,p,hm64,t,by omega,fun j hj=>by by_cases e:j=m;subst e;exact fj;exact hfan j (by omega),trivial⟩ ?_)));show 256-(intOf (NI ((m)+(1)))).toNat<256-(intOf (fd 86)).toNat;rw[q86];simp only[intOf,Ab0];omega
     have hfb:=fanB_of (fun j hj=>hfan j (by omega));have hP4:Cu b=(if KG (es.map Aci) s.plain.M=true then Gz (KE s.plain.M) s.plain.ids else .error 6):=hP3.trans (if_pos hfb);refine gS (X6 FS (XW (au.keep p) T8) (gL (fun(ρ:Ac) (wz:AbJ)=>∃q:Nat,ρ 0=(v:AbI)/\ρ 2=(.pointer none:AbI)/\ρ 3=(NI ((b.length)-(36)):AbI)/\ρ 4=(NI f:AbI)/\ρ 5=(NI n:AbI)/\ρ 6=(NI (1+k):AbI)/\ρ 7=(NI 0:AbI)/\ρ 8=(bq:AbI)/\ρ 9=(ah:AbI)/\ρ 10=(.map (some ab):AbI)/\ρ 85=(.agg ((Ba (s.ids)).map fun x=>NI x).toArray:AbI)/\ρ 86=(NI m:AbI)/\ρ 101=(bq:AbI)/\ρ 102=(NI es.length:AbI)/\ρ 103=(NI q:AbI)/\Ext w wz/\Ext br wz/\MapF rk Bz (fun id:Ah5 =>id.length=32) wz ab s.M/\Ext bc wz/\(q<=es.length)/\(∀j,j<q->(es.getD j dEnt).1.based=true->s.M (es.getD j dEnt).1.base≠none)/\True) (fun ρ _=>es.length-(intOf (ρ 103)).toNat) ⟨0,T0,T2,T3,T4,T5,T6,T7,T8,T9,af,ax,ai,T8,rfl,rfl,hE,p,hm64,t,Ack _,fun j hj=>absurd hj (Ads _),trivial⟩ ?_));clear hE p hm64 t;rintro cw b9 ⟨q,T0,T2,T3,T4,T5,T6,T7,T8,T9,af,ax,ai,ay,be,am,hE,p,hm64,t,hq,hbs,-⟩;have q103:=am;refine gS (XQ (a:=(q:Nat)) (b:=(es.length:Nat)) am be (AK _ _ _ _) ?_);refine cD rfl (fun dc=> ?_) fun dc=> ?_
     ·have hc2_:q<es.length:=dc;have hcl:=hok _ (AO dEnt (l:=es) (i:=q) hc2_);rcases hl:s.M (es.getD (q) dEnt).1.base with _ | c
      ·rcases hbx:(es.getD (q) dEnt).1.based with _ | _
       ·have fk:(entC (es.getD (q) dEnt)).length=35:=(Aa6 (au.keep p) dEnt (by omega));refine gS (X9 FS OH (by decide) dEnt (XW (au.keep p) ay) am (by omega) fun ip de=>(gS (Yg (Yc de rfl) (KA).choose_spec rfl (by rw[fk];exact EA) (gS (Aa3 Hx fun df fl fm dh di iq=> ?_)))));have bf:=AaY b9;have ir:=hE.size;have iu:=p.size;have iv:=t.size;have iw:=As hm64.lt fm;have a5:=dh;clear dh;have ix:df<fl.heap.size:=by omega
        refine gS (XT (vr (PQ df 0) rfl) (vr (.agg (entC (es.getD (q) dEnt)).toArray) rfl) a5 (Br (x:=((es.getD (q) dEnt):Ai)) (y:=(dEnt:Ai)) hcl.2 (by simp[dEnt])) (Be (x:=((es.getD (q) dEnt):Ai)) EA hcl.2) (Bx (x:=((es.getD (q) dEnt):Ai)) (Aa8 hcl.1).2) fun fn dj dk iy=> ?_);have hm64:=hm64.keep di;have hm64:=Aa2 hm64 dk (Am (by omega));clear a5;have a5:=dj;clear dj;have iz:=bl a5;clear de;refine gS (Aa0 Nu rfl (gS (Ym rfl (Ep (x:=((es.getD (q) dEnt):Ai)) a5) U7 rfl (by rw[AbZ,hcl.2];exact Rl) (gS (YC (ek:=rk) (ev:=Bz) (D:=(fun id:Ah5 =>id.length=32)) Ce Cf (fun _ _=>B9) KC (z:=Bz dEnt) Db af rfl hm64 hcl.2 hl (gS (AaZ (vs:= [.agg (entC (dEnt)).toArray, .bool (false)]) rfl rfl (gS (AaZ (vs:= [.agg (entC (dEnt)).toArray, .bool (false)]) rfl rfl (gS (Aa3 Hx fun dl fo fp dm bu i0=> ?_)))))))))));have bv:=AaY fn;have bf:=bf.trans di;have bf:=Ab bf dk (AbM (AbO _) (by omega));have hE:=hE.trans bf;have p:=p.trans bf;have t:=t.trans bf;have fq:=hE.size;have fr:=p.size;have fs:=t.size;have i1:=As hm64.lt fp;have ca:=dm;clear dm;have i2:dl<fo.heap.size:=by omega
        refine gS (XT (vr (PQ dl 0) rfl) (vr (.agg (entC (dEnt)).toArray) rfl) ca (Br (x:=((dEnt):Ai)) (y:=(dEnt:Ai)) (by simp[dEnt]) (by simp[dEnt])) (Be (x:=((dEnt):Ai)) EA (by simp[dEnt])) (Bx (x:=((dEnt):Ai)) rfl) fun i3 dn bw i4=> ?_);have hm64:=hm64.keep bu;have hm64:=Aa2 hm64 bw (Am (by omega));clear ca;have ca:=dn;clear dn;have i5:=bl ca;have bv:=bv.trans bu;have bv:=Ab bv bw (AbM (AbO _) (by omega));have a5:=eb bv a5;refine gS (Aa0 Gb rfl (gS (XP JO rfl rfl (cellAt a5 ((show(entC ((es.getD (q) dEnt)))[1]? =some (.bool false:AbI)from congrArg (fun b=>some (Acs b)) hbx))) (gS (Yz rfl (gS (XY rfl rfl (gP (X8 FR rfl rfl ?_)))))))));refine Aq (AS _ (true) 6) ?_ ?_;rotate_left
        ·rintro ch i6 ⟨rfl,hb,hx⟩;refine Au ?_;cases hb
        rintro v_ i7 ⟨rfl,i8,cb⟩;have hE:=hE.trans bu;have hE:=Ab hE bw (AbM fq (by omega));have hE:=hE.trans cb;have p:=p.trans bu;have p:=Ab p bw (AbM fr (by omega));have p:=p.trans cb;have t:=t.trans bu;have t:=Ab t bw (AbM fs (by omega));have t:=t.trans cb;have hm64:=hm64.keep cb;refine gS (XR (xv:=NI q) (yv:=NI 1) am rfl rfl (Ah _ _ _ (by omega)) (gK (Acr ⟨q+1,T0,T2,T3,T4,T5,T6,T7,T8,T9,af,ax,ai,ay,be,rfl,hE,p,hm64,t,by omega,fun j hj=>by by_cases e:j=q;subst e;exact(fun hbt=>by rw[hbx]at hbt;cases hbt);exact hbs j (by omega),trivial⟩ ?_)));show es.length-(intOf (NI ((q)+(1)))).toNat<es.length-(intOf (cw 103)).toNat;rw[q103];simp only[intOf,Ab0];omega
       have ft:(entC (es.getD (q) dEnt)).length=35:=(Aa6 (au.keep p) dEnt (by omega));refine gS (X9 FS OH (by decide) dEnt (XW (au.keep p) ay) am (by omega) fun i9 dp=>(gS (Yg (Yc dp rfl) (KA).choose_spec rfl (by rw[ft];exact EA) (gS (Aa3 Hx fun dq fu fv dr ds ja=> ?_)))));have bg:=AaY b9;have jb:=hE.size;have jc:=p.size;have jd:=t.size;have je:=As hm64.lt fv;have a6:=dr;clear dr;have jf:dq<fu.heap.size:=by omega
       refine gS (XT (vr (PQ dq 0) rfl) (vr (.agg (entC (es.getD (q) dEnt)).toArray) rfl) a6 (Br (x:=((es.getD (q) dEnt):Ai)) (y:=(dEnt:Ai)) hcl.2 (by simp[dEnt])) (Be (x:=((es.getD (q) dEnt):Ai)) EA hcl.2) (Bx (x:=((es.getD (q) dEnt):Ai)) (Aa8 hcl.1).2) fun fw dt du jg=> ?_);have hm64:=hm64.keep ds;have hm64:=Aa2 hm64 du (Am (by omega));clear a6;have a6:=dt;clear dt;have jh:=bl a6;clear dp;refine gS (Aa0 Nu rfl (gS (Ym rfl (Ep (x:=((es.getD (q) dEnt):Ai)) a6) U7 rfl (by rw[AbZ,hcl.2];exact Rl) (gS (YC (ek:=rk) (ev:=Bz) (D:=(fun id:Ah5 =>id.length=32)) Ce Cf (fun _ _=>B9) KC (z:=Bz dEnt) Db af rfl hm64 hcl.2 hl (gS (AaZ (vs:= [.agg (entC (dEnt)).toArray, .bool (false)]) rfl rfl (gS (AaZ (vs:= [.agg (entC (dEnt)).toArray, .bool (false)]) rfl rfl (gS (Aa3 Hx fun dv fx fy dw cx ji=> ?_)))))))))));have bx:=AaY fw;have bg:=bg.trans ds;have bg:=Ab bg du (AbM (AbO _) (by omega));have hE:=hE.trans bg;have p:=p.trans bg;have t:=t.trans bg;have fz:=hE.size;have jj:=p.size;have jk:=t.size;have jl:=As hm64.lt fy;have cc:=dw;clear dw;have jm:dv<fx.heap.size:=by omega
       refine gS (XT (vr (PQ dv 0) rfl) (vr (.agg (entC (dEnt)).toArray) rfl) cc (Br (x:=((dEnt):Ai)) (y:=(dEnt:Ai)) (by simp[dEnt]) (by simp[dEnt])) (Be (x:=((dEnt):Ai)) EA (by simp[dEnt])) (Bx (x:=((dEnt):Ai)) rfl) fun jn dx cy jo=> ?_);have hm64:=hm64.keep cx;have hm64:=Aa2 hm64 cy (Am (by omega));clear cc;have cc:=dx;clear dx;have jp:=bl cc;have bx:=bx.trans cx;have bx:=Ab bx cy (AbM (AbO _) (by omega));have a6:=eb bx a6;refine gS (Aa0 Gb rfl (gS (XP JO rfl rfl (cellAt a6 ((show(entC ((es.getD (q) dEnt)))[1]? =some (.bool true:AbI)from congrArg (fun b=>some (Acs b)) hbx))) (gS (Yz rfl (gS (X2 rfl rfl (gP (X8 FR rfl rfl ?_)))))))));refine Aq (AS _ (false) 6) ?_ ?_;rotate_left
       ·rintro ch jq ⟨rfl,hb,hx⟩;refine Au ?_;have hE:=hE.trans cx;have hE:=Ab hE cy (AbM fz (by omega));exact .inr ⟨_,rfl,6,hP4.trans (if_neg (fun h=>Sa h hc2_ hbx hl)),rfl,hE.trans hx⟩
       rintro v_ jr ⟨rfl,f0,js⟩;cases f0
      have hcx:=hMO _ c hl;rcases hbx:(es.getD (q) dEnt).1.based with _ | _
      ·have f1:(entC (es.getD (q) dEnt)).length=35:=(Aa6 (au.keep p) dEnt (by omega));refine gS (X9 FS OH (by decide) dEnt (XW (au.keep p) ay) am (by omega) fun jt dy=>(gS (Yg (Yc dy rfl) (KA).choose_spec rfl (by rw[f1];exact EA) (gS (Aa3 Hx fun dz f2 f3 d0 d1 ju=> ?_)))));have bh:=AaY b9;have jv:=hE.size;have jw:=p.size;have jx:=t.size;have jy:=As hm64.lt f3;have a7:=d0;clear d0;have jz:dz<f2.heap.size:=by omega
       refine gS (XT (vr (PQ dz 0) rfl) (vr (.agg (entC (es.getD (q) dEnt)).toArray) rfl) a7 (Br (x:=((es.getD (q) dEnt):Ai)) (y:=(dEnt:Ai)) hcl.2 (by simp[dEnt])) (Be (x:=((es.getD (q) dEnt):Ai)) EA hcl.2) (Bx (x:=((es.getD (q) dEnt):Ai)) (Aa8 hcl.1).2) fun f4 d2 d3 j0=> ?_);have hm64:=hm64.keep d1;have hm64:=Aa2 hm64 d3 (Am (by omega));clear a7;have a7:=d2;clear d2;have j1:=bl a7;clear dy;refine gS (Aa0 Nu rfl (gS (Ym rfl (Ep (x:=((es.getD (q) dEnt):Ai)) a7) U7 rfl (by rw[AbZ,hcl.2];exact Rl) (gS (Yw (ek:=rk) (ev:=Bz) (D:=(fun id:Ah5 =>id.length=32)) Ce Cf (fun _ _=>B9) KC (z:=Bz dEnt) Db af rfl hm64 hcl.2 hl (gS (AaZ (vs:= [.agg (entC (c)).toArray, .bool (true)]) rfl rfl (gS (AaZ (vs:= [.agg (entC (c)).toArray, .bool (true)]) rfl rfl (gS (Aa3 Hx fun d4 f5 f6 d5 bz j2=> ?_)))))))))));have b0:=AaY f4;have bh:=bh.trans d1;have bh:=Ab bh d3 (AbM (AbO _) (by omega));have hE:=hE.trans bh;have p:=p.trans bh;have t:=t.trans bh;have f7:=hE.size;have f8:=p.size;have f9:=t.size;have j3:=As hm64.lt f6;have cd:=d5;clear d5;have j4:d4<f5.heap.size:=by omega
       refine gS (XT (vr (PQ d4 0) rfl) (vr (.agg (entC (c)).toArray) rfl) cd (Br (x:=((c):Ai)) (y:=(dEnt:Ai)) hcx.2.1 (by simp[dEnt])) (Be (x:=((c):Ai)) EA hcx.2.1) (Bx (x:=((c):Ai)) (Aa8 hcx.1).2) fun j5 d6 b1 j6=> ?_);have hm64:=hm64.keep bz;have hm64:=Aa2 hm64 b1 (Am (by omega));clear cd;have cd:=d6;clear d6;have j7:=bl cd;have b0:=b0.trans bz;have b0:=Ab b0 b1 (AbM (AbO _) (by omega));have a7:=eb b0 a7;refine gS (Aa0 Gb rfl (gS (XP JO rfl rfl (cellAt a7 ((show(entC ((es.getD (q) dEnt)))[1]? =some (.bool false:AbI)from congrArg (fun b=>some (Acs b)) hbx))) (gS (Yz rfl (gS (XY rfl rfl (gP (X8 FR rfl rfl ?_)))))))));refine Aq (AS _ (true) 6) ?_ ?_;rotate_left
       ·rintro ch j8 ⟨rfl,hb,hx⟩;refine Au ?_;cases hb
       rintro v_ j9 ⟨rfl,ka,ce⟩;have hE:=hE.trans bz;have hE:=Ab hE b1 (AbM f7 (by omega));have hE:=hE.trans ce;have p:=p.trans bz;have p:=Ab p b1 (AbM f8 (by omega));have p:=p.trans ce;have t:=t.trans bz;have t:=Ab t b1 (AbM f9 (by omega));have t:=t.trans ce;have hm64:=hm64.keep ce;refine gS (XR (xv:=NI q) (yv:=NI 1) am rfl rfl (Ah _ _ _ (by omega)) (gK (Acr ⟨q+1,T0,T2,T3,T4,T5,T6,T7,T8,T9,af,ax,ai,ay,be,rfl,hE,p,hm64,t,by omega,fun j hj=>by by_cases e:j=q;subst e;exact(fun hbt=>by rw[hbx]at hbt;cases hbt);exact hbs j (by omega),trivial⟩ ?_)));show es.length-(intOf (NI ((q)+(1)))).toNat<es.length-(intOf (cw 103)).toNat;rw[q103];simp only[intOf,Ab0];omega
      have ga:(entC (es.getD (q) dEnt)).length=35:=(Aa6 (au.keep p) dEnt (by omega));refine gS (X9 FS OH (by decide) dEnt (XW (au.keep p) ay) am (by omega) fun kc d7=>(gS (Yg (Yc d7 rfl) (KA).choose_spec rfl (by rw[ga];exact EA) (gS (Aa3 Hx fun d8 gb gc d9 ea kd=> ?_)))));have bi:=AaY b9;have ke:=hE.size;have kf:=p.size;have kg:=t.size;have kh:=As hm64.lt gc;have a8:=d9;clear d9;have ki:d8<gb.heap.size:=by omega
      refine gS (XT (vr (PQ d8 0) rfl) (vr (.agg (entC (es.getD (q) dEnt)).toArray) rfl) a8 (Br (x:=((es.getD (q) dEnt):Ai)) (y:=(dEnt:Ai)) hcl.2 (by simp[dEnt])) (Be (x:=((es.getD (q) dEnt):Ai)) EA hcl.2) (Bx (x:=((es.getD (q) dEnt):Ai)) (Aa8 hcl.1).2) fun gd ec ed kj=> ?_);have hm64:=hm64.keep ea;have hm64:=Aa2 hm64 ed (Am (by omega));clear a8;have a8:=ec;clear ec;have kl:=bl a8;clear d7;refine gS (Aa0 Nu rfl (gS (Ym rfl (Ep (x:=((es.getD (q) dEnt):Ai)) a8) U7 rfl (by rw[AbZ,hcl.2];exact Rl) (gS (Yw (ek:=rk) (ev:=Bz) (D:=(fun id:Ah5 =>id.length=32)) Ce Cf (fun _ _=>B9) KC (z:=Bz dEnt) Db af rfl hm64 hcl.2 hl (gS (AaZ (vs:= [.agg (entC (c)).toArray, .bool (true)]) rfl rfl (gS (AaZ (vs:= [.agg (entC (c)).toArray, .bool (true)]) rfl rfl (gS (Aa3 Hx fun ee ge gf ef b2 km=> ?_)))))))))));have b3:=AaY gd;have bi:=bi.trans ea;have bi:=Ab bi ed (AbM (AbO _) (by omega));have hE:=hE.trans bi;have p:=p.trans bi;have t:=t.trans bi;have gg:=hE.size;have gh:=p.size;have gi:=t.size;have kn:=As hm64.lt gf;have cf:=ef;clear ef;have ko:ee<ge.heap.size:=by omega
      refine gS (XT (vr (PQ ee 0) rfl) (vr (.agg (entC (c)).toArray) rfl) cf (Br (x:=((c):Ai)) (y:=(dEnt:Ai)) hcx.2.1 (by simp[dEnt])) (Be (x:=((c):Ai)) EA hcx.2.1) (Bx (x:=((c):Ai)) (Aa8 hcx.1).2) fun kp eg b4 kq=> ?_);have hm64:=hm64.keep b2;have hm64:=Aa2 hm64 b4 (Am (by omega));clear cf;have cf:=eg;clear eg;have kr:=bl cf;have b3:=b3.trans b2;have b3:=Ab b3 b4 (AbM (AbO _) (by omega));have a8:=eb b3 a8;refine gS (Aa0 Gb rfl (gS (XP JO rfl rfl (cellAt a8 ((show(entC ((es.getD (q) dEnt)))[1]? =some (.bool true:AbI)from congrArg (fun b=>some (Acs b)) hbx))) (gS (Yz rfl (gS (X2 rfl rfl (gP (X8 FR rfl rfl ?_)))))))));refine Aq (AS _ (true) 6) ?_ ?_;rotate_left
      ·rintro ch ks ⟨rfl,hb,hx⟩;refine Au ?_;cases hb
      rintro v_ kt ⟨rfl,ku,cg⟩;have hE:=hE.trans b2;have hE:=Ab hE b4 (AbM gg (by omega));have hE:=hE.trans cg;have p:=p.trans b2;have p:=Ab p b4 (AbM gh (by omega));have p:=p.trans cg;have t:=t.trans b2;have t:=Ab t b4 (AbM gi (by omega));have t:=t.trans cg;have hm64:=hm64.keep cg;refine gS (XR (xv:=NI q) (yv:=NI 1) am rfl rfl (Ah _ _ _ (by omega)) (gK (Acr ⟨q+1,T0,T2,T3,T4,T5,T6,T7,T8,T9,af,ax,ai,ay,be,rfl,hE,p,hm64,t,by omega,fun j hj=>by by_cases e:j=q;subst e;exact(fun _ hn=>by rw[hl]at hn;cases hn);exact hbs j (by omega),trivial⟩ ?_)));show es.length-(intOf (NI ((q)+(1)))).toNat<es.length-(intOf (cw 103)).toNat;rw[q103];simp only[intOf,Ab0];omega
     have hbb:=Sb (fun j hj=>hbs j (by omega));have hP5:Cu b=Gz (KE s.plain.M) s.ids:=hP4.trans (if_pos hbb);refine gS (YJ rk Ch (fun id:Ah5 =>id.length=32) fun aj gj gk aq ci kv=> ?_);have kw:=hE.size;have kx:=p.size;have ky:=t.size;have kz:=As hm64.lt gk;have k0:aj<gj.heap.size:=by omega
     refine gS (YD af (vr (.map (some aj)) rfl) (fun w=>KI (ab) (aj) w) (gS (Abh (cs:=([.map (some ab), .map (some aj)]:List AbI).toArray) (show _=(.agg ([.map (some ab), .map (some aj)]).toArray:AbI)from rfl) fun bj gl eh ei b5 k1=> ?_)));have hE:=hE.trans ci;have p:=p.trans ci;have t:=t.trans ci;have k2:=hE.size;have k3:=p.size;have k4:=t.size;have hm64:=hm64.keep ci;have k5:=As hm64.lt eh;have k6:=As aq.lt eh;have aa:=ei;clear ei;have k7:bj<gl.heap.size:=by omega
     refine gS (YJ rk Ch (fun id:Ah5 =>id.length=32) fun ak gm cz b6 bs k8=> ?_);have hE:=hE.trans b5;have p:=p.trans b5;have t:=t.trans b5;have k9:=hE.size;have la:=p.size;have lb:=t.size;have hm64:=hm64.keep b5;have lc:=As hm64.lt cz;have aq:=aq.keep b5;have ld:=As aq.lt cz;have le:ak<gm.heap.size:=by omega
     have hlo_bo:w.heap.size<=ak:=by omega
     have t:=t.trans bs;refine gS (YD T9 (vr (.map (some ak)) rfl) (fun w=>KJ (RG.slice (bd.keep t)) (ak) w) (gS (Abh (cs:=([ah, .map (some ak)]:List AbI).toArray) (show _=(.agg ([ah, .map (some ak)]).toArray:AbI)from rfl) fun bt gn cj ej bk lf=> ?_)));have hE:=hE.trans bs;have p:=p.trans bs;have lg:=hE.size;have lh:=p.size;have li:=t.size;have hm64:=hm64.keep bs;have lj:=As hm64.lt cj;have aq:=aq.keep bs;have lk:=As aq.lt cj;have ll:=As b6.lt cj;have ag:=ej;clear ej;have lm:bt<gn.heap.size:=by omega
     have hlo_gp:w.heap.size<=bt:=by omega
     have ln:=As (bl aa) cz;have aa:=eb bs aa;have lo:=As (bl aa) cj;have aa:=eb bk aa;have hE:=hE.trans bk;have p:=p.trans bk;have hm64:=hm64.keep bk;have t:=t.trans bk;have aq:=aq.keep bk;have b6:=b6.keep bk;refine gS (X6 Nd (XW (bd.keep t) T9) (gL (fun(ρ:Ac) (wz:AbJ)=>∃i:Nat,∃st:H0,∃H:Bs->Option Cp,∃O:Bs->Option Cp,ρ 0=(v:AbI)/\ρ 2=(.pointer none:AbI)/\ρ 3=(NI ((b.length)-(36)):AbI)/\ρ 4=(NI f:AbI)/\ρ 5=(NI n:AbI)/\ρ 6=(NI (1+k):AbI)/\ρ 7=(NI 0:AbI)/\ρ 8=(bq:AbI)/\ρ 9=(ah:AbI)/\ρ 10=(.map (some ab):AbI)/\ρ 17=(PQ bj 0:AbI)/\ρ 18=(PQ bt 0:AbI)/\ρ 85=(.agg ((Ba (s.ids)).map fun x=>NI x).toArray:AbI)/\ρ 86=(NI m:AbI)/\ρ 101=(bq:AbI)/\ρ 102=(NI es.length:AbI)/\ρ 103=(NI q:AbI)/\ρ 130=(ah:AbI)/\ρ 131=(NI ((s.ids).length):AbI)/\ρ 132=(NI i:AbI)/\ρ 19=(NI st.total:AbI)/\Ext w wz/\Ext br wz/\MapF rk Bz (fun id:Ah5 =>id.length=32) wz ab s.M/\Ext bc wz/\wz.heap[bj]? =some (.cells ([.map (some ab), .map (some aj)]).toArray 212 (0,0))/\wz.heap[bt]? =some (.cells ([ah, .map (some ak)]).toArray 163 (0,0))/\HOk wz s.M H/\OOk wz O/\MapF rk Ch (fun id:Ah5 =>id.length=32) wz aj (H)/\MapF rk Ch (fun id:Ah5 =>id.length=32) wz ak (O)/\(Dx (AD s.M) s.ids i = .ok st)/\(i<=s.ids.length)/\((fun k=>(O k).map Aci)=st.O)/\(st.total<=4194304)/\(NewM w.heap.size H)/\(NewM w.heap.size O)/\True) (fun ρ _=>s.ids.length-(intOf (ρ 132)).toNat) ⟨0,⟨0,fun _=>none⟩,fun _=>none,fun _=>none,T0,T2,T3,T4,T5,T6,T7,T8,T9,af,rfl,rfl,ax,ai,ay,be,am,T9,rfl,rfl,rfl,hE,p,hm64,t,aa,ag,HOk.nil,OOk.nil _,B5 aq (rfl),B5 b6 (rfl),rfl,Ack _,rfl,Ack _,NewM.none _,NewM.none _,trivial⟩ ?_));clear aq;clear b6;clear hE p hm64 t aa ag;rintro go gp ⟨i,st,H,O,T0,T2,T3,T4,T5,T6,T7,T8,T9,af,c0,c1,ax,ai,ay,be,am,el,em,ck,gq,hE,p,hm64,t,aa,ag,hHO,hOO,hb332l,hb367l,hs,hi,hO,htot,hNH,hNO,-⟩;have q132:=ck;refine gS (XQ (a:=(i:Nat)) (b:=((s.ids).length:Nat)) ck em (AK _ _ _ _) ?_);refine cD rfl (fun en=> ?_) fun en=> ?_
     ·have hc3_:i<s.ids.length:=en;have hid32:(s.ids.getD i []).length=32:=by have:=Aa6 (bd.keep t) ([]:Ah5) hc3_;rwa [AbZ]at this
      have oerr:∀c,Dc (AD s.M) (s.ids.getD i []) st = .error c->Cu b = .error c:=fun c hc=>by rw[hP5];unfold Gz;rw[<-Jq];have h1:=Gy ((E0 hs).trans hc) (s.ids.length-(i+1));rw[show i+1+(s.ids.length-(i+1))=s.ids.length by omega]at h1;show(match Dx (AD s.M) s.ids s.ids.length with | .error e=>_ | .ok o=>_)=_;rw[h1]
      have a9:(AbK ((s.ids).getD (i) ([]:Ah5))).length=32:=(Aa6 (bd.keep t) ([]:Ah5) (by omega));refine gS (X9 Nd RA (by decide) ([]:Ah5) (XW (bd.keep t) el) ck (by omega) fun lp eo=>(gS (Yg (Yc eo rfl) U7 rfl (by rw[a9];exact Rl) (gS (Aa3 Tn fun cl gr c2 ep cm lq=> ?_)))));have ad:=AaY gp;have lr:=hE.size;have ls:=p.size;have lu:=t.size;have lv:=As hm64.lt c2;have lw:=As hb332l.lt c2;have lx:=As hb367l.lt c2;have ac:=ep;clear ep;have ly:cl<gr.heap.size:=by omega
      refine gS (XT (vr (PQ cl 0) rfl) (vr (AB ((s.ids).getD (i) ([]:Ah5))) rfl) ac (by exact BC (AC (a9)) Ab8) (by exact Ad (AC (a9))) (Ag _) fun lz eq cn l0=> ?_);have hm64:=hm64.keep cm;have hm64:=Aa2 hm64 cn (Am (by omega));have hb332l:=hb332l.keep cm;have hb332l:=Aa2 hb332l cn (Am (by omega));have hb367l:=hb367l.keep cm;have hb367l:=Aa2 hb367l cn (Am (by omega));clear ac;have ac:=eq;clear eq;have l3:=bl ac;clear eo;have ad:=ad.trans cm;have ad:=Ab ad cn (AbM (AbO _) (by omega));have aa:=eb ad aa;have t:=t.trans ad;refine gS (XU rfl ac U7 rfl (by exact Ad (AC (a9))) (gP (X8 Qn c0 rfl ?_)));refine Aq (Qh _ bj ab aj s.M aa hm64 (hMO.keep t) (s.ids.getD i []) hid32) ?_ ?_;rotate_left
      ·rintro ch l4 ⟨hno,rfl,hx⟩;refine Au ?_;have hE:=hE.trans ad;exact .inr ⟨_,rfl,17,oerr 17 (KF hno),rfl,hE.trans hx⟩
      rintro v_ gs ⟨dd,hdp,rfl,bm⟩;have hdle:=KH hdp;have ad:=ad.trans bm;have hE:=hE.trans ad;have hm64:=hm64.keep bm;have t:=t.trans bm;have aa:=eb bm aa;have hb332l:=hb332l.keep bm;have ac:=eb bm ac;refine gS (XU rfl ac U7 rfl (by exact Ad (AC (a9))) (gP (X8 Qi c0 rfl ?_)));refine Aq (R9 bj ab aj s.M dd _ H (s.ids.getD i []) aa hm64 hb332l (hMO.keep t) (hHO.keep ad) (by omega) hid32 hdle 50 hdp w.heap.size hNM hNH (hE).size) ?_ ?_;rotate_left
      ·rintro ch l5 ⟨hno,rfl,hx⟩;refine Au ?_;exact .inr ⟨_,rfl,6,oerr 6 (LW hdp hno),rfl,Dz hE hx hE.size (fun k hk=>by cases hk;omega)⟩
      rintro v_ ar ⟨az,bb,kk,H1,rfl,hcg,bn,hm455,hHO456,co,hNv1,hNH1⟩;have bp:=co.grown;have hm461:Eb gs aj:=(YP hb332l).noB8;have hE:Ext w ar:=Dz hE co hE.size (fun k hk=>by cases hk;omega);have p:=p.trans ad;have p:Ext br ar:=Dz p co p.size (fun k hk=>by cases hk;omega);have hm64:MapF rk Bz (fun id:Ah5 =>id.length=32) ar ab s.M:=Aa2 hm64 bp (Am (by omega));have t:Ext bc ar:=Dz t co t.size (fun k hk=>by cases hk;omega);have aa:ar.heap[bj]? =some (.cells ([.map (some ab), .map (some aj)]).toArray 212 (0,0)):=kb bp aa (by omega);have ag:=eb ad ag;have ag:ar.heap[bt]? =some (.cells ([ah, .map (some ak)]).toArray 163 (0,0)):=kb bp ag (by omega);have hHO:HOk ar s.M H:=(hHO.keep ad).keepN hm461 bp;have hOO:OOk ar O:=(hOO.keep ad).keepN hm461 bp;clear hb332l;have hb367l:=hb367l.keep bm;have hb367l:MapF rk Ch (fun id:Ah5 =>id.length=32) ar ak (O):=Aa2 hb367l bp (Am (by omega));have ac:ar.heap[cl]? =some (.cells (AbK ((s.ids).getD (i) ([]:Ah5))).toArray 33 (0,0)):=kb bp ac (by omega);have l6:=hE.size;have l7:=p.size;have l8:=t.size;have hcl:=Hy hcg;refine gS (Aa3 DI fun c3 gt c4 er cp l9=> ?_);have u:=AaY ar;have ma:=hE.size;have mb:=p.size;have mc:=t.size;have md:=As hm64.lt c4;have me:=As hb367l.lt c4;have mf:=As hm455.lt c4;have ae:=er;clear er;have mg:c3<gt.heap.size:=by omega
      have u:=u.trans cp;refine gS (XT (vr (PQ c3 0) rfl) (vr (.agg ([az,NI kk]).toArray) rfl) ae rfl (show(Tryz.prog.info? 215).map (·.size)=some 2 from Bi) (Cn (Aa8 (bn.keep u)).2) fun mh et cq mi=> ?_);have hm64:=hm64.keep cp;have hm64:=Aa2 hm64 cq (Am (by omega));have hb367l:=hb367l.keep cp;have hb367l:=Aa2 hb367l cq (Am (by omega));have hm455:=hm455.keep cp;have hm455:=Aa2 hm455 cq (Am (by omega));clear ae;have ae:=et;clear et;have mj:=bl ae;refine DZ [0,1,4,2,3,5,6] [2,3,6] [] [4] fun gu c5=> ?_;have cr:=AaY gu;have u:=Ab u cq (AbM (AbO _) (by omega));have u:=u.trans c5;have ac:=eb u ac;have ae:=eb c5 ae;refine DS cr ?_;refine ys (Aa0 Gh rfl zz) (ys (XP F7 rfl rfl (cellAt ae rfl) zz) (yf (fun _ ⟨hZ,_⟩=>XU rfl (eb hZ ac) U7 rfl (by exact Ad (AC (a9))) zz) (yE (YA Ga (XV (bn.keep u) (vr az rfl)) fun gv gw eu ct=> ?_))));have cr:=cr.trans ct;refine⟨cr,?_⟩;have c6:=AaY gw;have u:=u.trans ct;have hE:=hE.trans u;refine yE (XX JM rfl ((F0 _ (hG.keep hE) gv (bb) eu (by omega)).mono ?_));rintro e mk ⟨rfl,b7⟩;refine⟨_,rfl,?_⟩;have c6:=c6.trans b7;refine⟨c6,?_⟩;refine ys (ZD (l1:=(Sha.sum (bb))) (l2:=((s.ids).getD (i) ([]:Ah5))) U7 u5 PO Sc rfl rfl ((Sha.sum_length _)) (hid32) zz) (XK rfl (X8 FR rfl rfl ?_));refine Aq (AS _ (decide ((Sha.sum (bb))=((s.ids).getD (i) ([]:Ah5)))) 18) ?_ ?_;rotate_left
      ·rintro ch ml ⟨rfl,hb,hx⟩;refine Au ?_;have hno:=of_decide_eq_false hb;have hE:=hE.trans b7;exact .inr ⟨_,rfl,18,oerr 18 ((EZ hdp hcg).trans (if_neg hno)),rfl,hE.trans hx⟩
      rintro v_ mm ⟨rfl,gx,c7⟩;have gy:=of_decide_eq_true gx;have hsum:=gy;have hZ2:=(ct.trans b7).trans c7;have ae:=eb hZ2 ae;have hZ3:=b7.trans c7;have u:=u.trans hZ3;refine gS (Aa0 Gh rfl (gS (XP F7 rfl rfl (cellAt ae rfl) (gS (XZ F7 (XV (bn.keep u) rfl) (gS (XR (xv:=NI st.total) (yv:=NI bb.length) gq rfl rfl (Ah _ _ _ (by omega)) (gS (XQ (a:=((st.total)+(bb.length):Nat)) (b:=(4194304:Nat)) rfl rfl (Dw _ _ _ _) (gP (X8 FR rfl rfl ?_)))))))))));refine Aq (AS _ (decide (((st.total)+(bb.length))<=(4194304))) 2) ?_ ?_;rotate_left
      ·rintro ch mn ⟨rfl,hb,hx⟩;refine Au ?_;have hno:=of_decide_eq_false hb;have hE:=hE.trans hZ3;exact .inr ⟨_,rfl,2,oerr 2 ((EZ hdp hcg).trans ((if_pos hsum).trans (if_neg hno))),rfl,hE.trans hx⟩
      rintro v_ mo ⟨rfl,gz,cu⟩;have ew:=of_decide_eq_true gz;refine CA [0,1,2,3,4,5,6,7,8,9] [9] [] fun g0 cv=> ?_;have hZ4:=cu.trans cv;have u:=u.trans hZ4;have ag:=eb u ag;have hZ5:=((((c5.trans ct).trans b7).trans c7).trans cu).trans cv;have hb367l:=hb367l.keep hZ5;have ac:=eb ((hZ2.trans cu).trans cv) ac;have ae:=eb hZ4 ae;refine ys (Aa1 c1 zz) (ys (Aa0 NA rfl zz) (ys (XP CH rfl rfl (cellAt ag rfl) zz) (ys (XU rfl ac U7 rfl (by exact Ad (AC (a9))) zz) (ys (Aa0 Gh rfl zz) (ys (XP F7 rfl rfl (cellAt ae rfl) zz) (ys (YD (vr az rfl) (vr (NI dd) rfl) (fun w=>KD (Abr (bn.keep u)) (((dd:Nat):Int)) w) zz) (yC (YG (ek:=rk) (ev:=Ch) (D:=(fun id:Ah5 =>id.length=32)) (c:=(((bb,dd),az):Cp)) Ce Cf CH (vr (.map (some ak)) rfl) (vr (AB ((s.ids).getD (i) ([]:Ah5))) rfl) (vr (.agg ([az,NI dd]).toArray) rfl) hb367l (AC (a9)) fun an g1 ao mp=> ?_))))))));have hOO:=OOk.put (hOO.keep u) (id:=s.ids.getD i []) (x:=(((bb,dd),az):Cp)) (bn.keep u);have hm523:Eb g0 ak:=(YP hb367l).noB8;have hZ6:=(hZ3.trans cu).trans cv;have hE:=hE.trans hZ6;have hE:Ext w an:=Dz hE (Yr ao (AbO _) (fun k hk=> .inl hk)) hE.size (fun k hk=>by cases hk;omega);have p:=p.trans u;have p:Ext br an:=Dz p (Yr ao (AbO _) (fun k hk=> .inl hk)) p.size (fun k hk=>by cases hk;omega);have hm64:=hm64.keep hZ5;have hm64:MapF rk Bz (fun id:Ah5 =>id.length=32) an ab s.M:=Aa2 hm64 ao (Am (by omega));have t:=t.trans u;have t:Ext bc an:=Dz t (Yr ao (AbO _) (fun k hk=> .inl hk)) t.size (fun k hk=>by cases hk;omega);have aa:=eb u aa;have aa:an.heap[bj]? =some (.cells ([.map (some ab), .map (some aj)]).toArray 212 (0,0)):=kb ao aa (by omega);have ag:an.heap[bt]? =some (.cells ([ah, .map (some ak)]).toArray 163 (0,0)):=kb ao ag (by omega);have hOO:OOk an (updM (O) (s.ids.getD (i) ([]:Ah5)) (some ((((bb,dd),az):Cp)))):=hOO.keepN hm523 ao;clear hb367l;have ac:an.heap[cl]? =some (.cells (AbK ((s.ids).getD (i) ([]:Ah5))).toArray 33 (0,0)):=kb ao ac (by omega);have bn:RB an az bb:=(bn.keep u).keepN hm523 ao;have hm455:=hm455.keep hZ5;have hm455:MapF rk Ch (fun id:Ah5 =>id.length=32) an aj H1:=Aa2 hm455 ao (Am (by omega));have hHO456:HOk an s.M H1:=(hHO456.keep u).keepN hm523 ao;have ae:an.heap[c3]? =some (.cells ([az,NI kk]).toArray 215 (0,0)):=kb ao ae (by omega);clear eu;have mq:=hE.size;have mr:=p.size;have ms:=t.size;refine gS (XR (xv:=NI i) (yv:=NI 1) ck rfl rfl (Ah _ _ _ (by omega)) (gK (Acr ⟨i+1,⟨st.total+bb.length,updM st.O (s.ids.getD i []) (some (bb,dd))⟩,H1,updM (O) (s.ids.getD (i) ([]:Ah5)) (some ((((bb,dd),az):Cp))),T0,T2,T3,T4,T5,T6,T7,T8,T9,af,c0,c1,ax,ai,ay,be,am,el,em,rfl,rfl,hE,p,hm64,t,aa,ag,hHO456,hOO,B5 hm455 (rfl),B5 g1 (rfl),(E0 hs).trans ((EZ hdp hcg).trans ((if_pos hsum).trans (if_pos ew))),by omega,by rw[Hz,hO];rfl,ew,hNH1,NewM.put hNO _ hNv1,trivial⟩ ?_)));show s.ids.length-(intOf (NI ((i)+(1)))).toNat<s.ids.length-(intOf (go 132)).toNat;rw[q132];simp only[intOf,Ab0];omega
     have hie:i=s.ids.length:=by omega
     refine Bp rfl c1 ?_;exact .inl ⟨_,rfl,_,_,_,s.ids,O,rfl,by rw[hP5,<-Jq,Nz (by rw[<-hie];exact hs),hO],ag,(bd.keep t),hb367l,hOO,hlo_gp,hlo_bo,hNvi,hNO,hE⟩
    have hP:Cu b = .error 6:=hP0.trans (if_neg (fun h=>by have h1:=h.2;exact q3 h1.2.2));have hE:=hE.trans ba;refine gS (XS CG rfl rfl (((show Calls _ _ _ _ (fun e w2=>e = .returned (.tuple #[NI n,NI (1+k),NI 0])/\Ext _ w2)from(Ez _ v b (hr.keep hE) 1 (by omega)).mono fun e w2 ⟨h1,h2⟩=>by subst h2;subst h1;rw[hd];exact⟨rfl,AaY _⟩)).mono ?_));rintro e mt ⟨rfl,g2⟩;refine⟨_,rfl,?_⟩;have hE:=hE.trans g2;refine gS (AaZ (vs:= [NI n,NI (1+k),NI 0]) rfl rfl (gS (AaZ (vs:= [NI n,NI (1+k),NI 0]) rfl rfl (gS (AaZ (vs:= [NI n,NI (1+k),NI 0]) rfl rfl (gS (Yd (l:=b) (i:=0) F7 PO (XV (hr.keep hE) rfl) rfl (by omega) fun mu g3=>(gS (X4 u5 rfl (Yb g3 rfl) (gS (XQ (a:=((b.getD (0) 0).toNat:Nat)) (b:=(80:Nat)) rfl rfl (AI _ _ _ _) (kT (h80) (gS (XQ (a:=(0:Nat)) (b:=(0:Nat)) rfl rfl (AI _ _ _ _) (kT (rfl) (gS (XY rfl rfl (gS (XQ (a:=(f:Nat)) (b:=(1+k:Nat)) rfl rfl (Ek _ _ _ _) (kT (q1) (gS (XY rfl rfl (gS (XQ (a:=(f:Nat)) (b:=((b.length)-(36):Nat)) rfl rfl (Dw _ _ _ _) (kT (q2) (gS (XY rfl rfl (gS (XQ (a:=(n:Nat)) (b:=((b.length)-(36):Nat)) rfl rfl (Dw _ _ _ _) (kF (q3) (gS (XY rfl rfl (gP (X8 FR rfl rfl ?_))))))))))))))))))))))))))))))))));refine Aq (AS _ (false) 6) ?_ ?_;rotate_left
    ·rintro ch mv ⟨rfl,hb,hx⟩;refine Au ?_;exact .inr ⟨_,rfl,6,hP,rfl,hE.trans hx⟩
    rintro v_ mw ⟨rfl,g4,mx⟩;cases g4
   have hP:Cu b = .error 6:=hP0.trans (if_neg (fun h=>by have h1:=h.2;exact q2 h1.2.1));have hE:=hE.trans ba;refine gS (XS CG rfl rfl (((show Calls _ _ _ _ (fun e w2=>e = .returned (.tuple #[NI n,NI (1+k),NI 0])/\Ext _ w2)from(Ez _ v b (hr.keep hE) 1 (by omega)).mono fun e w2 ⟨h1,h2⟩=>by subst h2;subst h1;rw[hd];exact⟨rfl,AaY _⟩)).mono ?_));rintro e my ⟨rfl,g5⟩;refine⟨_,rfl,?_⟩;have hE:=hE.trans g5;refine gS (AaZ (vs:= [NI n,NI (1+k),NI 0]) rfl rfl (gS (AaZ (vs:= [NI n,NI (1+k),NI 0]) rfl rfl (gS (AaZ (vs:= [NI n,NI (1+k),NI 0]) rfl rfl (gS (Yd (l:=b) (i:=0) F7 PO (XV (hr.keep hE) rfl) rfl (by omega) fun mz g6=>(gS (X4 u5 rfl (Yb g6 rfl) (gS (XQ (a:=((b.getD (0) 0).toNat:Nat)) (b:=(80:Nat)) rfl rfl (AI _ _ _ _) (kT (h80) (gS (XQ (a:=(0:Nat)) (b:=(0:Nat)) rfl rfl (AI _ _ _ _) (kT (rfl) (gS (XY rfl rfl (gS (XQ (a:=(f:Nat)) (b:=(1+k:Nat)) rfl rfl (Ek _ _ _ _) (kT (q1) (gS (XY rfl rfl (gS (XQ (a:=(f:Nat)) (b:=((b.length)-(36):Nat)) rfl rfl (Dw _ _ _ _) (kF (q2) (gS (XY rfl rfl (gS (X2 rfl rfl (gP (X8 FR rfl rfl ?_)))))))))))))))))))))))))))))));refine Aq (AS _ (false) 6) ?_ ?_;rotate_left
   ·rintro ch m0 ⟨rfl,hb,hx⟩;refine Au ?_;exact .inr ⟨_,rfl,6,hP,rfl,hE.trans hx⟩
   rintro v_ m1 ⟨rfl,g7,m3⟩;cases g7
  have hP:Cu b = .error 6:=hP0.trans (if_neg (fun h=>by have h1:=h.2;exact q1 h1.1));have hE:=hE.trans ba;refine gS (XS CG rfl rfl (((show Calls _ _ _ _ (fun e w2=>e = .returned (.tuple #[NI n,NI (1+k),NI 0])/\Ext _ w2)from(Ez _ v b (hr.keep hE) 1 (by omega)).mono fun e w2 ⟨h1,h2⟩=>by subst h2;subst h1;rw[hd];exact⟨rfl,AaY _⟩)).mono ?_));rintro e m4 ⟨rfl,g8⟩;refine⟨_,rfl,?_⟩;have hE:=hE.trans g8;refine gS (AaZ (vs:= [NI n,NI (1+k),NI 0]) rfl rfl (gS (AaZ (vs:= [NI n,NI (1+k),NI 0]) rfl rfl (gS (AaZ (vs:= [NI n,NI (1+k),NI 0]) rfl rfl (gS (Yd (l:=b) (i:=0) F7 PO (XV (hr.keep hE) rfl) rfl (by omega) fun m5 g9=>(gS (X4 u5 rfl (Yb g9 rfl) (gS (XQ (a:=((b.getD (0) 0).toNat:Nat)) (b:=(80:Nat)) rfl rfl (AI _ _ _ _) (kT (h80) (gS (XQ (a:=(0:Nat)) (b:=(0:Nat)) rfl rfl (AI _ _ _ _) (kT (rfl) (gS (XY rfl rfl (gS (XQ (a:=(f:Nat)) (b:=(1+k:Nat)) rfl rfl (Ek _ _ _ _) (kF (q1) (gS (XY rfl rfl (gS (X2 rfl rfl (gS (X2 rfl rfl (gP (X8 FR rfl rfl ?_))))))))))))))))))))))))))));refine Aq (AS _ (false) 6) ?_ ?_;rotate_left
  ·rintro ch m6 ⟨rfl,hb,hx⟩;refine Au ?_;exact .inr ⟨_,rfl,6,hP,rfl,hE.trans hx⟩
  rintro v_ m7 ⟨rfl,ha,m8⟩;cases ha
 have hP:Cu b = .error 6:=hP0.trans (if_neg (fun h=>h80 (by rw[h.1];rfl)));have hE:=hE.trans ba;refine gS (XS CG rfl rfl (((show Calls _ _ _ _ (fun e w2=>e = .returned (.tuple #[NI n,NI (1+k),NI 0])/\Ext _ w2)from(Ez _ v b (hr.keep hE) 1 (by omega)).mono fun e w2 ⟨h1,h2⟩=>by subst h2;subst h1;rw[hd];exact⟨rfl,AaY _⟩)).mono ?_));rintro e m9 ⟨rfl,he⟩;refine⟨_,rfl,?_⟩;have hE:=hE.trans he;refine gS (AaZ (vs:= [NI n,NI (1+k),NI 0]) rfl rfl (gS (AaZ (vs:= [NI n,NI (1+k),NI 0]) rfl rfl (gS (AaZ (vs:= [NI n,NI (1+k),NI 0]) rfl rfl (gS (Yd (l:=b) (i:=0) F7 PO (XV (hr.keep hE) rfl) rfl (by omega) fun na hg=>(gS (X4 u5 rfl (Yb hg rfl) (gS (XQ (a:=((b.getD (0) 0).toNat:Nat)) (b:=(80:Nat)) rfl rfl (AI _ _ _ _) (kF (h80) (gS (X2 rfl rfl (gS (X2 rfl rfl (gS (X2 rfl rfl (gS (X2 rfl rfl (gP (X8 FR rfl rfl ?_))))))))))))))))))))));refine Aq (AS _ (false) 6) ?_ ?_;rotate_left
 ·rintro ch nb ⟨rfl,hb,hx⟩;refine Au ?_;exact .inr ⟨_,rfl,6,hP,rfl,hE.trans hx⟩
 rintro v_ nc ⟨rfl,hh,nd⟩;cases hh
structure FitsD (n : Nat) (D : List Deferred) (ρ : Ac) (a : Act) : Prop where
 size:a.tmps.size=n
 defers:a.defers=D
 get:∀t,a.tmps.getD t undef=ρ t
theorem FitsD.fits{n:Nat}{D:List Deferred}{ρ:Ac}{a:Act}(h:FitsD n D ρ a):Fits n ρ { a with defers:= [] } :=⟨h.size,rfl,h.get⟩
theorem ZL{n:Nat}{ρ:Ac}{a:Act}(h:Fits n ρ a):FitsD n [] ρ a:=⟨h.size,h.defers,h.get⟩
theorem FitsD.toFits{n:Nat}{ρ:Ac}{a:Act}(h:FitsD n [] ρ a):Fits n ρ a:=⟨h.size,h.defers,h.get⟩
theorem FitsD.eval{n:Nat}{D:List Deferred}{ρ:Ac}{a:Act}(h:FitsD n D ρ a):a.eval=Aa ρ:=by
 funext x
 cases x with
 | tmp t=>exact h.get t
 | _=>rfl
theorem FitsD.put{n:Nat}{D:List Deferred}{ρ:Ac}{a:Act}(h:FitsD n D ρ a)(d:Option Tmp)(hd:∀t,d=some t->t<n)(v:AbI):FitsD n D (updO ρ d v) (a.put d v):=by
 have hf:=h.fits.put d hd v;cases d with
 | none=>exact h
 | some d=>exact⟨hf.size,h.defers,hf.get⟩
def NB(P:Acg)(n:Nat)(D:List Deferred)(c:Code)(QQ:Exit->Act->AbJ->Prop)(ρ:Ac)(w:AbJ):Prop:=∀a,FitsD n D ρ a->c.wp P QQ a w
def IA(P:Acg)(ops:Array Oper)(n:Nat)(D:List Deferred)(QQ:Exit->Act->AbJ->Prop)(l:List Oper)(ρ:Ac)(w:AbJ):Prop:=∀a,FitsD n D ρ a->wpList P ops QQ l a w
section
variable {P : Acg} {n : Nat} {D : List Deferred} {QQ : Exit -> Act -> AbJ -> Prop} {ρ : Ac} {w : AbJ}
theorem Cx{x y:Code}(QR:BG)(hq:∀e ρ a w,e ≠ .normal->Fits n ρ a->QR e ρ w->QQ e a w)(h:∀K:Ac->AbJ->Prop,(∀ρ w,NB P n [] y QQ ρ w->K ρ w)->B1 P n x (Gp K QR) ρ w):NB P n [] (.seq x y) QQ ρ w:=fun a ha=>
 wp_seq (wp_mono (h (fun ρ w=>NB P n [] y QQ ρ w) (fun _ _ h=>h) a ha.toFits) fun e a' w' ⟨ρ',hf,hQ⟩=>by
  cases e with
  | normal=>exact hQ a' (ZL hf)
  | exit _=>exact hq _ ρ' a' w' (by simp) hf hQ
  | goto _=>exact hq _ ρ' a' w' (by simp) hf hQ
  | ret=>exact hq _ ρ' a' w' (by simp) hf hQ
  | panic _=>exact hq _ ρ' a' w' (by simp) hf hQ
  | outgrown=>exact hq _ ρ' a' w' (by simp) hf hQ)
theorem IB{id:Nat}{l:List Oper}{y:Code}(h:IA P l.toArray n D (Exit.then (y.wp P QQ) QQ) l ρ w):NB P n D (.seq (.region id l.toArray false) y) QQ ρ w:=fun a ha=>wp_seq (wp_region_lit (h a ha))
theorem Vv(h:∀a,FitsD n D ρ a->QQ .ret a w):NB P n D .ret QQ ρ w:=fun a ha=>wp_ret (h a ha)
theorem NC{ops:Array Oper}{y:Code}(I:Ac->Prop)(hI:I ρ)(h:∀ρ',I ρ' ->NB P n D y QQ ρ' w):IA P ops n D (Exit.then (y.wp P QQ) QQ) [] ρ w:=fun a ha=>h ρ hI a ha
theorem KK{ops:Array Oper}{rest:List Oper}{dst:Option Tmp}{op:Op}{ty:AbQ}{pos:String}{af:Array Edge}(hd:(match dst with | some d=>AdY d n | none=>true)=true) 
  (h:Yp P (fun v w' =>IA P ops n D QQ rest (updO ρ dst v) w') (fun ch w' =>∀a,FitsD n D ρ a->QQ (.panic ch) a w') ((execOp (Aa ρ) ⟨dst,op,ty,pos,af,none⟩).run P w)):IA P ops n D QQ (⟨dst,op,ty,pos,af,none⟩ :: rest) ρ w:=by
 intro a ha;have hdn:∀t,dst=some t->t<n:=fun t ht=>by subst ht;exact Ab2 hd
 refine wpList_plain rfl fun K hK=> ?_;unfold Oper.wp Oper.upon;rw[ha.eval];have hput:=fun v=>ha.put dst hdn v
 revert h
 generalize (execOp (Aa ρ) ⟨dst,op,ty,pos,af,none⟩).run P w=r
 intro h
 match r,h with
 | .ok (.value v) w',h=>exact hK _ _ (h _ (hput v))
 | .ok .skip w',h=>exact hK _ _ (h _ (hput undef))
 | .halt (.panic v) w',h=>exact h a ha
 | .ok (.enter f args) w',h=>
  refine Calls.mono h ?_;intro e w'' hx
  match e,hx with
  | .returned v,hx=>exact hK _ _ (hx _ (hput v))
  | .panicked ch,hx=>exact hx a ha
theorem GB{ops:Array Oper}{rest:List Oper}{dst:Option Tmp}{op:Op}{ty:AbQ}{pos:String}{af:Array Edge}(hd:(match dst with | some d=>AdY d n | none=>true)=true) 
  (h:Yk P (fun v w' =>IA P ops n D QQ rest (updO ρ dst v) w') ((execOp (Aa ρ) ⟨dst,op,ty,pos,af,none⟩).run P w)):IA P ops n D QQ (⟨dst,op,ty,pos,af,none⟩ :: rest) ρ w:=
 KK hd (Yp.ofK h)
theorem Qo{ops:Array Oper}{rest:List Oper}{x:AbV}{ty:AbQ}{pos:String}{af:Array Edge}{fv:Fn}{first cap:Array AbI}(hx:Aa ρ x = .func fv first cap) 
  (hr:(execOp (Aa ρ) ⟨none, .defer ⟨.value x,#[],#[]⟩,ty,pos,af,none⟩).run P w = .ok (.defer ⟨.fn fv cap,first⟩) w)
  (h:IA P ops n (⟨.fn fv cap,first⟩ :: D) QQ rest ρ w):IA P ops n D QQ (⟨none, .defer ⟨.value x,#[],#[]⟩,ty,pos,af,none⟩ :: rest) ρ w:=by
 intro a ha;refine wpList_plain rfl fun K hK=> ?_;unfold Oper.wp Oper.upon;rw[ha.eval,hr];refine hK _ _ (h _ ⟨ha.size,?_,ha.get⟩);show _ :: a.defers=_;rw[ha.defers]
theorem B0{fn:Func}{R:Ending->AbJ->Prop}:∀e ρ a w,e ≠ .normal->Fits n ρ a->Cz P fn R e ρ w->bodyPostD P fn R e a w:=fun e ρ a w he ha h=>by
 cases e with
 | normal=>exact absurd rfl he
 | ret=>
  show Leaves P fn a.tmps R a.defers .returning w;rw[ha.defers];exact h a.tmps ha.get
 | panic ch=>
  show Leaves P fn a.tmps R a.defers (.panicking ch) w;rw[ha.defers];exact h
 | exit _=>exact h.elim
 | goto _=>exact h.elim
 | outgrown=>exact h.elim
theorem ND{f:FuncId}{fn:Func}{c:Code}{args:List AbI}{R:Ending->AbJ->Prop}(hf:P.funcs[f]? =some fn)(hb:fn.body=some c)(m:Nat)(hm:fn.ntmps=m)(hn:args.length<=m) 
  (h:∀ρ,Begun args ρ->NB P m [] c (bodyPostD P fn R) ρ w):Calls P f args.toArray w R:=by
 subst hm;refine calls_of_wp_defers hf hb ?_;have hget:∀t,(args.toArray++Adx (fn.ntmps-args.toArray.size) undef).getD t undef=args.getD t undef:=fun t=>by
  simp only[AcC,AbN,AfS,Ab4,AcN];by_cases ht:t<args.length
  ·rw[if_pos ht]
  ·rw[if_neg ht,AcR (by omega),Adg];split <;> rfl
 refine h (fun t=>args.getD t undef) ⟨fun _=>rfl⟩ _ ⟨?_,rfl,hget⟩;simp;omega
end
section
variable {P : Acg} {n : Nat}
theorem Sd{c:Code}{QF:BG}{Q:Exit->Act->AbJ->Prop}{ρ:Ac}{a:Act}{w:AbJ}(h:B1 P n c QF ρ w)(ha:Fits n ρ a)(hq:∀e ρ' a' w',Fits n ρ' a' ->QF e ρ' w' ->Q e a' w'):c.wp P Q a w:=
 wp_mono (h a ha) fun e a' w' ⟨ρ',hf,hQ⟩=>hq e ρ' a' w' hf hQ
def B6:FrameMode->AbI × FrameMode
 | .panicking ({ v,recovered:=false,goexit:=false } :: older)=>(v, .panicking ({ v,recovered:=true } :: older))
 | u=>(.nilIface,u)
theorem OI(c₀:Frame)(cs:List Frame)(u:FrameMode)(hu:c₀.mode=u)(K:AbI->List Frame->Prop)(h:K (B6 u).1 ({ c₀ with mode:=(B6 u).2 } :: cs)):
  match recoverD (c₀ :: cs)with
  | some (v,cs')=>K v cs'
  | none=>K .nilIface (c₀ :: cs):=by
 subst hu;obtain⟨cf,ct,ctodo,cd,cm,ck,cr⟩:=c₀
 match cm,h with
 | .run,h=>exact h
 | .returning,h=>exact h
 | .panicking [],h=>exact h
 | .panicking ({ v,recovered:=true,goexit:=g } :: older),h=>exact h
 | .panicking ({ v,recovered:=false,goexit:=true } :: older),h=>exact h
 | .panicking ({ v,recovered:=false,goexit:=false } :: older),h=>exact h
theorem G7{f:FuncId}{fn:Func}{c:Code}{args:List AbI}{u:FrameMode}{w:AbJ}{R:Ending->AbJ->Prop}{id:Nat}{d0 d1:Tmp}{ty0 ty1:AbQ}{p0 p1:String}{af0 af1:Array Edge} 
  (hf:P.funcs[f]? =some fn) (hb:fn.body=some (.seq (.region id #[⟨some d0, .call ⟨.builtin .recover,#[],#[]⟩,ty0,p0,af0,none⟩,⟨some d1, .assign (.tmp d0),ty1,p1,af1,none⟩] false) c)) (m:Nat) (hm:fn.ntmps=m) (hn:args.length<=m) (h0:AdY d0 m=true) (h1:AdY d1 m=true)
  (h:∀b,Begun args b->B1 P m c (Cz P fn R) (updO (updO b (some d0) (B6 u).1) (some d1) (B6 u).1) w):
  CallsD P f args.toArray u w fun e u' w' =>u' =(B6 u).2/\R e w' :=by
 subst hm;refine callsD_of_wpS hf hb fun c₀ cs hu=> ?_;have hget:∀t,(args.toArray++Adx (fn.ntmps-args.toArray.size) undef).getD t undef=args.getD t undef:=fun t=>by
  simp only[AcC,AbN,AfS,Ab4,AcN];by_cases ht:t<args.length
  ·rw[if_pos ht]
  ·rw[if_neg ht,AcR (by omega),Adg];split <;> rfl
 have hF:Fits fn.ntmps (fun t=>args.getD t undef) { tmps:=args.toArray++Adx (fn.ntmps-args.toArray.size) undef,defers:= [] } :=⟨by simp;omega,rfl,hget⟩
 generalize ({ tmps:=args.toArray++Adx (fn.ntmps-args.toArray.size) undef,defers:= [] } :Act)=a at hF ⊢
 have hd0:∀t,some d0=some t->t<fn.ntmps:=fun t ht=>by cases ht;exact Ab2 h0
 have hd1:∀t,some d1=some t->t<fn.ntmps:=fun t ht=>by cases ht;exact Ab2 h1
 have hF1:=hF.put (some d0) hd0 (B6 u).1;have hF2:=hF1.put (some d1) hd1 (B6 u).1
 apply wpS_seq
 apply wpS_region
 have g:(execOp a.eval (⟨some d0, .call ⟨.builtin .recover,#[],#[]⟩,ty0,p0,af0,none⟩:Oper)).run P w = .ok .recover w:=by
  simp[go_sem]
 have hkey:∀(v:AbI) (cs' :List Frame),v=(B6 u).1->cs' = { c₀ with mode:=(B6 u).2 } :: cs->wpOpsS P #[⟨some d0, .call ⟨.builtin .recover,#[],#[]⟩,ty0,p0,af0,none⟩,⟨some d1, .assign (.tmp d0),ty1,p1,af1,none⟩] (Exit.thenS (c.wpS P (bodyPostS P fn c₀ cs fun e u' w' =>u' =(B6 u).2/\R e w')) (bodyPostS P fn c₀ cs fun e u' w' =>u' =(B6 u).2/\R e w')) [1] (a.put (some d0) v) cs' w:=by
  rintro v cs' rfl rfl;have hv:(a.put (some d0) (B6 u).1).eval (.tmp d0)=(B6 u).1:=by
   rw[hF1.eval];show(bif Aea d0 d0 then _ else _)=_;rw[Afx];rfl
  have i:(execOp (a.put (some d0) (B6 u).1).eval (⟨some d1, .assign (.tmp d0),ty1,p1,af1,none⟩:Oper)).run P w = .ok (.value (B6 u).1) w:=by
   simp[execOp,hv]
  simp only[wpOpsS,AcN,Adl,Ad8,Region.wanted,i,Oper.upon,if_true];refine wpS_of_wp (Sd (h _ ⟨fun _=>rfl⟩) hF2 fun e ρ' a' w' hf' hQ=> ?_);cases e with
  | normal=>obtain⟨v,hv,hR⟩:=hQ a'.tmps hf'.get;exact⟨hf'.defers,_,rfl,v,hv,rfl,hR⟩
  | ret=>obtain⟨v,hv,hR⟩:=hQ a'.tmps hf'.get;exact⟨hf'.defers,_,rfl,v,hv,rfl,hR⟩
  | panic ch=>exact⟨hf'.defers,_,rfl,rfl,hQ⟩
  | exit _=>exact hQ.elim
  | goto _=>exact hQ.elim
  | outgrown=>exact hQ.elim
 show wpOpsS P _ _ [0,1] a (c₀ :: cs) w;unfold wpOpsS;simp only[AcN,Ad8,Region.wanted,if_true,g];exact OI c₀ cs u hu (fun v cs' =>wpOpsS P _ _ [1] (a.put (some d0) v) cs' w) (hkey _ _ rfl rfl)
end
section
variable {P : Acg} {K : AbI -> AbJ -> Prop} {ρ : Ac} {w : AbJ} {d : Option Tmp} {ty : AbQ} {pos : String} {af : Array Edge} {gd : Option (Nat × Bool)} {t ty2 : AbQ}
theorem ZS{x:AbV}{u:AbQ}{v:AbI}{fs}(hu:P.underlying u=some (.struct fs))(hx:Aa ρ x = .iface u v)(hk:K (.tuple #[v, .bool true]) w):Yk P K ((execOp (Aa ρ) ⟨d, .typeAssert x t u true,ty,pos,af,gd⟩).run P w):=by
 refine Aa4 (v:= .tuple #[v, .bool true]) (w' :=w) ?_ hk;unfold execOp;simp[Instr.typeAssert,hx,run_underlying hu,Result.andThen]
theorem Z9{x:AbV}(he:(Op.equal t .nilIface .nilIface).run P w = .ok true w)(hx:Aa ρ x = .nilIface)(hk:K (.bool false) w):Yk P K ((execOp (Aa ρ) ⟨d, .binOp .neq t x (.const .nilIface) ty2,ty,pos,af,gd⟩).run P w):=by
 have hy:Aa ρ (.const .nilIface) = .nilIface:=rfl;refine Aa4 (v:= .bool false) (w' :=w) ?_ hk;unfold execOp;simp only[hx,hy];simp[eqGuard,Go.binOp,he,Result.andThen]
theorem Aaa{x:AbV}{u:AbQ}{v:AbI}(he:(Op.equal t (.iface u v) .nilIface).run P w = .ok false w)(hx:Aa ρ x = .iface u v)(hk:K (.bool true) w):Yk P K ((execOp (Aa ρ) ⟨d, .binOp .neq t x (.const .nilIface) ty2,ty,pos,af,gd⟩).run P w):=by
 have hy:Aa ρ (.const .nilIface) = .nilIface:=rfl;refine Aa4 (v:= .bool true) (w' :=w) ?_ hk;unfold execOp;simp only[hx,hy];simp[eqGuard,Go.binOp,he,Result.andThen]
theorem Vw{x:AbV}{fv:Fn}{first cap:Array AbI}(hx:Aa ρ x = .func fv first cap):(execOp (Aa ρ) ⟨none, .defer ⟨.value x,#[],#[]⟩,ty,pos,af,none⟩).run P w = .ok (.defer ⟨.fn fv cap,first⟩) w:=by
 unfold execOp;simp[resolve,hx,Deferred.ofValue]
theorem Ys{p:Tmp}{ty:AbQ}{g:Nat}{t:AbQ}{v:AbI}{fr:Nat × Nat}{d:TypeDesc}(hp:ρ p = .pointer (some ⟨g,0,none⟩))(hg:w.heap[g]? =some (.cells ([v]).toArray t fr)) 
  (hu:P.underlying ty=some d) (hd:(match d with | .struct _ | .array _ _=>false | _=>true)=true):ResF P ρ w (.cell p ty) v:=by
 refine⟨_,hp,?_⟩;have hc:w.cell? ⟨g,0,none⟩=some v:=cellAt hg rfl;have hagg:(isAgg ty).run P w = .ok false w:=by
  unfold isAgg;cases d <;> first | (simp at hd;done) | simp[run_underlying hu,Result.andThen]
 simp[loadVar,hagg,hc]
theorem KM{fn:Func}{tmps:Array AbI}{R:Ending->AbJ->Prop}(rs:List ResultVar)(hrs:fn.results=rs.toArray)(vs:List AbI)(v:AbI)(hv:GW vs=v)(ht:∀t,tmps.getD t undef=ρ t)(h:F5 P ρ w rs vs)(hR:R (.returned v) w):Leaves P fn tmps R [] .returning w:=
 ⟨_,Hg hrs ht h,by rw[hv];exact hR⟩
end
section
variable {P : Acg} {n : Nat} {ρ : Ac} {w : AbJ} {Q : BG}
theorem NE{l r:List Oper}(kS k0:Nat)(S:AbJ->AbJ->Prop)(Φs:List Bu){id:Nat}(hm:P.follows .mixedOrders=true)(ds:List Tmp)(hg:Cy l n=true)(hn:MJ l k0=true)(c:Nat.ble Φs.length k0=true)(hds:slotsW l=ds)(hr:(l.drop k0)=r)(hlt:AdY k0 l.length=true) 
  (f:AdY kS k0=true) (hgS:(l[kS]?.bind (·.guard))=none) (hst:AllStab (fun a b=>a=b\/S w.drew b) Φs)
  (hs:StepsFC P l k0 (fun m w1=>bif Aea m kS then w1=w.drew else(w1=w.drew\/S w.drew w1)) (fun m a b=>bif Aea m kS then S w.drew b else a=b) (AT Φs) ρ 0 l)
  (hQ:∀(ρ' :Ac) w1,S w.drew w1->EndF ds ρ ρ' ->Bg l (fun _=> []) (AT Φs) ρ' w1 ds->CC P l.toArray n Q r ρ' w1):B1 P n (.region id l.toArray true) Q ρ w:=by
 have bf:∀ {a b:Nat},a≠b->Aea a b=false:=fun h=>by rw[<-Bool.not_eq_true,Nat.beq_eq];exact h
 refine Mz k0 (fun _=> []) _ _ (fun listed w1=>On listed kS->S w.drew w1) Φs hm ds hg hn c (by unfold CY;simp) hds hr (fun i m _ _ hne' hbit a b hc hr=> ?_) (fun i j _ _ _ _ _ v a b h hr=> ?_) (fun i listed a b _ hsz hno hcl he hr=> ?_) (fun h=> ?_) (fun i o a ho hgo=> ?_) (fun m _=> ?_) hs hlt (fun ρ' w1 listed hon he hc h2 h3=> ?_)
 ·by_cases hmS:m=kS
  ·subst hmS;rw[Afx]at hc ⊢;rw[bf hne']at hr;simp only[cond_true,cond_false]at hc hr ⊢;rw[<-hr];exact hc
  ·rw[bf hmS]at hc ⊢;simp only[cond_false]at hc ⊢;by_cases hiS:i=kS
   ·subst hiS;rw[Afx]at hr;exact .inr hr
   ·rw[bf hiS]at hr;simp only[cond_false]at hr;rw[<-hr];exact hc
 ·refine hst.get Φs j v a b h ?_;by_cases hiS:i=kS
  ·subst hiS;rw[Afx]at hr;exact .inr hr
  ·rw[bf hiS]at hr;exact .inl hr
 ·intro hon;by_cases hiS:i=kS
  ·subst hiS;rw[Afx]at hr;exact hr
  ·have hon' :On listed kS:=by
    rcases(on_set (by omega)).1 hon with h1 | h1
    ·exact absurd h1.symm hiS
    ·exact h1
   rw[bf hiS]at hr;simp only[cond_false]at hr;rw[<-hr];exact he hon'
 ·exact absurd h YH
 ·have hiS:i≠kS:=fun e=>by rw[e]at ho;rw[ho]at hgS;simp only[Option.bind_some]at hgS;rw[hgS]at hgo;cases hgo
  rw[bf hiS];rfl
 ·by_cases hmS:m=kS
  ·subst hmS;rw[Afx];rfl
  ·rw[bf hmS];exact .inl rfl
 ·exact hQ ρ' w1 (he ((hon kS).2 (Ab2 f))) h2 h3
end
theorem Vx(w:AbJ):(Op.equal 20 .nilIface .nilIface).run AbL w = .ok true w:=by kernel_rfl
theorem Vy(u:AbQ)(v:AbI)(w:AbJ):(Op.equal 20 (.iface u v) .nilIface).run AbL w = .ok false w:=by kernel_rfl
theorem OJ:(Tryz.prog.info? 143).map (·.size)=some 1:=by kernel_rfl
theorem Qp{d:Option Tmp}{ty:AbQ}{pos:String}{af:Array Edge}{gd:Option (Nat × Bool)}(σ:AbV->AbI)(w:AbJ):(execOp σ ⟨d, .alloc 143,ty,pos,af,gd⟩).run AbL w = .ok (.value (PQ w.heap.size 0)) (w.alloc (.cells ([NI 0]).toArray 143)):=by kernel_rfl
theorem NF:A4 AbL 143 0 0:=fun b o w=>by simp[go_sem]
theorem Se:Tryz.prog.underlying 29=some (.int .i64):=by kernel_rfl
theorem Qq:(Tryz.prog.info? 89).map (·.size)=some 1:=by kernel_rfl
theorem Qr:(Tryz.prog.info? 29).map (·.size)=some 1:=by kernel_rfl
theorem Qs(b2 b3:Nat)(w:AbJ):CallsD AbL 78 #[PQ b2 0,PQ b3 0] (.returning) w fun e u' w' =>u' =(B6 (.returning)).2/\(e = .returned (.tuple #[])/\Ext w w'):=by
 have hE:=AaY w;refine G7 (u:= .returning) (args:= [PQ b2 0,PQ b3 0]) Tryz.func78 rfl 18 rfl (Ab2 rfl) rfl rfl (R:=fun e w' =>e = .returned (.tuple #[])/\Ext w w') ?_;intro ρz hb;have b:(updO (updO ρz (some 5) (B6 (.returning)).1) (some 2) (B6 (.returning)).1) 0=(PQ b2 0:AbI):=hb.get 0;have c:(updO (updO ρz (some 5) (B6 (.returning)).1) (some 2) (B6 (.returning)).1) 1=(PQ b3 0:AbI):=hb.get 1;have a:(updO (updO ρz (some 5) (B6 (.returning)).1) (some 2) (B6 (.returning)).1) 2=(.nilIface:AbI):=rfl
 generalize updO (updO ρz (some 5) (B6 (.returning)).1) (some 2) (B6 (.returning)).1=g at b c a ⊢
 clear hb;refine sk fun h f=>(wt (oM rfl (oS rfl (Z9 (Vx _) a (oZ (tN (f _ _ (CJ (vr (.bool (false)) rfl) (DE (LE (fn:=Tryz.f78) [] rfl [] (.tuple #[]) rfl trivial ?_))))))))));exact⟨rfl,hE⟩
theorem Qt(w0:AbJ)(b2 b3 c:Nat)(v2 v3:AbI)(w:AbJ)(h0:Ext w0 w)(l2:w0.heap.size<=b2)(l3:w0.heap.size<=b3)(hne:b2≠b3)(h2:w.heap[b2]? =some (.cells ([v2]).toArray 89 (0,0)))(h3:w.heap[b3]? =some (.cells ([v3]).toArray 29 (0,0))):CallsD AbL 78 #[PQ b2 0,PQ b3 0] (.panicking [CO c]) w fun e u' w' =>u' =(B6 (.panicking [CO c])).2/\(e = .returned (.tuple #[])/\w'.heap[b2]? =some (.cells ([.pointer none]).toArray 89 (0,0))/\w'.heap[b3]? =some (.cells ([NI c]).toArray 29 (0,0))/\Ext w0 w'):=by
 have hl2_:=(bl h2);have hl3_:=(bl h3);refine G7 (u:= .panicking [CO c]) (args:= [PQ b2 0,PQ b3 0]) Tryz.func78 rfl 18 rfl (Ab2 rfl) rfl rfl (R:=fun e w' =>e = .returned (.tuple #[])/\w'.heap[b2]? =some (.cells ([.pointer none]).toArray 89 (0,0))/\w'.heap[b3]? =some (.cells ([NI c]).toArray 29 (0,0))/\Ext w0 w') ?_;intro ρz hb;have m:(updO (updO ρz (some 5) (B6 (.panicking [CO c])).1) (some 2) (B6 (.panicking [CO c])).1) 0=(PQ b2 0:AbI):=hb.get 0;have n:(updO (updO ρz (some 5) (B6 (.panicking [CO c])).1) (some 2) (B6 (.panicking [CO c])).1) 1=(PQ b3 0:AbI):=hb.get 1;have g:(updO (updO ρz (some 5) (B6 (.panicking [CO c])).1) (some 2) (B6 (.panicking [CO c])).1) 2=((.iface 143 (.agg ([NI c]).toArray)):AbI):=rfl
 generalize updO (updO ρz (some 5) (B6 (.panicking [CO c])).1) (some 2) (B6 (.panicking [CO c])).1=ap at m n g ⊢
 clear hb;refine sk fun K1 ac=>(wt (oM rfl (oS rfl (Aaa (Vy _ _ _) g (oZ (tN (ac _ _ (EK (vr (.bool (true)) rfl) (sk fun K2 ad=>(wt (oM rfl (oS rfl (ZS (Rx).choose_spec g (oM rfl (oS rfl (AaZ (vs:= [.agg ([NI c]:List AbI).toArray, .bool (true)]) (vr (.tuple #[.agg ([NI c]:List AbI).toArray, .bool (true)]) rfl) (show _=some (.agg ([NI c]:List AbI).toArray:AbI)from rfl) (oS rfl (AaZ (vs:= [.agg ([NI c]:List AbI).toArray, .bool (true)]) (vr (.tuple #[.agg ([NI c]:List AbI).toArray, .bool (true)]) rfl) (show _=some (.bool (true):AbI)from rfl) (oS rfl (Aa3 (cs:=([NI 0]).toArray) Qp fun j w4 s t o au=> ?_))))))))))))))))))));have f:=AaY w;have av:=h0;have af:=h0.size;have aw:=As (bl h2) s;have ax:=As (bl h3) s;have h0:=h0.trans o;have h2:=eb o h2;have h3:=eb o h3;have f:=f.trans o;have b:=t;clear t;have ay:j<w4.heap.size:=by omega
 refine oS rfl (XT (vr (PQ j 0) rfl) (vr (.agg ([NI c]:List AbI).toArray) rfl) b (rfl) ((show(Tryz.prog.info? 143).map (·.size)=some 1 from OJ)) ((by intro u hu;simp only[Acy,Adz,or_false]at hu;subst hu;rfl)) fun a x p az=> ?_);have h0:=Ab h0 p (AbM af (by omega));have h2:=kb p h2 (by omega);have h3:=kb p h3 (by omega);have f:=Ab f p (AbM (AbO _) (by omega));clear b;have b:=x;clear x;have a0:=bl b;refine oA rfl (oZ (tN (ad _ _ (sk fun a1 ag=>(sk fun a2 ah=>(wt (oM rfl (oS rfl (Yz (vr (.bool (true)) rfl) (oZ (tN (ah _ _ (CJ (vr (.bool (false)) rfl) (DE (tN (ag _ _ ?_))))))))))))))));refine NE 2 3 (fun(a_ b_:AbJ)=>b_.heap[b2]? =some (.cells ([.pointer none]).toArray 89 (0,0))/\a_.grownBy b_ (some b2)/\b_.heap.size=a_.heap.size) [Is (PQ j 0),Is (NI c),(fun _ _=>True)] (by kernel_rfl) [16,17] (by kernel_rfl) (by kernel_rfl) (by kernel_rfl) (by kernel_rfl) rfl rfl rfl rfl (LD ⟨AbE,trivial⟩) ?ai ?hQ1005
 case ai=>
  refine⟨?_,?_,?_,?_,trivial⟩
  ·refine MX (Aj rfl fun σ w1 hC h=> ?_);have hq:w1=AfB a\/(fun(a_ b_:AbJ)=>b_.heap[b2]? =some (.cells ([.pointer none]).toArray 89 (0,0))/\a_.grownBy b_ (some b2)/\b_.heap.size=a_.heap.size) (AfB a) w1:=hC;have hC:BX a.heap.size (some b2) a w1:=by rcases hq with hq | hq;(rw[hq];exact Yq ((AcB _ _).drew) (AbO _));exact(Yq ((AcB _ _).drew) (AbO _)).trans (Yr hq.2.1 (AbO _) (fun k hk=> .inl hk))
   have e3:σ 3=PQ j 0:=(AH (h 3 (by decide))).trans rfl;exact Aa0 NF e3 ⟨rfl,rfl⟩
  ·refine MX (Aj rfl fun σ w1 hC h=> ?_);have hq:w1=AfB a\/(fun(a_ b_:AbJ)=>b_.heap[b2]? =some (.cells ([.pointer none]).toArray 89 (0,0))/\a_.grownBy b_ (some b2)/\b_.heap.size=a_.heap.size) (AfB a) w1:=hC;have hC:BX a.heap.size (some b2) a w1:=by rcases hq with hq | hq;(rw[hq];exact Yq ((AcB _ _).drew) (AbO _));exact(Yq ((AcB _ _).drew) (AbO _)).trans (Yr hq.2.1 (AbO _) (fun k hk=> .inl hk))
   have ak:=AH (h 16 (by decide));exact XP Se rfl ak (cellAt (BX.blk hC b (Am (by omega))) (show _=some (NI c:AbI)from rfl)) ⟨rfl,rfl⟩
  ·refine MX (Aj rfl fun σ w1 hC h=> ?_);have hq:w1=AfB a:=hC;subst hq;have hC:BX a.heap.size (some b2) a (AfB a):=Yq ((AcB _ _).drew) (AbO _);have e0:=(AH (h 0 (by decide))).trans m;exact X5 (i:=0) (v:= .pointer none) e0 (vr (.pointer none) rfl) (eb ((AcB _ _).drew) h2) (Ab2 rfl) Qq rfl rfl fun w2 h1 h2 h3=>⟨⟨h1,h2,h3⟩,trivial⟩
  ·exact trivial
 intro am a3 an he hf;obtain⟨-,k17,-⟩:=hf;obtain⟨m,n,g,T3,T4,T7,a7,-⟩:=he.hold [(0,_),(1,_),(2,_),(3,PQ j 0),(4, .bool (true)),(7, .bool (true)),(14, .bool (false))] ⟨m,n,g,rfl,rfl,rfl,rfl,trivial⟩ rfl;clear he;have l:Ext a (AfB a):=(AcB _ _).drew;obtain⟨y,q,a8⟩:=an;have h0:=h0.trans l;have h2:=eb l h2;have h3:=eb l h3;have f:=f.trans l;have b:=eb l b;have h0:=Ab h0 q (AbM (AbO _) (by omega));have h3:=kb q h3 (by omega);clear f;have b:=kb q b (by omega);clear h2;have h2:=y;clear y;have ao:am 17=NI c:=k17;clear k17;refine oS rfl (X5 (i:=0) (v:=NI c) n ao h3 (Ab2 rfl) Qr rfl rfl fun a9 z r ba=> ?_);have h0:=Ab h0 r (AbM (AbO _) (by omega));have b:=kb r b (by omega);have h2:=kb r h2 (by omega);clear h3;have h3:=z;clear z;have bb:=bl h3;refine oZ (LE (fn:=Tryz.f78) [] rfl [] (.tuple #[]) rfl trivial ?_);exact⟨rfl,h2,h3,h0⟩
theorem Reads.keepN{w w' :AbJ}{b z n:Nat}{v:AbI}{xs:List AbI}(h:Reads w z v n xs)(hb:∀u∈xs,∃x,u=B8 x)(hm:Eb w b)(hg:w.grownBy w' (some b)):Reads w' z v n xs:=by
 obtain⟨h1,ao,cap,rfl,h2,h3,h4,h5⟩:=h;refine⟨h1,ao,cap,rfl,h2,h3,h4,fun a ha j u hu=> ?_⟩;have hc:=h5 a ha j u hu;have hlt:=World.block_lt_of_cell? w _ hc;have hsp:=AeA hc
 generalize a.add j=q at hc hlt hsp ⊢
 obtain⟨q1,q2,q3⟩:=q;simp only at hsp hlt;subst hsp;by_cases e:q1=b
 ·exfalso;obtain⟨x,rfl⟩:=hb u (List.mem_of_getElem? hu);rw[e]at hc;exact hm _ _ hc
 ·have:=hg.block q1 hlt (fun e' =>e (Option.some.inj e'));unfold Ad6 at hc ⊢;rw[this];exact hc
theorem RG.keepN{w w' :AbJ}{b:Nat}{v:AbI}{l:List Bs}(h:RG 32 AbK w v l)(hm:Eb w b)(hg:w.grownBy w' (some b)):RG 32 AbK w' v l:=
 ⟨h.1,h.2.keepN (fun u hu=>by
  obtain⟨x,-,hx⟩:=List.mem_flatMap.1 hu;obtain⟨c,-,rfl⟩:=Acw.1 hx;exact⟨c,rfl⟩) hm hg⟩
theorem Ty{w:AbJ}{g:Nat}{v:AbI}{T:AbQ}{fr:Nat × Nat}(hb:w.heap[g]? =some (.cells ([v]).toArray T fr))(hv:∀x,v≠B8 x):Eb w g:=fun j x hc=>by
 unfold Ad6 at hc;rw[hb]at hc
 match j,hc with
 | 0,hc=>simp at hc;exact hv x hc
 | j+1,hc=>simp at hc
end Go.Proofs.YtfpekahfdalfkaaGreatDoor
