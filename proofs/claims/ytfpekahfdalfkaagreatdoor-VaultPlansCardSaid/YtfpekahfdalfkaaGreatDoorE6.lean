/- Part 6 of what stands behind these statements: laws and walks of the functions that are reached. Conditions: those that each theorem names. -/
import Derived.Test.YtfpekahfdalfkaaGreatDoorE5
set_option linter.unusedVariables false
set_option linter.unusedSimpArgs false
namespace Go.Proofs.YtfpekahfdalfkaaGreatDoor
open _root_.List renaming replicate->AbX,getD_eq_getElem?_getD->AbN,getElem?_eq_getElem->AbT,take_succ_eq_append_getElem->Acn,mem_append->Acb,mem_singleton->AbW,take_length->Adt,length_take->Ab5,length_drop->Ab6,map_toArray->Acp,map_cons->Aco,map_nil->Acz,length_replicate->Ab8,toArray->Adh,mem_of_getElem?->AcV,length_append->AbP,mem_cons_self->AcT,flatMap_cons->AcJ,getElem?_append_left->AcG,mem_map_of_mem->Afj,mem_cons->Acy,lookup_cons->Adk,mem_cons_of_mem->AcW,mem_map->Acw,size_toArray->Ab4,append_toArray->AdZ,cons_append->AcM,nil_append->AcO,all_eq_true->Acx,pairwise_iff_getElem->Ado,mem_iff_getElem->Ae7,getElem_take->AfG,pairwise_append->Ac6,length_cons->Ach,length_nil->Acl,length_map->Ab9,getElem?_map->Adn,filter_append->Afs,length_singleton->Ab7,mem_filter->Adr,getElem_of_mem->Adi,filterMap_cons->Af8,filterMap_append->Ahl,nodup_iff_pairwise_ne->Agv,drop_eq_getElem_cons->Ac1,findSome?_cons->Af9,take_of_length_le->AcD,drop_append->AfP,append_assoc->Acj,drop_left->AdI,take_left->Ad4,getElem?_append_right->AcA,map_append->Adc,zip_cons_cons->AdR,drop_succ_cons->AeE,getElem?_take->AdP,getElem?_zip_eq_some->Afm,length->AfJ,getElem_map->Ae8
open _root_.Go renaming Value->AbI,World->AbJ,TypeId->AbQ,Operand->AbV
open _root_.Nat renaming le_trans->AbM,lt_of_lt_of_le->AcE,zero_le->Ack,le_refl->AbO,le_add_right->Ad3,add_assoc->Ad0,sub_self->Ady,add_comm->Afu,not_lt_zero->Ads
open _root_.Go.Proofs.Tryz renaming prog->AbL,underlying9->Aed,isAgg9->Afi,sizeOf9->Ae2,zeroValue9->Aem
open _root_.And renaming intro->Acr
open _root_.Int renaming toNat_natCast->Ab0,emod->AdW,tmod->Ac0
open _root_.Go.Instr renaming buildSlice->Acq
open _root_.Go.Sem renaming run_bind->AbY,run_pure->Ab1
open _root_.Go.Result renaming andThen_ok->AbU
open _root_.Go.Value renaming ownBlock->AbS,slice->AbR,int->Adm,bool->Acs
open _root_.Go.Lib renaming byteCells->AbK,indexByte->Agt,byteCells_length->AbZ,compareBytes->Acd,uvarint->Ab3
open _root_.Prod renaming fst->Aci
open _root_.Go.World renaming block_lt_of_cell?->Ada
open _root_.Array renaming getElem?_eq_some_iff->Ace
open _root_.Option renaming getD_some->AcL,map_some->Ac3
open _root_.Exists renaming elim->Adj
open Go.RowKit
def GE:Ah5:=AbX 32 0
inductive Stp where
 | add (b:Ah5)
 | sync
 | rem
def CQ(D:Af)(s:Ah5):Stp->Af × Nat
 | .add b=>A2 D s b
 | .sync=>BD D s
 | .rem=>By D s
def AR(D:Af)(s:Ah5):List Stp->Af × Nat
 | []=>(D,0)
 | a :: r=>if(CQ D s a).2≠0 then CQ D s a else AR (CQ D s a).1 s r
theorem E3(D:Af)(s:Ah5)(a:Stp)(r:List Stp):AR D s (a :: r)=if(CQ D s a).2≠0 then CQ D s a else AR (CQ D s a).1 s r:=rfl
def C8(D:Af)(id:Ah5):Ah5 × Nat:=
 if(An D (nmO id)).2=4\/((An D (nmO id)).2=0/\Sha.sum (An D (nmO id)).1≠id)then([],12)else An D (nmO id)
def DC(r:Af × Nat)(id:Ah5):Af × Ah5 × Ah5 × Nat:=if r.2≠0 then(r.1,GE,[],r.2)else(r.1,id,[],0)
def BP(D:Af)(b:Ah5):Af × Ah5 × Ah5 × Nat:=
 if(An D (nmO (Sha.sum b))).2=4 then DC (AR D (nmO (Sha.sum b)) [.add b, .sync]) (Sha.sum b)
 else if(An D (nmO (Sha.sum b))).2≠0 then(D,GE,[],(An D (nmO (Sha.sum b))).2)
 else if(An D (nmO (Sha.sum b))).1=b then DC (AR D (nmO (Sha.sum b)) [.sync]) (Sha.sum b)
 else if Sha.sum (An D (nmO (Sha.sum b))).1=Sha.sum b then(D,Sha.sum b,(An D (nmO (Sha.sum b))).1,7)
 else DC (AR D (nmO (Sha.sum b)) [.rem, .add b, .sync]) (Sha.sum b)
section
variable {P : Program} {K : AbI -> AbJ -> Prop} {ρ : Ac} {w : AbJ} {d : Option Tmp} {ty : AbQ} {pos : String} {af : Array Edge} {gd : Option (Nat × Bool)}
theorem AaS{f:FuncId}(hp:Plain P f){c:AbV}{args:Array AbV}{at_:Array AbQ}{bd caps:Array AbI}(hc:Aa ρ c = .func (.func f) bd caps)(vs:Array AbI)(hv:bd++args.map (Aa ρ)++caps=vs) 
  (h:Calls P f vs w fun e w' =>∃v,e = .returned v/\K v w'):Yk P K ((execOp (Aa ρ) ⟨d, .call ⟨.value c,args,at_⟩,ty,pos,af,gd⟩).run P w):=by
 subst hv;refine Yk.enter (f:=f) (args:=bd++args.map (Aa ρ)++caps) (w' :=w) ?_ h;unfold execOp;simp[resolve,hc,Deferred.ofValue,invoke,hp _ w]
theorem Aaw{f:FuncId}{c x:AbV}{v y u:AbI}{bd caps:Array AbI}{R:Dk->AbJ->Prop}{at_:Array AbQ}(hp:Plain P f)(hc:Aa ρ c=v)(hve:v = .func (.func f) bd caps)(hx:Aa ρ x=y) 
  (h:Calls P f (bd ++ #[y]++caps) w fun e w' =>∃H',e = .returned u/\R H' w') (hk:∀H' w',R H' w' ->K u w'):Yk P K ((execOp (Aa ρ) ⟨d, .call ⟨.value c,#[x],at_⟩,ty,pos,af,gd⟩).run P w):=
 AaS hp (hc.trans hve) _ (by simp[hx]) (h.mono fun e w' ⟨H',q1,q2⟩=>⟨_,q1,hk H' w' q2⟩)
theorem YQ{f:Fn}{x:AbV}{v:AbI}(hx:Aa ρ x=v)(hk:K (.func f #[v] #[]) w):Yk P K ((execOp (Aa ρ) ⟨d, .makeFunc f #[x] #[],ty,pos,af,gd⟩).run P w):=by
 refine Abo (v:= .func f #[v] #[]) ?_ hk;unfold execOp;simp[hx,Instr.makeFunc]
end
section
variable {wb w w' : AbJ} {g : Nat} {H H' : Dk} {D D' : Af}
def StpAt(w:AbJ)(g:Nat)(H:Dk)(n:Nat)(v:AbI):Stp->Prop
 | .add b=>∃bd bb vb,v = .func (.func 87) #[] #[PQ bd 0,PQ bb 0]/\w.heap[bd]? =some (.cells ([PQ g 0]).toArray 50 (0,0))/\w.heap[bb]? =some (.cells ([vb]).toArray 27 (0,0))/\RB w vb b/\(b= []\/∀i,vb.ownBlock=some i->¬B3 H n i)/\b.length<=300
 | .sync=>v = .func (.func 90) #[PQ g 0] #[]
 | .rem=>v = .func (.func 52) #[PQ g 0] #[]
theorem DkW.off(hW:DkW wb w g H D w' H' D'){v:AbI}{b:Ah5}(hr:RB w v b)(ho:b= []\/∀i,v.ownBlock=some i->¬B3 H D.files.length i):b= []\/∀i,v.ownBlock=some i->¬B3 H' D'.files.length i:=by
 rcases ho with h0 | ho
 ·exact .inl h0
 ·by_cases hb:b= []
  ·exact .inl hb
  ·refine .inr fun i hi q=> ?_;rcases hW.foot i q with q | q
   ·exact ho i hi q
   ·have:=RB.lt hr (List.length_pos_iff.2 hb) hi;omega
theorem StpAt.step(hD:DkG wb w g H D)(hW:DkW wb w g H D w' H' D'){v:AbI}{a:Stp}(h:StpAt w g H D.files.length v a):StpAt w' g H' D'.files.length v a:=by
 cases a with
 | sync=>exact h
 | rem=>exact h
 | add b=>
  obtain⟨bd,bb,vb,e,h1,h2,h3,h4,h5⟩:=h;exact⟨bd,bb,vb,e,hD.box hW.chg h1 (by decide) (by decide) (by decide) (by decide),hD.box hW.chg h2 (by decide) (by decide) (by decide) (by decide),h3.chg hW.chg h4,hW.off h3 h4,h5⟩
theorem StpAt.ext{n:Nat}{v:AbI}{a:Stp}(h:StpAt w g H n v a)(k:Ext w w'):StpAt w' g H n v a:=by
 cases a with
 | sync=>exact h
 | rem=>exact h
 | add b=>
  obtain⟨bd,bb,vb,e,h1,h2,h3,h4,h5⟩:=h;exact⟨bd,bb,vb,e,Abk k h1,Abk k h2,h3.keep k,h4,h5⟩
theorem YE(h:DkG wb w g H D)(k:Ext w w'):DkW wb w g H D w' H D:=⟨h.keep k,YU k,fun _ q=> .inl q⟩
theorem DkW.setT(h:DkW wb w g H D w' H' D'){w2:AbJ}{b:Nat}{cs:Array AbI}{t:AbQ}{fr:Nat × Nat}(hg:w'.grownBy w2 (some b))(hb:w'.heap[b]? =some (.cells cs t fr))(hw:w.heap.size<=b)(h1:t≠107)(h2:t≠133)(h3:t≠5)(h4:t≠131)(h5:t≠113)(h6:t≠9)(hwb:wb.heap.size<=w.heap.size):DkW wb w g H D w2 H' D' :=
 ⟨h.g.setT hg hb (AbM hwb hw) h1 h2 h3 h4 h5 h6,AbA h.chg hg (.inr hw),h.foot⟩
abbrev Abl:=@DkW.setT
theorem DkW.trans{w2:AbJ}{H2:Dk}{D2:Af}(h:DkW wb w g H D w' H' D')(k:DkW wb w' g H' D' w2 H2 D2):DkW wb w g H D w2 H2 D2:=
 ⟨k.g,h.chg.trans k.chg h.foot,fun i q=>(k.foot i q).elim (h.foot i) fun r=> .inr (AbM h.chg.size r)⟩
end
theorem HI{D:Af}(h:DN D)(s:Ah5):(An D s).1.length<1099511627776:=by
 unfold An;split
 ·exact show(0:Nat)<1099511627776 by omega
 ·rename_i k _
  show(AY D k).1.length<_;by_cases hk:k<D.files.length
  ·exact h.files _ (IE hk)
  ·unfold AY;rw[AbN,List.getElem?_eq_none (by omega)];decide
theorem DBd.step{n:Nat}{D:Af}(h:DBd n D)(s:Ah5):∀(a:Stp),(∀b,a = .add b->b.length<=300)->DBd (n+1) (CQ D s a).1
 | .add b,hb=>h.append s (hb b rfl)
 | .sync,_=>h.sync s
 | .rem,_=>h.drop s
def NewI(n:Nat)(w:AbJ)(v:AbI):Prop:=∀k,v.ownBlock=some k->n<=k/\k<w.heap.size
theorem NewI.keep{n:Nat}{w w' :AbJ}{v:AbI}(h:NewI n w v)(k:Ext w w'):NewI n w' v:=fun j hj=>⟨(h j hj).1,AcE (h j hj).2 k.size⟩
theorem NewI.nil(n:Nat)(w:AbJ){a b:Nat}:NewI n w (.slice none a b):=fun k h=>by cases h
theorem NewI.low{n m:Nat}{w:AbJ}{v:AbI}(h:NewI n w v)(hm:m<=n):NewI m w v:=fun j hj=>⟨AbM hm (h j hj).1,(h j hj).2⟩
theorem Zd{n z l:Nat}{e:AbQ}{w:AbJ}{v:AbI}{xs:List AbI}(h:w.ownsRow n e z v l xs):NewI n w v:=fun k hk=>h.lt k hk
set_option maxRecDepth 100000
structure StpsAt (w : AbJ) (g : Nat) (H : Dk) (n : Nat) (vs : List AbI) (ac : List Stp) : Prop where
 len:vs.length=ac.length
 at_:∀i,i<ac.length->StpAt w g H n (vs.getD i undef) (ac.getD i .sync)
theorem StpsAt.ext{w w' :AbJ}{g n:Nat}{H:Dk}{vs:List AbI}{ac:List Stp}(h:StpsAt w g H n vs ac)(k:Ext w w'):StpsAt w' g H n vs ac:=⟨h.len,fun i hi=>(h.at_ i hi).ext k⟩
theorem StpsAt.step{wb w w' :AbJ}{g:Nat}{H H' :Dk}{D D' :Af}{vs:List AbI}{ac:List Stp}(h:StpsAt w g H D.files.length vs ac)(hD:DkG wb w g H D)(hW:DkW wb w g H D w' H' D'):StpsAt w' g H' D'.files.length vs ac:=⟨h.len,fun i hi=>(h.at_ i hi).step hD hW⟩
theorem DkW.keep{wb w w' w2:AbJ}{g:Nat}{H H' :Dk}{D D' :Af}(h:DkW wb w g H D w' H' D')(k:Ext w' w2):DkW wb w g H D w2 H' D' :=⟨h.g.keep k,h.chg.keep k,h.foot⟩
theorem L5{l:List Stp}{i:Nat}(h:i<l.length):l.drop i=l.getD i .sync :: l.drop (i+1):=by
 rw[AbN,AbT h];simp
theorem Uc:Plain AbL 88:=fun _ _=>by kernel_rfl
theorem L6:Tryz.prog.underlying 231=some (.slice 101):=by kernel_rfl
theorem SE:∀w' :AbJ,(sizeOf 101).run AbL w' = .ok 1 w' :=fun _=>by kernel_rfl
theorem SF:Tryz.prog.underlying 101=some (.func #[9] #[29] false):=by kernel_rfl
set_option maxHeartbeats 1600000
theorem SG(wb w:AbJ)(g:Nat)(H:Dk)(D:Af)(hD:DkG wb w g H D)(s:Ah5)(bd bb:Nat)(vb:AbI)(b:Ah5)(hbd:w.heap[bd]? =some (.cells ([PQ g 0]).toArray 50 (0,0)))(hbb:w.heap[bb]? =some (.cells ([vb]).toArray 27 (0,0)))(hr:RB w vb b)(hoff:b= []\/∀i,vb.ownBlock=some i->¬B3 H D.files.length i)(hbl:b.length<1099511627776)(hL:DN D):
  Calls AbL 87 #[St s,PQ bd 0,PQ bb 0] w fun e w' =>∃H',e = .returned (NI (A2 D s b).2)/\DkW wb w g H D w' H' ((A2 D s b).1):=by
 refine gG (args:= [St (s),PQ bd 0,PQ bb 0]) Tryz.func87 rfl 9 rfl rfl ?_;have hE:=AaY w;refine gS (XP TI rfl rfl (cellAt hbd rfl) (gS (XP F7 rfl rfl (cellAt hbb rfl) (gS (Yf Uc rfl rfl rfl (((hD.keep hE).appendW s vb b (hr.keep hE) hoff hbl hL).mono ?_))))));rintro e a ⟨H2,rfl,hW⟩;refine⟨_,rfl,?_⟩;refine Bp rfl (vr (NI ((A2 D s b).2)) rfl) ?_;exact⟨H2,rfl,hW⟩
theorem Ud{wb w:AbJ}{g:Nat}{H:Dk}{D:Af}(hD:DkG wb w g H D)(hL:DN D)(s:Ah5){v:AbI}{a:Stp}(h:StpAt w g H D.files.length v a):
  ∃f bd caps,v = .func (.func f) bd caps/\Plain AbL f/\Calls AbL f (bd ++ #[St s]++caps) w fun e w' =>∃H',e = .returned (NI (CQ D s a).2)/\DkW wb w g H D w' H' (CQ D s a).1:=by
 cases a with
 | sync=>exact⟨_,_,_,h,fun _ _=>by kernel_rfl,hD.syncW s hL⟩
 | rem=>exact⟨_,_,_,h,fun _ _=>by kernel_rfl,hD.dropW s hL⟩
 | add b=>
  obtain⟨bd,bb,vb,e,h1,h2,h3,h4,h5⟩:=h;exact⟨_,_,_,e,fun _ _=>by kernel_rfl,SG wb w g H D hD s bd bb vb b h1 h2 h3 h4 (by omega) hL⟩
theorem JW(wb w:AbJ)(g:Nat)(H:Dk)(D:Af)(hD:DkG wb w g H D)(s:Ah5)(rb:Nat)(vs:List AbI)(ac:List Stp)(hrb:w.heap[rb]? =some (.cells vs.toArray 101 (0,0)))(k:StpsAt w g H D.files.length vs ac)(n:Nat)(hB:DBd n D)(hn:n+ac.length<=100000)(hbs:∀a∈ac,∀b,a = .add b->b.length<=300):
  Calls AbL 89 #[St s, .slice (some ⟨rb,0,none⟩) vs.length vs.length] w fun e w' =>∃H',e = .returned (NI (AR D s ac).2)/\DkW wb w g H D w' H' ((AR D s ac).1):=by
 have hal:=k.len;have hvm:vs.length<=maxLen:=by simp only[maxLen];omega
 refine gG (args:= [St (s), .slice (some ⟨rb,0,none⟩) vs.length vs.length]) Tryz.func89 rfl 21 rfl rfl ?_;have hE:=AaY w;refine gS (YZ L6 rfl (gL (fun(ρ:Ac) (wz:AbJ)=>∃i:Nat,∃Hi:Dk,∃Di:Af,ρ 0=(St (s):AbI)/\ρ 1=(.slice (some ⟨rb,0,none⟩) vs.length vs.length:AbI)/\ρ 8=(.slice (some ⟨rb,0,none⟩) vs.length vs.length:AbI)/\ρ 9=(NI vs.length:AbI)/\ρ 10=(NI i:AbI)/\wz.heap[rb]? =some (.cells vs.toArray 101 (0,0))/\DkW wb w g H D wz Hi Di/\StpsAt wz g Hi Di.files.length vs ac/\(i<=ac.length)/\(AR D s ac=AR Di s (ac.drop i))/\(DBd (n+i) Di)/\True) (fun ρ _=>ac.length-(intOf (ρ 10)).toNat) ⟨0,H,D,rfl,rfl,rfl,rfl,rfl,hrb,YE hD hE,k.ext hE,Ack _,rfl,hB,trivial⟩ ?_));clear hE;clear hrb;rintro p u ⟨i,Hi,Di,l,q,m,o,c,hrb,hW,hA,hi,hq,hBi,-⟩;have q10:=c;refine gS (XQ (a:=(i:Nat)) (b:=(vs.length:Nat)) c o (AK _ _ _ _) ?_);refine cD rfl (fun f=> ?_) fun f=> ?_
 ·have hlt:i<ac.length:=by have h:=f;rw[hal]at h;exact h
  have hcell:vs[i]? =some (vs.getD i undef):=by rw[AbN,AbT (by rw[hal];exact hlt)];rfl
  refine gS (Y0 (i:=i) L6 SE m c (by rw[hal];exact hlt) (gS (XP SF rfl rfl (cellAt hrb hcell) ?_)));obtain⟨fi,bi,ci,hvi,hpl,hcl⟩:=Ud hW.g (hBi.lt (by omega)) s (hA.at_ i hlt);refine gS (Aaw hpl rfl hvi l hcl fun H2 v hW2=> ?_);have hW3:=hW.trans hW2;have hrb:=hW.g.box hW2.chg hrb (by decide) (by decide) (by decide) (by decide);have r:=hA.step hW.g hW2;refine gS (XQ (a:=((CQ Di s (ac.getD i .sync)).2:Nat)) (b:=(0:Nat)) rfl rfl (AV _ _ _ _) ?_);refine cD rfl (fun j=> ?_) fun j=> ?_
  ·refine Bp rfl (vr (NI ((CQ Di s (ac.getD i .sync)).2)) rfl) ?_;have hV:AR D s ac=CQ Di s (ac.getD i .sync):=by rw[hq,L5 hlt,E3,if_pos j]
   exact⟨H2,by rw[hV],by rw[hV];exact hW3⟩
  have hst:¬(CQ Di s (ac.getD i .sync)).2≠0:=j;have hq3:AR D s ac=AR (CQ Di s (ac.getD i .sync)).1 s (ac.drop (i+1)):=by rw[hq,L5 hlt,E3,if_neg hst]
  have t:=hBi.step s (ac.getD i .sync) (hbs _ (AO .sync hlt));refine gS (XR (xv:=NI i) (yv:=NI 1) c rfl rfl (Ah _ _ _ (by omega)) (gK (Acr ⟨i+1,H2,(CQ Di s (ac.getD i .sync)).1,l,q,m,o,rfl,hrb,hW3,r,by omega,hq3,t,trivial⟩ ?_)));show ac.length-(intOf (NI ((i)+(1)))).toNat<ac.length-(intOf (p 10)).toNat;rw[q10];simp only[intOf,Ab0];omega
 refine Bp rfl (vr (NI 0) rfl) ?_;have hie:i=ac.length:=by have h:=f;rw[hal]at h;omega
 have hV:AR D s ac=(Di,0):=by rw[hq,hie,List.drop_length];rfl
 exact⟨Hi,by rw[hV],by rw[hV];exact hW⟩
theorem SH{E:Bs->Ent}{id:Bs}{s:H0}{e:Nat}(h:Dc E id s = .error e):e=17\/e=6\/e=18\/e=2:=by
 unfold Dc at h;split at h
 ·cases h;exact .inl rfl
 ·split at h
  ·cases h;exact .inr (.inl rfl)
  ·split at h
   ·split at h
    ·cases h
    ·cases h;exact .inr (.inr (.inr rfl))
   ·cases h;exact .inr (.inr (.inl rfl))
theorem Po{E:Bs->Ent}{ids:List Bs}:∀ {n e:Nat},Dx E ids n = .error e->e=17\/e=6\/e=18\/e=2
 | 0,e,h=>by cases h
 | n+1,e,h=>by
  cases h1:Dx E ids n with
  | error a=>rw[Gy h1 1]at h;cases h;exact Po h1
  | ok s=>rw[E0 h1]at h;exact SH h
theorem VW{b:Bs}{e:Nat}(h:Cu b = .error e):e=17\/e=6\/e=18\/e=2:=by
 unfold Cu at h;split at h
 ·cases h;exact .inr (.inl rfl)
 ·unfold I7 at h;split at h
  ·split at h
   ·unfold HA at h;split at h
    ·cases h;exact .inr (.inl rfl)
    ·unfold GA at h;split at h
     ·cases h;exact .inr (.inl rfl)
     ·unfold G6 at h;split at h
      ·split at h
       ·unfold Gz at h;split at h
        ·cases h;exact Po ‹_›
        ·cases h
       ·cases h;exact .inr (.inl rfl)
      ·cases h;exact .inr (.inl rfl)
   ·cases h;exact .inr (.inl rfl)
  ·cases h;exact .inr (.inl rfl)
theorem VX{b:Bs}{e:Nat}(h:BY b = .error e):e≠0:=by
 unfold BY at h;split at h
 ·cases h;decide
 ·split at h
  ·cases h;decide
  ·split at h
   ·have:=VW h;omega
   ·cases h;decide
structure WO (ids : List Bs) (o : H0) : Prop where
 all:∀id∈ids,∃x d,o.O id=some (x,d)/\Sha.sum x=id/\x.length<=o.total
 any:∀id x,o.O id=some x->Sha.sum x.1=id/\x.1.length<=o.total/\id∈ids
 total:o.total<=4194304
theorem KQ{E:Bs->Ent}{ids:List Bs}:∀ {n:Nat} {o:H0},n<=ids.length->Dx E ids n = .ok o->WO (ids.take n) o
 | 0,o,_,h=>by
  cases h;exact⟨(fun id hid=>by simp at hid),(fun id x hx=>by cases hx),Ack _⟩
 | n+1,o,hn,h=>by
  cases h1:Dx E ids n with
  | error a=>rw[Gy h1 1]at h;cases h
  | ok s=>
   have ih:=KQ (by omega) h1;rw[E0 h1]at h;have ht:ids.take (n+1)=ids.take n++ [ids.getD n []]:=by
    rw[Acn (by omega),AbN,AbT (show n<ids.length by omega)];rfl
   cases hd:A8 E 50 (E (ids.getD n []))with
   | none=>rw[KF hd]at h;cases h
   | some d=>
    cases hc:BM E (d+1) (ids.getD n [])with
    | none=>rw[LW hd hc]at h;cases h
    | some x=>
     rw[EZ (b:=x.1) (k:=x.2) hd hc]at h;split at h
     ·split at h
      ·cases h
       rename_i hs hle
       refine⟨fun id hid=> ?_,fun id y hy=> ?_,hle⟩
       ·rw[ht]at hid;by_cases e:id=ids.getD n []
        ·exact⟨x.1,d,by show updM s.O _ _ id=_;unfold updM;rw[if_pos e],by rw[e];exact hs,by dsimp only;omega⟩
        ·obtain⟨y,d',k1,k2,k3⟩:=ih.all id (by
          rcases Acb.1 hid with q | q
          ·exact q
          ·exact absurd (AbW.1 q) e)
         exact⟨y,d',by show updM s.O _ _ id=_;unfold updM;rw[if_neg e];exact k1,k2,by dsimp only;omega⟩
       ·have hy' :updM s.O (ids.getD n []) (some (x.1,d)) id=some y:=hy;unfold updM at hy';rw[ht];split at hy'
        ·cases hy'
         rename_i e
         exact⟨by rw[e];exact hs,by dsimp only;omega,by rw[e];simp⟩
        ·obtain⟨k1,k2,k3⟩:=ih.any id y hy';exact⟨k1,by dsimp only;omega,by simp[k3]⟩
      ·cases h
     ·cases h
structure NT (b : Bs) (p : A0) : Prop where
 len:p.1.length<=b.length
 l32:∀id∈p.1,id.length=32
 all:∀id∈p.1,∃x d,p.2 id=some (x,d)/\Sha.sum x=id/\x.length<=4194304
 any:∀id x,p.2 id=some x->Sha.sum x.1=id/\x.1.length<=4194304/\id∈p.1
theorem QM{b:Bs}{p:A0}(h36:36<=b.length)(h:Cu b = .ok p):NT b p:=by
 unfold Cu at h;split at h
 ·cases h
 ·rename_i x hx
  unfold I7 at h;split at h
  ·rename_i hc
   split at h
   ·rename_i hn
    unfold HA at h;split at h
    ·cases h
    ·rename_i es hes
     have hel:=Iz hes (by omega);unfold GA at h;split at h
     ·cases h
     ·rename_i s hs
      have hi:=I6 _ _ hs;unfold G6 at h;split at h
      ·split at h
       ·unfold Gz at h;split at h
        ·cases h
        ·rename_i o ho
         cases h;have hg:=KQ (AbO _) ho;rw[Adt]at hg;refine⟨?_,fun id hid=> ?_,fun id hid=> ?_,fun id y hy=> ?_⟩
         ·show s.ids.length<=_;rw[hi.len,hel.1];omega
         ·obtain⟨j,hj,rfl⟩:=hi.ids id hid;refine rowId_len (n:=x.1) ?_ (by rw[hel.1]at hj;exact hj);rw[Ab5,Ab6];omega
         ·obtain⟨y,d,k1,k2,k3⟩:=hg.all id hid;exact⟨y,d,k1,k2,AbM k3 hg.total⟩
         ·obtain⟨k1,k2,k3⟩:=hg.any id y hy;exact⟨k1,AbM k2 hg.total,k3⟩
       ·cases h
      ·cases h
   ·cases h
  ·cases h
theorem QN{b:Bs}{p:A0}(h:BY b = .ok p):NT b p:=by
 unfold BY at h;split at h
 ·cases h
 ·split at h
  ·cases h
  ·split at h
   ·exact QM (by omega) h
   ·cases h
theorem stps1{w:AbJ}{g n:Nat}{H:Dk}{v:AbI}{a:Stp}(h:StpAt w g H n v a):StpsAt w g H n [v] [a]:=⟨rfl,fun i hi=>by
 have:i=0:=by simp at hi;omega
 subst this;exact h⟩
theorem Xp{w:AbJ}{g n:Nat}{H:Dk}{v b:AbI}{a a2:Stp}(h:StpAt w g H n v a)(h2:StpAt w g H n b a2):StpsAt w g H n [v,b] [a,a2]:=⟨rfl,fun i hi=>by
 match i,hi with
 | 0,_=>exact h
 | 1,_=>exact h2⟩
theorem Xq{w:AbJ}{g n:Nat}{H:Dk}{v b c:AbI}{a a2 a3:Stp}(h:StpAt w g H n v a)(h2:StpAt w g H n b a2)(h3:StpAt w g H n c a3):StpsAt w g H n [v,b,c] [a,a2,a3]:=⟨rfl,fun i hi=>by
 match i,hi with
 | 0,_=>exact h
 | 1,_=>exact h2
 | 2,_=>exact h3⟩
section
variable {P : Program} {K : AbI -> AbJ -> Prop} {ρ : Ac} {w : AbJ} {d : Option Tmp} {ty : AbQ} {pos : String} {af : Array Edge} {gd : Option (Nat × Bool)}
theorem AaF{t e:AbQ}{x0:AbV}{a:AbI}(h0:Aa ρ x0=a)(hr:∀w:AbJ,(Acq t 1 #[(0,a)]).run P w = .ok (.slice (some ⟨w.heap.size,0,none⟩) 1 1) (w.alloc (.cells #[a] e))) 
  (hk:∀n w',w.heap.size=n->w'.heap[n]? =some (.cells ([a]).toArray e (0,0))->Ext w w' ->w'.heap.size=n+1->K (.slice (some ⟨n,0,none⟩) 1 1) w'):Yk P K ((execOp (Aa ρ) ⟨d, .buildSlice t 1 #[(0,x0)],ty,pos,af,gd⟩).run P w):=by
 have hr' :(execOp (Aa ρ) ⟨d, .buildSlice t 1 #[(0,x0)],ty,pos,af,gd⟩).run P w = .ok (.value (.slice (some ⟨w.heap.size,0,none⟩) 1 1)) (w.alloc (.cells #[a] e)):=by
  unfold execOp;simp only[Acp,Aco,Acz,h0,AbY,hr,AbU,Ab1]
 rw[hr'];exact hk _ _ rfl (heap_alloc_new w _) ((Below.refl _ _).alloc (AbO _) _) (by simp)
theorem AaG{t e:AbQ}{x0 x1:AbV}{a b:AbI}(h0:Aa ρ x0=a)(h1:Aa ρ x1=b)(hr:∀w:AbJ,(Acq t 2 #[(0,a),(1,b)]).run P w = .ok (.slice (some ⟨w.heap.size,0,none⟩) 2 2) (w.alloc (.cells #[a,b] e))) 
  (hk:∀n w',w.heap.size=n->w'.heap[n]? =some (.cells ([a,b]).toArray e (0,0))->Ext w w' ->w'.heap.size=n+1->K (.slice (some ⟨n,0,none⟩) 2 2) w'):Yk P K ((execOp (Aa ρ) ⟨d, .buildSlice t 2 #[(0,x0),(1,x1)],ty,pos,af,gd⟩).run P w):=by
 have hr' :(execOp (Aa ρ) ⟨d, .buildSlice t 2 #[(0,x0),(1,x1)],ty,pos,af,gd⟩).run P w = .ok (.value (.slice (some ⟨w.heap.size,0,none⟩) 2 2)) (w.alloc (.cells #[a,b] e)):=by
  unfold execOp;simp only[Acp,Aco,Acz,h0,h1,AbY,hr,AbU,Ab1]
 rw[hr'];exact hk _ _ rfl (heap_alloc_new w _) ((Below.refl _ _).alloc (AbO _) _) (by simp)
theorem AaH{t e:AbQ}{x0 x1 x2:AbV}{a b c:AbI}(h0:Aa ρ x0=a)(h1:Aa ρ x1=b)(h2:Aa ρ x2=c)(hr:∀w:AbJ,(Acq t 3 #[(0,a),(1,b),(2,c)]).run P w = .ok (.slice (some ⟨w.heap.size,0,none⟩) 3 3) (w.alloc (.cells #[a,b,c] e))) 
  (hk:∀n w',w.heap.size=n->w'.heap[n]? =some (.cells ([a,b,c]).toArray e (0,0))->Ext w w' ->w'.heap.size=n+1->K (.slice (some ⟨n,0,none⟩) 3 3) w'):Yk P K ((execOp (Aa ρ) ⟨d, .buildSlice t 3 #[(0,x0),(1,x1),(2,x2)],ty,pos,af,gd⟩).run P w):=by
 have hr' :(execOp (Aa ρ) ⟨d, .buildSlice t 3 #[(0,x0),(1,x1),(2,x2)],ty,pos,af,gd⟩).run P w = .ok (.value (.slice (some ⟨w.heap.size,0,none⟩) 3 3)) (w.alloc (.cells #[a,b,c] e)):=by
  unfold execOp;simp only[Acp,Aco,Acz,h0,h1,h2,AbY,hr,AbU,Ab1]
 rw[hr'];exact hk _ _ rfl (heap_alloc_new w _) ((Below.refl _ _).alloc (AbO _) _) (by simp)
end
theorem Gk(w:AbJ)(hG:Laid w)(v:AbI)(l:Ah5)(h:RBs w v [l])(hl:l.length<=1099511627776):
  Calls AbL 45 #[v] w fun e w' =>e = .returned (AB (Sha.sum l))/\Ext w w' :=by
 have:=Ph w hG v [l] h (by simp;omega) (by simp)
 simpa using this
theorem Ue:Plain AbL 86:=fun _ _=>by kernel_rfl
theorem Uf:Plain AbL 42:=fun _ _=>by kernel_rfl
theorem VY(f0:Fn)(a0 c0:Array AbI)(f1:Fn)(a1 c1:Array AbI)(w:AbJ):(Acq 231 2 #[(0, .func f0 a0 c0),(1, .func f1 a1 c1)]).run AbL w = .ok (.slice (some ⟨w.heap.size,0,none⟩) 2 2) (w.alloc (.cells #[.func f0 a0 c0, .func f1 a1 c1] 101)):=by kernel_rfl
theorem JX:Plain AbL 89:=fun _ _=>by kernel_rfl
theorem VZ(f0:Fn)(a0 c0:Array AbI)(w:AbJ):(Acq 231 1 #[(0, .func f0 a0 c0)]).run AbL w = .ok (.slice (some ⟨w.heap.size,0,none⟩) 1 1) (w.alloc (.cells #[.func f0 a0 c0] 101)):=by kernel_rfl
theorem V0(f0:Fn)(a0 c0:Array AbI)(f1:Fn)(a1 c1:Array AbI)(f2:Fn)(a2 c2:Array AbI)(w:AbJ):(Acq 231 3 #[(0, .func f0 a0 c0),(1, .func f1 a1 c1),(2, .func f2 a2 c2)]).run AbL w = .ok (.slice (some ⟨w.heap.size,0,none⟩) 3 3) (w.alloc (.cells #[.func f0 a0 c0, .func f1 a1 c1, .func f2 a2 c2] 101)):=by kernel_rfl
theorem V1(wb w:AbJ)(g:Nat)(H:Dk)(D:Af)(hD:DkG wb w g H D)(hG:Laid wb)(vb:AbI)(b:Ah5)(hr:RB w vb b)(hoff:b= []\/∀i,vb.ownBlock=some i->¬B3 H D.files.length i)(hbl:b.length<=300)(n:Nat)(hB:DBd n D)(hn:n<=99000):
  Calls AbL 47 #[PQ g 0,vb] w fun e w' =>∃H' vo,e = .returned (.tuple #[AB ((BP D b).2.1),vo,NI (BP D b).2.2.2])/\RB w' vo (BP D b).2.2.1/\DkW wb w g H D w' H' (BP D b).1/\∀k,AbS vo=some k->w.heap.size<=k:=by
 refine gG (args:= [PQ g 0,vb]) Tryz.func47 rfl 70 rfl rfl ?_;have hE:=AaY w;refine gS (YF (vr (PQ g 0) rfl) rfl fun p w3 cg ax bi ch=> ?_);have j:=ax;clear ax;have ci:p<w3.heap.size:=by omega
 have hE:=hE.trans bi;refine gS (YF (vr vb rfl) (Aa8 (hr.keep hE)).1 fun q bj cj ay az ck=> ?_);have t:=AaY w3;have cl:=hE.size;have f:=ay;clear ay;have cm:q<bj.heap.size:=by omega
 refine gS (Aa3 Tn fun o a0 bk a1 aj cn=> ?_);have hE:=hE.trans az;have t:=t.trans az;have bm:=hE.size;have c:=a1;clear a1;have co:o<a0.heap.size:=by omega
 have hE:=hE.trans aj;have hW:DkW wb w g H D a0 H D:=YE hD hE;have hwb:=hD.ext.size;have hrl:=HI (hB.lt (by omega)) (nmO (Sha.sum b));have cp:=As (bl f) bk;have f:=eb aj f;refine gS (XP F7 rfl rfl (cellAt f rfl) (gS (XZ F7 (XV (hr.keep hE) rfl) (gS (XQ (a:=(b.length:Nat)) (b:=(262144:Nat)) rfl rfl (Bh _ _ _ _) (kF (by omega) (cF rfl (gS (XP F7 rfl rfl (cellAt f rfl) (gS (YA Ga (XV (hr.keep hE) (vr vb rfl)) fun bn bo a2 ak=> ?_)))))))))));have hW:DkW wb w g H (D) bo H (D):=(hW.keep ak);refine gS (XX JM rfl ((Gk _ (hG.keep (hW).g.ext) bn b a2 (by omega)).mono ?_));rintro e bp ⟨rfl,al⟩;refine⟨_,rfl,?_⟩;have hW:DkW wb w g H (D) bp H (D):=(hW.keep al);have hZ1:=ak.trans al;have c:=eb hZ1 c;refine gS (XT (vr (PQ o 0) rfl) (vr (AB (Sha.sum b)) rfl) c (by exact BC (Sha.sum_length _) Ab8) (by exact Ad (Sha.sum_length _)) (Ag _) fun bq a3 ad cq=> ?_);have hW:DkW wb w g H (D) bq H (D):=Abl hW ad c (by omega) (by decide) (by decide) (by decide) (by decide) (by decide) (by decide) hwb;clear a2;clear c;have c:=a3;clear a3;have cr:=bl c;refine gS (XU rfl c U7 rfl (by exact Ad (Sha.sum_length _)) (gS (XX Ue rfl ((NS _ (Sha.sum b) (Sha.sum_length _)).mono ?_))));rintro e br ⟨rfl,ac⟩;refine⟨_,rfl,?_⟩;have hW:DkW wb w g H (D) br H (D):=(hW.keep ac);have bs:=t.size;have hZ2:=(aj.trans ak).trans al;have t:=t.trans hZ2;have t:=Ab t ad (AbM bs (by omega));have t:=t.trans ac;have j:=eb t j;refine gS (Yx (vs:= #[PQ p 0,PQ q 0]) (by simp only[Acp,Aco,Acz];exact congrArg Adh (FK (vr (PQ p 0) rfl) (vr (PQ q 0) rfl))) (gS (XP TI rfl rfl (cellAt j rfl) ?_)));have hE:=hE.trans hZ1;have hE:=Ab hE ad (AbM bm (by omega));have hE:=hE.trans ac;have hszr_:=(hE).size;refine gS (XS Uf rfl rfl (((hW).g.read (nmO (Sha.sum b)) (hB.lt (by omega))).mono ?_));rintro e bt ⟨x,rfl,am,u⟩;refine⟨_,rfl,?_⟩;have f:=eb hZ1 f;have f:=kb ad f (by omega);have f:=eb ac f;have c:=eb ac c;have bu:OB x o:=EN am (bl c);have hW:DkW wb w g H (D) bt H (D):=(hW.keep u);have hvnew:∀k,AbS x=some k->w.heap.size<=k:=fun k hk=>AbM hszr_ (am.lt k hk).1;have r:=Ya am;refine gS (AaZ (vs:= [x,NI ((An D (nmO (Sha.sum b))).2)]) rfl rfl (gS (AaZ (vs:= [x,NI ((An D (nmO (Sha.sum b))).2)]) rfl rfl (gS (XQ (a:=((An D (nmO (Sha.sum b))).2:Nat)) (b:=(4:Nat)) rfl rfl (AI _ _ _ _) ?_)))));refine cD rfl (fun y=> ?_) fun y=> ?_
 ·have hV:BP D b=DC (AR D (nmO (Sha.sum b)) [.add b, .sync]) (Sha.sum b):=by unfold BP;rw[if_pos y]
  have j:=eb u j;refine gS (XP TI rfl rfl (cellAt j rfl) (gS (YQ (vr (PQ g 0) rfl) (gS (AaG (vr (.func (.func 87) #[] #[PQ p 0,PQ q 0]) rfl) (vr (.func (.func 90) #[PQ g 0] #[]) rfl) (fun w=>VY _ _ _ _ _ _ w) fun b66 bv cs a4 an ct=> ?_)))));have hW:DkW wb w g H (D) bv H (D):=(hW.keep an);have hWc:=hW;have hZ3:=u.trans an;have hE:=hE.trans hZ3;have f:=eb hZ3 f;have j:=eb an j;refine gS (XS JX rfl rfl ((JW wb _ g H D hWc.g (nmO (Sha.sum b)) b66 [.func (.func 87) #[] #[PQ p 0,PQ q 0], .func (.func 90) #[PQ g 0] #[]] [.add b, .sync] a4 (Xp (show StpAt _ _ _ _ _ (.add b)from⟨p,q,vb,rfl,j,f,(hr.keep hE),hoff,hbl⟩) (show StpAt _ _ _ _ _ (.sync)from rfl)) n hB (by simp;omega) (by simp[hbl])).mono ?_));rintro e ao ⟨H72,rfl,hW73⟩;refine⟨_,rfl,?_⟩;have hWn:=hWc.trans hW73;have j:ao.heap[p]? =some (.cells (([PQ g 0]:List AbI)).toArray 50 (0,0)):=Abe hWc.g hW73.chg j (by decide) (by decide) (by decide) (by decide);have f:ao.heap[q]? =some (.cells (([vb]:List AbI)).toArray 27 (0,0)):=Abe hWc.g hW73.chg f (by decide) (by decide) (by decide) (by decide);have c:=eb hZ3 c;have c:ao.heap[o]? =some (.cells (AbK (Sha.sum b)).toArray 33 (0,0)):=Abe hWc.g hW73.chg c (by decide) (by decide) (by decide) (by decide);clear hE;clear hW;clear r;clear a4;have hW:=hWn;refine gS (XQ (a:=((AR D (nmO (Sha.sum b)) [.add b, .sync]).2:Nat)) (b:=(0:Nat)) rfl rfl (AV _ _ _ _) ?_);refine cD rfl (fun s=> ?_) fun s=> ?_
  ·refine gS (Abo (v:=AB (AbX 32 0)) (by kernel_rfl) (gS (XT (vr (PQ o 0) rfl) (vr (AB (AbX 32 0)) rfl) c (by exact BC Ab8 (Sha.sum_length _)) (by exact Ad Ab8) (Ag _) fun bw a5 bx cu=> ?_)));have hW:DkW wb w g H (D) bw H72 ((AR D (nmO (Sha.sum b)) [.add b, .sync]).1):=Abl hW bx c (by omega) (by decide) (by decide) (by decide) (by decide) (by decide) (by decide) hwb;clear c;have c:=a5;clear a5;have cv:=bl c;refine If rfl (Aa9 rfl c U7 rfl (by exact Ad Ab8)) (vr (AbR none 0 0) rfl) (vr (NI ((AR D (nmO (Sha.sum b)) [.add b, .sync]).2)) rfl) ?_;have hF:DC (AR D (nmO (Sha.sum b)) [.add b, .sync]) (Sha.sum b)=((AR D (nmO (Sha.sum b)) [.add b, .sync]).1,GE,[],(AR D (nmO (Sha.sum b)) [.add b, .sync]).2):=if_pos s;exact⟨H72,_,by rw[hV,hF];rfl,by rw[hV,hF];exact Abi _,by rw[hV,hF];exact hW,fun k h=>by cases h⟩
  refine gS (XU rfl c U7 rfl (by exact Ad (Sha.sum_length _)) (gS (XT (vr (PQ o 0) rfl) (vr (AB (Sha.sum b)) rfl) c (by exact BC (Sha.sum_length _) (Sha.sum_length _)) (by exact Ad (Sha.sum_length _)) (Ag _) fun bz a6 b0 cw=> ?_)));have hW:DkW wb w g H (D) bz H72 ((AR D (nmO (Sha.sum b)) [.add b, .sync]).1):=Abl hW b0 c (by omega) (by decide) (by decide) (by decide) (by decide) (by decide) (by decide) hwb;clear c;have c:=a6;clear a6;have cx:=bl c;refine If rfl (Aa9 rfl c U7 rfl (by exact Ad (Sha.sum_length _))) (vr (AbR none 0 0) rfl) (vr (NI 0) rfl) ?_;have hF:DC (AR D (nmO (Sha.sum b)) [.add b, .sync]) (Sha.sum b)=((AR D (nmO (Sha.sum b)) [.add b, .sync]).1,(Sha.sum b),[],0):=if_neg s;exact⟨H72,_,by rw[hV,hF],by rw[hV,hF];exact Abi _,by rw[hV,hF];exact hW,fun k h=>by cases h⟩
 refine gS (XQ (a:=((An D (nmO (Sha.sum b))).2:Nat)) (b:=(0:Nat)) rfl rfl (AV _ _ _ _) ?_);refine cD rfl (fun z=> ?_) fun z=> ?_
 ·have hV:BP D b=(D,GE,[],(An D (nmO (Sha.sum b))).2):=by unfold BP;rw[if_neg y,if_pos z]
  have c:=eb u c;refine gS (XQ (a:=((An D (nmO (Sha.sum b))).2:Nat)) (b:=(0:Nat)) rfl rfl (AV _ _ _ _) (kT (z) (cT rfl (gS (Abo (v:=AB (AbX 32 0)) (by kernel_rfl) (gS (XT (vr (PQ o 0) rfl) (vr (AB (AbX 32 0)) rfl) c (by exact BC Ab8 (Sha.sum_length _)) (by exact Ad Ab8) (Ag _) fun b1 a7 b2 cy=> ?_)))))));have hW:DkW wb w g H (D) b1 H (D):=Abl hW b2 c (by omega) (by decide) (by decide) (by decide) (by decide) (by decide) (by decide) hwb;clear c;have c:=a7;clear a7;have cz:=bl c;refine If rfl (Aa9 rfl c U7 rfl (by exact Ad Ab8)) (vr (AbR none 0 0) rfl) (vr (NI ((An D (nmO (Sha.sum b))).2)) rfl) ?_;exact⟨H,_,by rw[hV];rfl,by rw[hV];exact Abi _,by rw[hV];exact hW,fun k h=>by cases h⟩
 have hE:=hE.trans u;have f:=eb u f;refine gS (Yo F7 u5 Pi (XV r rfl) (gS (XP F7 rfl rfl (cellAt f rfl) (gS (Yo F7 u5 Pi (XV (hr.keep hE) rfl) (gS (YK (l:=(An D (nmO (Sha.sum b))).1) (m:=b) (.inl rfl) rfl rfl (decide ((An D (nmO (Sha.sum b))).1=b)) rfl ?_)))))));refine cD rfl (fun ae=> ?_) fun ae=> ?_
 ·have hV:BP D b=DC (AR D (nmO (Sha.sum b)) [.sync]) (Sha.sum b):=by unfold BP;rw[if_neg y,if_neg z,if_pos ae]
  have j:=eb u j;refine gS (XP TI rfl rfl (cellAt j rfl) (gS (YQ (vr (PQ g 0) rfl) (gS (AaF (vr (.func (.func 90) #[PQ g 0] #[]) rfl) (fun w=>VZ _ _ _ w) fun b99 b3 c0 a8 af c1=> ?_)))));have hW:DkW wb w g H (D) b3 H (D):=(hW.keep af);have hWc:=hW;refine gS (XS JX rfl rfl ((JW wb _ g H D hWc.g (nmO (Sha.sum b)) b99 [.func (.func 90) #[PQ g 0] #[]] [.sync] a8 (stps1 (show StpAt _ _ _ _ _ (.sync)from rfl)) n hB (by simp;omega) (by simp[hbl])).mono ?_));rintro e ap ⟨H105,rfl,hW106⟩;refine⟨_,rfl,?_⟩;have hWn:=hWc.trans hW106;have j:=eb af j;have j:ap.heap[p]? =some (.cells (([PQ g 0]:List AbI)).toArray 50 (0,0)):=Abe hWc.g hW106.chg j (by decide) (by decide) (by decide) (by decide);have f:=eb af f;have f:ap.heap[q]? =some (.cells (([vb]:List AbI)).toArray 27 (0,0)):=Abe hWc.g hW106.chg f (by decide) (by decide) (by decide) (by decide);have hZ4:=u.trans af;have c:=eb hZ4 c;have c:ap.heap[o]? =some (.cells (AbK (Sha.sum b)).toArray 33 (0,0)):=Abe hWc.g hW106.chg c (by decide) (by decide) (by decide) (by decide);clear hE;clear hW;clear r;clear a8;have hW:=hWn;refine gS (XQ (a:=((AR D (nmO (Sha.sum b)) [.sync]).2:Nat)) (b:=(0:Nat)) rfl rfl (AV _ _ _ _) ?_);refine cD rfl (fun s=> ?_) fun s=> ?_
  ·refine gS (Abo (v:=AB (AbX 32 0)) (by kernel_rfl) (gS (XT (vr (PQ o 0) rfl) (vr (AB (AbX 32 0)) rfl) c (by exact BC Ab8 (Sha.sum_length _)) (by exact Ad Ab8) (Ag _) fun b4 a9 b5 c2=> ?_)));have hW:DkW wb w g H (D) b4 H105 ((AR D (nmO (Sha.sum b)) [.sync]).1):=Abl hW b5 c (by omega) (by decide) (by decide) (by decide) (by decide) (by decide) (by decide) hwb;clear c;have c:=a9;clear a9;have c3:=bl c;refine If rfl (Aa9 rfl c U7 rfl (by exact Ad Ab8)) (vr (AbR none 0 0) rfl) (vr (NI ((AR D (nmO (Sha.sum b)) [.sync]).2)) rfl) ?_;have hF:DC (AR D (nmO (Sha.sum b)) [.sync]) (Sha.sum b)=((AR D (nmO (Sha.sum b)) [.sync]).1,GE,[],(AR D (nmO (Sha.sum b)) [.sync]).2):=if_pos s;exact⟨H105,_,by rw[hV,hF];rfl,by rw[hV,hF];exact Abi _,by rw[hV,hF];exact hW,fun k h=>by cases h⟩
  refine gS (XU rfl c U7 rfl (by exact Ad (Sha.sum_length _)) (gS (XT (vr (PQ o 0) rfl) (vr (AB (Sha.sum b)) rfl) c (by exact BC (Sha.sum_length _) (Sha.sum_length _)) (by exact Ad (Sha.sum_length _)) (Ag _) fun b6 ba b7 c4=> ?_)));have hW:DkW wb w g H (D) b6 H105 ((AR D (nmO (Sha.sum b)) [.sync]).1):=Abl hW b7 c (by omega) (by decide) (by decide) (by decide) (by decide) (by decide) (by decide) hwb;clear c;have c:=ba;clear ba;have c5:=bl c;refine If rfl (Aa9 rfl c U7 rfl (by exact Ad (Sha.sum_length _))) (vr (AbR none 0 0) rfl) (vr (NI 0) rfl) ?_;have hF:DC (AR D (nmO (Sha.sum b)) [.sync]) (Sha.sum b)=((AR D (nmO (Sha.sum b)) [.sync]).1,(Sha.sum b),[],0):=if_neg s;exact⟨H105,_,by rw[hV,hF],by rw[hV,hF];exact Abi _,by rw[hV,hF];exact hW,fun k h=>by cases h⟩
 refine DZ [0,3,1,2,4,5] [1,2] [] [3] fun bb ag=> ?_;have hW:DkW wb w g H (D) bb H (D):=(hW.keep ag);have ah:=AaY bb;have hZ5:=u.trans ag;have c:=eb hZ5 c;have r:=r.keep ag;refine DS ah ?_;refine yf (fun _ ⟨hZ,_⟩=>XU rfl (eb hZ c) U7 rfl (by exact Ad (Sha.sum_length _)) zz) (yE (YA Ga (XV r (vr x rfl)) fun b8 bc aq aa=> ?_));have hW:DkW wb w g H (D) bc H (D):=(hW.keep aa);have ah:=ah.trans aa;refine⟨ah,?_⟩;have ar:=AaY bc;refine yE (XX JM rfl ((Gk _ (hG.keep (hW).g.ext) b8 ((An D (nmO (Sha.sum b))).1) aq (by omega)).mono ?_));rintro e b9 ⟨rfl,ab⟩;refine⟨_,rfl,?_⟩;have hW:DkW wb w g H (D) b9 H (D):=(hW.keep ab);have ar:=ar.trans ab;refine⟨ar,?_⟩;refine ys (ZD (l1:=(Sha.sum ((An D (nmO (Sha.sum b))).1))) (l2:=(Sha.sum b)) U7 u5 PO Sc rfl rfl ((Sha.sum_length _)) ((Sha.sum_length _)) zz) ?_;refine cD rfl (fun au=> ?_) fun au=> ?_
 ·have hV:BP D b=(D,(Sha.sum b),(An D (nmO (Sha.sum b))).1,7):=by unfold BP;rw[if_neg y,if_neg z,if_neg ae,if_pos au]
  have hZ6:=aa.trans ab;have c:=eb hZ6 c;refine gS (XU rfl c U7 rfl (by exact Ad (Sha.sum_length _)) (gS (XT (vr (PQ o 0) rfl) (vr (AB (Sha.sum b)) rfl) c (by exact BC (Sha.sum_length _) (Sha.sum_length _)) (by exact Ad (Sha.sum_length _)) (Ag _) fun ca bd be c6=> ?_)));have hW:DkW wb w g H (D) ca H (D):=Abl hW be c (by omega) (by decide) (by decide) (by decide) (by decide) (by decide) (by decide) hwb;clear aq;clear c;have c:=bd;clear bd;have c7:=bl c;refine If rfl (Aa9 rfl c U7 rfl (by exact Ad (Sha.sum_length _))) (vr x rfl) (vr (NI 7) rfl) ?_;have r:=r.keep hZ6;have r:=Abp r be (.inr bu);exact⟨H,_,by rw[hV],by rw[hV];exact r,by rw[hV];exact hW,hvnew⟩
 have hV:BP D b=DC (AR D (nmO (Sha.sum b)) [.rem, .add b, .sync]) (Sha.sum b):=by unfold BP;rw[if_neg y,if_neg z,if_neg ae,if_neg au]
 have hZ7:=(hZ5.trans aa).trans ab;have j:=eb hZ7 j;refine gS (XP TI rfl rfl (cellAt j rfl) (gS (YQ (vr (PQ g 0) rfl) (gS (XP TI rfl rfl (cellAt j rfl) (gS (YQ (vr (PQ g 0) rfl) (gS (AaH (vr (.func (.func 52) #[PQ g 0] #[]) rfl) (vr (.func (.func 87) #[] #[PQ p 0,PQ q 0]) rfl) (vr (.func (.func 90) #[PQ g 0] #[]) rfl) (fun w=>V0 _ _ _ _ _ _ _ _ _ w) fun b140 cb c8 bf ai c9=> ?_)))))))));have hW:DkW wb w g H (D) cb H (D):=(hW.keep ai);have hWc:=hW;have hZ8:=((ag.trans aa).trans ab).trans ai;have hE:=hE.trans hZ8;have f:=eb hZ8 f;have j:=eb ai j;refine gS (XS JX rfl rfl ((JW wb _ g H D hWc.g (nmO (Sha.sum b)) b140 [.func (.func 52) #[PQ g 0] #[], .func (.func 87) #[] #[PQ p 0,PQ q 0], .func (.func 90) #[PQ g 0] #[]] [.rem, .add b, .sync] bf (Xq (show StpAt _ _ _ _ _ (.rem)from rfl) (show StpAt _ _ _ _ _ (.add b)from⟨p,q,vb,rfl,j,f,(hr.keep hE),hoff,hbl⟩) (show StpAt _ _ _ _ _ (.sync)from rfl)) n hB (by simp;omega) (by simp[hbl])).mono ?_));rintro e av ⟨H146,rfl,hW147⟩;refine⟨_,rfl,?_⟩;have hWn:=hWc.trans hW147;have j:av.heap[p]? =some (.cells (([PQ g 0]:List AbI)).toArray 50 (0,0)):=Abe hWc.g hW147.chg j (by decide) (by decide) (by decide) (by decide);have f:av.heap[q]? =some (.cells (([vb]:List AbI)).toArray 27 (0,0)):=Abe hWc.g hW147.chg f (by decide) (by decide) (by decide) (by decide);have hZ9:=(aa.trans ab).trans ai;have c:=eb hZ9 c;have c:av.heap[o]? =some (.cells (AbK (Sha.sum b)).toArray 33 (0,0)):=Abe hWc.g hW147.chg c (by decide) (by decide) (by decide) (by decide);clear hE;clear hW;clear r;clear aq;clear bf;have hW:=hWn;refine gS (XQ (a:=((AR D (nmO (Sha.sum b)) [.rem, .add b, .sync]).2:Nat)) (b:=(0:Nat)) rfl rfl (AV _ _ _ _) ?_);refine cD rfl (fun s=> ?_) fun s=> ?_
 ·refine gS (Abo (v:=AB (AbX 32 0)) (by kernel_rfl) (gS (XT (vr (PQ o 0) rfl) (vr (AB (AbX 32 0)) rfl) c (by exact BC Ab8 (Sha.sum_length _)) (by exact Ad Ab8) (Ag _) fun cc bg cd da=> ?_)));have hW:DkW wb w g H (D) cc H146 ((AR D (nmO (Sha.sum b)) [.rem, .add b, .sync]).1):=Abl hW cd c (by omega) (by decide) (by decide) (by decide) (by decide) (by decide) (by decide) hwb;clear c;have c:=bg;clear bg;have db:=bl c;refine If rfl (Aa9 rfl c U7 rfl (by exact Ad Ab8)) (vr (AbR none 0 0) rfl) (vr (NI ((AR D (nmO (Sha.sum b)) [.rem, .add b, .sync]).2)) rfl) ?_;have hF:DC (AR D (nmO (Sha.sum b)) [.rem, .add b, .sync]) (Sha.sum b)=((AR D (nmO (Sha.sum b)) [.rem, .add b, .sync]).1,GE,[],(AR D (nmO (Sha.sum b)) [.rem, .add b, .sync]).2):=if_pos s;exact⟨H146,_,by rw[hV,hF];rfl,by rw[hV,hF];exact Abi _,by rw[hV,hF];exact hW,fun k h=>by cases h⟩
 refine gS (XU rfl c U7 rfl (by exact Ad (Sha.sum_length _)) (gS (XT (vr (PQ o 0) rfl) (vr (AB (Sha.sum b)) rfl) c (by exact BC (Sha.sum_length _) (Sha.sum_length _)) (by exact Ad (Sha.sum_length _)) (Ag _) fun ce bh cf dc=> ?_)));have hW:DkW wb w g H (D) ce H146 ((AR D (nmO (Sha.sum b)) [.rem, .add b, .sync]).1):=Abl hW cf c (by omega) (by decide) (by decide) (by decide) (by decide) (by decide) (by decide) hwb;clear c;have c:=bh;clear bh;have dd:=bl c;refine If rfl (Aa9 rfl c U7 rfl (by exact Ad (Sha.sum_length _))) (vr (AbR none 0 0) rfl) (vr (NI 0) rfl) ?_;have hF:DC (AR D (nmO (Sha.sum b)) [.rem, .add b, .sync]) (Sha.sum b)=((AR D (nmO (Sha.sum b)) [.rem, .add b, .sync]).1,(Sha.sum b),[],0):=if_neg s;exact⟨H146,_,by rw[hV,hF],by rw[hV,hF];exact Abi _,by rw[hV,hF];exact hW,fun k h=>by cases h⟩
theorem V2(wb w:AbJ)(g:Nat)(H:Dk)(D:Af)(hD:DkG wb w g H D)(hG:Laid wb)(hL:DN D)(id:Ah5)(hid:id.length=32):
  Calls AbL 48 #[PQ g 0,AB id] w fun e w' =>∃v,e = .returned (.tuple #[v,NI (C8 D id).2])/\RB w' v (C8 D id).1/\Ext w w' /\NewI w.heap.size w' v:=by
 refine gG (args:= [PQ g 0,AB id]) Tryz.func48 rfl 30 rfl rfl ?_;have hE:=AaY w;refine gS (Abh (vr (AB id) rfl) fun u x ai r y aj=> ?_);have i:=r;clear r;have ak:u<x.heap.size:=by omega
 refine gS (XU rfl i U7 rfl (by exact Ad hid) (gS (XX Ue rfl ((NS _ id hid).mono ?_))));rintro e al ⟨rfl,s⟩;refine⟨_,rfl,?_⟩;have hE:=hE.trans (y.trans s);have hszr_:=(hE).size;refine gS (XS Uf rfl rfl (((hD.keep hE).read (nmO id) hL).mono ?_));rintro e am ⟨f,rfl,t,j⟩;refine⟨_,rfl,?_⟩;have hvn:=(Zd t).low hszr_;have c:=Ya t;refine gS (AaZ (vs:= [f,NI ((An D (nmO id)).2)]) rfl rfl (gS (AaZ (vs:= [f,NI ((An D (nmO id)).2)]) rfl rfl ?_)));have hrl:=HI hL (nmO id);by_cases h4:(An D (nmO id)).2=4
 ·refine DZ [0,1,2,3,4,5,6,9,7,8,10,11,12] [7,8] [] [9] fun z aa=> ?_;have ab:=AaY z;refine DS ab ?_;refine ys (XQ (a:=((An D (nmO id)).2:Nat)) (b:=(4:Nat)) rfl rfl (AI _ _ _ _) zz) (kT (h4) (ys (XY rfl rfl zz) (cT rfl (BA rfl (vr (AbR none 0 0) rfl) (vr (NI 12) rfl) ?_))));have hV:C8 D id=([],12):=if_pos (.inl h4);have hE:=hE.trans (j.trans aa);exact⟨_,by rw[hV],by rw[hV];exact Abi _,hE,NewI.nil _ _⟩
 by_cases h0:(An D (nmO id)).2=0
 ·refine DZ [0,1,2,3,4,5,6,9,7,8,10,11,12] [7,8] [] [9] fun ac k=> ?_;have l:=AaY ac;have i:=eb ((s.trans j).trans k) i;have c:=c.keep k;refine DS l ?_;refine ys (XQ (a:=((An D (nmO id)).2:Nat)) (b:=(4:Nat)) rfl rfl (AI _ _ _ _) zz) (kF (h4) (ys (XQ (a:=((An D (nmO id)).2:Nat)) (b:=(0:Nat)) rfl rfl (AI _ _ _ _) zz) (kT (h0) (yf (fun _ ⟨hZ,_⟩=>XU rfl (eb hZ i) U7 rfl (by exact Ad hid) zz) (yE (YA Ga (XV c (vr f rfl)) fun ad ae af m=> ?_))))));have l:=l.trans m;refine⟨l,?_⟩;have n:=AaY ae;have hE:=hE.trans ((j.trans k).trans m);refine yE (XX JM rfl ((Gk _ (hG.keep ((hD.keep hE)).ext) ad ((An D (nmO id)).1) af (by omega)).mono ?_));rintro e an ⟨rfl,h⟩;refine⟨_,rfl,?_⟩;have n:=n.trans h;refine⟨n,?_⟩;refine ys (ZE (l1:=(Sha.sum ((An D (nmO id)).1))) (l2:=id) U7 u5 PO Sc rfl rfl ((Sha.sum_length _)) (hid) zz) (ys (XY rfl rfl zz) (ys (X2 rfl rfl zz) ?_));refine cD rfl (fun o=> ?_) fun o=> ?_
  ·refine BA rfl (vr (AbR none 0 0) rfl) (vr (NI 12) rfl) ?_;have hV:C8 D id=([],12):=if_pos (.inr ⟨h0,o⟩);have hE:=hE.trans h;exact⟨_,by rw[hV],by rw[hV];exact Abi _,hE,NewI.nil _ _⟩
  refine BA rfl (vr f rfl) (vr (NI ((An D (nmO id)).2)) rfl) ?_;have hV:C8 D id=(An D (nmO id)):=if_neg (fun q=>q.elim h4 fun q=>o q.2);have hvn:=hvn.keep ((k.trans m).trans h);have hZ1:=m.trans h;have c:=c.keep hZ1;have hE:=hE.trans h;exact⟨_,by rw[hV],by rw[hV];exact c,hE,hvn⟩
 refine DZ [0,1,2,3,4,5,6,9,7,8,10,11,12] [7,8] [] [9] fun ag p=> ?_;have ah:=AaY ag;refine DS ah ?_;refine ys (XQ (a:=((An D (nmO id)).2:Nat)) (b:=(4:Nat)) rfl rfl (AI _ _ _ _) zz) (kF (h4) (ys (XQ (a:=((An D (nmO id)).2:Nat)) (b:=(0:Nat)) rfl rfl (AI _ _ _ _) zz) (kF (h0) (ys (X2 rfl rfl zz) (ys (X2 rfl rfl zz) (cF rfl (BA rfl (vr f rfl) (vr (NI ((An D (nmO id)).2)) rfl) ?_)))))));have hV:C8 D id=(An D (nmO id)):=if_neg (fun q=>q.elim h4 fun q=>h0 q.1);have hE:=hE.trans (j.trans p);have hvn:=hvn.keep p;have c:=c.keep p;exact⟨_,by rw[hV],by rw[hV];exact c,hE,hvn⟩
structure DW where
 at_:Nat
 total:Nat
 depths:List Int
 packs:List Int
 bases:List Int
def KR(s:DW):Bool:=decide (1024<=s.depths.length)||decide (131072<=s.total)
def turnPk(s:DW):DW:=if KR s=true then⟨s.at_+1,0,[],s.packs,s.bases⟩else s
def EH(ch:List Int)(i k:Nat):Int:=if 0<ch.length then AdW (ch.getD (i%ch.length) 0) ((k+1:Nat):Int)-1 else -1
def JY(s:DW)(b:Int):Int:=if 0<=b then s.depths.getD b.toNat 0+1 else 0
def Ev(z:Int):Nat:=min z.toNat 131072
def Jb(b:Int)(d:Int)(z:Int)(s:DW):DW:=
 if 50<d then⟨s.at_,s.total+Ev z,s.depths++ [0],s.packs++ [(s.at_:Int)],s.bases++ [-1]⟩
 else⟨s.at_,s.total+Ev z,s.depths++ [d],s.packs++ [(s.at_:Int)],s.bases++ [b]⟩
def C9(ch:List Int)(i:Nat)(z:Int)(s:DW):DW:=Jb (EH ch i s.depths.length) (JY s (EH ch i s.depths.length)) z s
def planGo(ch sizes:List Int):Nat->DW
 | 0=>⟨0,0,[],[],[]⟩
 | i+1=>C9 ch i (sizes.getD i 0) (turnPk (planGo ch sizes i))
theorem FA(ch sizes:List Int)(i:Nat):planGo ch sizes (i+1)=C9 ch i (sizes.getD i 0) (turnPk (planGo ch sizes i)):=rfl
theorem HJ(ch:List Int)(i k:Nat): -1<=EH ch i k/\EH ch i k<k:=by
 unfold EH;split
 ·have h1:=Int.emod_nonneg (ch.getD (i%ch.length) 0) (show((k+1:Nat):Int)≠0 by omega);have h2:=Int.emod_lt_of_pos (ch.getD (i%ch.length) 0) (show(0:Int)<((k+1:Nat):Int) by omega);have h1:0<=AdW (ch.getD (i%ch.length) 0) ((k+1:Nat):Int):=h1;have h2:AdW (ch.getD (i%ch.length) 0) ((k+1:Nat):Int)<((k+1:Nat):Int):=h2;omega
 ·omega
theorem IJ(c:Int)(k:Nat):Ac0 (Ac0 c ((k+1:Nat):Int)+(k:Int)+1) ((k+1:Nat):Int)=AdW c ((k+1:Nat):Int):=by
 have hk:(0:Int)<((k+1:Nat):Int):=by omega
 have h0: -((k+1:Nat):Int)<Ac0 c ((k+1:Nat):Int):=Int.lt_tmod_of_pos c hk;have h1:0<=Ac0 c ((k+1:Nat):Int)+(k:Int)+1:=by omega
 rw[Int.tmod_eq_emod_of_nonneg h1];have e:Ac0 c ((k+1:Nat):Int)+(k:Int)+1=Ac0 c ((k+1:Nat):Int)+((k+1:Nat):Int):=by omega
 show AdW _ _=_;rw[e];show(Ac0 c ((k+1:Nat):Int)+((k+1:Nat):Int))%((k+1:Nat):Int)=c%((k+1:Nat):Int);rw[Int.add_emod_right];rw[Int.tmod_def];rw[Int.sub_mul_emod_self_left]
theorem Lr(z:Int):Ev z<=131072:=by unfold Ev;omega
structure NU (i : Nat) (s : DW) : Prop where
 lp:s.packs.length=i
 lb:s.bases.length=i
 ld:s.depths.length<=1024
 dp:∀d∈s.depths,0<=d/\d<=50
 at_:s.at_<=i
 tot:s.total<=262144
theorem IK{i:Nat}{s:DW}(h:NU i s):NU (i+1) { turnPk s with packs:=s.packs++ [0],bases:=s.bases++ [0] } /\ (turnPk s).depths.length<1024/\(turnPk s).total<131072/\(turnPk s).packs=s.packs/\(turnPk s).bases=s.bases:=by
 have h1:=h.lp;have h2:=h.lb;have h3:=h.ld;have h4:=h.at_;have h5:=h.tot;unfold turnPk;by_cases q:KR s=true
 ·rw[if_pos q];exact⟨⟨by simp[h1],by simp[h2],by simp,by simp,by show s.at_+1<=_;omega,by simp⟩,by simp,by simp,rfl,rfl⟩
 ·rw[if_neg q];have hq:s.depths.length<1024/\s.total<131072:=by
   unfold KR at q;simp only[Bool.or_eq_true,decide_eq_true_eq,not_or,Nat.not_le]at q;exact q
  exact⟨⟨by simp[h1],by simp[h2],h3,h.dp,by show s.at_<=_;omega,h5⟩,hq.1,hq.2,rfl,rfl⟩
theorem Ls{l:List Int}(h:∀d∈l,0<=d/\d<=50)(i:Nat):0<=l.getD i 0/\l.getD i 0<=50:=by
 rw[AbN];cases e:l[i]? with
 | none=>simp
 | some x=>exact h x (AcV e)
theorem KS{ch:List Int}{i:Nat}{z b d:Int}{s:DW}(hb:EH ch i s.depths.length=b)(hd:JY s b=d)(h:¬50<d):C9 ch i z s=⟨s.at_,s.total+Ev z,s.depths++ [d],s.packs++ [(s.at_:Int)],s.bases++ [b]⟩:=by
 unfold C9 Jb;rw[hb,hd,if_neg h]
theorem NV{ch:List Int}{i:Nat}{z b d:Int}{s:DW}(hb:EH ch i s.depths.length=b)(hd:JY s b=d)(h:50<d):C9 ch i z s=⟨s.at_,s.total+Ev z,s.depths++ [0],s.packs++ [(s.at_:Int)],s.bases++ [-1]⟩:=by
 unfold C9 Jb;rw[hb,hd,if_pos h]
theorem Pp{s:DW}(h:¬1024<=s.depths.length)(h2:¬131072<=s.total):turnPk s=s:=if_neg (by unfold KR;simp;omega)
theorem SI{ch:List Int}{i:Nat}{z:Int}{s:DW}(h:NU i s):NU (i+1) (C9 ch i z (turnPk s)):=by
 obtain⟨h1,h2,h3,h4,h5⟩:=IK h;have hl:=h.lp;have a:=h.lb;have ha:(turnPk s).at_<=i+1:=h1.at_;have hd:∀d∈(turnPk s).depths,0<=d/\d<=50:=h1.dp;have hc:=Lr z;unfold C9 Jb;split
 ·refine⟨by simp[h4,hl],by simp[h5,a],by rw[AbP];simp;omega,fun d hdm=> ?_,ha,by show(turnPk s).total+_<=_;omega⟩;rcases Acb.1 hdm with hdm | hdm
  ·exact hd d hdm
  ·rw[AbW.1 hdm];omega
 ·rename_i q
  refine⟨by simp[h4,hl],by simp[h5,a],by rw[AbP];simp;omega,fun d hdm=> ?_,ha,by show(turnPk s).total+_<=_;omega⟩;rcases Acb.1 hdm with hdm | hdm
  ·exact hd d hdm
  ·rw[AbW.1 hdm];refine⟨?_,by omega⟩;unfold JY;split
   ·have:=Ls hd (EH ch i (turnPk s).depths.length).toNat;omega
   ·omega
theorem DD(ch sizes:List Int):∀i,NU i (planGo ch sizes i)
 | 0=>⟨rfl,rfl,Ack _,(fun _ h=>by cases h),AbO _,Ack _⟩
 | i+1=>SI (DD ch sizes i)
def Ax(b:Bs):Bs:= [112,45]++hexOf (Sha.sum b)
def DT(sg s:Bs):Bool:=(Bm sg s).2&&(DJ (Bm sg s).1).2
def Av(D:Af)(sg:Bs):List Bs:=(Bd D).filter (DT sg)
def Hd(D:Af)(s:Bs):Option A0:=match BY (An D s).1 with
 | .ok p=>if Ax (An D s).1=s then some p else none
 | .error _=>none
abbrev AP:=List (Bs × A0)
def Es(D:Af)(s:Bs):Option (Bs × A0):=(Hd D s).map fun p=>(s,p)
def GF(D:Af):AP:=(Av D [112,45]).filterMap (Es D)
def Ay(L:AP)(id:Bs):Option Bs:=L.findSome? fun e=>(e.2.2 id).map Aci
def getV(D:Af)(L:AP)(id:Bs):Bs × Nat:=match Ay L id with
 | some b=>(b,0)
 | none=>C8 D id
def Ee(D:Af)(L:AP)(b:Bs):Af × Bs × Bs × Nat:=
 if 262144<b.length then(D,GE,[],2)
 else match Ay L (Sha.sum b)with
  | some was=>if was=b then(D,Sha.sum b,[],0)else(D,Sha.sum b,was,7)
  | none=>BP D b
def SlP(Q:Nat->Prop)(w:AbJ)(v:AbI)(n:Nat):Prop:=n=0\/∀k,v.ownBlock=some k->k<w.heap.size/\Q k
theorem SlP.keep{Q:Nat->Prop}{w w' :AbJ}{v:AbI}{n:Nat}(h:SlP Q w v n)(k:Ext w w'):SlP Q w' v n:=h.imp id fun q j hj=>⟨AcE (q j hj).1 k.size,(q j hj).2⟩
theorem WP{w:AbJ}{v:AbI}{l:Bs}(h:RB w v l):l.length=0\/∀k,v.ownBlock=some k->k<w.heap.size:=by
 obtain⟨h1,ao,cap,rfl,h2,h3,h4,h5⟩:=h;cases l with
 | nil=>exact .inl rfl
 | cons x l=>
  refine .inr fun k hk=> ?_;cases ao with
  | none=>cases hk
  | some a=>
   have:=h5 a rfl 0 (B8 x) rfl;have:=Ada w _ this;obtain⟨a1,a2,a3⟩:=a;cases hk
   simpa [Addr.add] using this
theorem WQ{w:AbJ}{v:AbI}{l:List Bs}(h:RG 32 AbK w v l):l.length=0\/∀k,v.ownBlock=some k->k<w.heap.size:=by
 obtain⟨h0,h1,ao,cap,rfl,h2,h3,h4,h5⟩:=h;cases l with
 | nil=>exact .inl rfl
 | cons x l=>
  refine .inr fun k hk=> ?_;cases ao with
  | none=>cases hk
  | some a=>
   have hx:=h0 x AcT;have hc:0<(AbK x).length:=by rw[hx];decide
   have:=h5 a rfl 0 ((AbK x)[0]) (by rw[AcJ,AcG hc,AbT hc]);have:=Ada w _ this;obtain⟨a1,a2,a3⟩:=a;cases hk
   simpa [Addr.add] using this
theorem RB.chgV{B:Nat->Prop}{w w' :AbJ}{v:AbI}{l:Bs}(h:RB w v l)(hc:Chg B w w')(hB:l.length=0\/∀k,v.ownBlock=some k->¬B k):RB w' v l:=h.chg hc (hB.imp List.eq_nil_of_length_eq_zero id)
def PackP(Q:Nat->Prop)(w:AbJ)(v:AbI)(p:A0):Prop:=∃g vi bo O,v = .pointer (some ⟨g,0,none⟩)/\p.2=(fun k=>(O k).map Aci)/\w.heap[g]? =some (.cells ([vi, .map (some bo)]).toArray 163 (0,0))/\RG 32 AbK w vi p.1/\MapF rk Ch (fun id:Ah5 =>id.length=32) w bo O/\OOk w O/\Q g/\Q bo/\SlP Q w vi p.1.length/\∀id x,O id=some x->SlP Q w x.2 x.1.1.length
theorem PackP.at_{Q:Nat->Prop}{w:AbJ}{v:AbI}{p:A0}(h:PackP Q w v p):PackAt w v p:=by
 obtain⟨g,vi,bo,O,h1,h2,h3,h4,h5,h6,-⟩:=h;exact⟨g,vi,bo,O,h1,h2,h3,h4,h5,h6⟩
theorem PackP.opt{Q:Nat->Prop}{w:AbJ}{v:AbI}{p:A0}(h:PackP Q w v p):PackO w v (some p):=h.at_
theorem PackP.keep{Q:Nat->Prop}{w w' :AbJ}{v:AbI}{p:A0}(h:PackP Q w v p)(k:Ext w w'):PackP Q w' v p:=by
 obtain⟨g,vi,bo,O,h1,h2,h3,h4,h5,h6,h7,h8,h9,h10⟩:=h;exact⟨g,vi,bo,O,h1,h2,Abk k h3,h4.keep k,h5.keep k,h6.keep k,h7,h8,h9.keep k,fun id x hx=>(h10 id x hx).keep k⟩
theorem Zg{Q:Nat->Prop}{n:Nat}{w:AbJ}{v:AbI}{p:A0}(h:PackNew n w v p)(hQ:∀k,n<=k->k<w.heap.size->Q k):PackP Q w v p:=by
 obtain⟨g,vi,bo,O,h1,h2,h3,h4,h5,h6,h7,h8,h9,h10⟩:=h;exact⟨g,vi,bo,O,h1,h2,h3,h4,h5,h6,hQ _ h7 (Ace.1 h3).1,hQ _ h8 h5.lt,(WQ h4).imp id fun q k hk=>⟨q k hk,hQ k (h9 k hk) (q k hk)⟩,fun j x hx=>(WP (h6 j x hx)).imp id fun q k hk=>⟨q k hk,hQ k (h10 j x hx k hk) (q k hk)⟩⟩
theorem PackP.chg{Q Q' B:Nat->Prop}{w w' :AbJ}{v:AbI}{p:A0}(h:PackP Q w v p)(hc:Chg B w w')(hB:∀k,k<w.heap.size->Q k->¬B k/\Q' k):PackP Q' w' v p:=by
 obtain⟨g,vi,bo,O,h1,h2,h3,h4,h5,h6,h7,h8,h9,h10⟩:=h;have hg:=(Ace.1 h3).1;have sl:∀ {v:AbI} {n:Nat},SlP Q w v n->SlP Q' w' v n:=fun q=>q.imp id fun z k hk=>⟨AcE (z k hk).1 hc.size,(hB k (z k hk).1 (z k hk).2).2⟩;have off:∀ {v:AbI} {n:Nat},SlP Q w v n->n=0\/∀k,v.ownBlock=some k->¬B k:=fun q=>q.imp id fun z k hk=>(hB k (z k hk).1 (z k hk).2).1;refine⟨g,vi,bo,O,h1,h2,(hc.blk g hg (hB g hg h7).1).trans h3,?_,h5.chg hc (hB bo h5.lt h8).1,fun id x hx=>(h6 id x hx).chgV hc (off (h10 id x hx)),(hB g hg h7).2,(hB bo h5.lt h8).2,sl h9,fun id x hx=>sl (h10 id x hx)⟩;obtain⟨q0,q1,ao,cap,rfl,q2,q3,q4,q5⟩:=h4;refine⟨q0,q1,ao,cap,rfl,q2,q3,q4,fun a ha j u hu=> ?_⟩;have hl:=q5 a ha j u hu;have hlt:=Ada w _ hl;have hbl:(a.add j).block=a.block:=by unfold Addr.add;split <;> rfl
 have hn:¬B (a.add j).block:=by
  rcases off h9 with z | z
  ·have h1:=(List.getElem?_eq_some_iff.1 hu).1;rw[q1,z]at h1;omega
  ·refine z _ ?_;rw[ha,hbl];rfl
 have hb:=hc.blk _ hlt hn;unfold World.cell? at hl ⊢;rw[hb];exact hl
def pkG(L:AP)(ptr:Bs->Nat)(s:Bs):Option Nat:=(L.lookup s).map fun _=>ptr s
def SortS(l:List Bs):Prop:=l.Pairwise fun a b=>Op.bytesLess a b=true
abbrev pN(n:Nat):AbI:= .pointer (some ⟨n,0,none⟩)
def PksAt(Q:Nat->Prop)(w:AbJ)(L:AP)(ptr:Bs->Nat):Prop:=∀e∈L,PackP Q w (pN (ptr e.1)) e.2
theorem PksAt.keep{Q:Nat->Prop}{w w' :AbJ}{L:AP}{ptr:Bs->Nat}(h:PksAt Q w L ptr)(k:Ext w w'):PksAt Q w' L ptr:=fun e he=>(h e he).keep k
theorem PksAt.chg{Q Q' B:Nat->Prop}{w w' :AbJ}{L:AP}{ptr:Bs->Nat}(h:PksAt Q w L ptr)(hc:Chg B w w')(hB:∀k,k<w.heap.size->Q k->¬B k/\Q' k):PksAt Q' w' L ptr:=fun e he=>(h e he).chg hc hB
theorem PksAt.set{Q:Nat->Prop}{w w' :AbJ}{L:AP}{ptr:Bs->Nat}(h:PksAt Q w L ptr){b:Nat}(hg:w.grownBy w' (some b))(hne:∀k,Q k->k≠b):PksAt Q w' L ptr:=
 h.chg (B:=fun k=>k=b) (Yj hg fun i e=> .inl (Option.some.inj e).symm) fun k _ q=>⟨hne k q,q⟩
theorem PksAt.nil(Q:Nat->Prop)(w:AbJ)(ptr:Bs->Nat):PksAt Q w [] ptr:=fun e he=>by cases he
def updP(ptr:Bs->Nat)(s:Bs)(g:Nat)(x:Bs):Nat:=if x=s then g else ptr x
theorem Zp{Q:Nat->Prop}{w:AbJ}{L:AP}{ptr:Bs->Nat}(h:PksAt Q w L ptr){s:Bs}{p:A0}{g:Nat}(hs:s∉L.map Aci)(hp:PackP Q w (pN g) p):PksAt Q w (L++ [(s,p)]) (updP ptr s g):=fun e he=>by
 rcases Acb.1 he with he | he
 ·rw[show updP ptr s g e.1=ptr e.1 from if_neg (fun(q:e.1=s)=>hs (q▸Afj he))];exact h e he
 ·rw[AbW.1 he,show updP ptr s g s=g from if_pos rfl];exact hp
theorem NW{L:AP}{s:Bs}(h:s∉L.map Aci):L.lookup s=none:=by
 induction L with
 | nil=>rfl
 | cons x r ih=>
  rw[Aco,Acy,not_or]at h;rw[Adk,show(s==x.1)=false by simpa using h.1];exact ih h.2
theorem JZ{L:AP}{ptr:Bs->Nat}{s:Bs}{p:A0}{g:Nat}(hs:s∉L.map Aci):updM (pkG L ptr) s (some g)=pkG (L++ [(s,p)]) (updP ptr s g):=by
 funext x
 unfold updM pkG updP;rw[List.lookup_append];by_cases e:x=s
 ·subst e;rw[if_pos rfl,NW hs];simp
 ·rw[if_neg e,if_neg e];rw[show([(s,p)]:AP).lookup x=none by rw[Adk,show(x==s)=false by simpa using e];rfl,Option.or_none]
structure VtAt (n : Nat) (Q : Nat -> Prop) (w : AbJ) (g gd bm : Nat) (L : AP) (ptr : Bs -> Nat) : Prop where
 blk:w.heap[g]? =some (.cells ([PQ gd 0, .map (some bm)]).toArray 86 (0,0))
 map:MapF St pN Nm w bm (pkG L ptr)
 pk:PksAt (fun k=>Q k/\k≠g/\k≠bm) w L ptr
 sort:SortS (L.map Aci)
 g0:Q g
 b0:Q bm
 lo:n<=g
theorem VtAt.keep{n:Nat}{Q:Nat->Prop}{w w' :AbJ}{g gd bm:Nat}{L:AP}{ptr:Bs->Nat}(h:VtAt n Q w g gd bm L ptr)(k:Ext w w'):VtAt n Q w' g gd bm L ptr:=
 ⟨Abk k h.blk,h.map.keep k,h.pk.keep k,h.sort,h.g0,h.b0,h.lo⟩
theorem VtAt.chg{n:Nat}{Q Q' B:Nat->Prop}{w w' :AbJ}{g gd bm:Nat}{L:AP}{ptr:Bs->Nat}(h:VtAt n Q w g gd bm L ptr)(hc:Chg B w w')(hB:∀k,k<w.heap.size->Q k->¬B k/\Q' k):VtAt n Q' w' g gd bm L ptr:=by
 have hg:=(Ace.1 h.blk).1;exact⟨(hc.blk g hg (hB g hg h.g0).1).trans h.blk,h.map.chg hc (hB bm h.map.lt h.b0).1,h.pk.chg hc (fun k hk q=>⟨(hB k hk q.1).1,(hB k hk q.1).2,q.2⟩),h.sort,(hB g hg h.g0).2,(hB bm h.map.lt h.b0).2,h.lo⟩
abbrev Cg(H:Dk)(D:Af)(k:Nat):Prop:=¬B3 H D.files.length k
theorem VtAt.step{n:Nat}{wb w w' :AbJ}{g gd bm:Nat}{H H' :Dk}{D D' :Af}{L:AP}{ptr:Bs->Nat}(h:VtAt n (Cg H D) w g gd bm L ptr)(hW:DkW wb w gd H D w' H' D'):VtAt n (Cg H' D') w' g gd bm L ptr:=
 h.chg hW.chg fun k hk q=>⟨q,fun z=>(hW.foot k z).elim q fun z=>by omega⟩
theorem KT{α β:Type}[BEq α][LawfulBEq α]{l:List (α × β)}{s:α}{p:β}(h:l.lookup s=some p):(s,p)∈l:=by
 induction l with
 | nil=>cases h
 | cons e r ih=>
  rw[Adk]at h;split at h
  ·rename_i q
   cases h;rw[beq_iff_eq]at q;rw[q];exact AcT
  ·exact AcW _ (ih h)
theorem L7{L:AP}(hs:SortS (L.map Aci)){e:Bs × A0}(h:e∈L):L.lookup e.1=some e.2:=by
 induction L with
 | nil=>cases h
 | cons x r ih=>
  rw[Aco]at hs;obtain⟨h1,h2⟩:=List.pairwise_cons.1 hs;rw[Adk];rcases Acy.1 h with rfl | h
  ·simp
  ·have:=h1 e.1 (Afj h);have hne:¬e.1=x.1:=fun q=>by rw[q,Fz]at this;cases this
   rw[show(e.1==x.1)=false by simpa using hne];exact ih h2 h
theorem SortS.nodup{l:List Bs}(h:SortS l):l.Nodup:=h.imp fun hab e=>by rw[e,Fz]at hab;cases hab
theorem WR{L:AP}{ptr:Bs->Nat}(hs:SortS (L.map Aci)){i:Nat}(hi:i<L.length){d:Bs × A0}:pkG L ptr (L.getD i d).1=some (ptr (L.getD i d).1):=by
 unfold pkG;rw[L7 hs (AO d hi)];rfl
theorem OT{L:AP}{x:Bs × A0}(hx:x∈L):L.lookup x.1≠none:=by
 induction L with
 | nil=>cases hx
 | cons y r ih=>
  intro e;rw[Adk]at e;split at e
  ·cases e
  ·rename_i q
   rcases Acy.1 hx with rfl | hx
   ·simp at q
   ·exact ih hx e
theorem pkG_iff{L:AP}{ptr:Bs->Nat}(s:Bs):(pkG L ptr s).isSome=true↔s∈L.map Aci:=by
 unfold pkG;rw[Option.isSome_map];constructor
 ·intro h;obtain⟨p,hp⟩:=Option.isSome_iff_exists.1 h;exact Acw.2 ⟨(s,p),KT hp,rfl⟩
 ·intro h;obtain⟨x,hx,rfl⟩:=Acw.1 h;cases e:L.lookup x.1 with
  | some p=>rfl
  | none=>exact absurd e (OT hx)
open Go.Shelf Go.RowKit
def SJ:Go.Shelf.Ren:=⟨fun | 137=>126 | 217=>170 | 266=>209 | n=>n,fun | 9=>9 | 5=>5 | 3=>3 | n=>n,fun | n=>n⟩
theorem Xr:Go.Proofs.Lays.n137 AbL SJ:= {
  mixed:=by kernel_rfl
  f137:=Tryz.func126.trans (congrArg some (by kernel_rfl))
  f217:=Tryz.func170.trans (congrArg some (by kernel_rfl))
  f266:=Tryz.func209.trans (congrArg some (by kernel_rfl))
  t3:=Tryz.underlying3
  a3:=Tryz.isAgg3
  z3:=Tryz.sizeOf3
  v3:=Tryz.zeroValue3
  t5:=Tryz.underlying5
  a5:=Tryz.isAgg5
  z5:=Tryz.sizeOf5
  v5:=Tryz.zeroValue5
  t9:=Aed
  a9:=Afi
  z9:=Ae2
  v9:=Aem }
theorem KU(s:ByteArray)(c:Int)(w:AbJ):
 Calls AbL 126 #[.string s, .int .u8 c] w fun e w' =>e = .returned (.int .i64 (Agt s.data.toList c.toNat.toUInt8))/\w' =w:=Any.strings_IndexByte Xr s c w
theorem QO(w:AbJ)(c:UInt8):Calls AbL 126 #[St ([48,49,50,51,52,53,54,55,56,57,97,98,99,100,101,102]:Ah5),B8 c] w fun e w' =>e = .returned (.int .i64 (E6 c))/\w' =w:=by
 have h:=KU (⟨([48,49,50,51,52,53,54,55,56,57,97,98,99,100,101,102]:Ah5).toArray⟩:ByteArray) (c.toNat:Int) w;have e:Agt (⟨([48,49,50,51,52,53,54,55,56,57,97,98,99,100,101,102]:Ah5).toArray⟩:ByteArray).data.toList ((c.toNat:Int).toNat.toUInt8)=E6 c:=by
  rw[<-TX c];simp[digs]
 rw[e]at h;exact h
theorem SK{s:Ah5}{i k1 k2:Nat}(h1:dg (s.getD (2*i) 0)=some k1)(h2:dg (s.getD (2*i+1) 0)=some k2)(_:k2<16):E2 s i=UInt8.ofNat (16*k1+k2):=by
 unfold E2;rw[h1,h2];rfl
theorem SL{s:Ah5}{i k1 k2:Nat}(h1:dg (s.getD (2*i) 0)=some k1)(h2:dg (s.getD (2*i+1) 0)=some k2)(hn:k2<16):E2 s i=UInt8.ofNat (k1*2^4|||k2):=by
 rw[SK h1 h2 hn,Kf _ _ _ hn,Nat.mul_comm]
theorem V3{s:Ah5}{i k1 k2:Nat}(h:∀j,j<i->FF s j=true)(h1:dg (s.getD (2*i) 0)=some k1)(h2:dg (s.getD (2*i+1) 0)=some k2):∀j,j<i+1->FF s j=true:=fun j hj=>by
 by_cases he:j=i
 ·subst he;unfold FF;rw[h1,h2];rfl
 ·exact h j (by omega)
theorem QP:Plain AbL 126:=fun _ _=>by kernel_rfl
theorem KV:Plain AbL 125:=fun _ _=>by kernel_rfl
theorem L8(w:AbJ)(b:Nat)(s:Ah5)(hb:w.heap[b]? =some (.cells ([St s]:List AbI).toArray 9 (0,0)))(i:Nat)(hi:i<s.length):
  Calls AbL 125 #[NI i,PQ b 0] w fun e w' =>e = .returned (.int .i64 (E6 (s.getD i 0)))/\Ext w w' :=by
 refine gG (args:= [NI i,PQ b 0]) Tryz.func125 rfl 8 rfl rfl ?_;have hE:=AaY w;refine gS (XP Pi rfl rfl (cellAt hb rfl) (gS (Zi (l:=s) (i:=i) Pi rfl rfl (hi) (gS (XS QP rfl rfl ((QO _ (s.getD (i) 0)).mono ?_))))));rintro e a ⟨rfl,hq⟩;refine⟨_,rfl,?_⟩;refine Bp rfl (vr (.int .i64 (E6 (s.getD (i) 0):Int)) rfl) ?_;have hE:=hE.trans (show Ext w a from by rw[hq];exact AaY _);exact⟨rfl,hE⟩
theorem SM(w:AbJ)(s:Ah5)(hs:s.length<=9223372036854775807):
  Calls AbL 76 #[St s] w fun e w' =>e = .returned (.tuple #[AB ((DJ s).1), .bool (DJ s).2])/\Ext w w' :=by
 refine gG (args:= [St (s)]) Tryz.func76 rfl 42 rfl rfl ?_;have hE:=AaY w;refine gS (YF (vr (St (s)) rfl) rfl fun g w3 bb ak av bc=> ?_);have f:=ak;clear ak;have bd:g<w3.heap.size:=by omega
 refine gS (Aa3 Tn fun t ae aw al af be=> ?_);have k:=AaY w3;have hE:=hE.trans av;have u:=hE.size;have c:=al;clear al;have bf:t<ae.heap.size:=by omega
 refine gS (Aa3 Tn fun ag ax ah am n bg=> ?_);have m:=AaY ae;have hE:=hE.trans af;have k:=k.trans af;have ay:=hE.size;have az:=k.size;have an:=am;clear am;have bh:ag<ax.heap.size:=by omega
 have bi:=As (bl f) aw;have f:=eb af f;have bj:=As (bl f) ah;have f:=eb n f;refine gS (XP Pi rfl rfl (cellAt f rfl) (gS (YI (l:=s) Pi rfl (gS (XQ (a:=(s.length:Nat)) (b:=(64:Nat)) rfl rfl (AV _ _ _ _) ?_)))));refine cD rfl (fun h64=> ?_) fun h64=> ?_
 ·have hun:=JV (s:=s) (fun h=>h64 h.1);have a0:=As (bl c) ah;have c:=eb n c;refine gS (Abo (v:=AB (AbX 32 0)) (by kernel_rfl) (gS (XT (vr (PQ t 0) rfl) (vr (AB (AbX 32 0)) rfl) c (by first | rfl | (rw[Ab4,AbZ,Ab8];rfl)) (by rw[Ab4,AbZ,Ab8];exact Rl) (Ag _) fun bk ao a1 bm=> ?_)));clear c;have c:=ao;clear ao;have bn:=bl c;have hE:=hE.trans n;have hE:=Ab hE a1 (AbM u (by omega));refine M4 rfl (Aa9 rfl c U7 rfl (by rw[Ab4,AbZ];first | (rw[Ab8];exact Rl) | (rw[Dp _ _ (by omega)];exact Rl))) (vr (.bool (false)) rfl) ?_;refine⟨?_,hE⟩;rw[hun]
 have a2:s.length=64:=by omega
 have a0:=As (bl c) ah;have c:=eb n c;have hE:=hE.trans n;have k:=k.trans n;have m:=m.trans n;refine gS (Yx (vs:= #[PQ g 0]) (by simp only[Acp,Aco,Acz];exact congrArg Adh (PJ (vr (PQ g 0) rfl))) (gL (fun(ρ:Ac) (wz:AbJ)=>∃i:Nat,ρ 0=(St (s):AbI)/\ρ 1=(PQ g 0:AbI)/\ρ 2=(PQ t 0:AbI)/\ρ 4=(PQ ag 0:AbI)/\ρ 5=(.func (.func 125) #[] #[PQ g 0]:AbI)/\ρ 14=(NI i:AbI)/\Ext w wz/\wz.heap[g]? =some (.cells (([St (s)]:List AbI)).toArray 9 (0,0))/\Ext w3 wz/\wz.heap[t]? =some (.cells (AbK (AbX 32 0)).toArray 33 (0,0))/\Ext ae wz/\wz.heap[ag]? =some (.cells (AbK (pre s i)).toArray 33 (0,0))/\(i<=32)/\(∀j,j<i->FF s j=true)/\True) (fun ρ _=>32-(intOf (ρ 14)).toNat) ⟨0,rfl,rfl,rfl,rfl,rfl,rfl,hE,f,k,c,m,AW an (rfl),Ack _,fun j hj=>by omega,trivial⟩ ?_));clear an;clear hE f c;rintro a3 bo ⟨i,T0,T1,o,T4,T5,p,hE,f,k,c,m,hb36l,hi,hall,-⟩;have q14:=p;have hpl:=Dp s i hi;refine gS (XQ (a:=(i:Nat)) (b:=(32:Nat)) p rfl (AK _ _ _ _) ?_);refine cD rfl (fun a6=> ?_) fun a6=> ?_
 ·refine gS (XR (xv:=NI 2) (yv:=NI i) rfl p rfl (Ci _ _ _ (by omega)) (gS (YT KV (caps:= #[PQ g 0]) T5 #[NI ((2)*(i)),PQ g 0] (by simp only[Acp,Aco,Acz,AdZ,AcM,AcO];exact congrArg Adh (FK rfl rfl)) ((L8 _ g s f ((2)*(i)) (by omega)).mono ?_))));rintro e bp ⟨rfl,y⟩;refine⟨_,rfl,?_⟩;have f:=eb y f;refine gS (XR (xv:=NI 2) (yv:=NI i) rfl p rfl (Ci _ _ _ (by omega)) (gS (XR (xv:=NI ((2)*(i))) (yv:=NI 1) rfl rfl rfl (Ah _ _ _ (by omega)) (gS (YT KV (caps:= #[PQ g 0]) T5 #[NI (((2)*(i))+(1)),PQ g 0] (by simp only[Acp,Aco,Acz,AdZ,AcM,AcO];exact congrArg Adh (FK rfl rfl)) ((L8 _ g s f (((2)*(i))+(1)) (by omega)).mono ?_))))));rintro e bq ⟨rfl,z⟩;refine⟨_,rfl,?_⟩;obtain⟨x1,aa⟩:∃x,x=dg (s.getD (2*i) 0):=⟨_,rfl⟩;obtain⟨x2,ab⟩:∃x,x=dg (s.getD (2*i+1) 0):=⟨_,rfl⟩;rcases x1 with _ | k1
  ·have hno:FF s i=false:=by unfold FF;rw[<-aa];rfl
   have q:=(vr (.int .i64 (E6 (s.getD (2*i) 0):Int)) rfl).trans (show Adm .i64 (E6 (s.getD (2*i) 0)) = .int .i64 (-1) by unfold E6;rw[<-aa]);have hZ1:=y.trans z;have c:=eb hZ1 c;refine gS (XQ q rfl (Fk _ .i64 (-1:Int) ((0:Nat):Int)) (kT (by decide) (gS (XY rfl rfl (cT rfl (gS (Abo (v:=AB (AbX 32 0)) (by kernel_rfl) (gS (XT o (vr (AB (AbX 32 0)) rfl) c (by first | rfl | (rw[Ab4,AbZ,Ab8];rfl)) (by rw[Ab4,AbZ,Ab8];exact Rl) (Ag _) fun br ap a7 bs=> ?_)))))))));clear m;clear c;have c:=ap;clear ap;have bt:=bl c;have hun:=JV (s:=s) (fun h=>by have:=Acx.1 h.2 i (by simp;omega);rw[hno]at this;cases this);have hE:=hE.trans hZ1;have hE:=Ab hE a7 (AbM u (by omega));refine M4 rfl (Aa9 o c U7 rfl (by rw[Ab4,AbZ];first | (rw[Ab8];exact Rl) | (rw[Dp _ _ (by omega)];exact Rl))) (vr (.bool (false)) rfl) ?_;refine⟨?_,hE⟩;rw[hun]
  have hd1:=aa.symm;have bu:=Vc hd1;have q:=(vr (.int .i64 (E6 (s.getD (2*i) 0):Int)) rfl).trans (show Adm .i64 (E6 (s.getD (2*i) 0))=NI k1 by unfold E6;rw[<-aa]);rcases x2 with _ | k2
  ·have hno:FF s i=false:=by unfold FF;rw[<-ab];simp
   have T8:=(vr (.int .i64 (E6 (s.getD (2*i+1) 0):Int)) rfl).trans (show Adm .i64 (E6 (s.getD (2*i+1) 0)) = .int .i64 (-1) by unfold E6;rw[<-ab]);have hZ2:=y.trans z;have c:=eb hZ2 c;refine gS (XQ (a:=(k1:Nat)) (b:=(0:Nat)) q rfl (AK _ _ _ _) (kF (by omega) (gS (XQ T8 rfl (Fk _ .i64 (-1:Int) ((0:Nat):Int)) (kT (by decide) (gS (X2 rfl rfl (cT rfl (gS (Abo (v:=AB (AbX 32 0)) (by kernel_rfl) (gS (XT o (vr (AB (AbX 32 0)) rfl) c (by first | rfl | (rw[Ab4,AbZ,Ab8];rfl)) (by rw[Ab4,AbZ,Ab8];exact Rl) (Ag _) fun bv aq a8 bw=> ?_))))))))))));clear m;clear c;have c:=aq;clear aq;have bx:=bl c;have hun:=JV (s:=s) (fun h=>by have:=Acx.1 h.2 i (by simp;omega);rw[hno]at this;cases this);have hE:=hE.trans hZ2;have hE:=Ab hE a8 (AbM u (by omega));refine M4 rfl (Aa9 o c U7 rfl (by rw[Ab4,AbZ];first | (rw[Ab8];exact Rl) | (rw[Dp _ _ (by omega)];exact Rl))) (vr (.bool (false)) rfl) ?_;refine⟨?_,hE⟩;rw[hun]
  have hd2:=ab.symm;have a9:=Vc hd2;have T8:=(vr (.int .i64 (E6 (s.getD (2*i+1) 0):Int)) rfl).trans (show Adm .i64 (E6 (s.getD (2*i+1) 0))=NI k2 by unfold E6;rw[<-ab]);have hZ3:=y.trans z;have hb36l:=eb hZ3 hb36l;refine gS (XQ (a:=(k1:Nat)) (b:=(0:Nat)) q rfl (AK _ _ _ _) (kF (by omega) (gS (XQ (a:=(k2:Nat)) (b:=(0:Nat)) T8 rfl (AK _ _ _ _) (kF (by omega) (gS (X2 rfl rfl (cF rfl (gS (XR (xv:=NI k1) (yv:= .int .u64 ((4:Nat):Int)) q rfl rfl (I3 _ _ _ _ (by omega) (by omega)) (gS (XR (xv:=NI ((k1)*2^(4))) (yv:=NI k2) rfl T8 rfl (Ke _ _ _ (by omega) (by omega)) (gS (Yt Tk u5 rfl (GY (((k1)*2^(4))|||(k2))) (gS (X3 (i:=i) U7 PO T4 p (by omega) (gS (YS (i:=i) (v:=UInt8.ofNat (((k1)*2^(4))|||(k2))) rfl rfl hb36l (by rw[hpl];omega) WC fun bz ar r b0=> ?_))))))))))))))))));clear hb36l;have hb36l:=ar;clear ar;have b1:=bl hb36l;have hE:=hE.trans hZ3;have hE:=Ab hE r (AbM ay (by omega));have k:=k.trans hZ3;have k:=Ab k r (AbM az (by omega));have c:=eb hZ3 c;have c:=kb r c (by omega);have m:=m.trans hZ3;have m:=Ab m r (AbM (AbO _) (by omega));have f:=eb z f;have f:=kb r f (by omega);refine gS (XR (xv:=NI i) (yv:=NI 1) p rfl rfl (Ah _ _ _ (by omega)) (gK (Acr ⟨i+1,T0,T1,o,T4,T5,rfl,hE,f,k,c,m,AW hb36l (congrArg AbK (by rw[<-TY s i (by omega),SL hd1 hd2 a9])),by omega,V3 hall hd1 hd2,trivial⟩ ?_)));show 32-(intOf (NI ((i)+(1)))).toNat<32-(intOf (a3 14)).toNat;rw[q14];simp only[intOf,Ab0];omega
 have hi32:i=32:=by omega
 have hun:DJ s=(pre s i,true):=by rw[hi32,VS];exact L2 a2 (fun j hj=>hall j (by omega))
 refine gS (XU T4 hb36l U7 rfl (by rw[Ab4,AbZ,Dp _ _ (by omega)];exact Rl) (gS (XT o (vr (AB (pre s i)) rfl) c (by first | rfl | (rw[Ab4,AbZ,Dp _ _ (by omega)];rfl)) (by rw[Ab4,AbZ,Dp _ _ (by omega)];exact Rl) (Ag _) fun b2 au ba b3=> ?_)));clear m;clear c;have c:=au;clear au;have b4:=bl c;have hE:=Ab hE ba (AbM u (by omega));refine M4 rfl (Aa9 o c U7 rfl (by rw[Ab4,AbZ];first | (rw[Ab8];exact Rl) | (rw[Dp _ _ (by omega)];exact Rl))) (vr (.bool (true)) rfl) ?_;refine⟨?_,hE⟩;rw[hun]
def GR(l:List Bs):Prop:=l.Pairwise fun a b=>Acd a b<0
theorem WS{a:Int}(h:a<=0)(h2:a≠0):a<0:=by omega
theorem getD_mem'{l:List Bs}{i:Nat}(hi:i<l.length):l.getD i []∈l:=AO [] hi
theorem Ef{l:List Bs}{i:Nat}(hi:i<l.length):l.getD i []=l[i]:=by rw[AbN,AbT hi];rfl
theorem WT{l:List Bs}(h:C1 l){i j:Nat}(hij:i<j)(hj:j<l.length):Acd (l.getD i []) (l.getD j [])<=0:=by
 rw[Ef (by omega),Ef hj];exact Ado.1 h i j (by omega) hj hij
theorem V4{l:List Bs}(h:GR l){i j:Nat}(hij:i<j)(hj:j<l.length):Acd (l.getD i []) (l.getD j [])<0:=by
 rw[Ef (by omega),Ef hj];exact Ado.1 h i j (by omega) hj hij
theorem SN{l:List Bs}{i:Nat}{x:Bs}(h:x∈l.take i):∃j,j<i/\j<l.length/\x=l.getD j []:=by
 obtain⟨j,hj,rfl⟩:=Ae7.1 h;rw[Ab5]at hj;exact⟨j,by omega,by omega,by rw[AfG,Ef]⟩
theorem L9{l:List Bs}{i:Nat}{x:Bs}(hi:i<l.length):x∈l.take (i+1)↔x∈l.take i\/x=l.getD i []:=by
 rw[Acn hi,Acb,AbW,Ef hi]
section
variable {m o : List Bs} {i : Nat}
theorem NX(hm:C1 m)(hi:i<m.length)(hS:GR o)(hmem:∀x,x∈o↔x∈m.take i)(h:o.length=0\/o.getD (o.length-1) []≠m.getD i []):GR (o++ [m.getD i []]):=by
 refine Ac6.2 ⟨hS,by simp,fun a ha b hb=> ?_⟩;rw[AbW.1 hb];have hle:∀c∈o,Acd c (m.getD i [])<=0:=fun c hc=>by
  obtain⟨j,h1,h2,rfl⟩:=SN ((hmem c).1 hc);exact WT hm h1 hi
 refine WS (hle a ha) fun e=> ?_;have e:=Hn e;obtain⟨k,hk,hka⟩:=Ae7.1 ha;rcases h with h | h
 ·omega
 ·by_cases hkl:k=o.length-1
  ·refine h ?_;rw[Ef (by omega),<-e,<-hka]
   congr 1
   omega
  ·have h1:=V4 hS (i:=k) (j:=o.length-1) (by omega) (by omega);rw[Ef hk,hka,e]at h1;have h2:=hle _ (getD_mem' (l:=o) (i:=o.length-1) (by omega));have h3:=G0 (m.getD i []) (o.getD (o.length-1) []);omega
theorem Ma(hi:i<m.length)(hmem:∀x,x∈o↔x∈m.take i):∀x,x∈o++ [m.getD i []]↔x∈m.take (i+1):=fun x=>by
 rw[L9 hi,Acb,AbW,hmem]
theorem SO(hi:i<m.length)(hmem:∀x,x∈o↔x∈m.take i)(h0:¬o.length=0)(h:¬o.getD (o.length-1) []≠m.getD i []):∀x,x∈o↔x∈m.take (i+1):=fun x=>by
 rw[L9 hi,<-hmem];constructor
 ·exact .inl
 ·rintro(h1 | rfl)
  ·exact h1
  ·rw[<-Classical.not_not.1 h];exact getD_mem' (by omega)
end
theorem setK_lg42:∀(cs:Array AbI),cs.size=32->∀w:AbJ,(Acq 42 1 #[(0, .agg cs)]).run AbL w = .ok (.slice (some ⟨w.heap.size,0,none⟩) 1 1) (w.alloc (.cells cs 33))
 | ⟨[c0,c1,c2,c3,c4,c5,c6,c7,c8,c9,c10,c11,c12,c13,c14,c15,c16,c17,c18,c19,c20,c21,c22,c23,c24,c25,c26,c27,c28,c29,c30,c31]⟩,_,w=>To c0 c1 c2 c3 c4 c5 c6 c7 c8 c9 c10 c11 c12 c13 c14 c15 c16 c17 c18 c19 c20 c21 c22 c23 c24 c25 c26 c27 c28 c29 c30 c31 w
theorem V5(w:AbJ)(v:AbI)(l:List Bs)(hr:RG 32 AbK w v l)(hl:l.length<=100000):
  Calls AbL 23 #[v] w fun e w' =>∃v' o,e = .returned v' /\OG w.heap.size 33 32 AbK w' v' o/\GR o/\(∀x,x∈o↔x∈l)/\o.length<=l.length/\Ext w w' :=by
 refine gG (args:= [v]) Tryz.func23 rfl 32 rfl rfl ?_;have hE:=AaY w;refine gS (XX Tv rfl ((Nh _ v l (by omega) hr).mono ?_));rintro e k ⟨v5,rfl,n,au⟩;refine⟨_,rfl,?_⟩;have n:=X1 n;obtain⟨m,hm⟩:∃m,m=AJ l:=⟨_,rfl⟩;rw[<-hm]at n;have hml:m.length=l.length:=by rw[hm,Gt]
 have hma:C1 m:=by rw[hm];exact Gs l
 have hmm:∀x,x∈m↔x∈l:=fun x=>by rw[hm];exact(sortB_perm l).mem_iff
 refine gS (X6 Nd (XW n rfl) ?_);have c:=AaY k;have hE:=hE.trans au;have z:=hE.size;have hrow0:OG k.heap.size 33 32 AbK k (AbR none 0 0) ([]:List Bs):=Abg _ _ _ _ _;refine gL (fun(ρ:Ac) (wz:AbJ)=>∃i:Nat,∃o:List Bs,∃vo:AbI,ρ 0=(v:AbI)/\ρ 2=((AbR none 0 0):AbI)/\ρ 7=(v5:AbI)/\ρ 8=(NI m.length:AbI)/\ρ 9=(NI i:AbI)/\ρ 3=(vo:AbI)/\Ext w wz/\Ext k wz/\OG k.heap.size 33 32 (AbK) wz vo (o)/\(i<=m.length)/\(GR o)/\(∀x,x∈o↔x∈m.take i)/\(o.length<=i)/\True) (fun ρ _=>m.length-(intOf (ρ 9)).toNat) ⟨0,[],(AbR none 0 0),rfl,rfl,rfl,rfl,rfl,rfl,hE,c,Bc hrow0 (rfl),Ack _,List.Pairwise.nil,(fun x=>by simp),AbO _,trivial⟩ ?_;clear hrow0;clear hE;rintro aa av ⟨i,o,vo,T0,T2,t,u,p,h,hE,c,hr_vo,hi,hS,hmem,hol,-⟩;have q9:=p;refine gS (XQ (a:=(i:Nat)) (b:=(m.length:Nat)) p u (AK _ _ _ _) ?_);refine cD rfl (fun ah=> ?_) fun ah=> ?_
 ·have hlt:i<m.length:=ah;have j:(AbK (m.getD (i) ([]:Ah5))).length=32:=(Aa6 (n.keep c) ([]:Ah5) (by omega));refine gS (X9 Nd RA (by decide) ([]:Ah5) (XW (n.keep c) t) p (by omega) fun a8 ai=>(gS (Yg (Yc ai rfl) U7 rfl (by rw[j];exact Rl) (gS (Aa3 Tn fun ad aw a9 aj ax ba=> ?_)))));have g:=AaY av;have bb:=hE.size;have bc:=c.size;have ak:OB vo ad:=A9 hr_vo.2 (by omega);have f:=aj;clear aj;have bd:ad<aw.heap.size:=by omega
  refine gS (XT (vr (PQ ad 0) rfl) (vr (AB (m.getD (i) ([]:Ah5))) rfl) f (by exact BC (AC (j)) Ab8) (by exact Ad (AC (j))) (Ag _) fun be al ay bf=> ?_);clear f;have f:=al;clear al;have bg:=bl f;clear ai;have g:=g.trans ax;have g:=Ab g ay (AbM (AbO _) (by omega));have c:=c.trans g;have hxl:(m.getD i []).length=32:=AC ((n.keep c).1 _ (AO [] hlt));by_cases h0:o.length=0
  ·refine CA [0,1,2,3,4,5,6,7,8,9,10,11,12] [] [] fun bh ae=> ?_;have g:=g.trans ae;have hr_vo:=hr_vo.keep g;have f:=eb ae f;refine ys (X6 Nd (XW (X1 hr_vo) h) zz) (ys (XQ (a:=(o.length:Nat)) (b:=(0:Nat)) rfl rfl (AI _ _ _ _) zz) (kT (h0) (ys (XY rfl rfl zz) (cT rfl (gS (XU rfl f U7 rfl (by exact Ad (AC (j))) (gS (Yu (a:=(m.getD (i) ([]:Ah5))) (enc:=AbK) (vr (AB (m.getD (i) ([]:Ah5))) rfl) (by rw[AbZ];exact(AC (j))) setK_lg42 fun az a0 am y=> ?_))))))));have c:=c.trans (ae.trans y);have hr_vo:=hr_vo.keep y;refine gS (X7 _ _ k.heap.size _ 32 Nd pk6_ig33.choose_spec.1 pk6_ig33.choose_spec.2 Nd (o) ([(m.getD (i) ([]:Ah5))]) (Abf hr_vo h) (XW am (vr az rfl)) (fun _ _=>Ag _) (by simp only[Ach,Acl];omega) (by simp only[Ach,Acl];omega) c.size fun an a1 a2 q=> ?_);have q:Grew a0 a1 vo an:= .eqv h q;have f:=eb y f;have g:=g.trans y;have hE:=hE.trans g;have hE:=Ao hE q hr_vo.2 z;have c:=Ao c q hr_vo.2 (AbO _);have f:=Ar f q ak;clear am;clear hr_vo;have hq:o.length=0\/o.getD (o.length-1) []≠m.getD i []:= .inl h0;refine gS (XR (xv:=NI i) (yv:=NI 1) p rfl rfl (Ah _ _ _ (by omega)) (gK (Acr ⟨i+1,o++ [m.getD i []],an,T0,T2,t,u,rfl,rfl,hE,c,Bc a2 (rfl),by omega,NX hma hlt hS hmem hq,Ma hlt hmem,(by simp only[AbP,Ach,Acl];omega),trivial⟩ ?_)));show m.length-(intOf (NI ((i)+(1)))).toNat<m.length-(intOf (aa 9)).toNat;rw[q9];simp only[intOf,Ab0];omega
  have hr_vo:=hr_vo.keep g;have hyl:(o.getD (o.length-1) []).length=32:=AC (hr_vo.1 _ (AO [] (by omega)));refine CA [0,1,2,3,4,5,6,7,8,9,10,11,12] [] [] fun bi r=> ?_;have hr_vo:=hr_vo.keep r;refine ys (X6 Nd (XW (X1 hr_vo) h) zz) (ys (XQ (a:=(o.length:Nat)) (b:=(0:Nat)) rfl rfl (AI _ _ _ _) zz) (kF (h0) (ys (X6 Nd (XW (X1 hr_vo) h) zz) (ys (XR (xv:=NI o.length) (yv:=NI 1) rfl rfl rfl (BB _ _ _ (by omega) (by omega)) zz) ?_))));have a3:(AbK (o.getD ((o.length)-(1)) ([]:Ah5))).length=32:=(Aa6 (X1 hr_vo) ([]:Ah5) (by omega));have f:=eb r f;refine yA (X9 Nd RA (by decide) ([]:Ah5) (XW (X1 hr_vo) h) rfl (by omega) fun bj ao=>(ys (Yg (Yc ao rfl) U7 rfl (by rw[a3];exact Rl) zz) (ys (XU rfl f U7 rfl (by exact Ad (AC (j))) zz) (ys (ZE (l1:=(o.getD ((o.length)-(1)) ([]:Ah5))) (l2:=(m.getD (i) ([]:Ah5))) U7 u5 PO Sc rfl rfl (hyl) (hxl) zz) (ys (X2 rfl rfl zz) ?_)))));clear ao;refine cD rfl (fun af=> ?_) fun af=> ?_
  ·have hq:o.length=0\/o.getD (o.length-1) []≠m.getD i []:= .inr af;refine gS (XU rfl f U7 rfl (by exact Ad (AC (j))) (gS (Yu (a:=(m.getD (i) ([]:Ah5))) (enc:=AbK) (vr (AB (m.getD (i) ([]:Ah5))) rfl) (by rw[AbZ];exact(AC (j))) setK_lg42 fun a4 a5 ap ag=> ?_)));have hZ1:=r.trans ag;have c:=c.trans hZ1;have hr_vo:=hr_vo.keep ag;refine gS (X7 _ _ k.heap.size _ 32 Nd pk6_ig33.choose_spec.1 pk6_ig33.choose_spec.2 Nd (o) ([(m.getD (i) ([]:Ah5))]) (Abf hr_vo h) (XW ap (vr a4 rfl)) (fun _ _=>Ag _) (by simp only[Ach,Acl];omega) (by simp only[Ach,Acl];omega) c.size fun aq a6 a7 s=> ?_);have s:Grew a5 a6 vo aq:= .eqv h s;have f:=eb ag f;have g:=g.trans hZ1;have hE:=hE.trans g;have hE:=Ao hE s hr_vo.2 z;have c:=Ao c s hr_vo.2 (AbO _);have f:=Ar f s ak;clear ap;clear hr_vo;refine gS (XR (xv:=NI i) (yv:=NI 1) p rfl rfl (Ah _ _ _ (by omega)) (gK (Acr ⟨i+1,o++ [m.getD i []],aq,T0,T2,t,u,rfl,rfl,hE,c,Bc a7 (rfl),by omega,NX hma hlt hS hmem hq,Ma hlt hmem,(by simp only[AbP,Ach,Acl];omega),trivial⟩ ?_)));show m.length-(intOf (NI ((i)+(1)))).toNat<m.length-(intOf (aa 9)).toNat;rw[q9];simp only[intOf,Ab0];omega
  have hq:¬o.getD (o.length-1) []≠m.getD i []:=af;have g:=g.trans r;have hE:=hE.trans g;have c:=c.trans r;refine gS (XR (xv:=NI i) (yv:=NI 1) p rfl rfl (Ah _ _ _ (by omega)) (gK (Acr ⟨i+1,o,vo,T0,T2,t,u,rfl,h,hE,c,Bc hr_vo (rfl),by omega,hS,SO hlt hmem h0 hq,by omega,trivial⟩ ?_)));show m.length-(intOf (NI ((i)+(1)))).toNat<m.length-(intOf (aa 9)).toNat;rw[q9];simp only[intOf,Ab0];omega
 refine Bp rfl h ?_;rw[show i=m.length by omega,Adt]at hmem;exact⟨_,o,rfl,OG.low hr_vo (by have:=z;omega),hS,fun x=>(hmem x).trans (hmm x),by omega,hE⟩
theorem WU(p s:Ah5):(Bm p s).1.length<=s.length:=by
 unfold Bm;split
 ·show(s.drop p.length).length<=_;rw[Ab6];omega
 ·exact AbO _
theorem NY{D:Af}(h:DOk D){i:Nat}(hi:i<(Bd D).length):((Bd D).getD i []).length<=80:=by
 unfold Bd at hi ⊢;split
 ·rename_i q;rw[if_pos q]at hi;cases hi
 ·rename_i q
  rw[if_neg q,Ab9]at hi;rw[AbN,Adn,AbT hi];exact(Cv (h.now.may _ (List.getElem_mem hi))).2
theorem Pq{α:Type}{l:List α}{p:α->Bool}{i:Nat}{d:α}(h:i<l.length)(hp:p (l.getD i d)=true):(l.take i).filter p++ [l.getD i d]=(l.take (i+1)).filter p:=by
 rw[Acn h,Afs];rw[AbN,AbT h,AcL]at hp ⊢;rw[List.filter_cons_of_pos hp];rfl
theorem SP{α:Type}{l:List α}{p:α->Bool}{i:Nat}{d:α}(h:i<l.length)(hp:p (l.getD i d)=false):(l.take i).filter p=(l.take (i+1)).filter p:=by
 rw[Acn h,Afs];rw[AbN,AbT h,AcL]at hp;rw[List.filter_cons_of_neg (by rw[hp];decide)];simp
theorem Ug:Plain AbL 75:=fun _ _=>by kernel_rfl
theorem Uh:Plain AbL 76:=fun _ _=>by kernel_rfl
theorem Ui:Plain AbL 27:=fun _ _=>by kernel_rfl
theorem Uj:Plain AbL 74:=fun _ _=>by kernel_rfl
theorem va1_ig9:∃z,(Tryz.prog.info? 9).map (fun i=>(i.zero,i.size,i.bytes))=some (some z,1,16)/\z.cells.size=1:=E8 (by kernel_rfl)
theorem Uk(w:AbJ)(sg s:Ah5)(hs:s.length<=9223372036854775807)(bd:Nat)(hbd:w.heap[bd]? =some (.cells ([St sg]).toArray 9 (0,0))):
  Calls AbL 74 #[St s,PQ bd 0] w fun e w' =>e = .returned (.bool (DT sg s))/\Ext w w' :=by
 refine Rh (args:= [St (s),PQ bd 0]) Tryz.func74 rfl 23 rfl rfl ?_;have hE:=AaY w;refine gS (XP Pi rfl rfl (cellAt hbd rfl) (gS (XS Ug rfl rfl ((ME _ s sg hs).mono ?_))));rintro e m ⟨rfl,j⟩;refine⟨_,rfl,?_⟩;refine gS (AaZ (vs:= [St ((Bm sg s).1), .bool ((Bm sg s).2)]) rfl rfl (gS (AaZ (vs:= [St ((Bm sg s).1), .bool ((Bm sg s).2)]) rfl rfl (gS (XX Uh rfl ((SM _ (Bm sg s).1 (AbM (WU _ _) hs)).mono ?_))))));rintro e n ⟨rfl,k⟩;refine⟨_,rfl,?_⟩;refine gS (AaZ (vs:= [AB ((DJ (Bm sg s).1).1), .bool ((DJ (Bm sg s).1).2)]) rfl rfl (gS (AaZ (vs:= [AB ((DJ (Bm sg s).1).1), .bool ((DJ (Bm sg s).1).2)]) rfl rfl (gS (Aa3 Tn fun b l o c f p=> ?_)))));have hZ1:=j.trans k;have hE:=hE.trans hZ1;have g:=hE.size;have a:=c;clear c;have q:b<l.heap.size:=by omega
 refine gS (XT (vr (PQ b 0) rfl) (vr (AB ((DJ (Bm sg s).1).1)) rfl) a (by exact BC (II _) Ab8) (by exact Ad (II _)) (Ag _) fun r h i t=> ?_);clear a;have a:=h;clear h;have u:=bl a;rcases Bool.eq_false_or_eq_true (Bm sg s).2 with hc | hc
 ·refine gY rfl (vr (.bool (true)) ((show _=Acs (Bm sg s).2 from rfl).trans (congrArg Acs hc))) (gS (XY (vr (.bool (true)) ((show _=Acs (Bm sg s).2 from rfl).trans (congrArg Acs hc))) rfl (Bp rfl (vr (.bool ((DJ (Bm sg s).1).2)) rfl) ?_)));have hE:=hE.trans f;have hE:=Ab hE i (AbM g (by omega));exact⟨by unfold DT;rw[hc,Bool.true_and],hE⟩
 refine gN rfl rfl (vr (.bool (false)) ((show _=Acs (Bm sg s).2 from rfl).trans (congrArg Acs hc))) rfl (gS (X2 (vr (.bool (false)) ((show _=Acs (Bm sg s).2 from rfl).trans (congrArg Acs hc))) rfl (Bp rfl (vr (.bool (false)) rfl) ?_)));have hE:=hE.trans f;have hE:=Ab hE i (AbM g (by omega));exact⟨by unfold DT;rw[hc,Bool.false_and],hE⟩
theorem J0(wb w:AbJ)(g:Nat)(H:Dk)(D:Af)(hD:DkG wb w g H D)(hL:DN D)(sg:Ah5)(hnm:(Bd D).length<=100000):
  Calls AbL 41 #[PQ g 0,St sg] w fun e w' =>∃v,e = .returned v/\OG w.heap.size 9 1 CX w' v (Av D sg)/\Ext w w' :=by
 refine gG (args:= [PQ g 0,St (sg)]) Tryz.func41 rfl 26 rfl rfl ?_;have hE:=AaY w;refine gS (YF (vr (St (sg)) rfl) rfl fun j w3 ay ab al az=> ?_);have c:=ab;clear ab;have a0:j<w3.heap.size:=by omega
 refine gS (Yx (vs:= #[PQ j 0]) (by simp only[Acp,Aco,Acz];exact congrArg Adh (PJ (vr (PQ j 0) rfl))) ?_);have hE:=hE.trans al;have a1:=hE.size;refine gS (XX Ui rfl (((hD.keep hE).list hL).mono ?_));rintro e k ⟨am,rfl,an,ac⟩;refine⟨_,rfl,?_⟩;have p:=X1 an;refine gS (X6 NN (XW p rfl) ?_);have f:=AaY k;have hE:=hE.trans ac;have ao:=hE.size;have hrow0:OG k.heap.size 9 1 (CX) k (AbR none 0 0) ([]:List Ah5):=Abg _ _ _ _ _;have ap:AbS (AbR none 0 0)≠some j:=fun e_=>by cases e_
 have hDk:=hD;have hL100:=hnm;have hE1_:=hE.size;have c:=eb ac c;refine gL (fun(ρ:Ac) (wz:AbJ)=>∃i:Nat,∃r:AbI,ρ 0=(PQ g 0:AbI)/\ρ 1=(St (sg):AbI)/\ρ 3=(PQ j 0:AbI)/\ρ 4=((AbR none 0 0):AbI)/\ρ 5=(.func (.func 74) #[] #[PQ j 0]:AbI)/\ρ 11=(am:AbI)/\ρ 12=(NI (((Bd D)).length):AbI)/\ρ 13=(NI i:AbI)/\ρ 6=(r:AbI)/\Ext w wz/\wz.heap[j]? =some (.cells (([St (sg)]:List AbI)).toArray 9 (0,0))/\Ext k wz/\OG k.heap.size 9 1 (CX) wz r (((Bd D).take i).filter (DT sg))/\(i<=(Bd D).length)/\(OB r j)/\True) (fun ρ _=>(Bd D).length-(intOf (ρ 13)).toNat) ⟨0,(AbR none 0 0),rfl,rfl,rfl,rfl,rfl,rfl,rfl,rfl,rfl,hE,c,f,Bc hrow0 (rfl),Ack _,ap,trivial⟩ ?_;clear hrow0;clear hE c;rintro ad a2 ⟨i,r,T0,T1,T3,T4,q,s,t,m,o,hE,c,f,hr_r,hil,hap_r_n2,-⟩;have q13:=m;refine gS (XQ (a:=(i:Nat)) (b:=(((Bd D)).length:Nat)) m t (AK _ _ _ _) ?_);refine cD rfl (fun x=> ?_) fun x=> ?_
 ·have hlt:i<(Bd D).length:=x;have hel:=NY hDk.st.ok hlt;have hfl:(((Bd D).take i).filter (DT sg)).length<=i:=AbM (List.length_filter_le _ _) (by rw[Ab5];exact Nat.min_le_left _ _);have a3:(CX (((Bd D)).getD (i) ([]:Ah5))).length=1:=(Aa6 (p.keep f) ([]:Ah5) (hlt));refine gS (X9 NN TJ (by decide) ([]:Ah5) (XW (p.keep f) s) m (hlt) fun a4 ai=>(gS (X4 Pi rfl (Abd (Yc ai rfl) rfl) ?_)));clear ai;refine gS (YT Uj (caps:= #[PQ j 0]) q #[St (((Bd D)).getD (i) ([]:Ah5)),PQ j 0] (by simp only[Acp,Aco,Acz,AdZ,AcM,AcO];exact congrArg Adh (FK rfl rfl)) ((Uk _ sg ((Bd D).getD (i) ([]:Ah5)) (by omega) j c).mono ?_));rintro e a5 ⟨rfl,n⟩;refine⟨_,rfl,?_⟩;refine cB (DT sg ((Bd D).getD (i) ([]:Ah5))) rfl (fun z=> ?_) fun z=> ?_
  ·refine gS (Yi (a:=((Bd D)).getD (i) ([]:Ah5)) (enc:=CX) (vr (St (((Bd D)).getD (i) ([]:Ah5))) rfl) rfl (fun w=>JS _ w) fun aq ar aj au=> ?_);have hZ1:=n.trans au;have f:=f.trans hZ1;have hr_r:=hr_r.keep hZ1;refine gS (X7 _ _ k.heap.size _ 16 NN va1_ig9.choose_spec.1 va1_ig9.choose_spec.2 NN (((Bd D).take i).filter (DT sg)) ([((Bd D)).getD (i) ([]:Ah5)]) (Abf hr_r o) (XW aj (vr aq rfl)) (fun y hy u hu=>by rw[AbW.1 hu];rfl) (by simp only[Ab7];omega) (by simp only[Ab7];omega) f.size fun aa av aw l=> ?_);have l:Grew ar av r aa:= .eqv o l;have c:=eb hZ1 c;have ax:OB aa j:=Ap l hap_r_n2 (bl c);have hE:=hE.trans hZ1;have hE:=Ao hE l hr_r.2 ao;have c:=Ar c l hap_r_n2;have f:=Ao f l hr_r.2 (AbO _);clear aj;clear hr_r;refine gS (XR (xv:=NI i) (yv:=NI 1) m rfl rfl (Ah _ _ _ (by omega)) (gK (Acr ⟨i+1,aa,T0,T1,T3,T4,q,s,t,rfl,rfl,hE,c,f,Bc aw ((Pq hlt z)),by omega,ax,trivial⟩ ?_)));show(Bd D).length-(intOf (NI ((i)+(1)))).toNat<(Bd D).length-(intOf (ad 13)).toNat;rw[q13];simp only[intOf,Ab0];omega
  have hE:=hE.trans n;have c:=eb n c;have f:=f.trans n;have hr_r:=hr_r.keep n;refine gS (XR (xv:=NI i) (yv:=NI 1) m rfl rfl (Ah _ _ _ (by omega)) (gK (Acr ⟨i+1,r,T0,T1,T3,T4,q,s,t,rfl,o,hE,c,f,Bc hr_r ((SP hlt z)),by omega,hap_r_n2,trivial⟩ ?_)));show(Bd D).length-(intOf (NI ((i)+(1)))).toNat<(Bd D).length-(intOf (ad 13)).toNat;rw[q13];simp only[intOf,Ab0];omega
 have hie:i=(Bd D).length:=by have h:=x;omega
 refine Bp rfl o ?_;exact⟨_,rfl,OG.low (Bc hr_r (by rw[hie,Adt];rfl)) hE1_,hE⟩
theorem Eg(w:AbJ)(hG:Laid w)(v:AbI)(b:Ah5)(hr:RB w v b)(hb:b.length<=1099511627776):
  Calls AbL 44 #[v] w fun e w' =>e = .returned (St (Ax b))/\Ext w w' :=by
 refine gG (args:= [v]) Tryz.func44 rfl 8 rfl rfl ?_;have hE:=AaY w;refine gS (YA Ga (XV (hr.keep hE) (vr v rfl)) fun a i c f=> ?_);have hE:=hE.trans f;refine gS (XX JM rfl ((Gk _ (hG.keep hE) a b c (by omega)).mono ?_));rintro e j ⟨rfl,g⟩;refine⟨_,rfl,?_⟩;refine gS (XX Ub rfl ((Pn _ (Sha.sum b) (Sha.sum_length _)).mono ?_));rintro e k ⟨rfl,h⟩;refine⟨_,rfl,?_⟩;refine gS (ZF (l:=([112,45]:Ah5)) (m:=hexOf (Sha.sum b)) rfl rfl (by rw[CN,Sha.sum_length];simp) (Bp rfl (vr (St ((([112,45]:Ah5):Ah5)++(hexOf (Sha.sum b):Ah5))) rfl) ?_));have hZ1:=g.trans h;have hE:=hE.trans hZ1;exact⟨rfl,hE⟩
theorem QS:∀u:AbJ,(zeroValue 89).run AbL u = .ok (.pointer none) u:=fun _=>by kernel_rfl
theorem DkG.offN{wb w:AbJ}{g:Nat}{H:Dk}{D:Af}(h:DkG wb w g H D){k:Nat}(hk:w.heap.size<=k):Cg H D k:=fun q=>by
 have:=(h.st.foot q).2.1;omega
theorem OpenNew.okV{n:Nat}{w:AbJ}{v:AbI}{r:Except Nat A0}{p:A0}{c:Nat}(h:OpenNew n w v r c)(e:r = .ok p):c=0/\PackNew n w v p:=by subst e;exact h
abbrev AbH:=@OpenNew.okV
theorem Zh{n:Nat}{w:AbJ}{v:AbI}{r:Except Nat A0}{p:A0}{c:Nat}(h:OpenNew n w v r c)(e:r = .ok p):∃gp,v=pN gp:=by
 obtain⟨g,-,-,-,h1,-⟩:=(h.okV e).2;exact⟨g,h1⟩
theorem OpenNew.bad{n:Nat}{w:AbJ}{v:AbI}{b:Bs}{e c:Nat}(h:OpenNew n w v (BY b) c)(he:BY b = .error e):c≠0:=by
 have:=VX he;rw[he]at h;rw[h.1];exact this
theorem PackP.set{Q:Nat->Prop}{w w' :AbJ}{v:AbI}{p:A0}(h:PackP Q w v p){b:Nat}(hg:w.grownBy w' (some b))(hne:∀k,Q k->k≠b):PackP Q w' v p:=
 h.chg (B:=fun k=>k=b) (Yj hg fun i e=> .inl (Option.some.inj e).symm) fun k _ q=>⟨hne k q,q⟩
theorem QT{D:Af}(h:DOk D):SortS (Bd D):=by
 unfold Bd;split
 ·exact List.Pairwise.nil
 ·exact List.pairwise_map.2 h.now.sort
theorem FV{D:Af}(h:DOk D)(sg:Bs):SortS (Av D sg):=(QT h).filter _
theorem SQ{D:Af}{sg s:Bs}(h:s∈Av D sg):s∈Bd D:=(Adr.1 h).1
theorem Mb{D:Af}(h:DOk D){sg:Bs}{i:Nat}(hi:i<(Av D sg).length):((Av D sg).getD i ([]:Ah5)).length<=80:=by
 have hm:=SQ (AO ([]:Bs) hi);obtain⟨k,hk,e⟩:=Adi hm;have:=NY h hk;rw[AbN,AbT hk,AcL,e]at this;exact this
theorem Jw(D:Af)(l:List Bs):(l.filterMap (Es D)).map Aci=l.filter fun s=>(Hd D s).isSome:=by
 induction l with
 | nil=>rfl
 | cons s r ih=>
  rw[Af8,List.filter_cons];unfold Es;cases Hd D s with
  | none=>exact ih
  | some p=>exact congrArg (s :: ·) ih
theorem QU{D:Af}(h:DOk D):SortS ((GF D).map Aci):=by
 unfold GF;rw[Jw];exact(FV h _).filter _
theorem V6{D:Af}{l:List Bs}{L:AP}{i:Nat}{pk:A0}(hlt:i<l.length)(hLe:L=(l.take i).filterMap (Es D))(hv:Hd D (l.getD i ([]:Ah5))=some pk):L++ [(l.getD i ([]:Ah5),pk)]=(l.take (i+1)).filterMap (Es D):=by
 rw[AbN,AbT hlt,AcL]at hv ⊢;rw[Acn hlt,Ahl,hLe];unfold Es;rw[Af8,hv];rfl
theorem SR{D:Af}{l:List Bs}{L:AP}{i:Nat}(hlt:i<l.length)(hLe:L=(l.take i).filterMap (Es D))(hv:Hd D (l.getD i ([]:Ah5))=none):L=(l.take (i+1)).filterMap (Es D):=by
 rw[AbN,AbT hlt,AcL]at hv;rw[Acn hlt,Ahl,hLe];unfold Es;rw[Af8,hv];exact(List.append_nil _).symm
theorem V7{D:Af}(h:DOk D){sg:Bs}{L:AP}{i:Nat}(hlt:i<(Av D sg).length)(hLe:L=((Av D sg).take i).filterMap (Es D)):(Av D sg).getD i ([]:Ah5)∉L.map Aci:=by
 rw[hLe,Jw];intro q;have hm:=(Adr.1 q).1;obtain⟨k,hk,e⟩:=Adi hm;rw[Ab5]at hk;rw[AfG,AbN,AbT hlt,AcL]at e;have:=(Agv.1 (FV h sg).nodup);have h2:=Ado.1 this k i (by omega) hlt (by omega);exact h2 e
theorem DBd.addK{n k:Nat}{D:Af}(h:DBd n D)(s:Ah5){b:Ah5}(hk:1<=k)(hb:b.length<=300*k):DBd (n+k) (Cd D s b):=by
 unfold Cd;split
 ·rename_i j _
  refine⟨h.quota,AbM h.refused (Ad3 _ _),h.arm,AbM h.acts (Ad3 _ _),AbM h.now (Ad3 _ _),fun x hx=> ?_⟩;rcases List.mem_or_eq_of_mem_set hx with hx | rfl
  ·have:=h.files x hx;omega
  ·have:=h.file j;show((AY D j).1++b).length<=_;rw[AbP];omega
 ·have h1:=(h.turned ⟨[],s,D.files.length⟩).mono (show n+1<=n+k by omega);refine⟨h1.quota,h1.refused,h1.arm,h1.acts,h1.now,fun x hx=> ?_⟩;rcases Acb.1 hx with hx | hx
  ·have:=h.files x hx;omega
  ·rw[AbW.1 hx];show b.length<=_;omega
theorem DBd.appendK{n k:Nat}{D:Af}(h:DBd n D)(s:Ah5){b:Ah5}(hk:1<=k)(hb:b.length<=300*k):DBd (n+k) (A2 D s b).1:=by
 unfold A2;split
 ·exact h.mono (Ad3 _ _)
 ·split
  ·have h2:=h.mono (Ad3 n k);have:=h.refused;exact⟨h2.quota,by show D.refused+1<=_;omega,h2.arm,h2.acts,h2.now,h2.files⟩
  ·split
   ·exact h.armed.mono (Ad3 _ _)
   ·exact h.armed.addK s hk hb
theorem Mc{l:List Bs}{i:Nat}(h:i<l.length):l.drop i=l.getD i ([]:Ah5) :: l.drop (i+1):=by
 rw[AbN,AbT h,AcL];exact Ac1 h
def BN(D:Af):List Bs->Af × Nat
 | []=>(D,0)
 | s :: r=>if(By D s).2≠0 then By D s else BN (By D s).1 r
theorem FW(D:Af)(s:Bs)(r:List Bs):BN D (s :: r)=if(By D s).2≠0 then By D s else BN (By D s).1 r:=rfl
theorem DBd.drops{m:Nat}{D:Af}(h:DBd m D)(l:List Bs):DBd (m+l.length) (BN D l).1:=by
 induction l generalizing m D with
 | nil=>exact h
 | cons s r ih=>
  rw[FW,Ach];have h1:=h.drop s;split
  ·exact h1.mono (by omega)
  ·exact(ih h1).mono (by omega)
def FG(D:Af)(b:Bs):Af × Bool × Nat:=
 if(A2 D (Ax b) b).2≠0 then((A2 D (Ax b) b).1,false,(A2 D (Ax b) b).2)
 else((BD (A2 D (Ax b) b).1 (Ax b)).1,true,(BD (A2 D (Ax b) b).1 (Ax b)).2)
def Gl(x:Af × Nat)(b:Bs):Af × Bool × Nat:=if x.2≠0/\x.2≠4 then(x.1,false,x.2)else FG x.1 b
def AE(D:Af)(b:Bs):Af × Bool × Nat:=
 if(An D (Ax b)).2=0/\(An D (Ax b)).1=b then((BD D (Ax b)).1,false,(BD D (Ax b)).2)
 else if(An D (Ax b)).2=0/\Ax (An D (Ax b)).1=Ax b then(D,false,7)
 else Gl (if(An D (Ax b)).2=0 then By D (Ax b)else(D,(An D (Ax b)).2)) b
section
variable {D : Af} {b : Bs}
theorem QV(h0:(An D (Ax b)).2=0)(h1:(An D (Ax b)).1=b):AE D b=((BD D (Ax b)).1,false,(BD D (Ax b)).2):=if_pos ⟨h0,h1⟩
theorem QW(h1:¬(An D (Ax b)).1=b)(h0:(An D (Ax b)).2=0)(h2:Ax (An D (Ax b)).1=Ax b):AE D b=(D,false,7):=(if_neg fun q=>h1 q.2).trans (if_pos ⟨h0,h2⟩)
theorem E4(h1:¬(An D (Ax b)).1=b)(h0:(An D (Ax b)).2=0)(h2:¬Ax (An D (Ax b)).1=Ax b):AE D b=Gl (By D (Ax b)) b:=((if_neg fun q=>h1 q.2).trans (if_neg fun q=>h2 q.2)).trans (congrArg (Gl · b) (if_pos h0))
theorem FX(h0:¬(An D (Ax b)).2=0):AE D b=Gl (D,(An D (Ax b)).2) b:=((if_neg fun q=>h0 q.1).trans (if_neg fun q=>h0 q.1)).trans (congrArg (Gl · b) (if_neg h0))
end
def Md:Go.Shelf.Ren:=⟨fun | 7=>84 | 10=>138 | n=>n,fun | 23=>84 | 26=>9 | 3=>89 | 28=>111 | 0=>0 | 27=>110 | 33=>139 | 4=>4 | n=>n,fun | n=>n⟩
theorem Vd:Go.Proofs.SlLaysZ.n7 AbL Md:= {
  mixed:=by kernel_rfl
  f7:=⟨Tryz.f84.name,by decide,Tryz.func84.trans (congrArg some (by kernel_rfl))⟩
  f10:=⟨Tryz.f138.name,by decide,Tryz.func138.trans (congrArg some (by kernel_rfl))⟩
  t0:=Tryz.underlying0
  a0:=Tryz.isAgg0
  z0:=Tryz.sizeOf0
  v0:=Tryz.zeroValue0
  t4:=Tryz.underlying4
  a4:=Tryz.isAgg4
  z4:=Tryz.sizeOf4
  v4:=Tryz.zeroValue4
  t23:=Tryz.underlying84
  a23:=Tryz.isAgg84
  z23:=Tryz.sizeOf84
  v23:=Tryz.zeroValue84
  t26:=Aed
  a26:=Afi
  z26:=Ae2
  v26:=Aem
  t27:=Tryz.underlying110
  a27:=Tryz.isAgg110
  z27:=Tryz.sizeOf110
  v27:=Tryz.zeroValue110
  t28:=Tryz.underlying111
  a28:=Tryz.isAgg111
  z28:=Tryz.sizeOf111
  v28:=Tryz.zeroValue111
  t33:=Tryz.underlying139
  a33:=Tryz.isAgg139
  z33:=Tryz.sizeOf139
  v33:=Tryz.zeroValue139 }
open Go.RowKit Go.Shelf
theorem SS(w:AbJ)(b:Nat):Calls AbL 84 #[.map (some b)] w fun e w' =>e = .returned (.func (.func 138) #[] #[.pointer (some ⟨w.heap.size,0,none⟩)])/\w' =w.alloc (.cells #[.map (some b)] 84):=by
 have h:=AnyZ.keys_in Vd Fence.wide 5 trivial rfl (some b) w;exact callsIn_wide.1 h
theorem NZ{l ss:List Ah5}(h:SortS l)(hp:ss.Perm l):ss.mergeSort (fun x y=>decide (x<=y))=l:=by
 have h1:=mergeSort_of_perm hp;refine h1.trans (List.mergeSort_of_pairwise ?_);refine List.Pairwise.imp (fun {a b} q=> ?_) h;rw[bytesLess_eq,decide_eq_true_eq]at q;simp only[decide_eq_true_eq];exact List.le_of_lt q
set_option maxHeartbeats 1000000 in
theorem OU(w w2:AbJ){b:Nat}{ev:Nat->AbI}{G:Ah5->Option Nat}{l:List Ah5}(hw:w2=w.alloc (.cells #[.map (some b)] 84))(h:MapF St ev Nm w b G)(hl:SortS l)(hG:∀s,(G s).isSome=true↔s∈l)(hlen:l.length<1099511627776):
  Calls AbL 58 #[.func (.func 138) #[] #[.pointer (some ⟨w.heap.size,0,none⟩)]] w2 fun e w' =>∃v,e = .returned v/\OG w2.heap.size 9 1 CX w' v l/\Ext w2 w' :=by
 subst hw;obtain⟨D0,hown,hperm,hsize⟩:=h.owns (P:=AbL) (k:=9) (by kernel_rfl) (fun a q=>AbM q (by decide)) (keys:=l) (SortS.nodup hl) hG (by simp only[maxLen];omega);have hbl:=hown.lt;have hseq:SeqGives Fence.wide 2 AbL 138 #[.pointer (some ⟨w.heap.size,0,none⟩)] encStr (fun ss=>ss.Perm (strKeys D0)) (Maps.size D0) (w.alloc (.cells #[.map (some b)] 84)):=
  AnyZ.keys_gives (ρ:=Md) { Vd with } Fence.wide _ trivial rfl (by omega) w.heap.size b _ D0 _ (by simp) (by simp) (by
   obtain⟨es,clock,hb,Ft,hs,hD⟩:=hown;exact⟨es,clock,(Below.heap_alloc _ _ b hbl).trans hb,Ft,hs,hD⟩)
 have hS:=AnyZ.sorted_in Pk Fence.wide 5 trivial trivial trivial trivial rfl (by omega) (Sx _) (enters_of Tryz.func103 (by kernel_rfl) rfl) 138 #[.pointer (some ⟨w.heap.size,0,none⟩)] trivial (enters_of Tryz.func138 (by kernel_rfl) rfl) _ _ (by rw[hsize];simp only[maxLen];omega) (by rw[hsize];omega) _ hseq;refine(callsIn_wide.1 hS).mono fun e w' q=> ?_;obtain⟨v,ss,he,hp,hrow,-,hB⟩:=q;refine⟨v,he,⟨fun _ _=>rfl,?_⟩,hB⟩;have hs:=NZ hl (hp.trans hperm);rw[hs]at hrow;rw[NL];have hlen:ss.length=l.length:=(hp.trans hperm).length_eq;rw[hlen]at hrow;exact hrow
def dPkL:Bs × A0:=([],[],fun _=>none)
def GoodL(L:AP):Prop:=∀e∈L,∃b,BY b = .ok e.2/\e.1=Ax b
theorem QX(D:Af):GoodL (GF D):=fun e he=>by
 unfold GF at he;obtain⟨s,hs,h⟩:=List.mem_filterMap.1 he;cases hv:Hd D s with
 | none=>rw[Es,hv]at h;cases h
 | some p=>
  have a:e=(s,p):=by rw[Es,hv]at h;exact(Option.some.inj h).symm
  subst a;unfold Hd at hv;split at hv
  ·rename_i p1 ho
   split at hv
   ·rename_i q
    cases hv;exact⟨_,ho,q.symm⟩
   ·cases hv
  ·cases hv
theorem GoodL.at_{L:AP}(h:GoodL L){i:Nat}(hi:i<L.length)(id:Bs):(Cq (some (L.getD i dPkL).2) id).1.1.length<=4194304:=by
 obtain⟨b,hb,-⟩:=h _ (AO dPkL hi);have g:=QN hb;show(match (L.getD i dPkL).2.2 id with | none=>_ | some x=>_:(Bs × Nat)× Nat).1.1.length<=_;cases e:(L.getD i dPkL).2.2 id with
 | none=>exact Ack _
 | some x=>exact(g.any id x e).2.1
theorem N0{L:AP}{i:Nat}(hi:i<L.length):(L.map Aci).getD (i) ([]:Ah5)=(L.getD i dPkL).1:=by
 rw[AbN,AbN,Adn,AbT hi];rfl
theorem Lt(b:Bs):(Ax b).length=66:=by
 unfold Ax;rw[AbP,CN,Sha.sum_length];rfl
theorem GoodL.nm{L:AP}(h:GoodL L){i:Nat}(hi:i<L.length):((L.map Aci).getD (i) ([]:Ah5)).length<=80:=by
 rw[N0 hi];obtain⟨b,-,hb⟩:=h _ (AO dPkL hi);rw[hb,Lt];decide
theorem V8{L:AP}{ptr:Bs->Nat}(hs:SortS (L.map Aci)){i:Nat}(hi:i<L.length):pkG L ptr ((L.map Aci).getD (i) ([]:Ah5))=some (ptr ((L.map Aci).getD (i) ([]:Ah5))):=by
 rw[N0 hi];exact WR hs hi
theorem PksAt.idx{Q:Nat->Prop}{w:AbJ}{L:AP}{ptr:Bs->Nat}(h:PksAt Q w L ptr){i:Nat}(hi:i<L.length):PackP Q w (pN (ptr ((L.map Aci).getD (i) ([]:Ah5)))) (L.getD i dPkL).2:=by
 rw[N0 hi];exact h _ (AO dPkL hi)
theorem Jx(L M:AP)(id:Bs)(h:Ay L id=none):Ay (L++M) id=Ay M id:=by
 unfold Ay at h ⊢;rw[List.findSome?_append,h];rfl
theorem MF{L:AP}{i:Nat}(hi:i<L.length)(id:Bs)(h:Ay (L.take i) id=none):Ay L id=Ay (L.getD i dPkL :: L.drop (i+1)) id:=by
 have e:L=L.take i++(L.getD i dPkL :: L.drop (i+1)):=by
  rw[AbN,AbT hi,AcL,<-Ac1 hi,List.take_append_drop]
 rw[show Ay L id=Ay (L.take i++(L.getD i dPkL :: L.drop (i+1))) id from congrArg (Ay · id) e];exact Jx _ _ id h
theorem ST{p:A0}{id:Bs}(h:¬(Cq (some p) id).2=0):p.2 id=none:=by
 cases e:p.2 id with
 | none=>rfl
 | some x=>exact absurd (show(match p.2 id with | none=>_ | some x=>_:(Bs × Nat)× Nat).2=0 by rw[e]) h
theorem SU{p:A0}{id:Bs}(h:(Cq (some p) id).2=0):∃x,p.2 id=some x/\(Cq (some p) id).1=x:=by
 cases e:p.2 id with
 | none=>
  have:(Cq (some p) id).2=12:=show(match p.2 id with | none=>_ | some x=>_:(Bs × Nat)× Nat).2=12 by rw[e]
  rw[this]at h;cases h
 | some x=>exact⟨x,rfl,show(match p.2 id with | none=>_ | some x=>_:(Bs × Nat)× Nat).1=x by rw[e]⟩
theorem WV{L:AP}{i:Nat}{id:Bs}(h:Ay (L.take i) id=none)(hi:i<L.length)(hg:(Cq (some (L.getD i dPkL).2) id).2=0):Ay L id=some (Cq (some (L.getD i dPkL).2) id).1.1:=by
 obtain⟨x,h1,h2⟩:=SU hg;rw[MF hi id h,h2];unfold Ay;rw[Af9,h1];rfl
theorem V9{L:AP}{i:Nat}{id:Bs}(h:Ay (L.take i) id=none)(hi:i<L.length)(hg:¬(Cq (some (L.getD i dPkL).2) id).2=0):Ay (L.take (i+1)) id=none:=by
 rw[Acn hi,Jx _ _ id h];have e:=ST hg;rw[AbN,AbT hi,AcL]at e;unfold Ay;rw[Af9,e];rfl
theorem Pr{D:Af}{L:AP}{id:Bs}(h:(Ay L id).isSome=true):getV D L id=((Ay L id).getD [],0):=by
 unfold getV;cases e:Ay L id with
 | none=>rw[e]at h;cases h
 | some b=>rfl
theorem N1{D:Af}{L:AP}{id:Bs}(h:(Ay L id).isSome=false):getV D L id=C8 D id:=by
 unfold getV;cases e:Ay L id with
 | none=>rfl
 | some b=>rw[e]at h;cases h
theorem Lu{D:Af}{b:Ah5}{r:Af × Ah5 × Ah5 × Nat}(h:BP D b=r):r.2.1.length=32:=by
 have hf:∀x:Af × Nat,(DC x (Sha.sum b)).2.1.length=32:=fun x=>by
  unfold DC;split
  ·rfl
  ·exact Sha.sum_length b
 subst h;unfold BP;split
 ·exact hf _
 split
 ·rfl
 split
 ·exact hf _
 split
 ·exact Sha.sum_length b
 ·exact hf _
theorem Wa{D:Af}{L:AP}{b:Bs}(h:b.length<=300)(hc:(Ay L (Sha.sum b)).isSome=true)(hn:(Ay L (Sha.sum b)).getD []≠b):Ee D L b=(D,Sha.sum b,(Ay L (Sha.sum b)).getD [],7):=by
 unfold Ee;rw[if_neg (by omega)];cases e:Ay L (Sha.sum b)with
 | none=>rw[e]at hc;cases hc
 | some x=>rw[e]at hn;exact if_neg hn
theorem Wb{D:Af}{L:AP}{b:Bs}(h:b.length<=300)(hc:(Ay L (Sha.sum b)).isSome=true)(hn:¬(Ay L (Sha.sum b)).getD []≠b):Ee D L b=(D,Sha.sum b,[],0):=by
 unfold Ee;rw[if_neg (by omega)];cases e:Ay L (Sha.sum b)with
 | none=>rw[e]at hc;cases hc
 | some x=>rw[e]at hn;exact if_pos (Decidable.not_not.1 hn)
theorem Ul{D:Af}{L:AP}{b:Bs}(h:b.length<=300)(hc:(Ay L (Sha.sum b)).isSome=false):Ee D L b=BP D b:=by
 unfold Ee;rw[if_neg (by omega)];cases e:Ay L (Sha.sum b)with
 | none=>rfl
 | some x=>rw[e]at hc;cases hc
theorem KW:A4 AbL 86 1 1:=fun b o w=>by simp[go_sem]
theorem J1:Tryz.prog.underlying 84=some (.map 9 89):=by kernel_rfl
theorem Um:Plain AbL 84:=fun _ _=>by kernel_rfl
theorem Un:Plain AbL 85:=fun _ _=>by kernel_rfl
theorem N2:Tryz.prog.underlying 28=some (.pointer 86):=by kernel_rfl
theorem N3:Plain AbL 46:=fun _ _=>by kernel_rfl
theorem KX:A4 AbL 86 0 0:=fun b o w=>by simp[go_sem]
theorem Uo:Plain AbL 48:=fun _ _=>by kernel_rfl
theorem Up:Plain AbL 15:=fun _ _=>by kernel_rfl
theorem Uq:Plain AbL 47:=fun _ _=>by kernel_rfl
theorem Me(w:AbJ)(n:Nat)(Q:Nat->Prop)(gv gd bm:Nat)(L:AP)(ptr:Bs->Nat)(hV:VtAt n Q w gv gd bm L ptr)(hgL:GoodL L)(hLn:L.length<=100000)(id:Ah5)(hid:id.length=32):
  Calls AbL 46 #[PQ gv 0,AB id] w fun e w' =>∃v,e = .returned (.tuple #[v, .bool (Ay L id).isSome])/\w'.ownsRow w.heap.size 5 1 v ((Ay L id).getD []).length (AbK ((Ay L id).getD []))/\Ext w w' :=by
 have hvb:=hV.blk;have hvm:=hV.map;have hpk:=hV.pk;have hsrt:=hV.sort;have hV0:=hV;refine gG (args:= [PQ gv 0,AB id]) Tryz.func46 rfl 36 rfl rfl ?_;have hE:=AaY w;refine gS (Abh (vr (AB id) rfl) fun l m t u o al=> ?_);have am:=As hvm.lt t;have c:=u;clear u;have an:l<m.heap.size:=by omega
 have ao:=As (bl hvb) t;have hvb:=eb o hvb;refine gS (Aa1 rfl (gS (Aa0 KW rfl (gS (XP J1 rfl rfl (cellAt hvb rfl) ?_)))));have hvm:=hvm.keep o;have hm1:=hvm;refine gS (XX Um rfl ((SS _ _).mono ?_));rintro e x ⟨rfl,hwk⟩;refine⟨_,rfl,?_⟩;have hxk:Ext m x:=by rw[hwk];exact(Below.refl _ _).alloc (AbO _) _
 refine gS (XX TV rfl ((OU m x hwk hm1 hsrt pkG_iff (by rw[Ab9];omega)).mono ?_));rintro e ap ⟨y,rfl,ag,aa⟩;refine⟨_,rfl,?_⟩;have hE:=hE.trans (o.trans hxk);have aq:=hE.size;have f:=X1 ag;have hZ1:=hxk.trans aa;have hvb:=eb hZ1 hvb;have hvm:=hvm.keep hZ1;have c:=eb hZ1 c;have hE:=hE.trans aa;refine gS (X6 NN (XW f rfl) (gL (fun(ρ:Ac) (wz:AbJ)=>∃i:Nat,ρ 0=(PQ gv 0:AbI)/\ρ 1=(AB id:AbI)/\ρ 3=(PQ l 0:AbI)/\ρ 15=(y:AbI)/\ρ 16=(NI (((L.map Aci)).length):AbI)/\ρ 17=(NI i:AbI)/\wz.heap[gv]? =some (.cells ([PQ gd 0, .map (some bm)]).toArray 86 (0,0))/\MapF St pN Nm wz bm (pkG L ptr)/\Ext w wz/\wz.heap[l]? =some (.cells (AbK id).toArray 33 (0,0))/\RG 1 (CX) wz y (L.map Aci)/\(i<=L.length)/\(Ay (L.take i) id=none)/\True) (fun ρ _=>L.length-(intOf (ρ 17)).toNat) ⟨0,rfl,rfl,rfl,rfl,rfl,rfl,hvb,hvm,hE,c,f,Ack _,rfl,trivial⟩ ?_));clear hvb hvm hE c f;rintro ah ar ⟨i,T0,T1,T3,ad,ae,k,hvb,hvm,hE,c,f,hil,hno,-⟩;have q17:=k;refine gS (XQ (a:=(i:Nat)) (b:=(((L.map Aci)).length:Nat)) k ae (AK _ _ _ _) ?_);refine cD rfl (fun p=> ?_) fun p=> ?_
 ·have hlt:i<(L.map Aci).length:=p;have hli:i<L.length:=by rw[Ab9]at hlt;exact hlt
  have hgd:=hgL.at_ hli id;have au:(CX (((L.map Aci)).getD (i) ([]:Ah5))).length=1:=(Aa6 f ([]:Ah5) (hlt));refine gS (X9 NN TJ (by decide) ([]:Ah5) (XW f ad) k (hlt) fun av af=>(gS (X4 Pi rfl (Abd (Yc af rfl) rfl) ?_)));clear af;refine CA [0,1,2,3,4,5,6,7,8,9,10,11,12] [7] [] fun aj j=> ?_;have hvb:=eb j hvb;have hvm:=hvm.keep j;have c:=eb j c;refine ys (Aa1 T0 zz) (ys (Aa0 KW rfl zz) (ys (XP J1 rfl rfl (cellAt hvb rfl) zz) (ys (YM (ek:=St) (ev:=pN) (D:=Nm) Fb Er (fun _ _=>C7) J1 (z:= .pointer none) QS rfl rfl hvm (hgL.nm hli) (V8 hsrt hli) zz) (ys (XU T3 c U7 rfl (by exact Ad hid) zz) ?_))));have hE:=hE.trans j;have hsz_:=(hE).size;refine yC (XS Un rfl rfl ((TA _ (pN (ptr ((L.map Aci).getD (i) ([]:Ah5)))) (some (L.getD i dPkL).2) (PksAt.idx (hpk.keep hE) hli).opt id hid (Nat.lt_of_le_of_lt hgd (by decide))).mono ?_));rintro e aw ⟨q,rfl,ak,g⟩;refine⟨_,rfl,?_⟩;have r:=AaY aj;have ax:=hE.size;refine ys (AaZ (vs:= [q,NI ((Cq (some (L.getD i dPkL).2) id).2)]) rfl rfl zz) (ys (AaZ (vs:= [q,NI ((Cq (some (L.getD i dPkL).2) id).2)]) rfl rfl zz) (gS (XQ (a:=((Cq (some (L.getD i dPkL).2) id).2:Nat)) (b:=(0:Nat)) rfl rfl (AI _ _ _ _) ?_)));refine cD rfl (fun s=> ?_) fun s=> ?_
  ·have hpP:=WV hno hli s;refine BA rfl (vr q rfl) (vr (.bool (true)) rfl) ?_;have hE:=hE.trans g;exact⟨_,by rw[hpP];rfl,by rw[hpP];exact BJ ak (by omega),hE⟩
  have f:=f.keep j;have hvb:=eb g hvb;have hvm:=hvm.keep g;have hE:=hE.trans g;have c:=eb g c;have r:=r.trans g;refine gS (XR (xv:=NI i) (yv:=NI 1) k rfl rfl (Ah _ _ _ (by omega)) (gK (Acr ⟨i+1,T0,T1,T3,ad,ae,rfl,hvb,hvm,hE,c,(f.keep r),by omega,V9 hno hli s,trivial⟩ ?_)));show L.length-(intOf (NI ((i)+(1)))).toNat<L.length-(intOf (ah 17)).toNat;rw[q17];simp only[intOf,Ab0];omega
 have hie:i=L.length:=by have h:=p;rw[Ab9]at h;omega
 have hpP:Ay L id=none:=by rw[hie,Adt]at hno;exact hno
 refine BA rfl (vr (AbR none 0 0) rfl) (vr (.bool (false)) rfl) ?_;exact⟨_,by rw[hpP];rfl,by rw[hpP];exact World.ownsRow_nil _ _ _ 1,hE⟩
theorem Lv(wb w:AbJ)(g:Nat)(H:Dk)(D:Af)(hD:DkG wb w g H D)(hG:Laid wb)(hL:DN D)(n:Nat)(gv bm:Nat)(L:AP)(ptr:Bs->Nat)(hV:VtAt n (Cg H D) w gv g bm L ptr)(hgL:GoodL L)(hLn:L.length<=100000)(id:Ah5)(hid:id.length=32):
  Calls AbL 15 #[PQ gv 0,AB id] w fun e w' =>∃v,e = .returned (.tuple #[v,NI (getV D L id).2])/\RB w' v (getV D L id).1/\Ext w w' /\NewI w.heap.size w' v:=by
 have hvb:=hV.blk;have hvm:=hV.map;have hpk:=hV.pk;have hsrt:=hV.sort;have hV0:=hV;refine gG (args:= [PQ gv 0,AB id]) Tryz.func15 rfl 26 rfl rfl ?_;have hE:=AaY w;refine gS (Abh (vr (AB id) rfl) fun p j l m f x=> ?_);have y:=As hvm.lt l;have b:=m;clear m;have z:p<j.heap.size:=by omega
 refine gS (Ye N2 rfl (cF rfl (gS (XU rfl b U7 rfl (by exact Ad hid) ?_))));have hE:=hE.trans f;have hszp_:=(hE).size;refine gS (XS N3 rfl rfl ((Me _ n (Cg H D) gv g bm L ptr (hV0.keep hE) hgL hLn id hid).mono ?_));rintro e aa ⟨c,rfl,h,o⟩;refine⟨_,rfl,?_⟩;have ab:=As (bl hvb) l;have hvb:=eb f hvb;have hvm:=hvm.keep f;have hpnew:∀k,AbS c=some k->j.heap.size<=k:=fun k hk=>(h.lt k hk).1;have hpn:=(Zd h).low hszp_;have q:=Ya h;refine gS (AaZ (vs:= [c, .bool ((Ay L id).isSome)]) rfl rfl (gS (AaZ (vs:= [c, .bool ((Ay L id).isSome)]) rfl rfl ?_)));refine cB ((Ay L id).isSome) rfl (fun a=> ?_) fun a=> ?_
 ·refine BA rfl (vr c rfl) (vr (NI 0) rfl) ?_;have hE:=hE.trans o;exact⟨_,by rw[Pr a],by rw[Pr a];exact q,hE,hpn⟩
 refine CA [0,1,2,3,4,5,6,7,8,9] [5] [] fun ac r=> ?_;have hZ1:=o.trans r;have hvb:=eb hZ1 hvb;have b:=eb hZ1 b;refine ys (Aa1 rfl zz) (ys (Aa0 KX rfl zz) (ys (XP TI rfl rfl (cellAt hvb rfl) zz) (ys (XU rfl b U7 rfl (by exact Ad hid) zz) ?_)));have hE:=hE.trans hZ1;have hszl_:=(hE).size;refine yC (XS Uo rfl rfl ((V2 wb _ g H D (hD.keep hE) hG hL id hid).mono ?_));rintro e ad ⟨i,rfl,s,t,u⟩;refine⟨_,rfl,?_⟩;have hvn:=NewI.low u hszl_;refine ys (AaZ (vs:= [i,NI ((C8 D id).2)]) rfl rfl zz) (ys (AaZ (vs:= [i,NI ((C8 D id).2)]) rfl rfl zz) (BA rfl (vr i rfl) (vr (NI ((C8 D id).2)) rfl) ?_));have hE:=hE.trans t;exact⟨_,by rw[N1 a],by rw[N1 a];exact s,hE,hvn⟩
theorem Wc(wb w:AbJ)(g:Nat)(H:Dk)(D:Af)(hD:DkG wb w g H D)(hG:Laid wb)(hL:DN D)(n:Nat)(gv bm:Nat)(L:AP)(ptr:Bs->Nat)(hV:VtAt n (Cg H D) w gv g bm L ptr)(hgL:GoodL L)(hLn:L.length<=100000)(id:Ah5)(hid:id.length=32):
  Calls AbL 17 #[PQ gv 0,AB id] w fun e w' =>e = .returned (.bool (decide ((getV D L id).2=0)))/\Ext w w' :=by
 have hvb:=hV.blk;have hvm:=hV.map;have hpk:=hV.pk;have hsrt:=hV.sort;have hV0:=hV;refine gG (args:= [PQ gv 0,AB id]) Tryz.func17 rfl 15 rfl rfl ?_;have hE:=AaY w;refine gS (Abh (vr (AB id) rfl) fun h i j c k o=> ?_);have p:=As hvm.lt j;have l:=c;clear c;have q:h<i.heap.size:=by omega
 have hE:=hE.trans k;refine gS (XU rfl l U7 rfl (by exact Ad hid) (gS (XS Up rfl rfl ((Lv wb _ g H D (hD.keep hE) hG hL n gv bm L ptr (hV0.keep hE) hgL hLn id hid).mono ?_))));rintro e r ⟨f,rfl,s,m,-⟩;refine⟨_,rfl,?_⟩;refine gS (AaZ (vs:= [f,NI ((getV D L id).2)]) rfl rfl (gS (AaZ (vs:= [f,NI ((getV D L id).2)]) rfl rfl (gS (XQ (a:=((getV D L id).2:Nat)) (b:=(0:Nat)) rfl rfl (AI _ _ _ _) (Bp rfl (vr (.bool (decide (((getV D L id).2:Nat)=(0)))) rfl) ?_))))));have hE:=hE.trans m;exact⟨rfl,hE⟩
theorem Wd(wb w:AbJ)(g:Nat)(H:Dk)(D:Af)(hD:DkG wb w g H D)(hG:Laid wb)(hL:DN D)(n:Nat)(gv bm:Nat)(L:AP)(ptr:Bs->Nat)(hV:VtAt n (Cg H D) w gv g bm L ptr)(hgL:GoodL L)(hLn:L.length<=100000)(vb:AbI)(b:Ah5)(hr:RB w vb b)(hoff:b= []\/∀i,vb.ownBlock=some i->¬B3 H D.files.length i)(hbl:b.length<=300)(m:Nat)(hB:DBd m D)(hm:m<=99000):
  Calls AbL 14 #[PQ gv 0,vb] w fun e w' =>∃H' vo,e = .returned (.tuple #[AB ((Ee D L b).2.1),vo,NI (Ee D L b).2.2.2])/\RB w' vo (Ee D L b).2.2.1/\DkW wb w g H D w' H' (Ee D L b).1/\∀k,AbS vo=some k->w.heap.size<=k:=by
 have hvb:=hV.blk;have hvm:=hV.map;have hpk:=hV.pk;have hsrt:=hV.sort;have hV0:=hV;refine Rh (args:= [PQ gv 0,vb]) Tryz.func14 rfl 50 rfl rfl ?_;have hE:=AaY w;refine gS (Aa3 Tn fun f w3 z aa ab au=> ?_);have av:=As hvm.lt z;have c:=aa;clear aa;have aw:f<w3.heap.size:=by omega
 have hwb:=hD.ext.size;have hE:=hE.trans ab;refine gS (Ye N2 rfl (cF rfl (gS (XZ F7 (XV (hr.keep hE) rfl) (gS (XQ (a:=(b.length:Nat)) (b:=(262144:Nat)) rfl rfl (Bh _ _ _ _) (kF (by omega) (cF rfl (gS (YA Ga (XV (hr.keep hE) (vr vb rfl)) fun am ax ac s=> ?_))))))))));have hE:=hE.trans s;refine gS (XX JM rfl ((Gk _ (hG.keep ((hD.keep hE)).ext) am b ac (by omega)).mono ?_));rintro e ay ⟨rfl,t⟩;refine⟨_,rfl,?_⟩;have c:=eb (s.trans t) c;refine gS (XT (vr (PQ f 0) rfl) (vr (AB (Sha.sum b)) rfl) c (by exact BC (Sha.sum_length _) Ab8) (by exact Ad (Sha.sum_length _)) (Ag _) fun an ad u az=> ?_);have hZ1:=(ab.trans s).trans t;have hvm:=hvm.keep hZ1;have hvm:=Aa2 hvm u (Am (by omega));clear ac;clear c;have c:=ad;clear ad;have a0:=bl c;refine gS (XU rfl c U7 rfl (by exact Ad (Sha.sum_length _)) ?_);have hE:=hE.trans t;have hE:=Ab hE u (AbM (AbO _) (by omega));have hszp_:=(hE).size;refine gS (XS N3 rfl rfl ((Me _ n (Cg H D) gv g bm L ptr (hV0.keep hE) hgL hLn (Sha.sum b) (Sha.sum_length _)).mono ?_));rintro e ao ⟨j,rfl,r,h⟩;refine⟨_,rfl,?_⟩;have a1:=As (bl hvb) z;have hvb:=eb hZ1 hvb;have hvb:=kb u hvb (by omega);have ap:OB j f:=EN r (bl c);have hpnew:∀k,AbS j=some k->an.heap.size<=k:=fun k hk=>(r.lt k hk).1;have hpn:=(Zd r).low hszp_;have o:=Ya r;refine gS (AaZ (vs:= [j, .bool ((Ay L (Sha.sum b)).isSome)]) rfl rfl (gS (AaZ (vs:= [j, .bool ((Ay L (Sha.sum b)).isSome)]) rfl rfl ?_)));rcases Bool.eq_false_or_eq_true (Ay L (Sha.sum b)).isSome with hc | hc
 ·have hE:=hE.trans h;refine gY rfl (vr (.bool (true)) ((show _=Acs (Ay L (Sha.sum b)).isSome from rfl).trans (congrArg Acs hc))) (gY rfl (vr (.bool (true)) ((show _=Acs (Ay L (Sha.sum b)).isSome from rfl).trans (congrArg Acs hc))) (gS (Yo F7 u5 Pi (XV o rfl) (gY rfl (vr (.bool (true)) ((show _=Acs (Ay L (Sha.sum b)).isSome from rfl).trans (congrArg Acs hc))) (gY rfl (vr (.bool (true)) ((show _=Acs (Ay L (Sha.sum b)).isSome from rfl).trans (congrArg Acs hc))) (gS (Yo F7 u5 Pi (XV (hr.keep hE) rfl) (gY rfl (vr (.bool (true)) ((show _=Acs (Ay L (Sha.sum b)).isSome from rfl).trans (congrArg Acs hc))) (gS (YK (l:=((Ay L (Sha.sum b)).getD [])) (m:=b) (.inr rfl) rfl rfl (decide (((Ay L (Sha.sum b)).getD [])≠b)) rfl (gS (XY (vr (.bool (true)) ((show _=Acs (Ay L (Sha.sum b)).isSome from rfl).trans (congrArg Acs hc))) rfl ?_))))))))))));refine cD rfl (fun v=> ?_) fun v=> ?_
  ·have c:=eb h c;refine gS (XU rfl c U7 rfl (by exact Ad (Sha.sum_length _)) (gS (XT (vr (PQ f 0) rfl) (vr (AB (Sha.sum b)) rfl) c (by exact BC (Sha.sum_length _) (Sha.sum_length _)) (by exact Ad (Sha.sum_length _)) (Ag _) fun a2 ae x a3=> ?_)));have hvm:=hvm.keep h;have hvm:=Aa2 hvm x (Am (by omega));clear hpn;clear c;have c:=ae;clear ae;have a4:=bl c;refine If rfl (Aa9 rfl c U7 rfl (by exact Ad (Sha.sum_length _))) (vr j rfl) (vr (NI 7) rfl) ?_;have hV:Ee D L b=(D,Sha.sum b,((Ay L (Sha.sum b)).getD []),7):=Wa hbl hc v;have hE:=Ab hE x (AbM (AbO _) (by omega));have o:=Abp o x (.inr ap);exact⟨H,_,by rw[hV],by rw[hV];exact o,by rw[hV];exact YE hD hE,fun k hk=>by have:=hpnew k hk;omega⟩
  have c:=eb h c;refine cT (vr (.bool (true)) ((show _=Acs (Ay L (Sha.sum b)).isSome from rfl).trans (congrArg Acs hc))) (gS (XU rfl c U7 rfl (by exact Ad (Sha.sum_length _)) (gS (XT (vr (PQ f 0) rfl) (vr (AB (Sha.sum b)) rfl) c (by exact BC (Sha.sum_length _) (Sha.sum_length _)) (by exact Ad (Sha.sum_length _)) (Ag _) fun a5 af ag a6=> ?_))));have hvm:=hvm.keep h;have hvm:=Aa2 hvm ag (Am (by omega));clear hpn;clear c;have c:=af;clear af;have a7:=bl c;refine If rfl (Aa9 rfl c U7 rfl (by exact Ad (Sha.sum_length _))) (vr (AbR none 0 0) rfl) (vr (NI 0) rfl) ?_;have hV:Ee D L b=(D,Sha.sum b,[],0):=Wb hbl hc v;have hE:=Ab hE ag (AbM (AbO _) (by omega));exact⟨H,_,by rw[hV],by rw[hV];exact Abi _,by rw[hV];exact YE hD hE,fun k hk=>by cases hk⟩
 have hvb:=eb h hvb;refine gN rfl rfl (vr (.bool (false)) ((show _=Acs (Ay L (Sha.sum b)).isSome from rfl).trans (congrArg Acs hc))) rfl (gN rfl rfl (vr (.bool (false)) ((show _=Acs (Ay L (Sha.sum b)).isSome from rfl).trans (congrArg Acs hc))) rfl (gN rfl rfl (vr (.bool (false)) ((show _=Acs (Ay L (Sha.sum b)).isSome from rfl).trans (congrArg Acs hc))) rfl (gN rfl rfl (vr (.bool (false)) ((show _=Acs (Ay L (Sha.sum b)).isSome from rfl).trans (congrArg Acs hc))) rfl (gN rfl rfl (vr (.bool (false)) ((show _=Acs (Ay L (Sha.sum b)).isSome from rfl).trans (congrArg Acs hc))) rfl (gS (X2 (vr (.bool (false)) ((show _=Acs (Ay L (Sha.sum b)).isSome from rfl).trans (congrArg Acs hc))) rfl (cF rfl (cF (vr (.bool (false)) ((show _=Acs (Ay L (Sha.sum b)).isSome from rfl).trans (congrArg Acs hc))) (gS (Aa1 rfl (gS (Aa0 KX rfl (gS (XP TI rfl rfl (cellAt hvb rfl) ?_))))))))))))));have hE:=hE.trans h;have hWc:DkW wb w g H D ao H D:=YE hD hE;have c:=eb h c;have hl4_:=bl c;have hszc_:=(hE).size;refine gS (XS Uq rfl rfl ((V1 wb _ g H D hWc.g hG vb b (hr.keep hE) hoff hbl m hB hm).mono ?_));rintro e ah ⟨H55,p,rfl,y,hW58,ai⟩;refine⟨_,rfl,?_⟩;have hWn:=hWc.trans hW58;have hnw_:=ai;have hvb:ah.heap[gv]? =some (.cells ([PQ g 0, .map (some bm)]).toArray 86 (0,0)):=Abe hWc.g hW58.chg hvb (by decide) (by decide) (by decide) (by decide);have c:ah.heap[f]? =some (.cells (AbK (Sha.sum b)).toArray 33 (0,0)):=Abe hWc.g hW58.chg c (by decide) (by decide) (by decide) (by decide);clear hvm;clear hE;clear hpn;clear o;have hW:=hWn;have aq:OB p f:=fun q=>by have:=ai _ q;omega
 refine gS (AaZ (vs:= [AB ((BP D b).2.1),p,NI ((BP D b).2.2.2)]) rfl rfl (gS (AaZ (vs:= [AB ((BP D b).2.1),p,NI ((BP D b).2.2.2)]) rfl rfl (gS (AaZ (vs:= [AB ((BP D b).2.1),p,NI ((BP D b).2.2.2)]) rfl rfl (gS (XT (vr (PQ f 0) rfl) (vr (AB ((BP D b).2.1)) rfl) c (by exact BC (Lu rfl) (Sha.sum_length _)) (by exact Ad (Lu rfl)) (Ag _) fun ar aj ak a8=> ?_)))))));have hW:DkW wb w g H (D) ar H55 ((BP D b).1):=Abl hW ak c (by omega) (by decide) (by decide) (by decide) (by decide) (by decide) (by decide) hwb;clear c;have c:=aj;clear aj;have a9:=bl c;refine If rfl (Aa9 rfl c U7 rfl (by exact Ad (Lu rfl))) (vr p rfl) (vr (NI ((BP D b).2.2.2)) rfl) ?_;have hV:Ee D L b=BP D b:=Ul hbl hc;have y:=Abp y ak (.inr aq);exact⟨H55,_,by rw[hV],by rw[hV];exact y,by rw[hV];exact hW,fun k hk=>by have:=hnw_ k hk;omega⟩
theorem Fd{α:Type}(A X:List α)(n:Nat)(h:A.length<=n):(A++X).take n=A++X.take (n-A.length):=by
 rw[List.take_append,AcD h]
theorem HK{α:Type}(A X:List α)(n:Nat):(A++X).drop (A.length+n)=X.drop n:=by
 rw[AfP,List.drop_of_length_le (by omega),AcO,show A.length+n-A.length=n by omega]
theorem SV(s:Bs):(Bn s).length=(Ab3 s.length).length+s.length:=by simp[Bn]
theorem Mf(A s X:Bs)(fin:Nat)(hs:s.length<=1048576)(h1:A.length+(Bn s).length<=fin):BW (A++(Bn s++X)) A.length fin=some (s,A.length+(Bn s).length):=by
 have hl:=SV s;have ht:(A++(Bn s++X)).take fin=A++(Ab3 s.length++(s++X.take (fin-A.length-(Bn s).length))):=by
  rw[Fd _ _ _ (by omega),Fd _ _ _ (by omega)];simp only[Bn,Acj]
 unfold BW;rw[ht,AdI,D7 _ (by omega)]
 dsimp only
 rw[if_neg (by omega),if_neg (by simp only[AbP];omega)]
 congr 1
 rw[HK,AdI,Ad4];rw[hl,Ad0]
def entB(ps:List Pt)(i:Nat)(s:BS):Ent:=
 if(ps.getD i AA).base<0 then⟨s.b.length,false,AbX 32 0,(ps.getD i AA).bytes⟩
 else⟨s.b.length,true,s.ids.getD (ps.getD i AA).base.toNat [],BV (ps.getD (ps.getD i AA).base.toNat AA).bytes (ps.getD i AA).bytes⟩
def Eh(ps:List Pt)(i:Nat)(s:BS):Bs:=
 if(ps.getD i AA).base<0 then [0]++Bn (ps.getD i AA).bytes
 else [1]++s.ids.getD (ps.getD i AA).base.toNat []++Bn (BV (ps.getD (ps.getD i AA).base.toNat AA).bytes (ps.getD i AA).bytes)
theorem Ps(ps:List Pt)(i:Nat)(s:BS):(bnext ps (ps.getD i AA) s).b=s.b++Eh ps i s:=by
 unfold bnext Eh
 dsimp only
 split <;> simp only[Acj]
theorem QY{ps:List Pt}(hL:Cl ps){i:Nat}(hi:i<ps.length){s:BS}(h:BOk i s)(hb:(ps.getD i AA).base<i)(X:Bs)(fin:Nat)(hf:s.b.length+(Eh ps i s).length<=fin):
  entOne (s.b++(Eh ps i s++X)) fin s.b.length=some (entB ps i s,s.b.length+(Eh ps i s).length):=by
 have hp:=hL.2 _ (AO AA hi);by_cases hbase:(ps.getD i AA).base<0
 ·have hc:Eh ps i s= [0]++Bn (ps.getD i AA).bytes:=if_pos hbase;have he:entB ps i s=⟨s.b.length,false,AbX 32 0,(ps.getD i AA).bytes⟩:=if_pos hbase;rw[hc]at hf ⊢;rw[he];have hg:(s.b++([0]++Bn (ps.getD i AA).bytes++X)).getD s.b.length 0=0:=by
   rw[AbN,AcA (AbO _),Ady];rfl
  have ht:=Mf (s.b++ [0]) (ps.getD i AA).bytes X fin (by omega) (by simp only[AbP]at hf ⊢;omega);have e:s.b++ [0]++(Bn (ps.getD i AA).bytes++X)=s.b++([0]++Bn (ps.getD i AA).bytes++X):=by simp only[Acj]
  rw[e,AbP,Ab7]at ht;unfold entOne;rw[hg,if_pos ⟨by simp only[AbP,Ab7]at hf;omega,by decide⟩,if_neg (by decide),ht,Ac3];simp only[AbP,Ab7,Ad0]
 ·have hc:Eh ps i s= [1]++s.ids.getD (ps.getD i AA).base.toNat []++Bn (BV (ps.getD (ps.getD i AA).base.toNat AA).bytes (ps.getD i AA).bytes):=if_neg hbase;have he:entB ps i s=⟨s.b.length,true,s.ids.getD (ps.getD i AA).base.toNat [],BV (ps.getD (ps.getD i AA).base.toNat AA).bytes (ps.getD i AA).bytes⟩:=if_neg hbase;have a:(ps.getD i AA).base.toNat<s.ids.length:=by rw[h.ids];omega
  have h32:=h.len _ (AO [] a);have hq:=hL.2 _ (AO AA (l:=ps) (i:=(ps.getD i AA).base.toNat) (by rw[h.ids]at a;omega));have hm:=Io (ps.getD (ps.getD i AA).base.toNat AA).bytes (ps.getD i AA).bytes (by omega) (by omega);rw[hc]at hf ⊢;rw[he]
  generalize BV (ps.getD (ps.getD i AA).base.toNat AA).bytes (ps.getD i AA).bytes=m at hm hf ⊢
  generalize s.ids.getD (ps.getD i AA).base.toNat []=id at h32 hf ⊢
  have hg:(s.b++([1]++id++Bn m++X)).getD s.b.length 0=1:=by
   rw[AbN,AcA (AbO _),Ady];rfl
  have ht:=Mf (s.b++ [1]++id) m X fin (by omega) (by simp only[AbP]at hf ⊢;omega);have e:s.b++ [1]++id++(Bn m++X)=s.b++([1]++id++Bn m++X):=by simp only[Acj]
  rw[e,AbP,AbP,Ab7,h32]at ht;have hd:((s.b++([1]++id++Bn m++X)).take fin).drop (s.b.length+1)=id++(Bn m++X.take (fin-s.b.length-1-id.length-(Bn m).length)):=by
   simp only[AbP,Ab7]at hf;have c:s.b++([1]++id++Bn m++X)=s.b++([1]++(id++(Bn m++X))):=by simp only[Acj]
   rw[c,Fd _ _ _ (by omega),Fd [1] _ _ (by simp only[Ab7];omega),Fd id _ _ (by simp only[Ab7];omega),Fd (Bn m) _ _ (by simp only[Ab7];omega),HK];rfl
  unfold entOne;rw[hg,if_pos ⟨by simp only[AbP,Ab7]at hf;omega,by decide⟩,if_pos rfl,if_neg (by simp only[AbP,Ab7]at hf;omega),ht,Ac3,hd,<-h32,Ad4];simp only[AbP,Ab7,Ad0]
structure BInv (ps : List Pt) (i : Nat) (s : BS) (es : List Ent) : Prop where
 ok:BOk i s
 len:es.length=i
 ids:s.ids=(ps.take i).map fun p=>Sha.sum p.bytes
 nodup:s.ids.Nodup
 pos:es.map Ent.pos=s.places
 asc:s.places.Pairwise (· < ·)
 top:∀p∈s.places,p<s.b.length
 ent:∀X fin,s.b.length<=fin->Da (s.b++X) fin (1+(Ab3 ps.length).length) i=some (es,s.b.length)
 flat:∀j,j<i->(ps.getD j AA).base<0->(es.getD j dEnt.1).based=false/\(es.getD j dEnt.1).bytes=(ps.getD j AA).bytes/\s.depths.getD j 0=0
 upon:∀j,j<i->¬(ps.getD j AA).base<0->(ps.getD j AA).base.toNat<j/\(es.getD j dEnt.1).based=true/\(es.getD j dEnt.1).base=s.ids.getD (ps.getD j AA).base.toNat []/\(es.getD j dEnt.1).bytes=BV (ps.getD (ps.getD j AA).base.toNat AA).bytes (ps.getD j AA).bytes/\s.depths.getD j 0=s.depths.getD (ps.getD j AA).base.toNat 0+1
theorem E5{α:Type}(l m:List α)(d:α){i:Nat}(h:i<l.length):(l++m).getD i d=l.getD i d:=by
 rw[AbN,AbN,AcG h]
theorem GG{α:Type}(l:List α)(x d:α){i:Nat}(h:l.length=i):(l++ [x]).getD i d=x:=by
 rw[AbN,AcA (by omega),h,Ady];rfl
theorem Lw{ps:List Pt}(hL:Cl ps):∀(i:Nat) (s:BS),i<=ps.length->CW ps i = .ok s->∃es,BInv ps i s es
 | 0,s,hi,h=>by
  have hk:=Iv hL 0 s hi h;cases h;refine⟨[],hk,rfl,rfl,List.nodup_nil,rfl,List.Pairwise.nil,(fun p hp=>by cases hp),fun X fin hf=> ?_,(fun j hj=>by omega),(fun j hj=>by omega)⟩;show some ([],_)=some ([],_);rw[Ach,Afu]
 | i+1,s,hi,h=>by
  have hk:=Iv hL (i+1) s hi h;cases hb:CW ps i with
  | error e=>rw[Fa hb 1]at h;cases h
  | ok s0=>
   rw[EM hb]at h;obtain⟨es,I⟩:=Lw hL i s0 (by omega) hb;unfold EF at h;split at h
   ·cases h
   ·split at h
    ·cases h
    ·split at h
     ·cases h
     ·rename_i h1 h2 h3
      cases h;have hbase:(ps.getD i AA).base<i:=by omega
      have hl:s0.ids.length=i:=I.ok.ids;have hd:s0.depths.length=i:=I.ok.depths;have hbn:=Ps ps i s0;have hcl:1<=(Eh ps i s0).length:=by unfold Eh;split <;> simp only[AbP,Ab7] <;> omega
      refine⟨es++ [entB ps i s0],hk,by rw[AbP,I.len];rfl,?_,?_,?_,?_,?_,?_,?_,?_⟩
      ·show s0.ids++ [_]=_;rw[I.ids,Acn (by omega),Adc,List.map_singleton];rw[AbN,AbT (show i<ps.length by omega)];rfl
      ·show(s0.ids++ [_]).Nodup;rw[List.nodup_append];refine⟨I.nodup,by simp,fun a ha b hb e=> ?_⟩;rw[AbW.1 hb]at e;exact h2 (e▸ha)
      ·show _=s0.places++ [_];rw[Adc,I.pos]
       congr 1
       unfold entB;split <;> rfl
      ·show(s0.places++ [_]).Pairwise _;rw[Ac6];exact⟨I.asc,by simp,fun a ha b hb=>by rw[AbW.1 hb];exact I.top a ha⟩
      ·intro p hp;rw[hbn,AbP];rcases Acb.1 (show p∈s0.places++ [_]from hp)with hp | hp
       ·have:=I.top p hp;omega
       ·rw[AbW.1 hp];omega
      ·intro X fin hf;rw[hbn,AbP]at hf ⊢;rw[Acj,Hu (I.ent (Eh ps i s0++X) fin (by omega)),QY hL (by omega) I.ok hbase X fin hf];rfl
      ·intro j hj hjb;by_cases e:j=i
       ·subst e;rw[GG _ _ _ I.len];have he:entB ps j s0=⟨s0.b.length,false,AbX 32 0,(ps.getD j AA).bytes⟩:=if_pos hjb;rw[he];refine⟨rfl,rfl,?_⟩;show(s0.depths++ [_]).getD j 0=0;rw[GG _ _ _ hd];exact if_pos hjb
       ·rw[E5 _ _ _ (by rw[I.len];omega)];have:=I.flat j (by omega) hjb;refine⟨this.1,this.2.1,?_⟩;show(s0.depths++ [_]).getD j 0=0;rw[E5 _ _ _ (by omega)];exact this.2.2
      ·intro j hj hjb;have f:∀k,k<i->(bnext ps (ps.getD i AA) s0).ids.getD k []=s0.ids.getD k []:=fun k hk=>E5 _ _ _ (by omega);have c:∀k,k<i->(bnext ps (ps.getD i AA) s0).depths.getD k 0=s0.depths.getD k 0:=fun k hk=>E5 _ _ _ (by omega);by_cases e:j=i
       ·subst e;rw[GG _ _ _ I.len];have he:entB ps j s0=⟨s0.b.length,true,s0.ids.getD (ps.getD j AA).base.toNat [],BV (ps.getD (ps.getD j AA).base.toNat AA).bytes (ps.getD j AA).bytes⟩:=if_neg hjb;rw[he];have hlt:(ps.getD j AA).base.toNat<j:=by omega
        refine⟨hlt,rfl,(f _ hlt).symm,rfl,?_⟩;rw[c _ hlt];show(s0.depths++ [_]).getD j 0=_;rw[GG _ _ _ hd];exact if_neg hjb
       ·rw[E5 _ _ _ (by rw[I.len];omega)];have:=I.upon j (by omega) hjb;have hlt:=this.1;refine⟨hlt,this.2.1,?_,this.2.2.2.1,?_⟩
        ·rw[f _ (by omega)];exact this.2.2.1
        ·rw[c _ (by omega),c _ (by omega)];exact this.2.2.2.2
theorem FH{α β:Type}[BEq α][LawfulBEq α]:∀(l:List α) (m:List β) (j:Nat) (x:α) (y:β),l.Nodup->l[j]? =some x->m[j]? =some y->(l.zip m).lookup x=some y
 | [],_,_,_,_,_,h,_=>by simp at h
 | _ :: _,[],_,_,_,_,_,h=>by simp at h
 | a :: l,b :: m,0,x,y,_,h1,h2=>by
  simp only[List.getElem?_cons_zero,Option.some.injEq]at h1 h2;rw[h1,h2,AdR,Adk];simp
 | a :: l,b :: m,j+1,x,y,hn,h1,h2=>by
  simp only[List.getElem?_cons_succ]at h1 h2;have hn' :=List.nodup_cons.1 hn;have:(x==a)=false:=by
   simp only[beq_eq_false_iff_ne];intro e;exact hn'.1 (e▸AcV h1)
  rw[AdR,Adk,this];exact FH l m j x y hn'.2 h1 h2
theorem He{α β γ:Type}[BEq α](f:β->γ)(x:α):∀(l:List α) (m:List β),(l.zip (m.map f)).lookup x=((l.zip m).lookup x).map f
 | [],_=>by simp
 | _ :: _,[]=>by simp
 | a :: l,b :: m=>by
  rw[Aco,AdR,AdR,Adk,Adk,He f x l m];split <;> rfl
def HM(s:BS)(es:List Ent)(id:Bs):Option Ent:=(s.ids.zip es).lookup id
theorem Ei{α:Type}{l:List α}{i:Nat}(d:α)(h:i<l.length):l[i]? =some (l.getD i d):=by
 rw[AbN,AbT h];rfl
section
variable {ps : List Pt} {n : Nat} {s : BS} {es : List Ent}
theorem BInv.at_(I:BInv ps n s es){j:Nat}(hj:j<n):HM s es (s.ids.getD j [])=some (es.getD j dEnt.1):=
 FH _ _ j _ _ I.nodup (Ei [] (by rw[I.ok.ids];exact hj)) (Ei _ (by rw[I.len];exact hj))
theorem BInv.place(I:BInv ps n s es)(id:Bs):Bo s id=(HM s es id).map Ent.pos:=by
 unfold Bo HM;rw[<-I.pos,He]
theorem BInv.ix(I:BInv ps n s es){id:Bs}(h:id∈s.ids):∃j,j<n/\s.ids.getD j []=id:=by
 obtain⟨j,hj,e⟩:=Adi h;refine⟨j,by rw[I.ok.ids]at hj;exact hj,?_⟩;rw[AbN,AbT hj];exact e
theorem BInv.miss(I:BInv ps n s es){id:Bs}(h:id∉s.ids):HM s es id=none:=CP _ _ _ h
theorem BInv.posj(I:BInv ps n s es){j:Nat}(hj:j<n):s.places.getD j 0=(es.getD j dEnt.1).pos:=by
 rw[<-I.pos,AbN,Adn,Ei dEnt.1 (by rw[I.len];exact hj)];rfl
theorem BInv.lt(I:BInv ps n s es){i j:Nat}(hi:i<j)(hj:j<n):(es.getD i dEnt.1).pos<(es.getD j dEnt.1).pos:=by
 rw[<-I.posj (by omega),<-I.posj hj];have h1:i<s.places.length:=by rw[I.ok.places];omega
 have h2:j<s.places.length:=by rw[I.ok.places];omega
 have:=Ado.1 I.asc i j h1 h2 hi;rw[AbN,AbT h1,AbN,AbT h2];exact this
theorem BInv.inj(I:BInv ps n s es){i j:Nat}(hi:i<n)(hj:j<n)(h:(es.getD i dEnt.1).pos=(es.getD j dEnt.1).pos):i=j:=by
 rcases Nat.lt_trichotomy i j with h1 | h1 | h1
 ·have:=I.lt h1 hj;omega
 ·exact h1
 ·have:=I.lt h1 hi;omega
theorem BInv.placeGo(I:BInv ps n s es):∀(i j:Nat),j<i->i<=n->DQ Ent.pos dEnt.1 es i (es.getD j dEnt.1).pos=some (es.getD j dEnt.1)
 | 0,_,h,_=>by omega
 | i+1,j,h,hi=>by
  show updM (Go.Proofs.YtfpekahfdalfkaaGreatDoor.DQ Ent.pos dEnt.1 es i) _ _ _=_;unfold updM;by_cases e:j=i
  ·subst e;rw[if_pos rfl]
  ·rw[if_neg (fun q=>e (I.inj (by omega) (by omega) q))];exact I.placeGo i j (by omega) (by omega)
end
def J2(s:BS)(id:Bs):Bs:=id++A5 ((Bo s id).getD 0)
def CZ(s:BS):Bs:=(AJ s.ids).flatMap (J2 s)
theorem IL{α:Type}(g:α->Bs)(k:Nat):∀(l:List α) (i:Nat),(∀x∈l,(g x).length=k)->(l.flatMap g).drop (k*i)=(l.drop i).flatMap g
 | [],i,_=>by simp
 | a :: l,0,_=>by simp
 | a :: l,i+1,h=>by
  rw[AcJ,AeE,show k*(i+1)=(g a).length+k*i by rw[h a (by simp),Nat.mul_succ,Afu],HK];exact IL g k l i fun x hx=>h x (by simp[hx])
theorem Mg{α:Type}{l:List α}{i:Nat}(d:α)(h:i<l.length):l.drop i=l.getD i d :: l.drop (i+1):=by
 rw[Ac1 h,AbN,AbT h];rfl
section
variable {ps : List Pt} {n : Nat} {s : BS} {es : List Ent}
theorem BInv.sortlen(I:BInv ps n s es):(AJ s.ids).length=n:=by rw[Gt,I.ok.ids]
theorem BInv.sortnd(I:BInv ps n s es):(AJ s.ids).Nodup:=(sortB_perm s.ids).nodup_iff.2 I.nodup
theorem Fe{l:List Bs}{x:Bs}:x∈AJ l↔x∈l:=(sortB_perm l).mem_iff
theorem BInv.row(I:BInv ps n s es){i:Nat}(hi:i<n):(CZ s).drop (36*i)=J2 s ((AJ s.ids).getD i [])++((AJ s.ids).drop (i+1)).flatMap (J2 s):=by
 unfold CZ;rw[IL (J2 s) 36 _ i (fun x hx=>by unfold J2;rw[AbP,Gu,I.ok.len x (Fe.1 hx)]),Mg [] (by rw[I.sortlen];exact hi),AcJ]
theorem BInv.sorted_mem(I:BInv ps n s es){i:Nat}(hi:i<n):(AJ s.ids).getD i []∈s.ids:=Fe.1 (AO [] (by rw[I.sortlen];exact hi))
theorem BInv.rowId(I:BInv ps n s es){i:Nat}(hi:i<n):BQ (CZ s) i=(AJ s.ids).getD i []:=by
 unfold Go.Proofs.YtfpekahfdalfkaaGreatDoor.BQ;have h32:=I.ok.len _ (I.sorted_mem hi);rw[I.row hi];unfold J2;rw[Acj,<-h32,Ad4]
theorem BInv.rowAt(hL:Cl ps)(hn:n<=ps.length)(I:BInv ps n s es){i:Nat}(hi:i<n):EG (CZ s) i=(Bo s ((AJ s.ids).getD i [])).getD 0:=by
 unfold Go.Proofs.YtfpekahfdalfkaaGreatDoor.EG;have hm:=I.sorted_mem hi;have h32:=I.ok.len _ hm;rw[I.row hi];unfold J2;rw[Acj,<-h32,AdI];refine Ho _ ?_ _;obtain⟨j,hj,e⟩:=I.ix hm;rw[<-e,I.place,I.at_ hj,Ac3,AcL,<-I.posj hj];have h1:=I.ok.pl _ (AO 0 (l:=s.places) (i:=j) (by rw[I.ok.places];exact hj));have:=hL.1;omega
theorem BInv.fresh(I:BInv ps n s es){i:Nat}(hi:i<n):(AJ s.ids).getD i []∉(AJ s.ids).take i:=by
 intro h;obtain⟨j,hj,e⟩:=Adi h;rw[Ab5,I.sortlen]at hj;have hlen:=I.sortlen;have:=Ado.1 I.sortnd j i (by omega) (by omega) (by omega)
 apply this
 rw[AfG]at e;rw[e,AbN,AbT (by omega)];rfl
theorem BInv.index(hL:Cl ps)(hn:n<=ps.length)(I:BInv ps n s es):∀i,i<=n->∃S,DA Ent.pos dEnt.1 (CZ s) es i=some S/\S.ids=(AJ s.ids).take i/\(∀id∈s.ids,id∉(AJ s.ids).take i->S.G ((Bo s id).getD 0)=HM s es id)/\∀id,S.M id=if id∈(AJ s.ids).take i then HM s es id else none
 | 0,_=>by
  refine⟨_,rfl,rfl,fun id hid _=> ?_,fun id=>by simp⟩;obtain⟨j,hj,rfl⟩:=I.ix hid;rw[I.place,I.at_ hj,Ac3,AcL,I.len];exact I.placeGo n j hj (AbO _)
 | i+1,hi=>by
  obtain⟨S,h1,h2,h3,h4⟩:=I.index hL hn i (by omega);have hlen:=I.sortlen;have hx:=I.sorted_mem (show i<n by omega);have hf:=I.fresh (show i<n by omega);obtain⟨j,hj,e⟩:=I.ix hx;have hc:HM s es ((AJ s.ids).getD i [])=some (es.getD j dEnt.1):=by rw[<-e];exact I.at_ hj
  have ht:(AJ s.ids).take (i+1)=(AJ s.ids).take i++ [(AJ s.ids).getD i []]:=by
   rw[Acn (by omega),AbN,AbT (show i<(AJ s.ids).length by omega)];rfl
  have hG:S.G (Go.Proofs.YtfpekahfdalfkaaGreatDoor.EG (CZ s) i)=some (es.getD j dEnt.1):=by
   rw[I.rowAt hL hn (by omega),h3 _ hx hf,hc]
  have ho:i=0\/Acd (S.ids.getD (i-1) []) (Go.Proofs.YtfpekahfdalfkaaGreatDoor.BQ (CZ s) i)<0:=by
   rcases Nat.eq_zero_or_pos i with h0 | h0
   ·exact .inl h0
   ·refine .inr ?_;rw[I.rowId (by omega),h2];have g1:((AJ s.ids).take i).getD (i-1) []=(AJ s.ids)[i-1]'(by omega):=by
     rw[AbN,AdP,if_pos (by omega),AbT (by omega)];rfl
    have g2:(AJ s.ids).getD i []=(AJ s.ids)[i]'(by omega):=by
     rw[AbN,AbT (by omega)];rfl
    rw[g1,g2];have a1:=Ado.1 (Gs s.ids) (i-1) i (by omega) (by omega) (by omega);have a2:=Ado.1 I.sortnd (i-1) i (by omega) (by omega) (by omega);have a3:Acd ((AJ s.ids)[i-1]'(by omega)) ((AJ s.ids)[i]'(by omega))≠0:=fun q=>a2 (Hn q);omega
  refine⟨DM Ent.pos (CZ s) i S (es.getD j dEnt.1),?_,?_,?_,?_⟩
  ·rw[Fx h1];unfold Dm;rw[hG];exact if_pos ho
  ·show S.ids++ [_]=_;rw[h2,I.rowId (by omega),ht]
  ·intro id hid hni;rw[ht]at hni;simp only[Acb,AbW,not_or]at hni;obtain⟨k,hk,rfl⟩:=I.ix hid;have hne:(Bo s (s.ids.getD k [])).getD 0≠(es.getD j dEnt.1).pos:=by
    rw[I.place,I.at_ hk,Ac3,AcL];intro q;have:=I.inj hk hj q;subst this;exact hni.2 e
   show updM S.G _ none _=_;unfold updM;rw[if_neg hne];exact h3 _ hid hni.1
  ·intro id;show updM S.M _ _ _=_;unfold updM;rw[I.rowId (by omega),ht,h4];by_cases q:id=(AJ s.ids).getD i []
   ·rw[if_pos q,if_pos (by rw[q];simp),q,hc]
   ·rw[if_neg q];by_cases q2:id∈(AJ s.ids).take i
    ·rw[if_pos q2,if_pos (by simp[q2])]
    ·rw[if_neg q2,if_neg (by simp only[Acb,AbW,not_or];exact⟨q2,q⟩)]
def J3(s:BS)(es:List Ent)(k:Bs):Ent:=(HM s es k).getD dEnt.1
theorem BInv.E(I:BInv ps n s es){j:Nat}(hj:j<n):J3 s es (s.ids.getD j [])=es.getD j dEnt.1:=by unfold J3;rw[I.at_ hj];rfl
theorem BInv.depth(I:BInv ps n s es):∀(m j:Nat),j<n->s.depths.getD j 0<=m->A8 (J3 s es) m (es.getD j dEnt.1)=some (s.depths.getD j 0)
 | m,j,hj,hm=>by
  by_cases hb:(ps.getD j AA).base<0
  ·have:=I.flat j hj hb;rw[Ea this.1,this.2.2]
  ·obtain⟨h1,h2,h3,h4,h5⟩:=I.upon j hj hb;cases m with
   | zero=>omega
   | succ m=>
    rw[DB h2,h3,I.E (by omega),I.depth m _ (by omega) (by omega),h5];rfl
theorem BInv.chain(hL:Cl ps)(hn:n<=ps.length)(I:BInv ps n s es):∀(m j:Nat),j<n->s.depths.getD j 0=m->BM (J3 s es) (m+1) (s.ids.getD j [])=some ((ps.getD j AA).bytes,m)
 | m,j,hj,hm=>by
  have hp:=hL.2 _ (AO AA (l:=ps) (i:=j) (by omega));by_cases hb:(ps.getD j AA).base<0
  ·obtain⟨h1,h2,h3⟩:=I.flat j hj hb;rw[Gg (by rw[I.E hj];exact h1),I.E hj,h2,if_pos (by omega)];rw[h3]at hm;rw[hm]
  ·obtain⟨h1,h2,h3,h4,h5⟩:=I.upon j hj hb;have hq:=hL.2 _ (AO AA (l:=ps) (i:=(ps.getD j AA).base.toNat) (by omega));cases m with
   | zero=>omega
   | succ m=>
    rw[FD (by rw[I.E hj];exact h2),I.E hj,h3,I.chain hL hn m _ (by omega) (by omega),h4];show(if _ then(if _ then some (_,m+1)else none)else none)=_
    dsimp only
    rw[Qa _ _ (by omega) (by omega),if_pos rfl,if_pos (by dsimp only;omega)]
def N4(ps:List Pt)(s:BS)(id:Bs):Option (Bs × Nat):=(s.ids.zip ((ps.map Pt.bytes).zip s.depths)).lookup id
theorem BInv.obj(hL:Cl ps)(hn:n=ps.length)(I:BInv ps n s es){j:Nat}(hj:j<n):N4 ps s (s.ids.getD j [])=some ((ps.getD j AA).bytes,s.depths.getD j 0):=
 FH _ _ j _ _ I.nodup (Ei [] (by rw[I.ok.ids];exact hj)) (by
  rw[Afm]
  dsimp only
  exact⟨by rw[Adn,Ei AA (by omega)];rfl,Ei 0 (by rw[I.ok.depths];exact hj)⟩)
theorem BInv.sum(hn:n<=ps.length)(I:BInv ps n s es){j:Nat}(hj:j<n):Sha.sum (ps.getD j AA).bytes=s.ids.getD j []:=by
 have:s.ids[j]? =some (Sha.sum (ps.getD j AA).bytes):=by
  rw[I.ids,Adn,AdP,if_pos hj,Ei AA (by omega)];rfl
 rw[show s.ids.getD j []=(s.ids[j]?).getD []from AbN,this];rfl
theorem BInv.objs(hL:Cl ps)(hn:n=ps.length)(I:BInv ps n s es):∀i,i<=n->∃o,Dx (J3 s es) (AJ s.ids) i = .ok o/\o.total<=200*i/\∀id,o.O id=if id∈(AJ s.ids).take i then N4 ps s id else none
 | 0,_=>⟨_,rfl,AbO _,fun id=>by simp⟩
 | i+1,hi=>by
  obtain⟨o,h1,h2,h3⟩:=I.objs hL hn i (by omega);have hlen:=I.sortlen;have hx:=I.sorted_mem (show i<n by omega);obtain⟨j,hj,e⟩:=I.ix hx;have hp:=hL.2 _ (AO AA (l:=ps) (i:=j) (by omega));have h60:=hL.1;have hd:=I.ok.dp _ (AO 0 (l:=s.depths) (i:=j) (by rw[I.ok.depths];exact hj));have ht:(AJ s.ids).take (i+1)=(AJ s.ids).take i++ [(AJ s.ids).getD i []]:=by
   rw[Acn (by omega),AbN,AbT (show i<(AJ s.ids).length by omega)];rfl
  have g:Dc (J3 s es) ((AJ s.ids).getD i []) o = .ok ⟨o.total+(ps.getD j AA).bytes.length,updM o.O ((AJ s.ids).getD i []) (some ((ps.getD j AA).bytes,s.depths.getD j 0))⟩:=by
   rw[<-e,EZ (by rw[I.E hj];exact I.depth 50 j hj hd) (I.chain hL (by omega) _ j hj rfl),if_pos (I.sum (by omega) hj),if_pos (by omega)]
  refine⟨_,by rw[E0 h1];exact g,by dsimp only;omega,fun id=> ?_⟩
  dsimp only
  unfold updM;rw[ht,h3];by_cases q:id=(AJ s.ids).getD i []
  ·rw[if_pos q,if_pos (by rw[q];simp),q,<-e,I.obj hL hn hj]
  ·rw[if_neg q];by_cases q2:id∈(AJ s.ids).take i
   ·rw[if_pos q2,if_pos (by simp[q2])]
   ·rw[if_neg q2,if_neg (by simp only[Acb,AbW,not_or];exact⟨q2,q⟩)]
theorem countP_perm{l m:List Bs}(h:l.Perm m)(p:Bs->Bool):l.countP p=m.countP p:=h.countP_eq p
theorem fanL_sort(l:List Bs):Ba (AJ l)=Ba l:=by
 unfold Ba
 congr 1
 funext c
 exact countP_perm (sortB_perm l) _
theorem flat4_drop(l:List Nat)(X:Bs)(i:Nat)(hi:i<l.length)(hv:∀x∈l,x<2^32):D5 ((l.flatMap A5++X).drop (4*i))=l.getD i 0:=by
 have hl:=Ks l;rw[AfP,IL A5 4 l i (fun _ _=>rfl),Mg 0 hi,AcJ,Acj];exact Ho _ (hv _ (AO 0 hi)) _
theorem KY(hL:Cl ps)(h:CW ps ps.length = .ok s):BY (AU ps).1 = .ok (AJ s.ids,N4 ps s):=by
 obtain⟨es,I⟩:=Lw hL ps.length s (AbO _) h;have h60:=hL.1;have hB:=I.ok.b;have hbl:=GP I.ok s.b.length;have hsl:∀x,(Sha.sum x).length=32:=Sha.sum_length;have f:(AU ps).1=s.b++Cm s s.b.length++Sha.sum (s.b++Cm s s.b.length):=by unfold AU;rw[h]
 have hlen:(AU ps).1.length=s.b.length+(1028+36*ps.length)+32:=by rw[f,AbP,AbP,hbl,hsl]
 have hbeh:Cm s s.b.length=(Ba s.ids).flatMap A5++CZ s++A5 s.b.length:=rfl;have hfan:((Ba s.ids).flatMap A5).length=1024:=by rw[Ks,BR]
 have hrows:(CZ s).length=36*ps.length:=by
  have:=Nn (fun id=>(Bo s id).getD 0) (AJ s.ids) (fun x hx=>I.ok.len x (Fe.1 hx));rw[I.sortlen]at this;exact this
 have huv:=U8 (n:=ps.length) (by omega)
 generalize hC:(AU ps).1=c at f hlen ⊢
 unfold BY;rw[if_neg (by omega),if_neg (by omega),if_pos (by
  rw[f,AbP,hsl,Nat.add_sub_cancel,Ad4,AdI])]
 -- the head
 obtain⟨r,hr⟩:∃r,s.b=80 :: Ab3 ps.length++r:=by
  have:∀i t,CW ps i = .ok t->∃r,t.b=80 :: Ab3 ps.length++r:=by
   intro i
   induction i with
   | zero=>intro t ht;cases ht;exact⟨[],by simp⟩
   | succ i ih=>
    intro t ht;cases hb:CW ps i with
    | error e=>rw[Fa hb 1]at ht;cases ht
    | ok t0=>
     obtain⟨r,hr⟩:=ih t0 hb;rw[EM hb]at ht;unfold EF at ht;split at ht
     ·cases ht
     ·split at ht
      ·cases ht
      ·split at ht
       ·cases ht
       ·cases ht;exact⟨r++Eh ps i t0,by rw[Ps,hr,Acj]⟩
  exact this _ _ h
 have hd1:c.drop 1=Ab3 ps.length++(r++Cm s s.b.length++Sha.sum (s.b++Cm s s.b.length)):=by
  rw[f,hr];simp only[AcM,Acj,AeE,List.drop_zero]
 have h80:c.getD 0 0=80:=by rw[f,hr];rfl
 have hat:D5 (c.drop (c.length-36))=s.b.length:=by
  have g:c=(s.b++(Ba s.ids).flatMap A5++CZ s)++(A5 s.b.length++Sha.sum (s.b++Cm s s.b.length)):=by rw[f,hbeh];simp only[Acj]
  have l:c.length-36=(s.b++(Ba s.ids).flatMap A5++CZ s).length:=by rw[hlen];simp only[AbP,hfan,hrows];omega
  rw[l,g,AdI];exact Ho _ (by omega) _
 have hfirst:1+(Ab3 ps.length).length<=s.b.length:=by rw[hr];simp only[AcM,Ach,AbP];omega
 have hent:Ct c ps.length (1+(Ab3 ps.length).length) s.b.length=some es:=by
  unfold Ct;rw[f,Acj,I.ent _ _ (AbO _)];show(if s.b.length=s.b.length then some es else none)=_;rw[if_pos rfl]
 obtain⟨S,g1,g2,g3,g4⟩:=I.index hL (AbO _) ps.length (AbO _);have htake:(AJ s.ids).take ps.length=AJ s.ids:=AcD (by rw[I.sortlen];exact AbO _);rw[htake]at g2 g4;have hM:S.M=HM s es:=by
  funext id
  rw[g4];split
  ·rfl
  ·rename_i q
   exact(I.miss (fun q2=>q (Fe.2 q2))).symm
 have hE:KE S.M=J3 s es:=by rw[hM];rfl
 obtain⟨o,o1,o2,o3⟩:=I.objs hL rfl ps.length (AbO _);have hO:o.O=N4 ps s:=by
  funext id
  rw[o3,htake];split
  ·rfl
  ·rename_i q
   exact(CP _ _ _ (fun q2=>q (Fe.2 q2))).symm
 have ht:(c.drop (s.b.length+1024)).take (c.length-36-(s.b.length+1024))=CZ s:=by
  have g:c=(s.b++(Ba s.ids).flatMap A5)++(CZ s++(A5 s.b.length++Sha.sum (s.b++Cm s s.b.length))):=by rw[f,hbeh];simp only[Acj]
  have l:s.b.length+1024=(s.b++(Ba s.ids).flatMap A5).length:=by rw[AbP,hfan]
  rw[g,l,AdI,show ∀a:Nat,a-(s.b++(Ba s.ids).flatMap A5).length=a-(s.b.length+1024)from fun a=>by rw[l],<-g,hlen,show s.b.length+(1028+36*ps.length)+32-36-(s.b.length+1024)=(CZ s).length by rw[hrows];omega,Ad4]
 unfold Cu;rw[hd1,D7 _ (by omega)]
 dsimp only
 rw[hat];unfold I7;rw[if_pos ⟨h80,hfirst,by omega,by omega⟩,if_pos (by omega)];unfold HA;rw[hent];show GA c s.b.length es=_;unfold GA;rw[ht,I.len,g1];show G6 c s.b.length es S=_;unfold G6;rw[if_pos (fanB_of fun i hi=>by
  rw[g2,fanL_sort,f,hbeh];have g:s.b++((Ba s.ids).flatMap A5++CZ s++A5 s.b.length)++Sha.sum (s.b++((Ba s.ids).flatMap A5++CZ s++A5 s.b.length))=s.b++((Ba s.ids).flatMap A5++(CZ s++(A5 s.b.length++Sha.sum (s.b++((Ba s.ids).flatMap A5++CZ s++A5 s.b.length))))):=by simp only[Acj]
  rw[g,HK];refine flat4_drop _ _ i (by rw[BR];exact hi) fun x hx=> ?_;obtain⟨k,hk,rfl⟩:=Adi hx;have:=I4 s.ids k;rw[AbN,AbT hk,I.ok.ids]at this;have:(Ba s.ids)[k]<=ps.length:=this;omega),if_pos (by
  refine Acx.2 fun e he=> ?_;obtain⟨j,hj,rfl⟩:=Adi he;rw[I.len]at hj;have ej:es[j]=es.getD j dEnt.1:=by rw[AbN,AbT];rfl
  rw[ej,hM];by_cases hb:(ps.getD j AA).base<0
  ·rw[(I.flat j hj hb).1];rfl
  ·obtain⟨k1,k2,k3,-⟩:=I.upon j hj hb;rw[k2,k3,I.at_ (by omega)];rfl)]
 rw[hE,g2,Nz (o:=o) (by rw[I.sortlen];exact o1),hO]
end
def Et(p:Pt):Bs × Int:=(p.bytes,p.base)
theorem Lx{ps qs:List Pt}(h:qs.map Et=ps.map Et)(i:Nat):(qs.getD i AA).bytes=(ps.getD i AA).bytes/\(qs.getD i AA).base=(ps.getD i AA).base:=by
 have h1:(qs.map Et)[i]? =(ps.map Et)[i]? :=by rw[h]
 rw[Adn,Adn]at h1;rw[AbN,AbN];cases ha:qs[i]? <;> cases hb:ps[i]? <;> rw[ha,hb]at h1
 ·exact⟨rfl,rfl⟩
 ·cases h1
 ·cases h1
 ·injection h1 with h1
  exact⟨congrArg Aci h1,congrArg Prod.snd h1⟩
theorem Jc{ps qs:List Pt}(h:qs.map Et=ps.map Et):qs.length=ps.length:=by simpa using congrArg AfJ h
theorem Mh{ps qs:List Pt}(h:qs.map Et=ps.map Et):∀i,CW qs i=CW ps i
 | 0=>by unfold CW;rw[Jc h]
 | i+1=>by
  have ih:=Mh h i;have hi:=Lx h i;cases hb:CW ps i with
  | error e=>rw[Fa hb 1,Fa (ih.trans hb) 1]
  | ok s=>
   rw[EM hb,EM (ih.trans hb)];have hd:Dl (qs.getD i AA) s=Dl (ps.getD i AA) s:=by unfold Dl;rw[hi.2]
   have hn:bnext qs (qs.getD i AA) s=bnext ps (ps.getD i AA) s:=by
    unfold bnext;rw[hd,hi.1,hi.2,(Lx h (ps.getD i AA).base.toNat).1]
   unfold EF;rw[hi.1,hi.2,hd,hn]
theorem N5{ps qs:List Pt}(h:qs.map Et=ps.map Et):AU qs=AU ps:=by
 unfold AU;rw[Jc h,Mh h]
theorem OV{ps qs:List Pt}(h:qs.map Et=ps.map Et)(hL:Cl ps):Cl qs:=by
 refine⟨by rw[Jc h];exact hL.1,fun p hp=> ?_⟩;obtain⟨i,hi,rfl⟩:=Adi hp;have h1:=(Lx h i).1;rw[AbN,AbT hi]at h1;have h2:=hL.2 _ (AO AA (l:=ps) (i:=i) (by rw[<-Jc h];exact hi));have h3:(qs[i]).bytes=(ps.getD i AA).bytes:=h1;rw[h3];exact h2
theorem Ly(w:AbJ)(hG:Laid w)(v:AbI)(ps qs:List Pt)(hr:RG 2 partC w v qs)(hps:Lf w qs)(hq:qs.map Et=ps.map Et)(hL:Cl ps):
  Calls AbL 91 #[v] w fun e w' =>∃v',e = .returned (.tuple #[v',NI (AU ps).2])/\w'.ownsRow w.heap.size 5 1 v' (AU ps).1.length (AbK (AU ps).1)/\Ext w w' :=by
 have h:=R6 w hG v qs hr hps (OV hq hL);rw[N5 hq]at h;exact h
def PartsIn(w:AbJ)(va:AbI)(qs:List Pt):Prop:=∀x∈qs,RB w x.v x.bytes/\(-9223372036854775808<=x.base/\x.base<=9223372036854775807)/\∀k,x.v.ownBlock=some k->k<w.heap.size/\va.ownBlock≠some k
theorem PartsIn.keep{w w' :AbJ}{va:AbI}{qs:List Pt}(h:PartsIn w va qs)(k:Ext w w'):PartsIn w' va qs:=fun x hx=>
 ⟨(h x hx).1.keep k,(h x hx).2.1,fun j hj=>⟨AcE ((h x hx).2.2 j hj).1 k.size,((h x hx).2.2 j hj).2⟩⟩
theorem PartsIn.nil(w:AbJ)(va:AbI):PartsIn w va []:=fun x hx=>by cases hx
theorem ZN{w:AbJ}{va:AbI}{qs:List Pt}(h:PartsIn w va qs){x:Pt}(h1:RB w x.v x.bytes)(h2: -9223372036854775808<=x.base/\x.base<=9223372036854775807)(h3:∀k,x.v.ownBlock=some k->k<w.heap.size/\va.ownBlock≠some k):PartsIn w va (qs++ [x]):=fun y hy=>by
 rcases Acb.1 hy with hy | hy
 ·exact h y hy
 ·rw[AbW.1 hy];exact⟨h1,h2,h3⟩
theorem PartsIn.grew{w w' :AbJ}{va va' :AbI}{qs:List Pt}(h:PartsIn w va qs)(g:Grew w w' va va'):PartsIn w' va' qs:=fun x hx=>
 ⟨Hv (h x hx).1 (fun k hk=>((h x hx).2.2 k hk).2) g,(h x hx).2.1,fun j hj=>⟨AcE ((h x hx).2.2 j hj).1 g.by_.size,fun e=>(g.fresh j e).elim (fun q=>((h x hx).2.2 j hj).2 q) (fun q=>by have:=((h x hx).2.2 j hj).1;omega)⟩⟩
theorem PartsIn.ok{w:AbJ}{va:AbI}{qs:List Pt}(h:PartsIn w va qs):Lf w qs:=fun x hx=>⟨(h x hx).1,(h x hx).2.1⟩
theorem We{ps:List Pt}{i e:Nat}{s:BS}(h:EF ps i s = .error e):e≠0:=by
 unfold EF at h;split at h
 ·cases h;decide
 ·split at h
  ·cases h;decide
  ·split at h
   ·cases h;decide
   ·cases h
theorem Ve{ps:List Pt}:∀ {i e:Nat},CW ps i = .error e->e≠0
 | 0,e,h=>by cases h
 | i+1,e,h=>by
  cases hb:CW ps i with
  | error a=>rw[Fa hb 1]at h;cases h;exact Ve hb
  | ok s=>rw[EM hb]at h;exact We h
theorem N6{ps:List Pt}{e:Nat}(h:CW ps ps.length = .error e):AU ps=([],e):=by unfold AU;rw[h]
theorem SW{ps:List Pt}{s:BS}(h:CW ps ps.length = .ok s):(AU ps).2=0:=by unfold AU;rw[h]
structure AllIn (w : AbJ) (R : List AbI) (us : List AbI) (bs : List Bs) : Prop where
 len:us.length=bs.length
 rb:∀i,i<bs.length->RB w (us.getD i undef) (bs.getD i [])
 lt:∀i,i<bs.length->∀k,(us.getD i undef).ownBlock=some k->k<w.heap.size
 off:∀i,i<bs.length->∀k,(us.getD i undef).ownBlock=some k->∀v∈R,v.ownBlock≠some k
theorem AllIn.keep{w w' :AbJ}{R us:List AbI}{bs:List Bs}(h:AllIn w R us bs)(k:Ext w w'):AllIn w' R us bs:=
 ⟨h.len,fun i hi=>(h.rb i hi).keep k,fun i hi j hj=>AcE (h.lt i hi j hj) k.size,h.off⟩
theorem AllIn.nil(w:AbJ)(R:List AbI):AllIn w R [] []:=⟨rfl,fun i hi=>absurd hi (Ads _),fun i hi=>absurd hi (Ads _),fun i hi=>absurd hi (Ads _)⟩
theorem getD_snocV{α:Type}{l:List α}{d x:α}{i:Nat}(hi:i<l.length+1):(l++ [x]).getD i d=if i<l.length then l.getD i d else x:=by
 by_cases h:i<l.length
 ·rw[if_pos h];simp only[AbN,AcG h]
 ·have:i=l.length:=by omega
  subst this;rw[if_neg h];simp
theorem Zq{w:AbJ}{R us:List AbI}{bs:List Bs}(h:AllIn w R us bs){v:AbI}{x:Bs}(hr:RB w v x)(hl:∀k,v.ownBlock=some k->k<w.heap.size/\∀u∈R,u.ownBlock≠some k):AllIn w R (us++ [v]) (bs++ [x]):=by
 have e:=h.len;have key:∀i,i<(bs++ [x]).length->((us++ [v]).getD i undef=us.getD i undef/\(bs++ [x]).getD i []=bs.getD i []/\i<bs.length)\/((us++ [v]).getD i undef=v/\(bs++ [x]).getD i []=x):=fun i hi=>by
  rw[AbP,Ab7]at hi;rw[getD_snocV (by rw[e];exact hi),getD_snocV hi,e];by_cases q:i<bs.length
  ·rw[if_pos q,if_pos q];exact .inl ⟨rfl,rfl,q⟩
  ·rw[if_neg q,if_neg q];exact .inr ⟨rfl,rfl⟩
 refine⟨by simp[e],fun i hi=> ?_,fun i hi=> ?_,fun i hi=> ?_⟩
 ·rcases key i hi with ⟨h1,h2,h3⟩ | ⟨h1,h2⟩
  ·rw[h1,h2];exact h.rb i h3
  ·rw[h1,h2];exact hr
 ·rcases key i hi with ⟨h1,h2,h3⟩ | ⟨h1,h2⟩
  ·rw[h1];exact h.lt i h3
  ·rw[h1];exact fun k hk=>(hl k hk).1
 ·rcases key i hi with ⟨h1,h2,h3⟩ | ⟨h1,h2⟩
  ·rw[h1];exact h.off i h3
  ·rw[h1];exact fun k hk=>(hl k hk).2
theorem AllIn.grew{w w' :AbJ}{R us:List AbI}{bs:List Bs}{v v' :AbI}(h:AllIn w (v :: R) us bs)(g:Grew w w' v v'):AllIn w' (v' :: R) us bs:=
 ⟨h.len,fun i hi=>Hv (h.rb i hi) (fun k hk=>h.off i hi k hk v AcT) g,fun i hi k hk=>AcE (h.lt i hi k hk) g.by_.size,fun i hi k hk u hu=>by
  rcases Acy.1 hu with rfl | hu
  ·exact fun e=>(g.fresh k e).elim (fun q=>h.off i hi k hk v AcT q) fun q=>by have:=h.lt i hi k hk;omega
  ·exact h.off i hi k hk u (AcW _ hu)⟩
abbrev Abw:=@AllIn.grew
theorem AllIn.sub{w:AbJ}{R S us:List AbI}{bs:List Bs}(h:AllIn w R us bs)(hs:∀v∈S,v∈R\/v.ownBlock=none):AllIn w S us bs:=
 ⟨h.len,h.rb,h.lt,fun i hi k hk v hv=>(hs v hv).elim (fun q=>h.off i hi k hk v q) fun q e=>by rw[q]at e;cases e⟩
theorem AllIn.swap{w:AbJ}{u v:AbI}{us:List AbI}{bs:List Bs}(h:AllIn w [u,v] us bs):AllIn w [v,u] us bs:=
 h.sub fun x hx=> .inl (by simp only[Acy,List.not_mem_nil,or_false]at hx ⊢;exact hx.symm)
def Bw(D:Af)(L:AP)(ids:List Bs):List Bs:=ids.map fun id=>(getV D L id).1
def szV(D:Af)(L:AP)(ids:List Bs):List Int:=(Bw D L ids).map fun b=>((b.length:Nat):Int)
def BI(D:Af)(L:AP)(ids:List Bs)(ch:List Int):DW:=planGo ch (szV D L ids) (szV D L ids).length
def AM(D:Af)(L:AP)(ids:List Bs)(ch:List Int):List Pt:=((Bw D L ids).zip (BI D L ids ch).bases).map fun x=>⟨.slice none 0 0,x.1,x.2⟩
def DX(D:Af)(L:AP)(ids:List Bs):Prop:=∃id∈ids,(getV D L id).2≠0
instance (D:Af) (L:AP) (ids:List Bs):Decidable (DX D L ids):=List.decidableBEx _ _
def AL(D:Af)(L:AP)(ids:List Bs)(ch:List Int):List Bs × Nat:=
 if DX D L ids then([],12)else if ids= []then([],0)else if(AU (AM D L ids ch)).2=0 then([(AU (AM D L ids ch)).1],0)else([],(AU (AM D L ids ch)).2)
theorem J4(ch:List Int){sz:List Int}(h:∀z∈sz,0<=z/\z<=200):∀i,i<=60->(planGo ch sz i).at_=0/\(planGo ch sz i).total<=200*i/\(planGo ch sz i).depths.length=i/\(∀p∈(planGo ch sz i).packs,p=0)/\∀b∈(planGo ch sz i).bases,-1<=b/\b<=60
 | 0,_=>⟨rfl,Ack _,rfl,(fun _ h=>by cases h),fun _ h=>by cases h⟩
 | i+1,hi=>by
  obtain⟨h1,h2,h3,h4,h5⟩:=J4 ch h i (by omega);have ht:turnPk (planGo ch sz i)=planGo ch sz i:=Pp (by omega) (by omega);have hz:Ev (sz.getD i 0)<=200:=by
   have:sz.getD i 0<=200:=by
    rw[AbN];cases e:sz[i]? with
    | none=>simp
    | some x=>exact(h x (AcV e)).2
   unfold Ev;omega
  rw[FA,ht];have hb:=HJ ch i (planGo ch sz i).depths.length;unfold C9 Jb;split
  ·refine⟨h1,by show _+_<=_;omega,by simp[h3],fun p hp=> ?_,fun b a=> ?_⟩
   ·rcases Acb.1 hp with hp | hp
    ·exact h4 p hp
    ·rw[AbW.1 hp,h1];rfl
   ·rcases Acb.1 a with a | a
    ·exact h5 b a
    ·rw[AbW.1 a];omega
  ·refine⟨h1,by show _+_<=_;omega,by simp[h3],fun p hp=> ?_,fun b a=> ?_⟩
   ·rcases Acb.1 hp with hp | hp
    ·exact h4 p hp
    ·rw[AbW.1 hp,h1];rfl
   ·rcases Acb.1 a with a | a
    ·exact h5 b a
    ·rw[AbW.1 a];omega
def goneV(D:Af)(M:AP):List Bs:=(Av D [112,45]).filter (fun s=>(M.lookup s).isNone)++Av D [111,45]
def EI(D:Af)(L M:AP):Af × AP × List Bs × Nat:=
 if(BN D (goneV D M)).2≠0 then((BN D (goneV D M)).1,L,[],(BN D (goneV D M)).2)else((BN D (goneV D M)).1,M,[],0)
def EB(L:AP)(b:Bs)(p:A0)(x:Af × Bool × Nat):Af × AP × List Bs × Nat:=
 if x.2.2=8 then
  (if(BN x.1 (if x.2.1=true then [Ax b]else [])).2≠0 then((BN x.1 (if x.2.1=true then [Ax b]else [])).1,L,[],(BN x.1 (if x.2.1=true then [Ax b]else [])).2)
  else((BN x.1 (if x.2.1=true then [Ax b]else [])).1,L,[],8))
 else if x.2.2=7 then(x.1,L,[b,(An x.1 (Ax b)).1],7)
 else if x.2.2≠0 then(x.1,L,[],x.2.2)
 else EI x.1 L [(Ax b,p)]
def KZ(D:Af)(L:AP)(b:Bs):Af × AP × List Bs × Nat:=match BY b with
 | .ok p=>EB L b p (AE D b)
 | .error _=>(D,L,[],0)
def BE(D:Af)(L:AP)(o:List Bs)(ch:List Int):Af × AP × List Bs × Nat:=
 if(AL D L o ch).2≠0 then(D,L,[],(AL D L o ch).2)else match (AL D L o ch).1 with
  | []=>EI D L []
  | b :: _=>KZ D L b
theorem QZ{D:Af}{L:AP}{o:List Bs}{ch:List Int}(hL:Cl (AM D L o ch))(h0:(AL D L o ch).2=0):(AL D L o ch).1= []\/∃p,(AL D L o ch).1= [(AU (AM D L o ch)).1]/\BY (AU (AM D L o ch)).1 = .ok p:=by
 unfold AL at h0 ⊢;split
 ·exact .inl rfl
 ·split
  ·exact .inl rfl
  ·split
   ·rename_i q
    cases e:CW (AM D L o ch) (AM D L o ch).length with
    | error x=>
     rw[N6 e]at q;exact absurd q (Ve e)
    | ok s=>exact .inr ⟨_,rfl,KY hL e⟩
   ·exact .inl rfl
theorem Ur{D:Af}{L:AP}{o:List Bs}{ch:List Int}(h:(AL D L o ch).2≠0):BE D L o ch=(D,L,[],(AL D L o ch).2):=if_pos h
theorem IM{D:Af}{L:AP}{o:List Bs}{ch:List Int}(h:¬(AL D L o ch).2≠0)(h1:(AL D L o ch).1= []):BE D L o ch=EI D L []:=by
 unfold BE;rw[if_neg h,h1]
theorem J5{D:Af}{L:AP}{o:List Bs}{ch:List Int}{b:Bs}{p:A0}(h:¬(AL D L o ch).2≠0)(h1:(AL D L o ch).1= [b])(h2:BY b = .ok p):BE D L o ch=EB L b p (AE D b):=by
 unfold BE;rw[if_neg h,h1];show KZ D L b=_;unfold KZ;rw[h2]
theorem Q0{α:Type}{l:List α}{i:Nat}(d:α)(h:i<l.length):l.take (i+1)=l.take i++ [l.getD i d]:=by
 rw[Acn h,AbN,AbT h];rfl
theorem Ff{α:Type}{l:List α}{i:Nat}(d:α)(h:i<l.length):l.getD i d=l[i]:=by
 rw[AbN,AbT h,AcL]
theorem IN(ch:List Int){sz:List Int}(h:∀z∈sz,0<=z/\z<=200){i:Nat}(hi:i<60):planGo ch sz (i+1)=C9 ch i (sz.getD i 0) (planGo ch sz i)/\(planGo ch sz i).depths.length=i:=by
 obtain⟨h1,h2,h3,-,-⟩:=J4 ch h i (by omega);rw[FA,Pp (by omega) (by omega)];exact⟨rfl,h3⟩
theorem K0(ch:List Int)(i:Nat)(z:Int)(s:DW):∃b d:Int,(C9 ch i z s).bases=s.bases++ [b]/\(C9 ch i z s).depths=s.depths++ [d] /\ -1<=b/\b<s.depths.length/\d<=50/\d=(if 0<=b then s.depths.getD b.toNat 0+1 else 0):=by
 have hb:=HJ ch i s.depths.length;unfold C9 Jb;split
 ·exact⟨-1,0,rfl,rfl,by omega,by omega,by omega,(if_neg (by decide)).symm⟩
 ·rename_i q
  exact⟨_,_,rfl,rfl,hb.1,hb.2,by omega,rfl⟩
theorem Mi(ch:List Int){sz:List Int}(hz:∀z∈sz,0<=z/\z<=200){i:Nat}:∀ {n:Nat},n<=60->i<n->(planGo ch sz n).bases.getD i 0=(planGo ch sz (i+1)).bases.getD i 0
 | 0,_,h=>absurd h (Ads _)
 | n+1,hn,h=>by
  by_cases q:i=n
  ·rw[q]
  ·obtain⟨p1,-⟩:=IN ch hz (i:=n) (by omega);obtain⟨b,d,q1,-⟩:=K0 ch n (sz.getD n 0) (planGo ch sz n);have hl:=(DD ch sz n).lb;rw[<-Mi ch hz (n:=n) (by omega) (by omega),p1,q1,AbN,AcG (by omega),<-AbN]
theorem N7{ps:List Pt}{ch sz:List Int}{ids:List Bs}(hz:∀z∈sz,0<=z/\z<=200)(h60:ids.length<=60)(hb:∀i,i<ids.length->(ps.getD i AA).base=(planGo ch sz ids.length).bases.getD i 0)(hs:∀i,i<ids.length->Sha.sum (ps.getD i AA).bytes=ids.getD i [])(hn:ids.Nodup):
  ∀i,i<=ids.length->∃s,CW ps i = .ok s/\s.depths.map (fun d=>((d:Nat):Int))=(planGo ch sz i).depths/\s.ids=ids.take i
 | 0,_=>⟨_,rfl,rfl,rfl⟩
 | i+1,hi=>by
  obtain⟨s,e,hd,hids⟩:=N7 hz h60 hb hs hn i (by omega);obtain⟨b,d,q1,q2,q3,q4,q5,q6⟩:=K0 ch i (sz.getD i 0) (planGo ch sz i);obtain⟨p1,p2⟩:=IN ch hz (i:=i) (by omega);rw[p2]at q4;have hbase:(ps.getD i AA).base=b:=by
   have hl:=(DD ch sz i).lb;rw[hb i (by omega),Mi ch hz h60 (by omega),p1,q1,AbN,AcA (by omega),hl,Ady];rfl
  have hlen:s.depths.length=i:=by
   have:=congrArg AfJ hd;rw[Ab9,p2]at this;exact this
  have hdep:((Dl (ps.getD i AA) s:Nat):Int)=d:=by
   unfold Dl;rw[hbase,q6];by_cases q:b<0
   ·rw[if_pos q,if_neg (by omega)];rfl
   ·rw[if_neg q,if_pos (by omega),<-hd];have hlt:b.toNat<s.depths.length:=by omega
    have a:b.toNat<(s.depths.map fun d=>((d:Nat):Int)).length:=by rw[Ab9];exact hlt
    rw[Ff _ hlt,Ff _ a,Ae8];rfl
  have hni:Sha.sum (ps.getD i AA).bytes∉s.ids:=by
   rw[hs i (by omega),hids];intro hm;obtain⟨k,hk,he⟩:=Adi hm;rw[Ab5]at hk;rw[AfG,Ff _ (show i<ids.length by omega)]at he;exact Ado.1 (Agv.1 hn) k i (by omega) (by omega) (by omega) he
  refine⟨bnext ps (ps.getD i AA) s,?_,?_,?_⟩
  ·rw[EM e];unfold EF;rw[if_neg (by rw[hbase];omega),if_neg hni,if_neg (by omega)]
  ·show(s.depths++ [Dl _ s]).map _=_;rw[Adc,hd,p1,q2,List.map_singleton,hdep]
  ·show s.ids++ [Sha.sum _]=_;rw[hids,hs i (by omega),Q0 ([]:Bs) (show i<ids.length by omega)]
section
variable {D : Af} {L : AP} {o : List Bs} {ch : List Int}
def Jd(D:Af)(L:AP)(o:List Bs):Prop:=∀id∈o,(getV D L id).2=0/\(getV D L id).1.length<=200/\Sha.sum (getV D L id).1=id
theorem XM(h:Jd D L o):∀z∈szV D L o,0<=z/\z<=200:=fun z hz=>by
 unfold szV Bw at hz;rw[List.map_map]at hz;obtain⟨id,hid,rfl⟩:=Acw.1 hz;have:=(h id hid).2.1;show(0:Int)<=(((getV D L id).1.length:Nat):Int)/\(((getV D L id).1.length:Nat):Int)<=200;omega
theorem IO(h60:o.length<=60){i:Nat}(hi:i<o.length):((AM D L o ch).getD i AA).base=(planGo ch (szV D L o) o.length).bases.getD i 0/\((AM D L o ch).getD i AA).bytes=(getV D L (o.getD i [])).1:=by
 have hl:(szV D L o).length=o.length:=by unfold szV Bw;rw[Ab9,Ab9]
 have h2:i<(BI D L o ch).bases.length:=by unfold BI;rw[(DD ch (szV D L o) _).lb,hl];exact hi
 have h1:i<(Bw D L o).length:=by unfold Bw;rw[Ab9];exact hi
 have e:(AM D L o ch).getD i AA=⟨.slice none 0 0,(Bw D L o)[i],(BI D L o ch).bases[i]⟩:=by
  unfold AM;rw[AbN,Adn,(Afm (z:=((Bw D L o)[i],(BI D L o ch).bases[i]))).2 ⟨AbT h1,AbT h2⟩];rfl
 rw[e];refine⟨?_,?_⟩
 ·show(BI D L o ch).bases[i]=_;rw[<-Ff 0 h2];unfold BI;rw[hl]
 ·have a:(Bw D L o)[i]=(getV D L o[i]).1:=Ae8 ..;show(Bw D L o)[i]=_;rw[a,Ff _ hi]
theorem partsK_len:(AM D L o ch).length=o.length:=by
 have hl:(szV D L o).length=o.length:=by unfold szV Bw;rw[Ab9,Ab9]
 have h2:(BI D L o ch).bases.length=o.length:=by unfold BI;rw[(DD ch (szV D L o) _).lb,hl]
 unfold AM;rw[Ab9,List.length_zip,h2];unfold Bw;rw[Ab9,Nat.min_self]
theorem IP(h:Jd D L o)(h60:o.length<=60):Cl (AM D L o ch):=by
 refine⟨by rw[partsK_len];exact h60,fun p hp=> ?_⟩;unfold AM at hp;obtain⟨x,hx,rfl⟩:=Acw.1 hp;have h1:=(List.of_mem_zip hx).1;unfold Bw at h1;obtain⟨id,hid,h2⟩:=Acw.1 h1;show x.1.length<=200;rw[<-h2];exact(h id hid).2.1
theorem K3(h:Jd D L o):¬DX D L o:=fun⟨id,hid,q⟩=>q (h id hid).1
theorem Mj{ps:List Pt}(hL:Cl ps){s:BS}(h:CW ps ps.length = .ok s):(AU ps).1.length<=40000:=by
 have hk:=Iv hL ps.length s (AbO _) h;have h1:=hk.b;have h2:=GP hk s.b.length;have h3:=hL.1;have e:(AU ps).1=s.b++Cm s s.b.length++Sha.sum (s.b++Cm s s.b.length):=by unfold AU;rw[h]
 rw[e,AbP,AbP,Sha.sum_length,h2];omega
theorem SX(h:Jd D L o)(h60:o.length<=60)(hn:o.Nodup)(hne:o≠ []):∃b p,AL D L o ch=([b],0)/\BY b = .ok p/\b.length<=40000/\(∀id,id∈p.1↔id∈o)/\(∀id∈o,∃d,p.2 id=some ((getV D L id).1,d))/\∀id,id∉o->p.2 id=none:=by
 have hsz:=XM h;obtain⟨s,e,-,hids⟩:=N7 (ps:=AM D L o ch) (ch:=ch) hsz h60 (fun i hi=>(IO h60 hi).1) (fun i hi=>by rw[(IO h60 hi).2];exact(h _ (AO _ hi)).2.2) hn o.length (AbO _);rw[Adt]at hids;have hL:=IP (ch:=ch) h h60;have a:CW (AM D L o ch) (AM D L o ch).length = .ok s:=by rw[partsK_len];exact e
 have hop:=KY hL a;obtain⟨es,I⟩:=Lw hL (AM D L o ch).length s (AbO _) a;refine⟨(AU (AM D L o ch)).1,(AJ s.ids,N4 (AM D L o ch) s),?_,hop,Mj hL a,fun id=>by rw[<-hids];exact Fe,fun id hid=> ?_,fun id hid=> ?_⟩
 ·unfold AL;rw[if_neg (K3 h),if_neg hne,if_pos (SW a)]
 ·obtain⟨j,hj,ej⟩:=Adi hid;have hjp:j<(AM D L o ch).length:=by rw[partsK_len];exact hj
  have h1:=I.obj hL rfl hjp;have c:s.ids.getD j []=id:=by rw[hids,Ff _ hj,ej]
  rw[c,(IO h60 hj).2,Ff _ hj,ej]at h1;exact⟨_,h1⟩
 ·rw[<-hids]at hid;exact CP _ _ _ hid
end
theorem AaW{wb w w' :AbJ}{g:Nat}{H:Dk}{D:Af}(h:DkG wb w g H D)(hc:Chg (B3 H D.files.length) w w'){α:Type}{b k:Nat}{t:AbQ}{enc:α->List AbI}{v:AbI}{l:List α}(hr:OG b t k enc w v l)(h1:t≠107)(h2:t≠133)(h3:t≠5)(h4:t≠131):OG b t k enc w' v l:=by
 refine⟨hr.1,Du hc hr.2 fun i hi q=> ?_⟩;have ht:=Li hr.2 hi;rcases(h.st.foot q).1 with ⟨es,c,e⟩ | ⟨cs,t',fr,e,ht'⟩
 ·unfold CT at ht;rw[e]at ht;cases ht
 ·have:=Co e;rw[this]at ht;have ht:t' =t:=by simpa using ht
  subst ht;rcases ht' with q | q | q | q
  ·exact h1 q
  ·exact h2 q
  ·exact h3 q
  ·exact h4 q
theorem Lz{D:Af}{s:Ah5}{k:Nat}(hd:D.down=false)(hm:Bk s=true)(h:Aw D.now s=some k):An D s=((AY D k).1,0):=by
 have h0:CB D s s=0:=by
  unfold CB;rw[if_neg (by rw[hd];decide),if_pos ⟨hm,hm⟩]
 unfold An FE;rw[if_neg (by rw[h0];exact fun q=>q rfl),h]
structure VtK (wb w : AbJ) (n g gv : Nat) (H : Dk) (D : Af) (w' : AbJ) (H' : Dk) (D' : Af) (L' : AP) : Prop where
 dk:DkG wb w' g H' D'
 v:∃bm ptr,VtAt n (Cg H' D') w' gv g bm L' ptr
 chg:Chg (fun k=>B3 H D.files.length k\/k=gv/\n<=gv) w w'
 foot:∀i,B3 H' D'.files.length i->B3 H D.files.length i\/w.heap.size<=i
theorem Chg.monoV{B C:Nat->Prop}{w w' :AbJ}(h:Chg B w w')(hB:∀k,B k->C k):Chg C w w' :=⟨h.os,h.tape,h.output,h.size,fun k hk hn=>h.blk k hk fun q=>hn (hB k q)⟩
theorem YX{wb w w' :AbJ}{n g gv bm:Nat}{H H' :Dk}{D D' :Af}{L:AP}{ptr:Bs->Nat}(h:VtAt n (Cg H D) w gv g bm L ptr)(hW:DkW wb w g H D w' H' D'):VtK wb w n g gv H D w' H' D' L:=
 ⟨hW.g,⟨bm,ptr,h.step hW⟩,hW.chg.monoV fun k q=> .inl q,hW.foot⟩
theorem SY{s:DW}(h:(decide (1024<=s.depths.length)||decide (131072<=s.total))=true):⟨s.at_+1,0,[],s.packs,s.bases⟩=turnPk s:=(if_pos h).symm
theorem SZ{s:DW}(h:(decide (1024<=s.depths.length)||decide (131072<=s.total))=false):s=turnPk s:=(if_neg (by unfold KR;rw[h];decide)).symm
theorem Pu{s:DW}{b:Int}{n:Nat}(h:b=((n:Nat):Int)):JY s b=s.depths.getD (n) 0+1:=by
 subst h;exact if_pos (Int.natCast_nonneg _)
theorem Wf(t:AbQ)(x:Int)(m:Nat)(y:Int)(hy:y=Ac0 x ((m+1:Nat):Int)+m+1):Go.binOp .rem t (.int .i64 y) (NI (m+1))=pure (.int .i64 (AdW x ((m+1:Nat):Int))):=by
 have h:=NR t y ((m+1:Nat):Int) (by omega);rw[hy,IJ]at h;rw[hy];exact h
theorem Pv(x:Int)(m:Nat):0<=AdW x ((m+1:Nat):Int)/\AdW x ((m+1:Nat):Int)<=m:=by
 have h1:0<=AdW x ((m+1:Nat):Int):=Int.emod_nonneg _ (by omega);have h2:AdW x ((m+1:Nat):Int)<((m+1:Nat):Int):=Int.emod_lt_of_pos _ (by omega);omega
theorem ZZ{P:Program}{K:AbI->AbJ->Prop}{ρ:Ac}{w:AbJ}{d:Option Tmp}{ty:AbQ}{pos:String}{af:Array Edge}{gd:Option (Nat × Bool)}{t1 t2:AbQ}{x y:AbV}{n m:Nat}(hx:Aa ρ x=NI n)(hy:Aa ρ y=NI m)(hk:K (NI (min n m)) w):Yk P K ((execOp (Aa ρ) ⟨d, .call ⟨.builtin .min,#[x,y],#[t1,t2]⟩,ty,pos,af,gd⟩).run P w):=by
 refine Aa4 (v:=NI (min n m)) (w' :=w) ?_ hk;have he:(if((m:Nat):Int)<((n:Nat):Int)then((m:Nat):Int)else((n:Nat):Int))=((min n m:Nat):Int):=by split <;> omega
 have hr:=run_min_int2 (P:=P) w #[t1,t2] ty .i64 .i64 n m;rw[he]at hr;unfold execOp;simp only[resolve,invoke,builtin,AbY,Ab1,AbU,Acp,Aco,Acz,hx,hy,hr]
theorem va5_ig3:∃z,(Tryz.prog.info? 3).map (fun i=>(i.zero,i.size,i.bytes))=some (some z,1,8)/\z.cells.size=1:=E8 (by kernel_rfl)
theorem N8(w:AbJ)(vz vc:AbI)(sz ch:List Int)(hz:RG 1 A1 w vz sz)(hc:RG 1 A1 w vc ch)(hzl:sz.length<=100000)(hcl:ch.length<=17592186044416):
  Calls AbL 9 #[vz,vc] w fun e w' =>∃va vb,e = .returned (.tuple #[va,vb])/\OG w.heap.size 3 1 A1 w' va (planGo ch sz sz.length).packs/\OG w.heap.size 3 1 A1 w' vb (planGo ch sz sz.length).bases/\Ext w w' :=by
 refine Rh (args:= [vz,vc]) Tryz.func9 rfl 83 rfl rfl ?_;have hE:=AaY w;have hw_:=hE.size;refine Adj (⟨_,rfl⟩:∃v:AbI,(AbR none 0 0)=v) fun nv4 hnv4=> ?_;have hrow4:OG w.heap.size 3 1 A1 w nv4 ([]:List Int):=hnv4▸Abg _ _ _ _ _;refine Adj (⟨_,rfl⟩:∃v:AbI,(AbR none 0 0)=v) fun nv5 hnv5=> ?_;have hrow5:OG w.heap.size 3 1 A1 w nv5 ([]:List Int):=hnv5▸Abg _ _ _ _ _;have a9:Ae nv5 nv4:=fun k h=>by rw[<-hnv5]at h;cases h
 have ba:Ae nv4 nv5:=fun k _ h=>by rw[<-hnv5]at h;cases h
 refine Adj (⟨_,rfl⟩:∃v:AbI,(AbR none 0 0)=v) fun nv8 hnv8=> ?_;have hrow8:OG w.heap.size 3 1 A1 w nv8 ([]:List Int):=hnv8▸Abg _ _ _ _ _;have bc:Ae nv8 nv4:=fun k h=>by rw[<-hnv8]at h;cases h
 have bd:Ae nv4 nv8:=fun k _ h=>by rw[<-hnv8]at h;cases h
 have be:Ae nv8 nv5:=fun k h=>by rw[<-hnv8]at h;cases h
 have bf:Ae nv5 nv8:=fun k _ h=>by rw[<-hnv8]at h;cases h
 refine gS (X6 LL (XW (hz.keep hE) rfl) (gL (fun(ρ:Ac) (wz:AbJ)=>∃i:Nat,∃s:DW,∃r4:AbI,∃r5:AbI,∃r8:AbI,ρ 0=(vz:AbI)/\ρ 1=(vc:AbI)/\ρ 15=(vz:AbI)/\ρ 16=(NI sz.length:AbI)/\ρ 17=(NI i:AbI)/\ρ 6=(NI s.at_:AbI)/\ρ 7=(NI s.total:AbI)/\ρ 4=(r4:AbI)/\ρ 5=(r5:AbI)/\ρ 8=(r8:AbI)/\Ext w wz/\OG w.heap.size 3 1 (A1) wz r4 (s.packs)/\OG w.heap.size 3 1 (A1) wz r5 (s.bases)/\OG w.heap.size 3 1 (A1) wz r8 (s.depths)/\(i<=sz.length)/\(s=planGo ch sz i)/\(Ae r4 r5)/\(Ae r4 r8)/\(Ae r5 r4)/\(Ae r5 r8)/\(Ae r8 r4)/\(Ae r8 r5)/\True) (fun ρ _=>sz.length-(intOf (ρ 17)).toNat) ⟨0,(planGo ch sz 0),nv4,nv5,nv8,rfl,rfl,rfl,rfl,rfl,rfl,rfl,((show _=(AbR none 0 0)from rfl).trans hnv4),((show _=(AbR none 0 0)from rfl).trans hnv5),((show _=(AbR none 0 0)from rfl).trans hnv8),hE,Bc hrow4 (rfl),Bc hrow5 (rfl),Bc hrow8 (rfl),Ack _,rfl,ba,bd,a9,bf,bc,be,trivial⟩ ?_));clear hrow4;clear hrow5;clear hrow8;clear hE;rintro bg bh ⟨i,s,r4,r5,r8,t,g,p,q,f,r,x,l,o,j,hE,hr_r4,hr_r5,hr_r8,hil,hs,hap_r4_r5,hap_r4_r8,hap_r5_r4,hap_r5_r8,hap_r8_r4,hap_r8_r5,-⟩;have q17:=f;refine gS (XQ (a:=(i:Nat)) (b:=(sz.length:Nat)) f q (AK _ _ _ _) ?_);refine cD rfl (fun aq=> ?_) fun aq=> ?_
 ·have hlt:i<sz.length:=aq;have hok:=DD ch sz i;rw[<-hs]at hok;have bi:=hok.lp;have bj:=hok.lb;have b8:=hok.ld;have b9:=hok.at_;have ca:=hok.tot;have cb:(A1 (sz.getD (i) (0:Int))).length=1:=(Aa6 (hz.keep hE) (0:Int) (hlt));refine gS (X9 LL G2 (by decide) (0:Int) (XW (hz.keep hE) p) f (hlt) fun cc av=>(gS (X4 Tk rfl (Abd (Yc av rfl) rfl) ?_)));clear av;refine gJ (fun ρ wz=>∃x8:AbI,∃s1:DW,ρ 0=(vz:AbI)/\ρ 1=(vc:AbI)/\ρ 4=(r4:AbI)/\ρ 5=(r5:AbI)/\ρ 9=(NI i:AbI)/\ρ 10=(.int .i64 (sz.getD (i) (0:Int):Int):AbI)/\ρ 15=(vz:AbI)/\ρ 16=(NI sz.length:AbI)/\ρ 17=(NI i:AbI)/\ρ 8=(x8:AbI)/\ρ 6=(NI s1.at_:AbI)/\ρ 7=(NI s1.total:AbI)/\Ext w wz/\OG w.heap.size 3 1 (A1) wz r4 (s.packs)/\OG w.heap.size 3 1 (A1) wz r5 (s.bases)/\OG w.heap.size 3 1 A1 wz x8 s1.depths/\(s1=turnPk s)/\(Ae x8 r4)/\(Ae x8 r5)/\(Ae r4 x8)/\(Ae r5 x8)/\True) 1 rfl ?_ fun hJK21=> ?_
  ·clear hE hr_r4 hr_r5;rintro cd ce ⟨x8,s1,t,g,l,o,T9,ab,p,q,f,j,r,x,hE,hr_r4,hr_r5,c,aw,ha84,ha85,ha48,ha58,-⟩;have hok1:=IK hok;rw[<-aw]at hok1;have hj1:=hok1.2.1;have hj2:=hok1.2.2.1;have hj3:s1.at_<=i+1:=hok1.1.at_;have hj4:s1.packs=s.packs:=hok1.2.2.2.1;have hj5:s1.bases=s.bases:=hok1.2.2.2.2;have hj7:s1.packs.length=i:=by rw[hj4];exact bi
   have hj8:s1.bases.length=i:=by rw[hj5];exact bj
   have hj6:∀d∈s1.depths,0<=d/\d<=50:=hok1.1.dp;refine gS (X6 LL (XW (X1 c) j) ?_);refine gJ (fun ρ wz=>∃bz:Int,ρ 0=(vz:AbI)/\ρ 1=(vc:AbI)/\ρ 4=(r4:AbI)/\ρ 5=(r5:AbI)/\ρ 6=(NI s1.at_:AbI)/\ρ 7=(NI s1.total:AbI)/\ρ 8=(x8:AbI)/\ρ 9=(NI i:AbI)/\ρ 10=(.int .i64 (sz.getD (i) (0:Int):Int):AbI)/\ρ 11=(NI ((s1.depths).length):AbI)/\ρ 15=(vz:AbI)/\ρ 16=(NI sz.length:AbI)/\ρ 17=(NI i:AbI)/\ρ 12=(.int .i64 (bz:Int):AbI)/\Ext w wz/\OG w.heap.size 3 1 (A1) wz r4 (s.packs)/\OG w.heap.size 3 1 (A1) wz r5 (s.bases)/\OG w.heap.size 3 1 A1 wz x8 s1.depths/\(EH ch i s1.depths.length=bz)/\True) 1 rfl ?_ fun hJK27=> ?_
   ·clear hE hr_r4 hr_r5 c;rintro cf cg ⟨bz,t,g,l,o,r,x,j,T9,ab,ai,p,q,f,ad,hE,hr_r4,hr_r5,c,hbz,-⟩;have hbl:=HJ ch i s1.depths.length;rw[hbz]at hbl;refine gJ (fun ρ wz=>∃d0:Int,ρ 0=(vz:AbI)/\ρ 1=(vc:AbI)/\ρ 4=(r4:AbI)/\ρ 5=(r5:AbI)/\ρ 6=(NI s1.at_:AbI)/\ρ 7=(NI s1.total:AbI)/\ρ 8=(x8:AbI)/\ρ 9=(NI i:AbI)/\ρ 10=(.int .i64 (sz.getD (i) (0:Int):Int):AbI)/\ρ 11=(NI ((s1.depths).length):AbI)/\ρ 12=(.int .i64 (bz:Int):AbI)/\ρ 15=(vz:AbI)/\ρ 16=(NI sz.length:AbI)/\ρ 17=(NI i:AbI)/\ρ 14=(.int .i64 (d0:Int):AbI)/\Ext w wz/\OG w.heap.size 3 1 (A1) wz r4 (s.packs)/\OG w.heap.size 3 1 (A1) wz r5 (s.bases)/\OG w.heap.size 3 1 A1 wz x8 s1.depths/\(JY s1 bz=d0)/\True) 1 rfl ?_ fun hJK32=> ?_
    ·clear hE hr_r4 hr_r5 c;rintro ci cj ⟨d0,t,g,l,o,r,x,j,T9,ab,ai,ad,p,q,f,am,hE,hr_r4,hr_r5,c,hd0,-⟩;refine gJ (fun ρ wz=>∃bb:Int,∃dd:Int,ρ 0=(vz:AbI)/\ρ 1=(vc:AbI)/\ρ 4=(r4:AbI)/\ρ 5=(r5:AbI)/\ρ 6=(NI s1.at_:AbI)/\ρ 7=(NI s1.total:AbI)/\ρ 8=(x8:AbI)/\ρ 9=(NI i:AbI)/\ρ 10=(.int .i64 (sz.getD (i) (0:Int):Int):AbI)/\ρ 11=(NI ((s1.depths).length):AbI)/\ρ 15=(vz:AbI)/\ρ 16=(NI sz.length:AbI)/\ρ 17=(NI i:AbI)/\ρ 12=(.int .i64 (bb:Int):AbI)/\ρ 14=(.int .i64 (dd:Int):AbI)/\Ext w wz/\OG w.heap.size 3 1 (A1) wz r4 (s.packs)/\OG w.heap.size 3 1 (A1) wz r5 (s.bases)/\OG w.heap.size 3 1 A1 wz x8 s1.depths/\(C9 ch i (sz.getD i 0) s1=⟨s1.at_,s1.total+Ev (sz.getD i 0),s1.depths++ [dd],s1.packs++ [(s1.at_:Int)],s1.bases++ [bb]⟩)/\True) 1 rfl ?_ fun hJK36=> ?_
     ·clear hE hr_r4 hr_r5 c;rintro ck cl ⟨bb,dd,t,g,l,o,r,x,j,T9,ab,ai,p,q,f,ad,am,hE,hr_r4,hr_r5,c,hst,-⟩;refine gS (Yi (a:=s1.at_) (enc:=A1) r rfl (fun w=>P3 _ w) fun bk bm ax an=> ?_);have hE:=hE.trans an;have hr_r4:=hr_r4.keep an;refine gS (X7 _ _ w.heap.size _ 8 LL va5_ig3.choose_spec.1 va5_ig3.choose_spec.2 LL (s.packs) ([s1.at_]) (Abf hr_r4 l) (XW ax (vr bk rfl)) (fun y hy u hu=>by rw[AbW.1 hu];rfl) (by simp only[Ab7];omega) (by simp only[Ab7];omega) hE.size fun ac bo z af=> ?_);have af:Grew bm bo r4 ac:= .eqv l af;have hr_r5:=hr_r5.keep an;have bp:Ae ac r5:=Az af hap_r4_r5 hr_r5.2;have ay:Ae r5 ac:=fun k h1 h2=>bp k h2 h1;have c:=c.keep an;have bq:Ae ac x8:=Az af ha48 c.2;have az:Ae x8 ac:=fun k h1 h2=>bq k h2 h1;have hE:=Ao hE af hr_r4.2 (AbO _);have hr_r5:=AZ hr_r5 af hap_r4_r5;have c:=AZ c af ha48;clear ax;clear hr_r4;refine gS (Yi (a:=bb) (enc:=A1) ad rfl (fun w=>P3 _ w) fun br bs a0 ao=> ?_);have hE:=hE.trans ao;have hr_r5:=hr_r5.keep ao;refine gS (X7 _ _ w.heap.size _ 8 LL va5_ig3.choose_spec.1 va5_ig3.choose_spec.2 LL (s.bases) ([bb]) (Abf hr_r5 o) (XW a0 (vr br rfl)) (fun y hy u hu=>by rw[AbW.1 hu];rfl) (by simp only[Ab7];omega) (by simp only[Ab7];omega) hE.size fun ae bt aj ag=> ?_);have ag:Grew bs bt r5 ae:= .eqv o ag;have c:=c.keep ao;have bu:Ae ae x8:=Az ag ha58 c.2;have a1:Ae x8 ae:=fun k h1 h2=>bu k h2 h1;have z:=z.keep ao;have a2:Ae ae ac:=Az ag ay z.2;have bv:Ae ac ae:=fun k h1 h2=>a2 k h2 h1;have hE:=Ao hE ag hr_r5.2 (AbO _);have c:=AZ c ag ha58;have z:=AZ z ag ay;clear a0;clear hr_r5;refine gS (Yi (a:=dd) (enc:=A1) am rfl (fun w=>P3 _ w) fun bw bx a3 ap=> ?_);have hE:=hE.trans ap;have c:=c.keep ap;refine gS (X7 _ _ w.heap.size _ 8 LL va5_ig3.choose_spec.1 va5_ig3.choose_spec.2 LL (s1.depths) ([dd]) (Abf c j) (XW a3 (vr bw rfl)) (fun y hy u hu=>by rw[AbW.1 hu];rfl) (by simp only[Ab7];omega) (by simp only[Ab7];omega) hE.size fun ak b0 b1 ah=> ?_);have ah:Grew bx b0 x8 ak:= .eqv j ah;have z:=z.keep ap;have a4:Ae ak ac:=Az ah az z.2;have b2:Ae ac ak:=fun k h1 h2=>a4 k h2 h1;have aj:=aj.keep ap;have a5:Ae ak ae:=Az ah a1 aj.2;have b3:Ae ae ak:=fun k h1 h2=>a5 k h2 h1;have hE:=Ao hE ah c.2 (AbO _);have z:=AZ z ah az;have aj:=AZ aj ah a1;clear a3;clear c;refine gS (AaQ ab rfl (gS (ZZ (n:=(sz.getD i 0).toNat) (m:=131072) rfl rfl (gS (XR (xv:=NI s1.total) (yv:=NI (Ev (sz.getD i 0))) x rfl rfl (Ah _ _ _ (by have:=Lr (sz.getD i 0);omega)) (gS (XR (xv:=NI i) (yv:=NI 1) f rfl rfl (Ah _ _ _ (by omega)) (gK (Acr ⟨i+1,⟨s1.at_,s1.total+Ev (sz.getD i 0),s1.depths++ [dd],s1.packs++ [(s1.at_:Int)],s1.bases++ [bb]⟩,ac,ae,ak,t,g,p,q,rfl,r,rfl,rfl,rfl,rfl,hE,Bc z ((congrArg (· ++ [(s1.at_:Int)]) hj4.symm)),Bc aj ((congrArg (· ++ [bb]) hj5.symm)),Bc b1 (rfl),by omega,by rw[FA,<-hs,<-aw,hst],bv,b2,a2,b3,a4,a5,trivial⟩ ?_)))))))));show sz.length-(intOf (NI ((i)+(1)))).toNat<sz.length-(intOf (bg 17)).toNat;rw[q17];simp only[intOf,Ab0];omega
     refine gS (XQ am rfl (Kb _ .i64 (d0:Int) ((50:Nat):Int)) ?_);refine cD rfl (fun a6=> ?_) fun a6=> ?_
     ·exact hJK36 _ _ ⟨-1,((0:Nat):Int),t,g,l,o,r,x,j,T9,ab,ai,p,q,f,rfl,rfl,hE,hr_r4,hr_r5,c,NV hbz hd0 a6,trivial⟩
     exact hJK36 _ _ ⟨bz,d0,t,g,l,o,r,x,j,T9,ab,ai,p,q,f,ad,am,hE,hr_r4,hr_r5,c,KS hbz hd0 (by omega),trivial⟩
    refine gS (XQ ad rfl (Kc _ .i64 (bz:Int) ((0:Nat):Int)) ?_);refine cD rfl (fun ar=> ?_) fun ar=> ?_
    ·refine Adj (Int.eq_ofNat_of_zero_le ar) fun bn hbn=> ?_;have hbl2:bn<s1.depths.length:=by omega
     have hnn:=Ls hj6 bn;have cm:(A1 ((s1.depths).getD (bn) (0:Int))).length=1:=(Aa6 (X1 c) (0:Int) (hbl2));refine gS (X9 LL G2 (by decide) (0:Int) (XW (X1 c) j) (vr (NI bn) (ad.trans (congrArg (Adm .i64) hbn))) (hbl2) fun cn a7=>(gS (X4 Tk rfl (Abd (Yc a7 rfl) rfl) (gS (XR (xv:= .int .i64 ((s1.depths).getD (bn) (0:Int))) (yv:= .int .i64 (((1:Nat):Int))) rfl rfl rfl (Hb _ ((s1.depths).getD (bn) (0:Int)) (((1:Nat):Int)) (by omega)) ?_)))));clear a7;exact hJK32 _ _ ⟨(((s1.depths).getD (bn) (0:Int))+(((1:Nat):Int))),t,g,l,o,r,x,j,T9,ab,ai,ad,p,q,f,rfl,hE,hr_r4,hr_r5,c,Pu hbn,trivial⟩
    exact hJK32 _ _ ⟨((0:Nat):Int),t,g,l,o,r,x,j,T9,ab,ai,ad,p,q,f,rfl,hE,hr_r4,hr_r5,c,if_neg ar,trivial⟩
   refine gS (X6 LL (XW (hc.keep hE) g) (gS (XQ (a:=(ch.length:Nat)) (b:=(0:Nat)) rfl rfl (Bh _ _ _ _) ?_)));refine cD rfl (fun al=> ?_) fun al=> ?_
   ·have hbd:=Pl (ch.getD ((i)%(ch.length)) 0) s1.depths.length;have hbe:=Pv (ch.getD ((i)%(ch.length)) 0) s1.depths.length;refine gS (X6 LL (XW (hc.keep hE) g) (gS (XR (xv:=NI i) (yv:=NI ch.length) T9 rfl rfl (FZ _ _ _ (by omega)) ?_)));have co:(A1 (ch.getD ((i)%(ch.length)) (0:Int))).length=1:=(Aa6 (hc.keep hE) (0:Int) (Nat.mod_lt _ al));refine gS (X9 LL G2 (by decide) (0:Int) (XW (hc.keep hE) g) rfl (Nat.mod_lt _ al) fun cp a8=>(gS (X4 Tk rfl (Abd (Yc a8 rfl) rfl) (gS (XR (xv:=NI ((s1.depths).length)) (yv:=NI 1) rfl rfl rfl (Ah _ _ _ (by omega)) (gS (XR (xv:= .int .i64 (ch.getD ((i)%(ch.length)) (0:Int))) (yv:=NI (((s1.depths).length)+(1))) rfl rfl rfl (NR _ (ch.getD ((i)%(ch.length)) (0:Int)) _ (by omega)) ?_)))))));clear a8;refine gS (XR (xv:= .int .i64 ((Ac0 (ch.getD ((i)%(ch.length)) 0) ((s1.depths.length+1:Nat):Int)))) (yv:= .int .i64 ((((s1.depths).length:Nat):Int))) rfl rfl rfl (Hb _ ((Ac0 (ch.getD ((i)%(ch.length)) 0) ((s1.depths.length+1:Nat):Int))) ((((s1.depths).length:Nat):Int)) (by omega)) (gS (XR (xv:= .int .i64 ((((Ac0 (ch.getD ((i)%(ch.length)) 0) ((s1.depths.length+1:Nat):Int)))+((((s1.depths).length:Nat):Int))))) (yv:= .int .i64 (((1:Nat):Int))) rfl rfl rfl (Hb _ ((((Ac0 (ch.getD ((i)%(ch.length)) 0) ((s1.depths.length+1:Nat):Int)))+((((s1.depths).length:Nat):Int)))) (((1:Nat):Int)) (by omega)) (gS (XR (xv:=NI ((s1.depths).length)) (yv:=NI 1) rfl rfl rfl (Ah _ _ _ (by omega)) (gS (XR (xv:= .int .i64 ((((((Ac0 (ch.getD ((i)%(ch.length)) 0) ((s1.depths.length+1:Nat):Int)))+((((s1.depths).length:Nat):Int))))+(((1:Nat):Int))))) (yv:=NI (((s1.depths).length)+(1))) rfl rfl rfl (Wf _ (ch.getD ((i)%(ch.length)) 0) (s1.depths.length) _ rfl) (gS (XR (xv:= .int .i64 ((AdW (ch.getD ((i)%(ch.length)) 0) ((s1.depths.length+1:Nat):Int)))) (yv:= .int .i64 (((1:Nat):Int))) rfl rfl rfl (KO _ ((AdW (ch.getD ((i)%(ch.length)) 0) ((s1.depths.length+1:Nat):Int))) (((1:Nat):Int)) (by omega)) ?_)))))))));exact hJK27 _ _ ⟨(((AdW (ch.getD ((i)%(ch.length)) 0) ((s1.depths.length+1:Nat):Int)))-(((1:Nat):Int))),t,g,l,o,r,x,j,T9,ab,rfl,p,q,f,rfl,hE,hr_r4,hr_r5,c,if_pos al,trivial⟩
   exact hJK27 _ _ ⟨-1,t,g,l,o,r,x,j,T9,ab,rfl,p,q,f,rfl,hE,hr_r4,hr_r5,c,if_neg al,trivial⟩
  refine gS (X6 LL (XW (X1 hr_r8) j) (gS (XQ (a:=((s.depths).length:Nat)) (b:=(1024:Nat)) rfl rfl (Ek _ _ _ _) (gO fun _=>DY (NI s.total) rfl rfl (gF rfl) (fun hG89=>Aa7 x ⟨rfl,rfl⟩) (M3 (gO fun _=>DY (.bool (decide ((131072)<=(s.total)))) rfl rfl (gF rfl) (fun hG90=>XQ (a:=((s.total:Nat):Int)) (b:=((131072:Nat):Int)) (JC rfl hG90) rfl (Ek _ .i64 (s.total) (131072)) ⟨rfl,rfl⟩) (M3 (gS (Zn rfl rfl (fun hA=>(JC rfl (U4 hA))) fun bb91 hbb92=> ?_)))))))));refine cB (bb91) rfl (fun au=> ?_) fun au=> ?_
  ·subst hbb92;refine gS (XR (xv:=NI s.at_) (yv:=NI 1) r rfl rfl (Ah _ _ _ (by omega)) (Adj (⟨_,rfl⟩:∃v:AbI,(AbR none 0 0)=v) fun nx8 hnx8=> ?_));have hx8n:OG w.heap.size 3 1 A1 bh nx8 ([]:List Int):=hnx8▸Abg _ _ _ _ _;have b4:Ae nx8 r4:=fun k h=>by rw[<-hnx8]at h;cases h
   have b5:Ae r4 nx8:=fun k _ h=>by rw[<-hnx8]at h;cases h
   have b6:Ae nx8 r5:=fun k h=>by rw[<-hnx8]at h;cases h
   have b7:Ae r5 nx8:=fun k _ h=>by rw[<-hnx8]at h;cases h
   exact hJK21 _ _ ⟨nx8,⟨s.at_+1,0,[],s.packs,s.bases⟩,t,g,l,o,f,rfl,p,q,f,((show _=(AbR none 0 0)from rfl).trans hnx8),rfl,rfl,hE,hr_r4,hr_r5,hx8n,SY au,b4,b6,b5,b7,trivial⟩
  subst hbb92;exact hJK21 _ _ ⟨r8,s,t,g,l,o,f,rfl,p,q,f,j,r,x,hE,hr_r4,hr_r5,hr_r8,SZ au,hap_r8_r4,hap_r8_r5,hap_r4_r8,hap_r5_r8,trivial⟩
 refine BA rfl l o ?_;have hie:i=sz.length:=by have h:=aq;omega
 rw[hie]at hs;exact⟨_,_,rfl,hs▸hr_r4,hs▸hr_r5,hE⟩
end Go.Proofs.YtfpekahfdalfkaaGreatDoor
