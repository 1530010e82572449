/- Part 5 of what stands behind these statements: laws and walks of the functions that are reached. Conditions: those that each theorem names. -/
import Derived.Test.YtbbbblinjomajaaGreatDoorR4
set_option linter.unusedVariables false
set_option linter.unusedSimpArgs false
namespace Go.Proofs.YtbbbblinjomajaaGreatDoor
open _root_.Go renaming World->Acs,Value->Acr,TypeId->Acz,Program->AcN,Operand->AcD
open _root_.Go.Proofs.Tryz renaming prog->Acu
open _root_.Go.Instr renaming buildSlice->Ac1,build->Adu,index->Ag1
open _root_.List renaming map_toArray->AcJ,map_cons->AcL,map_nil->AcR,length_append->Acx,getElem?_append_right->AdD,append_assoc->AcV,length_pos_iff->AfZ,mem_append->Adf,mem_singleton->Ada,length_cons->AcK,getD_eq_getElem?_getD->AcA,getElem?_eq_getElem->AcG,length_take->AcS,length_nil->AcQ,take_length->AdY,toArray->Ac4,append_toArray->Adh,cons_append->Ac3,nil_append->Ac9,mem_cons->Ac8,not_mem_nil->Adx,size_toArray->Ac6,getElem?_toArray->Adw,getElem?_eq_none->Ad5,getElem?_cons_zero->AfE,replicate->Ady,length_replicate->Ade
open _root_.Go.Sem renaming run_bind->AcC,run_pure->AcE
open _root_.Go.Result renaming andThen_ok->AcB,andThen->Adj
open _root_.Nat renaming le_refl->Acy,le_trans->Acw,le_add_right->Aeh,zero_le->AcO,le_of_ble_eq_true->AcF,lt_of_lt_of_le->AdO,blt->Aef
open _root_.And renaming intro->Adv
open _root_.Int renaming toNat_natCast->AcX
open _root_.Bool renaming or_false->Age,and_eq_true->AcZ,or_eq_true->Ad7
open _root_.Go.Lib renaming uvarint->AcT,byteCells->Acv,byteCells_length->AcH
open _root_.Go.World.grownBy renaming refl->Ac0
open _root_.Go.Value renaming slice->AcI,ownBlock->Adc
open _root_.Option renaming bind_some->AcP,bind_none->Adt,bind_eq_some_iff->Aea
open _root_.Array renaming replicate->Aee,getD_eq_getD_getElem?->Adi,getElem?_append->AfN,getElem?_replicate->Aex
open Go.RowKit
section
variable {base : Nat} {w w' wb : Acs} {g : Nat} {H H' : Dk} {D D' : Aj}
structure DkW (wb w : Acs) (g : Nat) (H : Dk) (D : Aj) (w' : Acs) (H' : Dk) (D' : Aj) : Prop where
 g:DkG wb w' g H' D'
 chg:Chg (BR H D.files.length) w w'
 foot:∀i,BR H' D'.files.length i->BR H D.files.length i\/w.heap.size<=i
theorem DkG.stepW(h:DkG wb w g H D)(k:DkT wb.heap.size w H D w' H' D'):DkW wb w g H D w' H' D' :=⟨h.step k,k.chg,k.foot⟩
theorem DkG.appendW(h:DkG wb w g H D)(s:AhU)(vb:Acr)(b:AhU)(hrb:RB w vb b)(hoff:b= []\/∀i,vb.ownBlock=some i->¬BR H D.files.length i)(hbl:b.length<1099511627776)(hL:Eo D):
  Calls Acu 44 #[PQ g 0,St s,vb] w fun e w' =>∃H',e = .returned (NI (BU D s b).2)/\DkW wb w g H D w' H' (BU D s b).1:=by
 rw[<-h.hg];exact(S1 wb w h.ext H D h.st s vb b hrb hoff hbl hL).mono fun e w' ⟨H',he,hT⟩=>⟨H',he,by rw[h.hg];exact h.stepW hT⟩
theorem DkG.syncW(h:DkG wb w g H D)(s:AhU)(hL:Eo D):
  Calls Acu 46 #[PQ g 0,St s] w fun e w' =>∃H',e = .returned (NI (Cf D s).2)/\DkW wb w g H D w' H' (Cf D s).1:=by
 rw[<-h.hg];exact(WE wb w h.ext H D h.st s hL).mono fun e w' ⟨H',he,hT⟩=>⟨H',he,by rw[h.hg];exact h.stepW hT⟩
theorem DkG.moveW(h:DkG wb w g H D)(s t:AhU)(hL:Eo D):
  Calls Acu 81 #[PQ g 0,St s,St t] w fun e w' =>∃H',e = .returned (NI (De D s t).2)/\DkW wb w g H D w' H' (De D s t).1:=by
 rw[<-h.hg];exact(WF wb w h.ext H D h.st s t hL).mono fun e w' ⟨H',he,hT⟩=>⟨H',he,by rw[h.hg];exact h.stepW hT⟩
theorem DkG.dropW(h:DkG wb w g H D)(s:AhU)(hL:Eo D):
  Calls Acu 72 #[PQ g 0,St s] w fun e w' =>∃H',e = .returned (NI (BF D s).2)/\DkW wb w g H D w' H' (BF D s).1:=by
 rw[<-h.hg];exact(WG wb w h.ext H D h.st s hL).mono fun e w' ⟨H',he,hT⟩=>⟨H',he,by rw[h.hg];exact h.stepW hT⟩
theorem DkG.crashW(h:DkG wb w g H D)(vf:Acr)(fs:List Int)(hrf:RG 1 Mn w vf fs)(hL:Eo D):
  Calls Acu 21 #[PQ g 0,vf] w fun e w' =>∃H',e = .returned (.tuple #[])/\DkW wb w g H D w' H' (Bo D fs):=by
 rw[<-h.hg];exact(UY wb w h.ext H D h.st vf fs hrf hL).mono fun e w' ⟨H',he,hT⟩=>⟨H',he,by rw[h.hg];exact h.stepW hT⟩
theorem ActAt.setT{F:Nat->Nat}{v:Acr}{a:BP}{g:Nat}{cs:Array Acr}{t:Acz}{fr:Nat × Nat}(h:ActAt w F v a)(hc:Chg (fun i=>i=g) w w')(hb:w.heap[g]? =some (.cells cs t fr))(h1:t≠112)(h2:t≠9):ActAt w' F v a:=by
 have k:∀ {b:Nat} {cs' :Array Acr} {t' :Acz} {fr' :Nat × Nat},w.heap[b]? =some (.cells cs' t' fr')->t' ≠t->w'.heap[b]? =some (.cells cs' t' fr'):=fun e hne=>(hc.blk _ (bl e) fun q=>by rw[q,hb]at e;cases e;exact hne rfl).trans e;rcases h with ⟨bf,bn,e,q1,q2,q3,q4⟩ | ⟨hm,bs,bf,bn,e,q1,q2,q3,q4⟩ | ⟨bn,e,q1,q2⟩
 ·exact .inl ⟨bf,bn,e,k q1 (Ne.symm h1),k q2 (Ne.symm h2),q3,q4⟩
 ·exact .inr (.inl ⟨hm,bs,bf,bn,e,k q1 (Ne.symm h2),k q2 (Ne.symm h1),k q3 (Ne.symm h2),q4⟩)
 ·exact .inr (.inr ⟨bn,e,k q1 (Ne.symm h2),q2⟩)
theorem DkS.setT(h:DkS base w H D){g:Nat}{cs:Array Acr}{t:Acz}{fr:Nat × Nat}(hg:w.grownBy w' (some g))(hb:w.heap[g]? =some (.cells cs t fr))(h1:t≠82)(h2:t≠120)(h3:t≠5)(h4:t≠113)(h5:t≠112)(h6:t≠9):DkS base w' H D:=by
 have hc:Chg (fun i=>i=g) w w' :=Zw hg fun i e=> .inl (Option.some.inj e).symm;have hB:∀i,BR H D.files.length i->¬i=g:=fun i q e=>h.offT hb h1 h2 h3 h4 (e▸q);obtain⟨vs,hv⟩:=h.acts;exact⟨(hc.blk _ (bl h.blk) (hB _ (.inl rfl))).trans h.blk,h.now.chg hc (hB _ (.inr (.inl rfl))),h.kept.chg hc (hB _ (.inr (.inr (.inl rfl)))),h.ne,
  ⟨vs,CY hc hv.row (fun i hi=>hB i (.inr (.inr (.inr (.inl hi))))),hv.len,fun i hi=>(hv.at_ i hi).setT hc hb h5 h6⟩,
  h.files.chg hc (fun k hk=>⟨hB _ (.inr (.inr (.inr (.inr ⟨k,hk, .inl rfl⟩)))),fun i hi=>hB i (.inr (.inr (.inr (.inr ⟨k,hk, .inr hi⟩))))⟩),h.ok,h.lo⟩
theorem DkG.setT(h:DkG wb w g H D){b:Nat}{cs:Array Acr}{t:Acz}{fr:Nat × Nat}(hg:w.grownBy w' (some b))(hb:w.heap[b]? =some (.cells cs t fr))(hw:wb.heap.size<=b)(h1:t≠82)(h2:t≠120)(h3:t≠5)(h4:t≠113)(h5:t≠112)(h6:t≠9):DkG wb w' g H D:=
 ⟨(show Chg (fun i=>i=b) w w' from Zw hg fun i e=> .inl (Option.some.inj e).symm).ext h.ext (fun i q=>by have q:i=b:=q;omega),h.st.setT hg hb h1 h2 h3 h4 h5 h6,h.hg⟩
end
section
variable {P : AcN} {K : Acr -> Acs -> Prop} {ρ : Ah} {w : Acs} {d : Option Tmp} {ty : Acz} {pos : String} {af : Array Edge} {gd : Option (Nat × Bool)}
theorem Aby{f:FuncId}(hp:Plain P f){c:AcD}{args:Array AcD}{at_:Array Acz}{bd caps:Array Acr}(hc:Ab ρ c = .func (.func f) bd caps)(vs:Array Acr)(hv:bd++args.map (Ab ρ)++caps=vs) 
  (h:Calls P f vs w fun e w' =>∃v,e = .returned v/\K v w'):Yk P K ((execOp (Ab ρ) ⟨d, .call ⟨.value c,args,at_⟩,ty,pos,af,gd⟩).run P w):=by
 subst hv;refine Yk.enter (f:=f) (args:=bd++args.map (Ab ρ)++caps) (w' :=w) ?_ h;unfold execOp;simp[resolve,hc,Deferred.ofValue,invoke,hp _ w]
theorem AbB{f:FuncId}{c:AcD}{v u:Acr}{bd caps:Array Acr}{R:Dk->Acs->Prop}{at_:Array Acz}(hp:Plain P f)(hc:Ab ρ c=v)(hve:v = .func (.func f) bd caps) 
  (h:Calls P f (bd++caps) w fun e w' =>∃H',e = .returned u/\R H' w') (hk:∀H' w',R H' w' ->K u w'):Yk P K ((execOp (Ab ρ) ⟨d, .call ⟨.value c,#[],at_⟩,ty,pos,af,gd⟩).run P w):=
 Aby hp (hc.trans hve) _ (by simp) (h.mono fun e w' ⟨H',q1,q2⟩=>⟨_,q1,hk H' w' q2⟩)
theorem Z2{f:Fn}{x:AcD}{v:Acr}(hx:Ab ρ x=v)(hk:K (.func f #[v] #[]) w):Yk P K ((execOp (Ab ρ) ⟨d, .makeFunc f #[x] #[],ty,pos,af,gd⟩).run P w):=by
 refine Ab4 (v:= .func f #[v] #[]) ?_ hk;unfold execOp;simp[hx,Instr.makeFunc]
theorem Abt{t e:Acz}(ht:P.underlying t=some (.slice e))(he:∀w' :Acs,(sizeOf e).run P w' = .ok 1 w'){x y:AcD}{b i n c:Nat}{kd:IntKind}(hx:Ab ρ x = .slice (some ⟨b,0,none⟩) n c)(hy:Ab ρ y = .int kd (i:Int))(hi:i<n)(hk:K (.pointer (some ⟨b,i,none⟩)) w):Yk P K ((execOp (Ab ρ) ⟨d, .indexAddr t x y,ty,pos,af,gd⟩).run P w):=
 AaS ht he hx hy hi (by rw[Nat.zero_add];exact hk)
theorem AaF{t e:Acz}{x0:AcD}{a:Acr}(h0:Ab ρ x0=a)(hr:∀w:Acs,(Ac1 t 1 #[(0,a)]).run P w = .ok (.slice (some ⟨w.heap.size,0,none⟩) 1 1) (w.alloc (.cells #[a] e))) 
  (hk:∀n w',w.heap.size=n->w'.heap[n]? =some (.cells ([a]).toArray e (0,0))->Ext w w' ->w'.heap.size=n+1->K (.slice (some ⟨n,0,none⟩) 1 1) w'):Yk P K ((execOp (Ab ρ) ⟨d, .buildSlice t 1 #[(0,x0)],ty,pos,af,gd⟩).run P w):=by
 have hr' :(execOp (Ab ρ) ⟨d, .buildSlice t 1 #[(0,x0)],ty,pos,af,gd⟩).run P w = .ok (.value (.slice (some ⟨w.heap.size,0,none⟩) 1 1)) (w.alloc (.cells #[a] e)):=by
  unfold execOp;simp only[AcJ,AcL,AcR,h0,AcC,hr,AcB,AcE]
 rw[hr'];exact hk _ _ rfl (heap_alloc_new w _) ((Below.refl _ _).alloc (Acy _) _) (by simp)
theorem AaG{t e:Acz}{x0 x1:AcD}{a b:Acr}(h0:Ab ρ x0=a)(h1:Ab ρ x1=b)(hr:∀w:Acs,(Ac1 t 2 #[(0,a),(1,b)]).run P w = .ok (.slice (some ⟨w.heap.size,0,none⟩) 2 2) (w.alloc (.cells #[a,b] e))) 
  (hk:∀n w',w.heap.size=n->w'.heap[n]? =some (.cells ([a,b]).toArray e (0,0))->Ext w w' ->w'.heap.size=n+1->K (.slice (some ⟨n,0,none⟩) 2 2) w'):Yk P K ((execOp (Ab ρ) ⟨d, .buildSlice t 2 #[(0,x0),(1,x1)],ty,pos,af,gd⟩).run P w):=by
 have hr' :(execOp (Ab ρ) ⟨d, .buildSlice t 2 #[(0,x0),(1,x1)],ty,pos,af,gd⟩).run P w = .ok (.value (.slice (some ⟨w.heap.size,0,none⟩) 2 2)) (w.alloc (.cells #[a,b] e)):=by
  unfold execOp;simp only[AcJ,AcL,AcR,h0,h1,AcC,hr,AcB,AcE]
 rw[hr'];exact hk _ _ rfl (heap_alloc_new w _) ((Below.refl _ _).alloc (Acy _) _) (by simp)
theorem Abu{t e:Acz}{x0 x1 x2:AcD}{a b c:Acr}(h0:Ab ρ x0=a)(h1:Ab ρ x1=b)(h2:Ab ρ x2=c)(hr:∀w:Acs,(Ac1 t 3 #[(0,a),(1,b),(2,c)]).run P w = .ok (.slice (some ⟨w.heap.size,0,none⟩) 3 3) (w.alloc (.cells #[a,b,c] e))) 
  (hk:∀n w',w.heap.size=n->w'.heap[n]? =some (.cells ([a,b,c]).toArray e (0,0))->Ext w w' ->w'.heap.size=n+1->K (.slice (some ⟨n,0,none⟩) 3 3) w'):Yk P K ((execOp (Ab ρ) ⟨d, .buildSlice t 3 #[(0,x0),(1,x1),(2,x2)],ty,pos,af,gd⟩).run P w):=by
 have hr' :(execOp (Ab ρ) ⟨d, .buildSlice t 3 #[(0,x0),(1,x1),(2,x2)],ty,pos,af,gd⟩).run P w = .ok (.value (.slice (some ⟨w.heap.size,0,none⟩) 3 3)) (w.alloc (.cells #[a,b,c] e)):=by
  unfold execOp;simp only[AcJ,AcL,AcR,h0,h1,h2,AcC,hr,AcB,AcE]
 rw[hr'];exact hk _ _ rfl (heap_alloc_new w _) ((Below.refl _ _).alloc (Acy _) _) (by simp)
end
def BD(g:Nat)(z:Af)(n:Nat)(t l:Bool):List Acr:= [PQ g 0]++refsC z++ [NI n, .bool t, .bool l]
section
variable {g : Nat} {z : Af} {n : Nat} {t l : Bool}
theorem Gy:(BD g z n t l).length=40:=by unfold BD;rw[Acx,Acx,Am];rfl
theorem Ka:(BD g z n t l)[0]? =some (PQ g 0):=rfl
theorem QZ(k:Nat):(BD g z n t l)[37+k]? = [NI n, .bool t, .bool l][k]? :=by
 unfold BD;rw[AdD (by rw[Acx,Am];simp),Acx,Am]
 congr 1
 simp
theorem Q1:(BD g z n t l)[37]? =some (NI n):=QZ 0
theorem Q2:(BD g z n t l)[38]? =some (.bool t):=QZ 1
theorem Q3:(BD g z n t l)[39]? =some (.bool l):=QZ 2
theorem Oe(k:Nat)(v:Acr):(BD g z n t l).set (37+k) v= [PQ g 0]++refsC z++ [NI n, .bool t, .bool l].set k v:=by
 unfold BD;rw[List.set_append_right _ _ (by rw[Acx,Am];simp),Acx,Am]
 congr 2
 simp
theorem Of(m:Nat):(BD g z n t l).set 37 (NI m)=BD g z m t l:=Oe 0 _
theorem Td(b:Bool):(BD g z n t l).set 38 (.bool b)=BD g z n b l:=Oe 1 _
theorem Te(b:Bool):(BD g z n t l).set 39 (.bool b)=BD g z n t b:=Oe 2 _
theorem Aa9{w:Acs}{gj:Nat}{ty:Acz}{fr:Nat × Nat}{v:Acr}(hb:w.heap[gj]? =some (.cells (BD g z n t l).toArray ty fr))(hv:v=PQ gj 1):PR (refsC z) v w:=⟨gj,1,hv,fun j u hu=>by
 refine Ac hb ?_;have hj:=(List.getElem?_eq_some_iff.1 hu).1;unfold BD;rw[AcV,AdD (by simp),List.getElem?_append_left (by simp;omega)]
 simpa using hu⟩
end
section
variable {wb w w' w2 : Acs} {g gj : Nat} {H H' H2 : Dk} {D D' D2 : Aj}
theorem DkW.off(hW:DkW wb w g H D w' H' D'){v:Acr}{b:AhU}(hr:RB w v b)(ho:b= []\/∀i,v.ownBlock=some i->¬BR H D.files.length i):b= []\/∀i,v.ownBlock=some i->¬BR H' D'.files.length i:=by
 rcases ho with h0 | ho
 ·exact .inl h0
 ·by_cases hb:b= []
  ·exact .inl hb
  ·refine .inr fun i hi q=> ?_;rcases hW.foot i q with q | q
   ·exact ho i hi q
   ·have:=RB.lt hr (AfZ.2 hb) hi;omega
theorem DkW.ofExt(h:DkG wb w g H D)(k:Ext w w'):DkW wb w g H D w' H D:=⟨h.keep k,Ab8 k,fun _ q=> .inl q⟩
abbrev Ab9:=@DkW.ofExt
theorem DkW.trans(h:DkW wb w g H D w' H' D')(k:DkW wb w' g H' D' w2 H2 D2):DkW wb w g H D w2 H2 D2:=
 ⟨k.g,h.chg.trans k.chg h.foot,fun i q=>(k.foot i q).elim (h.foot i) fun r=> .inr (Acw h.chg.size r)⟩
def YR(H:Dk)(n gj:Nat)(k:Nat):Prop:=BR H n k\/k=gj
structure DkX (wb w : Acs) (g gj : Nat) (H : Dk) (D : Aj) (w' : Acs) (H' : Dk) (D' : Aj) : Prop where
 g:DkG wb w' g H' D'
 chg:Chg (YR H D.files.length gj) w w'
 foot:∀i,BR H' D'.files.length i->BR H D.files.length i\/w.heap.size<=i
theorem Chg.monoJ{B C:Nat->Prop}(h:Chg B w w')(hB:∀k,B k->C k):Chg C w w' :=⟨h.os,h.tape,h.output,h.size,fun k hk hn=>h.blk k hk fun q=>hn (hB k q)⟩
theorem DkX.ofW(h:DkW wb w g H D w' H' D'):DkX wb w g gj H D w' H' D' :=⟨h.g,h.chg.monoJ fun k q=> .inl q,h.foot⟩
theorem DkX.ofExt(h:DkG wb w g H D)(k:Ext w w'):DkX wb w g gj H D w' H D:= .ofW (.ofExt h k)
theorem DkX.keep(h:DkX wb w g gj H D w' H' D')(k:Ext w' w2):DkX wb w g gj H D w2 H' D' :=⟨h.g.keep k,h.chg.keep k,h.foot⟩
theorem DkX.trans(h:DkX wb w g gj H D w' H' D')(k:DkX wb w' g gj H' D' w2 H2 D2):DkX wb w g gj H D w2 H2 D2:=
 ⟨k.g,h.chg.trans k.chg fun i q=>q.elim (fun q=>(h.foot i q).imp .inl id) fun q=> .inl (.inr q),fun i q=>(k.foot i q).elim (h.foot i) fun r=> .inr (Acw h.chg.size r)⟩
theorem DkX.setT(h:DkX wb w g gj H D w' H' D'){b:Nat}{cs:Array Acr}{t:Acz}{fr:Nat × Nat}(hg:w'.grownBy w2 (some b))(hb:w'.heap[b]? =some (.cells cs t fr))(hw:w.heap.size<=b\/b=gj)(hwb:wb.heap.size<=b)(h1:t≠82)(h2:t≠120)(h3:t≠5)(h4:t≠113)(h5:t≠112)(h6:t≠9):DkX wb w g gj H D w2 H' D' :=
 ⟨h.g.setT hg hb hwb h1 h2 h3 h4 h5 h6,Ab3 h.chg hg (hw.elim .inr fun q=> .inl (.inr q)),h.foot⟩
abbrev AbZ:=@DkX.setT
theorem RefsOw.chg{b:Nat}{z:Af}(h:RefsOw b w z)(hD:DkG wb w g H D)(hc:Chg (BR H D.files.length) w w'):RefsOw b w' z:=
 ⟨hD.og hc h.br (by decide) (by decide) (by decide) (by decide),hD.og hc h.tg (by decide) (by decide) (by decide) (by decide),hD.og hc h.lg (by decide) (by decide) (by decide) (by decide)⟩
theorem OG.setT{α:Type}{b k x:Nat}{t ty:Acz}{enc:α->List Acr}{v:Acr}{l:List α}{cs:Array Acr}{fr:Nat × Nat}(h:OG b t k enc w v l)(hg:w.grownBy w' (some x))(hb:w.heap[x]? =some (.cells cs ty fr))(hne:t≠ty):OG b t k enc w' v l:=h.kept hg (h.off hb hne)
theorem RefsOw.setT{b x:Nat}{z:Af}{ty:Acz}{cs:Array Acr}{fr:Nat × Nat}(h:RefsOw b w z)(hg:w.grownBy w' (some x))(hb:w.heap[x]? =some (.cells cs ty fr))(h1:94≠ty)(h2:97≠ty):RefsOw b w' z:=
 ⟨h.br.setT hg hb h1,h.tg.setT hg hb h1,h.lg.setT hg hb h2⟩
abbrev AbN:=@RefsOw.setT
structure JnAt (w : Acs) (gj g : Nat) (J : Jn) (z : Af) : Prop where
 blk:w.heap[gj]? =some (.cells (BD g z J.size J.torn J.lost).toArray 84 (0,0))
 rf:RefsOw 0 w z
 eq:z.1=J.refs
theorem JnAt.keep{J:Jn}{z:Af}(h:JnAt w gj g J z)(k:Ext w w'):JnAt w' gj g J z:=⟨ZG k h.blk,h.rf.keep k,h.eq⟩
theorem JnAt.chg{J:Jn}{z:Af}(h:JnAt w gj g J z){g2:Nat}(hD:DkG wb w g2 H D)(hc:Chg (BR H D.files.length) w w'):JnAt w' gj g J z:=
 ⟨hD.box hc h.blk (by decide) (by decide) (by decide) (by decide),h.rf.chg hD hc,h.eq⟩
def JaAt(w:Acs)(gj:Nat)(H:Dk)(n:Nat)(v:Acr):JA->Prop
 | .clear=>v = .func (.func 29) #[PQ gj 0] #[]
 | .app s b=>∃f bj bb vb,v = .func (.func f) #[] #[PQ bj 0,PQ bb 0]/\((s=nwN/\f=78)\/(s=jrN/\f=43))/\w.heap[bj]? =some (.cells ([PQ gj 0]).toArray 27 (0,0))/\w.heap[bb]? =some (.cells ([vb]).toArray 43 (0,0))/\RB w vb b/\(b= []\/∀i,vb.ownBlock=some i->¬BR H n i)/\b.length<=45000
 | .sync s=>∃f bj,v = .func (.func f) #[] #[PQ bj 0]/\((s=nwN/\f=79)\/(s=jrN/\(f=82\/f=45)))/\w.heap[bj]? =some (.cells ([PQ gj 0]).toArray 27 (0,0))
 | .move=>∃bj,v = .func (.func 80) #[] #[PQ bj 0]/\w.heap[bj]? =some (.cells ([PQ gj 0]).toArray 27 (0,0))
theorem JaAt.step(hD:DkG wb w g H D)(hW:DkW wb w g H D w' H' D'){v:Acr}{a:JA}(h:JaAt w gj H D.files.length v a):JaAt w' gj H' D'.files.length v a:=by
 have bx:∀ {x:Nat} {cs:Array Acr} {t:Acz},w.heap[x]? =some (.cells cs t (0,0))->t=27\/t=43->w'.heap[x]? =some (.cells cs t (0,0)):=fun e ht=>by
  rcases ht with rfl | rfl <;> exact hD.box hW.chg e (by decide) (by decide) (by decide) (by decide)
 cases a with
 | clear=>exact h
 | app s b=>
  obtain⟨f,bj,bb,vb,e,q,h1,h2,h3,h4,h5⟩:=h;exact⟨f,bj,bb,vb,e,q,bx h1 (.inl rfl),bx h2 (.inr rfl),h3.chg hW.chg h4,hW.off h3 h4,h5⟩
 | sync s=>
  obtain⟨f,bj,e,q,h1⟩:=h;exact⟨f,bj,e,q,bx h1 (.inl rfl)⟩
 | move=>
  obtain⟨bj,e,h1⟩:=h;exact⟨bj,e,bx h1 (.inl rfl)⟩
theorem JaAt.ext{n:Nat}{v:Acr}{a:JA}(h:JaAt w gj H n v a)(k:Ext w w'):JaAt w' gj H n v a:=by
 cases a with
 | clear=>exact h
 | app s b=>
  obtain⟨f,bj,bb,vb,e,q,h1,h2,h3,h4,h5⟩:=h;exact⟨f,bj,bb,vb,e,q,ZG k h1,ZG k h2,h3.keep k,h4,h5⟩
 | sync s=>
  obtain⟨f,bj,e,q,h1⟩:=h;exact⟨f,bj,e,q,ZG k h1⟩
 | move=>
  obtain⟨bj,e,h1⟩:=h;exact⟨bj,e,ZG k h1⟩
structure JasAt (w : Acs) (gj : Nat) (H : Dk) (n : Nat) (vs : List Acr) (ac : List JA) : Prop where
 len:vs.length=ac.length
 at_:∀i,i<ac.length->JaAt w gj H n (vs.getD i undef) (ac.getD i .clear)
theorem JasAt.keep{n:Nat}{vs:List Acr}{ac:List JA}(h:JasAt w gj H n vs ac)(k:Ext w w'):JasAt w' gj H n vs ac:=⟨h.len,fun i hi=>(h.at_ i hi).ext k⟩
theorem JasAt.step{vs:List Acr}{ac:List JA}(h:JasAt w gj H D.files.length vs ac)(hD:DkG wb w g H D)(hW:DkW wb w g H D w' H' D'):JasAt w' gj H' D'.files.length vs ac:=⟨h.len,fun i hi=>(h.at_ i hi).step hD hW⟩
theorem jas1{n:Nat}{v:Acr}{a:JA}(h:JaAt w gj H n v a):JasAt w gj H n [v] [a]:=⟨rfl,fun i hi=>by
 have:i=0:=by simp at hi;omega
 subst this;exact h⟩
theorem XS{n:Nat}{v b:Acr}{a a2:JA}(h:JaAt w gj H n v a)(h2:JaAt w gj H n b a2):JasAt w gj H n [v,b] [a,a2]:=⟨rfl,fun i hi=>by
 match i,hi with
 | 0,_=>exact h
 | 1,_=>exact h2⟩
theorem YD{n:Nat}{v b c:Acr}{a a2 a3:JA}(h:JaAt w gj H n v a)(h2:JaAt w gj H n b a2)(h3:JaAt w gj H n c a3):JasAt w gj H n [v,b,c] [a,a2,a3]:=⟨rfl,fun i hi=>by
 match i,hi with
 | 0,_=>exact h
 | 1,_=>exact h2
 | 2,_=>exact h3⟩
end
section
variable {n : Nat} {D : Aj}
theorem DBd.addK{n k:Nat}{D:Aj}(h:DBd n D)(s:AhU){b:AhU}(hk:1<=k)(hb:b.length<=300*k):DBd (n+k) (Bg D s b):=by
 unfold Bg;split
 ·rename_i j _
  refine⟨h.quota,Acw h.refused (Aeh _ _),h.arm,Acw h.acts (Aeh _ _),Acw h.now (Aeh _ _),fun x hx=> ?_⟩;rcases List.mem_or_eq_of_mem_set hx with hx | rfl
  ·have:=h.files x hx;omega
  ·have:=h.file j;show((Ap D j).1++b).length<=_;rw[Acx];omega
 ·have h1:=(h.turned ⟨[],s,D.files.length⟩).mono (show n+1<=n+k by omega);refine⟨h1.quota,h1.refused,h1.arm,h1.acts,h1.now,fun x hx=> ?_⟩;rcases Adf.1 hx with hx | hx
  ·have:=h.files x hx;omega
  ·rw[Ada.1 hx];show b.length<=_;omega
theorem DBd.appendK{n k:Nat}{D:Aj}(h:DBd n D)(s:AhU){b:AhU}(hk:1<=k)(hb:b.length<=300*k):DBd (n+k) (BU D s b).1:=by
 unfold BU;split
 ·exact h.mono (Aeh _ _)
 ·split
  ·have h2:=h.mono (Aeh n k);have:=h.refused;exact⟨h2.quota,by show D.refused+1<=_;omega,h2.arm,h2.acts,h2.now,h2.files⟩
  ·split
   ·exact h.armed.mono (Aeh _ _)
   ·exact h.armed.addK s hk hb
theorem DBd.jact{n:Nat}{D:Aj}(h:DBd n D):∀(a:JA),(∀s b,a = .app s b->b.length<=45000)->DBd (n+150) (BB D a).1
 | .clear,_=>by
  show DBd (n+150) (if(BF D nwN).2=4 then((BF D nwN).1,0)else BF D nwN).1;split
  ·exact DBd.mono (n:=n+1) (h.drop nwN) (by omega)
  ·exact DBd.mono (n:=n+1) (h.drop nwN) (by omega)
 | .app s b,hb=>h.appendK s (by omega) (hb s b rfl)
 | .sync s,_=>(h.sync s).mono (by omega)
 | .move,_=>(h.move _ _).mono (by omega)
theorem DBd.jdo:∀(l:List JA) {n:Nat} {D:Aj},DBd n D->(∀a∈l,∀s b,a = .app s b->b.length<=45000)->DBd (n+150*l.length) (AL D l).1
 | [],n,D,h,_=>h
 | a :: r,n,D,h,hb=>by
  have h1:=h.jact a (hb a List.mem_cons_self);rw[EK];split
  ·exact h1.mono (by rw[AcK];omega)
  ·exact(DBd.jdo r h1 fun x hx=>hb x (List.mem_cons_of_mem _ hx)).mono (by rw[AcK];omega)
end
set_option maxRecDepth 100000
theorem IW{l:List JA}{i:Nat}(h:i<l.length):l.drop i=l.getD i .clear :: l.drop (i+1):=by
 rw[AcA,AcG h];simp
theorem Eb:Tryz.prog.underlying 27=some (.pointer 84):=by kernel_rfl
theorem DF:AC Acu 84 0 0:=fun b o w=>by simp[go_sem]
theorem Og:Plain Acu 44:=fun _ _=>by kernel_rfl
theorem Kb:Plain Acu 46:=fun _ _=>by kernel_rfl
theorem U1:Plain Acu 81:=fun _ _=>by kernel_rfl
theorem U2:Plain Acu 72:=fun _ _=>by kernel_rfl
theorem E9:AC Acu 84 4 39:=fun b o w=>by simp[go_sem]
theorem Q4:AC Acu 84 2 37:=fun b o w=>by simp[go_sem]
theorem Mz:Tryz.prog.underlying 141=some (.slice 50):=by kernel_rfl
theorem U3:∀w' :Acs,(sizeOf 50).run Acu w' = .ok 1 w' :=fun _=>by kernel_rfl
theorem U4:Tryz.prog.underlying 50=some (.func #[] #[28] false):=by kernel_rfl
set_option maxHeartbeats 1600000
theorem U5(wb w:Acs)(g:Nat)(H:Dk)(D:Aj)(hD:DkG wb w g H D)(gj:Nat)(z:Af)(n:Nat)(t l:Bool)(hj:w.heap[gj]? =some (.cells (BD g z n t l).toArray 84 (0,0)))(bj:Nat)(hbj:w.heap[bj]? =some (.cells ([PQ gj 0]).toArray 27 (0,0)))(bb:Nat)(vb:Acr)(b:AhU)(hbb:w.heap[bb]? =some (.cells ([vb]).toArray 43 (0,0)))(hr:RB w vb b)(hoff:b= []\/∀i,vb.ownBlock=some i->¬BR H D.files.length i)(hbl:b.length<=45000)(hL:Eo D):
  Calls Acu 78 #[PQ bj 0,PQ bb 0] w fun e w' =>∃H',e = .returned (NI (BU D nwN b).2)/\DkW wb w g H D w' H' ((BU D nwN b).1):=by
 refine gG (args:= [PQ bj 0,PQ bb 0]) Tryz.func78 rfl 9 rfl rfl ?_;have hE:=AbE w;refine gM0 [0,1,2,3,4,5,6] [5] [] fun c a=> ?_;have hj:=eb a hj;have hbj:=eb a hbj;have hbb:=eb a hbb;have hE:=hE.trans a;refine ys (YW Eb rfl rfl (Ac hbj rfl) zz) (ys (AbF rfl zz) (ys (AbD DF rfl zz) (ys (YW UE rfl rfl (Ac hj Ka) zz) (ys (YW G1 rfl rfl (Ac hbb rfl) zz) (yC (Y9 Og rfl rfl rfl ((((hD.keep hE)).appendW nwN vb b (hr.keep hE) hoff (by omega) hL).mono ?_)))))));rintro e f ⟨H2,rfl,hW⟩;refine⟨_,rfl,?_⟩;have hW:=(Ab9 hD hE).trans hW;refine AD rfl (vr (NI ((BU D nwN b).2)) rfl) ?_;exact⟨H2,rfl,hW⟩
theorem U6(wb w:Acs)(g:Nat)(H:Dk)(D:Aj)(hD:DkG wb w g H D)(gj:Nat)(z:Af)(n:Nat)(t l:Bool)(hj:w.heap[gj]? =some (.cells (BD g z n t l).toArray 84 (0,0)))(bj:Nat)(hbj:w.heap[bj]? =some (.cells ([PQ gj 0]).toArray 27 (0,0)))(bb:Nat)(vb:Acr)(b:AhU)(hbb:w.heap[bb]? =some (.cells ([vb]).toArray 43 (0,0)))(hr:RB w vb b)(hoff:b= []\/∀i,vb.ownBlock=some i->¬BR H D.files.length i)(hbl:b.length<=45000)(hL:Eo D):
  Calls Acu 43 #[PQ bj 0,PQ bb 0] w fun e w' =>∃H',e = .returned (NI (BU D jrN b).2)/\DkW wb w g H D w' H' ((BU D jrN b).1):=by
 refine gG (args:= [PQ bj 0,PQ bb 0]) Tryz.func43 rfl 9 rfl rfl ?_;have hE:=AbE w;refine gM0 [0,1,2,3,4,5,6] [5] [] fun c a=> ?_;have hj:=eb a hj;have hbj:=eb a hbj;have hbb:=eb a hbb;have hE:=hE.trans a;refine ys (YW Eb rfl rfl (Ac hbj rfl) zz) (ys (AbF rfl zz) (ys (AbD DF rfl zz) (ys (YW UE rfl rfl (Ac hj Ka) zz) (ys (YW G1 rfl rfl (Ac hbb rfl) zz) (yC (Y9 Og rfl rfl rfl ((((hD.keep hE)).appendW jrN vb b (hr.keep hE) hoff (by omega) hL).mono ?_)))))));rintro e f ⟨H2,rfl,hW⟩;refine⟨_,rfl,?_⟩;have hW:=(Ab9 hD hE).trans hW;refine AD rfl (vr (NI ((BU D jrN b).2)) rfl) ?_;exact⟨H2,rfl,hW⟩
theorem U7(wb w:Acs)(g:Nat)(H:Dk)(D:Aj)(hD:DkG wb w g H D)(gj:Nat)(z:Af)(n:Nat)(t l:Bool)(hj:w.heap[gj]? =some (.cells (BD g z n t l).toArray 84 (0,0)))(bj:Nat)(hbj:w.heap[bj]? =some (.cells ([PQ gj 0]).toArray 27 (0,0)))(hL:Eo D):
  Calls Acu 79 #[PQ bj 0] w fun e w' =>∃H',e = .returned (NI (Cf D nwN).2)/\DkW wb w g H D w' H' ((Cf D nwN).1):=by
 refine gG (args:= [PQ bj 0]) Tryz.func79 rfl 7 rfl rfl ?_;have hE:=AbE w;refine gS (YW Eb rfl rfl (Ac hbj rfl) (gS (AbF rfl (gS (AbD DF rfl (gS (YW UE rfl rfl (Ac hj Ka) (gS (Y2 Kb rfl rfl ((((hD.keep hE)).syncW nwN hL).mono ?_))))))))));rintro e a ⟨H2,rfl,hW⟩;refine⟨_,rfl,?_⟩;have hW:=(Ab9 hD hE).trans hW;refine AD rfl (vr (NI ((Cf D nwN).2)) rfl) ?_;exact⟨H2,rfl,hW⟩
theorem U8(wb w:Acs)(g:Nat)(H:Dk)(D:Aj)(hD:DkG wb w g H D)(gj:Nat)(z:Af)(n:Nat)(t l:Bool)(hj:w.heap[gj]? =some (.cells (BD g z n t l).toArray 84 (0,0)))(bj:Nat)(hbj:w.heap[bj]? =some (.cells ([PQ gj 0]).toArray 27 (0,0)))(hL:Eo D):
  Calls Acu 80 #[PQ bj 0] w fun e w' =>∃H',e = .returned (NI (De D nwN jrN).2)/\DkW wb w g H D w' H' ((De D nwN jrN).1):=by
 refine gG (args:= [PQ bj 0]) Tryz.func80 rfl 7 rfl rfl ?_;have hE:=AbE w;refine gS (YW Eb rfl rfl (Ac hbj rfl) (gS (AbF rfl (gS (AbD DF rfl (gS (YW UE rfl rfl (Ac hj Ka) (gS (Y9 U1 rfl rfl rfl ((((hD.keep hE)).moveW nwN jrN hL).mono ?_))))))))));rintro e a ⟨H2,rfl,hW⟩;refine⟨_,rfl,?_⟩;have hW:=(Ab9 hD hE).trans hW;refine AD rfl (vr (NI ((De D nwN jrN).2)) rfl) ?_;exact⟨H2,rfl,hW⟩
theorem U9(wb w:Acs)(g:Nat)(H:Dk)(D:Aj)(hD:DkG wb w g H D)(gj:Nat)(z:Af)(n:Nat)(t l:Bool)(hj:w.heap[gj]? =some (.cells (BD g z n t l).toArray 84 (0,0)))(bj:Nat)(hbj:w.heap[bj]? =some (.cells ([PQ gj 0]).toArray 27 (0,0)))(hL:Eo D):
  Calls Acu 82 #[PQ bj 0] w fun e w' =>∃H',e = .returned (NI (Cf D jrN).2)/\DkW wb w g H D w' H' ((Cf D jrN).1):=by
 refine gG (args:= [PQ bj 0]) Tryz.func82 rfl 7 rfl rfl ?_;have hE:=AbE w;refine gS (YW Eb rfl rfl (Ac hbj rfl) (gS (AbF rfl (gS (AbD DF rfl (gS (YW UE rfl rfl (Ac hj Ka) (gS (Y2 Kb rfl rfl ((((hD.keep hE)).syncW jrN hL).mono ?_))))))))));rintro e a ⟨H2,rfl,hW⟩;refine⟨_,rfl,?_⟩;have hW:=(Ab9 hD hE).trans hW;refine AD rfl (vr (NI ((Cf D jrN).2)) rfl) ?_;exact⟨H2,rfl,hW⟩
theorem Va(wb w:Acs)(g:Nat)(H:Dk)(D:Aj)(hD:DkG wb w g H D)(gj:Nat)(z:Af)(n:Nat)(t l:Bool)(hj:w.heap[gj]? =some (.cells (BD g z n t l).toArray 84 (0,0)))(bj:Nat)(hbj:w.heap[bj]? =some (.cells ([PQ gj 0]).toArray 27 (0,0)))(hL:Eo D):
  Calls Acu 45 #[PQ bj 0] w fun e w' =>∃H',e = .returned (NI (Cf D jrN).2)/\DkW wb w g H D w' H' ((Cf D jrN).1):=by
 refine gG (args:= [PQ bj 0]) Tryz.func45 rfl 7 rfl rfl ?_;have hE:=AbE w;refine gS (YW Eb rfl rfl (Ac hbj rfl) (gS (AbF rfl (gS (AbD DF rfl (gS (YW UE rfl rfl (Ac hj Ka) (gS (Y2 Kb rfl rfl ((((hD.keep hE)).syncW jrN hL).mono ?_))))))))));rintro e a ⟨H2,rfl,hW⟩;refine⟨_,rfl,?_⟩;have hW:=(Ab9 hD hE).trans hW;refine AD rfl (vr (NI ((Cf D jrN).2)) rfl) ?_;exact⟨H2,rfl,hW⟩
theorem Tf(wb w:Acs)(g:Nat)(H:Dk)(D:Aj)(hD:DkG wb w g H D)(gj:Nat)(z:Af)(n:Nat)(t l:Bool)(hj:w.heap[gj]? =some (.cells (BD g z n t l).toArray 84 (0,0)))(hL:Eo D):
  Calls Acu 29 #[PQ gj 0] w fun e w' =>∃H',e = .returned (NI (BB D .clear).2)/\DkW wb w g H D w' H' ((BB D .clear).1):=by
 refine gG (args:= [PQ gj 0]) Tryz.func29 rfl 12 rfl rfl ?_;have hE:=AbE w;refine gS (AbF rfl (gS (AbD DF rfl (gS (YW UE rfl rfl (Ac hj Ka) (gS (Y2 U2 rfl rfl ((((hD.keep hE)).dropW nwN hL).mono ?_))))))));rintro e f ⟨H2,rfl,hW⟩;refine⟨_,rfl,?_⟩;have hW:=(Ab9 hD hE).trans hW;refine gS (YX (a:=((BF D nwN).2:Nat)) (b:=(4:Nat)) rfl rfl (Ba _ _ _ _) ?_);refine cD rfl (fun c=> ?_) fun c=> ?_
 ·have hV:BB D .clear=BF D nwN:=if_neg c;refine AD rfl (vr (NI ((BF D nwN).2)) rfl) ?_;exact⟨H2,by rw[hV],by rw[hV];exact hW⟩
 have hV:BB D .clear=((BF D nwN).1,0):=if_pos (Decidable.not_not.1 c);refine AD rfl (vr (NI 0) rfl) ?_;exact⟨H2,by rw[hV],by rw[hV];exact hW⟩
theorem WO(wb w:Acs)(g:Nat)(H:Dk)(D:Aj)(hD:DkG wb w g H D)(gj:Nat)(z:Af)(n:Nat)(t l:Bool)(hj:w.heap[gj]? =some (.cells (BD g z n t l).toArray 84 (0,0)))(hL:Eo D){v:Acr}{a:JA}(h:JaAt w gj H D.files.length v a):
  ∃f bd caps,v = .func (.func f) bd caps/\Plain Acu f/\Calls Acu f (bd++caps) w fun e w' =>∃H',e = .returned (NI (BB D a).2)/\DkW wb w g H D w' H' ((BB D a).1):=by
 cases a with
 | clear=>exact⟨_,_,_,h,fun _ _=>by kernel_rfl,Tf wb w g H D hD gj z n t l hj hL⟩
 | app s b=>
  obtain⟨f,bj,bb,vb,e,⟨rfl,rfl⟩ | ⟨rfl,rfl⟩,h1,h2,h3,h4,h5⟩:=h
  ·exact⟨_,_,_,e,fun _ _=>by kernel_rfl,U5 wb w g H D hD gj z n t l hj bj h1 bb vb b h2 h3 h4 h5 hL⟩
  ·exact⟨_,_,_,e,fun _ _=>by kernel_rfl,U6 wb w g H D hD gj z n t l hj bj h1 bb vb b h2 h3 h4 h5 hL⟩
 | sync s=>
  obtain⟨f,bj,e,⟨rfl,rfl⟩ | ⟨rfl,rfl | rfl⟩,h1⟩:=h
  ·exact⟨_,_,_,e,fun _ _=>by kernel_rfl,U7 wb w g H D hD gj z n t l hj bj h1 hL⟩
  ·exact⟨_,_,_,e,fun _ _=>by kernel_rfl,U9 wb w g H D hD gj z n t l hj bj h1 hL⟩
  ·exact⟨_,_,_,e,fun _ _=>by kernel_rfl,Va wb w g H D hD gj z n t l hj bj h1 hL⟩
 | move=>
  obtain⟨bj,e,h1⟩:=h;exact⟨_,_,_,e,fun _ _=>by kernel_rfl,U8 wb w g H D hD gj z n t l hj bj h1 hL⟩
theorem F3(w:Acs)(g:Nat)(gj:Nat)(z:Af)(n:Nat)(t l:Bool)(hj:w.heap[gj]? =some (.cells (BD g z n t l).toArray 84 (0,0))):
  Calls Acu 40 #[PQ gj 0] w fun e w' =>e = .returned (NI (if l=true then 19 else 0))/\Ext w w' :=by
 refine gG (args:= [PQ gj 0]) Tryz.func40 rfl 9 rfl rfl ?_;have hE:=AbE w;refine gS (ZC Eb rfl (kB (rfl) (cF rfl (gS (AbF rfl (gS (AbD E9 rfl (gS (YW Uc rfl rfl (Ac hj Q3) ?_)))))))));refine cB (l) rfl (fun a=> ?_) fun a=> ?_
 ·refine AD rfl (vr (NI 19) rfl) ?_;exact⟨by rw[show l=true from a];rfl,hE⟩
 refine AD rfl (vr (NI 0) rfl) ?_;exact⟨by rw[show l=false from a];rfl,hE⟩
theorem Th(w:Acs)(g:Nat)(gj:Nat)(z:Af)(n:Nat)(t l:Bool)(hj:w.heap[gj]? =some (.cells (BD g z n t l).toArray 84 (0,0))):
  Calls Acu 18 #[PQ gj 0] w fun e w' =>e = .returned (NI n)/\Ext w w' :=by
 refine gG (args:= [PQ gj 0]) Tryz.func18 rfl 9 rfl rfl ?_;have hE:=AbE w;refine gS (ZC Eb rfl (kB (rfl) (cF rfl (gS (AbF rfl (gS (AbD Q4 rfl (gS (YW NB rfl rfl (Ac hj Q1) (AD rfl (vr (NI n) rfl) ?_))))))))));exact⟨rfl,hE⟩
theorem IX(wb w:Acs)(g:Nat)(H:Dk)(D:Aj)(hD:DkG wb w g H D)(gj:Nat)(z:Af)(n:Nat)(t l:Bool)(hj:w.heap[gj]? =some (.cells (BD g z n t l).toArray 84 (0,0)))(hlo:wb.heap.size<=gj)(rb:Nat)(vs:List Acr)(ac:List JA)(hrb:w.heap[rb]? =some (.cells vs.toArray 50 (0,0)))(o:JasAt w gj H D.files.length vs ac)(m:Nat)(hB:DBd m D)(hm:m+150*ac.length<=99000)(hbs:∀a∈ac,∀s b,a = .app s b->b.length<=45000):
  Calls Acu 28 #[PQ gj 0, .slice (some ⟨rb,0,none⟩) vs.length vs.length] w fun e w' =>∃H',e = .returned (NI (AL D ac).2)/\DkX wb w g gj H D w' H' (AL D ac).1/\w'.heap[gj]? =some (.cells (BD g z n t (l||decide ((AL D ac).2=9))).toArray 84 (0,0)):=by
 have hal:=o.len;have hvm:vs.length<=maxLen:=by simp only[maxLen];omega
 refine gG (args:= [PQ gj 0, .slice (some ⟨rb,0,none⟩) vs.length vs.length]) Tryz.func28 rfl 31 rfl rfl ?_;have hE:=AbE w;refine gS (Aac Mz rfl (gL (fun(ρ:Ah) (wz:Acs)=>∃i:Nat,∃Hi:Dk,∃Di:Aj,ρ 0=(PQ gj 0:Acr)/\ρ 1=(.slice (some ⟨rb,0,none⟩) vs.length vs.length:Acr)/\ρ 8=(.slice (some ⟨rb,0,none⟩) vs.length vs.length:Acr)/\ρ 9=(NI vs.length:Acr)/\ρ 10=(NI i:Acr)/\wz.heap[rb]? =some (.cells vs.toArray 50 (0,0))/\wz.heap[gj]? =some (.cells (BD g z n t l).toArray 84 (0,0))/\DkW wb w g H D wz Hi Di/\JasAt wz gj Hi Di.files.length vs ac/\(i<=ac.length)/\(AL D ac=AL Di (ac.drop i))/\(DBd (m+150*i) Di)/\True) (fun ρ _=>ac.length-(intOf (ρ 10)).toNat) ⟨0,H,D,rfl,rfl,rfl,rfl,rfl,hrb,hj,Ab9 hD hE,o.keep hE,AcO _,rfl,hB,trivial⟩ ?_));clear hE;clear hrb hj;rintro ab w5 ⟨i,Hi,Di,c,T1,p,q,f,hrb,hj,hW,hA,hi,hq,hBi,-⟩;have q10:=f;refine gS (YX (a:=(i:Nat)) (b:=(vs.length:Nat)) f q (Bf _ _ _ _) ?_);refine cD rfl (fun k=> ?_) fun k=> ?_
 ·have hlt:i<ac.length:=by have h:=k;rw[hal]at h;exact h
  have hcell:vs[i]? =some (vs.getD i undef):=by rw[AcA,AcG (by rw[hal];exact hlt)];rfl
  refine gS (Abt (i:=i) Mz U3 p f (by rw[hal];exact hlt) (gS (YW U4 rfl rfl (Ac hrb hcell) ?_)));obtain⟨fi,bi,ci,hvi,hpl,hcl⟩:=WO wb w5 g Hi Di hW.g gj z n t l hj (hBi.lt (by omega)) (hA.at_ i hlt);refine gS (AbB hpl rfl hvi hcl fun H2 r hW2=> ?_);have hW3:=hW.trans hW2;have hrb:=hW.g.box hW2.chg hrb (by decide) (by decide) (by decide) (by decide);have hj:=hW.g.box hW2.chg hj (by decide) (by decide) (by decide) (by decide);have ae:=hA.step hW.g hW2;refine gS (YX (a:=((BB Di (ac.getD i .clear)).2:Nat)) (b:=(0:Nat)) rfl rfl (Ba _ _ _ _) ?_);refine cD rfl (fun j=> ?_) fun j=> ?_
  ·have hjo:=hj;cases l
   ·have hX:DkX wb w g gj H D r H2 (BB Di (ac.getD i .clear)).1:= .ofW hW3;refine gS (AbF c (gS (AbD E9 rfl (gS (YW Uc rfl rfl (Ac hj Q3) (gS (YX (a:=((BB Di (ac.getD i .clear)).2:Nat)) (b:=(9:Nat)) rfl rfl (AK _ _ _ _) (gS (Zx rfl rfl (gS (AbF c (gS (AbD E9 rfl (gS (Y1 (i:=39) (v:= .bool (decide (((BB Di (ac.getD i .clear)).2:Nat)=(9)))) rfl rfl hj (by rw[Gy];decide) UL rfl rfl fun u x af ai=> ?_)))))))))))))));have hX:DkX wb w g gj H D u H2 (BB Di (ac.getD i .clear)).1:=AbZ hX af hj (.inr rfl) hlo (by decide) (by decide) (by decide) (by decide) (by decide) (by decide);clear hj;have hj:u.heap[gj]? =some (.cells (BD g z n t (decide (((BB Di (ac.getD i .clear)).2:Nat)=(9)))).toArray 84 (0,0)):=AA x (Te (decide (((BB Di (ac.getD i .clear)).2:Nat)=(9))));clear x;have aj:=bl hj;refine AD rfl (vr (NI ((BB Di (ac.getD i .clear)).2)) rfl) ?_;have hV:AL D ac=BB Di (ac.getD i .clear):=by rw[hq,IW hlt,EK,if_pos j]
    exact⟨H2,by rw[hV],by rw[hV];exact hX,by rw[hV];exact hj⟩
   have hX:DkX wb w g gj H D r H2 (BB Di (ac.getD i .clear)).1:= .ofW hW3;refine gS (AbF c (gS (AbD E9 rfl (gS (YW Uc rfl rfl (Ac hj Q3) (gS (Zi rfl rfl (gS (AbF c (gS (AbD E9 rfl (gS (Y1 (i:=39) (v:= .bool (true)) rfl rfl hj (by rw[Gy];decide) UL rfl rfl fun y aa ag ak=> ?_)))))))))))));have hX:DkX wb w g gj H D y H2 (BB Di (ac.getD i .clear)).1:=AbZ hX ag hj (.inr rfl) hlo (by decide) (by decide) (by decide) (by decide) (by decide) (by decide);clear hj;have hj:y.heap[gj]? =some (.cells (BD g z n t true).toArray 84 (0,0)):=AA aa (Te true);clear aa;have al:=bl hj;refine AD rfl (vr (NI ((BB Di (ac.getD i .clear)).2)) rfl) ?_;have hV:AL D ac=BB Di (ac.getD i .clear):=by rw[hq,IW hlt,EK,if_pos j]
   exact⟨H2,by rw[hV],by rw[hV];exact hX,by rw[hV];exact hj⟩
  have hst:¬(BB Di (ac.getD i .clear)).2≠0:=j;have hq3:AL D ac=AL (BB Di (ac.getD i .clear)).1 (ac.drop (i+1)):=by rw[hq,IW hlt,EK,if_neg hst]
  have ah:=hBi.jact (ac.getD i .clear) (hbs _ (Cb .clear hlt));refine gS (Y4 (xv:=NI i) (yv:=NI 1) f rfl rfl (AG _ _ _ (by omega)) (gK (Adv ⟨i+1,H2,(BB Di (ac.getD i .clear)).1,c,T1,p,q,rfl,hrb,hj,hW3,ae,by omega,hq3,ah,trivial⟩ ?_)));show ac.length-(intOf (NI ((i)+(1)))).toNat<ac.length-(intOf (ab 10)).toNat;rw[q10];simp only[intOf,AcX];omega
 refine AD rfl (vr (NI 0) rfl) ?_;have hie:i=ac.length:=by have h:=k;rw[hal]at h;omega
 have hV:AL D ac=(Di,0):=by rw[hq,hie,List.drop_length];rfl
 exact⟨Hi,by rw[hV],by rw[hV];exact .ofW hW,by rw[hV,show decide ((Di,0).2=9)=false from rfl,Age];exact hj⟩
theorem Ti:Plain Acu 56:=fun _ _=>by kernel_rfl
theorem Tj:Plain Acu 58:=fun _ _=>by kernel_rfl
theorem Tk:Plain Acu 60:=fun _ _=>by kernel_rfl
theorem IY(w0 w:Acs)(h:Ext w0 w)(gb:Nat)(hgb:w0.heap.size<=gb)(vb:Acr)(l:Bs)(hb:w.heap[gb]? =some (.cells ([vb]).toArray 43 (0,0)))(hr:RB w vb l)(n:Nat)(hl:l.length+64<=140737488355328)(hn:n<=9223372036854775807):
  Calls Acu 55 #[NI n,PQ gb 0] w fun e w' =>∃v',e = .returned (.tuple #[])/\w'.heap[gb]? =some (.cells ([v']).toArray 43 (0,0))/\w'.ownsRow w.heap.size 5 1 v' (l++AcT n).length (Acv (l++AcT n))/\w.grownBy w' (some gb):=by
 have hgl:=(bl hb);have hgr:=Ac0 w (some gb);refine gG (args:= [NI n,PQ gb 0]) Tryz.func55 rfl 9 rfl rfl ?_;have hE:=AbE w;refine gS (YW G1 rfl rfl (Ac hb rfl) (gS (Y2 Ti rfl rfl ((Ps _ vb (l) (hr.keep hE) (by omega) n (by omega)).mono ?_))));rintro e j ⟨b,rfl,c⟩;refine⟨_,rfl,?_⟩;have o:=hE.size;have p:=h.size;have k:OB b gb:=Bd c.own (bl hb);have hgr:w.grownBy j (some gb):=Aa hgr c.ext.grown (fun _ e=>by cases e);have a:=c.own;have hb:=eb c.ext hb;refine gS (AbG (vs:= [b,NI 0]) rfl rfl (gS (AbG (vs:= [b,NI 0]) rfl rfl (gS (Y1 (i:=0) (v:=b) rfl rfl hb (AcF rfl) Ms (CE a).1 (CE a).2 fun m f g q=> ?_)))));have hgr:w.grownBy m (some gb):=Aa hgr g (fun _ e=> .inl e);clear hE;clear hb;have hb:=f;clear f;have r:=bl hb;refine Gg rfl ?_;have a:=EG a g k;exact⟨_,rfl,hb,AJ a (by omega),hgr⟩
theorem FI(w0 w:Acs)(h:Ext w0 w)(gb:Nat)(hgb:w0.heap.size<=gb)(vb:Acr)(l:Bs)(hb:w.heap[gb]? =some (.cells ([vb]).toArray 43 (0,0)))(hr:RB w vb l)(s:Bs)(hl:l.length+s.length+64<=140737488355328):
  Calls Acu 57 #[St s,PQ gb 0] w fun e w' =>∃v',e = .returned (.tuple #[])/\w'.heap[gb]? =some (.cells ([v']).toArray 43 (0,0))/\w'.ownsRow w.heap.size 5 1 v' (l++AF s).length (Acv (l++AF s))/\w.grownBy w' (some gb):=by
 have hgl:=(bl hb);have hgr:=Ac0 w (some gb);refine gG (args:= [St (s),PQ gb 0]) Tryz.func57 rfl 6 rfl rfl ?_;have hE:=AbE w;refine gS (YW G1 rfl rfl (Ac hb rfl) (gS (Y2 Tj rfl rfl ((HA _ vb (l) (hr.keep hE) s (by omega)).mono ?_))));rintro e j ⟨c,rfl,b⟩;refine⟨_,rfl,?_⟩;have n:=hE.size;have o:=h.size;have k:OB c gb:=Bd b.own (bl hb);have hgr:w.grownBy j (some gb):=Aa hgr b.ext.grown (fun _ e=>by cases e);have a:=b.own;have hb:=eb b.ext hb;refine gS (Y1 (i:=0) (v:=c) rfl rfl hb (AcF rfl) Ms (CE a).1 (CE a).2 fun m f g p=> ?_);have hgr:w.grownBy m (some gb):=Aa hgr g (fun _ e=> .inl e);clear hE;clear hb;have hb:=f;clear f;have q:=bl hb;refine Gg rfl ?_;have a:=EG a g k;exact⟨_,rfl,hb,AJ a (by omega),hgr⟩
theorem FJ(w0 w:Acs)(b:Ext w0 w)(gb:Nat)(hgb:w0.heap.size<=gb)(vb:Acr)(l:Bs)(hb:w.heap[gb]? =some (.cells ([vb]).toArray 43 (0,0)))(hr:RB w vb l)(id:B6)(hl:l.length+64<=140737488355328):
  Calls Acu 59 #[AB id.1,PQ gb 0] w fun e w' =>∃v',e = .returned (.tuple #[])/\w'.heap[gb]? =some (.cells ([v']).toArray 43 (0,0))/\w'.ownsRow w.heap.size 5 1 v' (l++id.1).length (Acv (l++id.1))/\w.grownBy w' (some gb):=by
 have hgl:=(bl hb);have hgr:=Ac0 w (some gb);refine gG (args:= [AB id.1,PQ gb 0]) Tryz.func59 rfl 6 rfl rfl ?_;have hE:=AbE w;refine gS (AbU (vr (AB id.1) rfl) fun n g o h c t=> ?_);have u:=hE.size;have x:=b.size;have hgr:w.grownBy g (some gb):=Aa hgr c.grown (fun _ e=>by cases e);have p:=h;clear h;have y:n<g.heap.size:=by omega
 have z:=AO (bl hb) o;have hb:=eb c hb;have hE:=hE.trans c;refine gS (YW G1 rfl rfl (Ac hb rfl) (gS (Zs rfl p VT rfl (by exact Ar id.2) (gS (Y2 Tk rfl rfl ((IL _ vb (l) (hr.keep hE) (by omega) id).mono ?_))))));rintro e q ⟨j,rfl,f⟩;refine⟨_,rfl,?_⟩;have b:=b.trans c;have aa:=hE.size;have ab:=b.size;have r:OB j gb:=Bd f.own (bl hb);have hgr:w.grownBy q (some gb):=Aa hgr f.ext.grown (fun _ e=>by cases e);have a:=f.own;have hb:=eb f.ext hb;refine gS (Y1 (i:=0) (v:=j) rfl rfl hb (AcF rfl) Ms (CE a).1 (CE a).2 fun s k m ac=> ?_);have hgr:w.grownBy s (some gb):=Aa hgr m (fun _ e=> .inl e);clear hE;clear hb;have hb:=k;clear k;have ad:=bl hb;refine Gg rfl ?_;have a:=EG a m r;exact⟨_,rfl,hb,AJ a (by omega),hgr⟩
section
variable {P : AcN} {K : Acr -> Acs -> Prop} {ρ : Ah} {w : Acs} {d : Option Tmp} {ty : Acz} {pos : String} {af : Array Edge} {gd : Option (Nat × Bool)}
theorem AbC{src dst:Acz}{x:AcD}{a b:Acr}(hx:Ab ρ x=a)(hr:∀w:Acs,(convert src dst a).run P w = .ok b w)(hk:K b w):Yk P K ((execOp (Ab ρ) ⟨d, .convert src dst x,ty,pos,af,gd⟩).run P w):=by
 refine AbK (v:=b) (w' :=w) ?_ hk;unfold execOp;simp only[hx,AcC,hr,AcB,AcE]
end
theorem Vb{k:UInt8}(hk:k=83\/k=84)(w:Acs):(convert 5 9 (B8 k)).run Acu w = .ok (St [k]) w:=by
 rcases hk with rfl | rfl <;> kernel_rfl
theorem Oh{l:List Av}(hu:∀u∈l,u.name.length<=256)(hl:l.length<=1000)(i:Nat):((l.take i).flatMap Ck).length<=330000:=by
 have h1:=D8 (f:=Ck) (c:=330) (l:=l.take i) fun u hm=>NZ (hu u (List.mem_of_mem_take hm));have h2:(l.take i).length<=l.length:=by rw[AcS];omega
 omega
theorem Vc:Eu Acu 77 updC:=⟨⟨_,(Sr).choose_spec⟩,fun x=>AN (CF x) Qu⟩
theorem Tl(z:Int)(w:Acs):(Ac1 43 1 #[(0, .int .u8 z)]).run Acu w = .ok (.slice (some ⟨w.heap.size,0,none⟩) 1 1) (w.alloc (.cells #[.int .u8 z] 5)):=by kernel_rfl
theorem Lc(w:Acs)(k:UInt8)(hk:k=83\/k=84)(v:Acr)(b:Bs)(hr:RB w v b)(hl:b.length<=4611686018427):
  Calls Acu 41 #[B8 k,v] w fun e w' =>∃v',e = .returned v' /\w'.ownsRow w.heap.size 5 1 v' (recB k b).length (Acv (recB k b))/\Ext w w' :=by
 refine gG (args:= [B8 (k),v]) Tryz.func41 rfl 11 rfl rfl ?_;have hE:=AbE w;refine gS (AbC rfl (Vb hk) (gS (Abd G1 u5 EI (Zn (hr.keep hE) rfl) (gS (Abp (l:=([k]:AhU)) (m:=b) rfl rfl (by simp only[Acx,AcK,AcQ];omega) (gS (Y2 Tj rfl rfl ((HA _ (AcI none 0 0) [] (RB.nil _) ((([k]:AhU):AhU)++b) (by simp only[Acx,AcK,AcQ];omega)).mono ?_))))))));rintro e g ⟨a,rfl,c⟩;refine⟨_,rfl,?_⟩;have f:=c.own;refine AD rfl (vr a rfl) ?_;have hE:=hE.trans c.ext;exact⟨a,rfl,f,hE⟩
theorem Ld(w:Acs)(lv:Acr)(l:List Av)(hr:RG 66 updC w lv l)(hl:l.length<=1000)(hu:∀u∈l,u.name.length<=256)(note:Bs)(hn:note.length<=256):
  Calls Acu 42 #[lv,St note] w fun e w' =>∃v',e = .returned v' /\w'.ownsRow w.heap.size 5 1 v' (tranB l note).length (Acv (tranB l note))/\Ext w w' :=by
 refine gG (args:= [lv,St (note)]) Tryz.func42 rfl 40 rfl rfl ?_;have hE:=AbE w;refine gS (Y8 Mf (Y5 (hr.keep hE) rfl) ?_);have hsp_:=hE.size;refine gS (Y2 Ti rfl rfl ((Ps _ (.slice none 0 0) [] (RB.nil _) (by decide) l.length (by omega)).mono ?_));rintro e w5 ⟨t,rfl,z⟩;refine⟨_,rfl,?_⟩;have p:=z.own;have p:=AJ p hsp_;have hE:=hE.trans z.ext;refine gS (AbG (vs:= [t,NI 0]) rfl rfl (gS (AbG (vs:= [t,NI 0]) rfl rfl (gS (Y8 Mf (Y5 (hr.keep hE) rfl) (gL (fun(ρ:Ah) (wz:Acs)=>∃i:Nat,∃r5:Acr,ρ 0=(lv:Acr)/\ρ 1=(St (note):Acr)/\ρ 4=((AcI none 0 0):Acr)/\ρ 15=(lv:Acr)/\ρ 16=(NI l.length:Acr)/\ρ 17=(NI i:Acr)/\ρ 5=(r5:Acr)/\Ext w wz/\wz.ownsRow w.heap.size 5 1 r5 (AcT l.length++(l.take i).flatMap Ck:AhU).length (Acv (AcT l.length++(l.take i).flatMap Ck))/\(i<=l.length)/\True) (fun ρ _=>l.length-(intOf (ρ 17)).toNat) ⟨0,t,rfl,rfl,rfl,rfl,rfl,rfl,rfl,hE,DI p (by simp),AcO _,trivial⟩ ?_))))));clear p;clear hE;rintro ao ap ⟨i,r5,T0,T1,T4,aa,ab,q,T5,hE,hr_r5,hi,-⟩;have q17:=q;refine gS (YX (a:=(i:Nat)) (b:=(l.length:Nat)) q ab (Bf _ _ _ _) ?_);refine cD rfl (fun ac=> ?_) fun ac=> ?_
 ·have hlt:i<l.length:=ac;have hnm:=hu _ (Cb Ay hlt);have htl:=BL hnm (by omega);have hfl:=Oh hu hl i;have hul:=BW (n:=l.length) (by omega);have hol:(l.getD i Ay).old.1.length=32:=(l.getD i Ay).old.2;have hnl:(l.getD i Ay).new.1.length=32:=(l.getD i Ay).new.2;have ba:(updC (l.getD (i) Ay)).length=66:=(AbO (hr.keep hE) Ay (hlt));refine gS (Zd Mf Qz (by decide) Ay (Y5 (hr.keep hE) aa) q (hlt) fun bb ad=>(gS (Y3 (Zj ad rfl) (Sr).choose_spec rfl (by rw[CF];exact Qu) (gS (AbM SD fun r ar bc ae au bd=> ?_)))));have f:=AbE ap;have be:=hE.size;have av:OB r5 r:=BZ hr_r5 (by omega);have c:=ae;clear ae;have bf:r<ar.heap.size:=by omega
  refine gS (Za Vc (vr (PQ r 0) rfl) (vr (.agg (updC (l.getD (i) Ay)).toArray) rfl) c (G2) fun aw af ax bg=> ?_);clear c;have c:aw.heap[r]? =some (.cells (updC (l.getD (i) Ay)).toArray 77 (0,0)):=af;clear af;have bh:=bl c;clear ad;refine FS [0,1,2,5,6,3,4,7,8] [3,4,7,8] [5] [6] fun bi ag=> ?_;have c:=eb ag c;refine RL c ?_;refine ys (AbD O1 rfl zz) (ys (YW u5 rfl rfl (Ac c (Fu (l.getD (i) Ay))) zz) (yp (AbD O3 rfl zz) (yf (fun _ ⟨c,_⟩=>YW EI rfl rfl (Ac c (DW (l.getD (i) Ay))) zz) (yI (AaT (b:=((l.getD (i) Ay)).kind) Tl (vr (B8 (((l.getD (i) Ay)).kind)) rfl) fun ah ay k=> ?_)))));have f:=f.trans au;have f:=Ad f ax (Acw (Acy _) (by omega));have f:=f.trans ag;have hE:=hE.trans f;have bj:=hE.size;have bk:=f.size;have hr_r5:=AbW _ _ _ _ _ _ _ _ hr_r5 f;have az:CN r5 ah:=KD hr_r5 k.own;have g:=k.own;have hE:=hE.trans k.ext;have hr_r5:=AbW _ _ _ _ _ _ _ _ hr_r5 k.ext;have c:=eb k.ext c;refine⟨⟨c,trivial⟩,?_⟩;refine yI (ZI _ _ w.heap.size (.int .u8 0) G1 P0 rfl G1 (AcT l.length++(l.take i).flatMap Ck) ([(((l.getD (i) Ay)).kind:UInt8)]) (G0 hr_r5 T5) (Zn (Zc g) (vr ah rfl)) (by simp only[Acx,AcK,AcQ];omega) hE.size fun ai a0 m o=> ?_);have o:Grew ay a0 r5 ai:= .eqv T5 o;have hE:=Br hE o hr_r5 (Acy _);have c:=AV c o av;have g:=J4 g o az;clear hr_r5;refine⟨⟨c,trivial⟩,?_⟩;refine yD rfl (Y2 Tj rfl rfl ((HA _ ai (AcT l.length++(l.take i).flatMap Ck++ [(((l.getD (i) Ay)).kind:UInt8)]) (Zc m) (((l.getD (i) Ay)).name) (by simp only[Acx,AcK,AcQ];omega)).mono ?_));rintro e bm ⟨a1,rfl,aj⟩;refine⟨_,rfl,?_⟩;have a2:=hE.size;have bn:=hE.size;have h:=aj.own;have h:=AJ h a2;refine yD rfl (AbX rfl (FS [0,1,2,4,5,3,6,7] [3,6,7] [4] [5] fun a3 ak=> ?_));have s:=AbE a3;have hZ1:=aj.ext.trans ak;have c:=eb hZ1 c;have h:=AbW _ _ _ _ _ _ _ _ h ak;refine Gf s ?_;refine ys (AbD Jx rfl zz) (ys (Y3 (AbS c (Et (l.getD (i) Ay)) (EY (l.getD (i) Ay)) rfl) VT rfl (Ar ((l.getD (i) Ay)).old.2) zz) (yp (AbD Jy rfl zz) (yf (fun _ ⟨hZ,_⟩=>Y3 (AbS (eb hZ c) (C1 (l.getD (i) Ay)) (C8 (l.getD (i) Ay)) rfl) VT rfl (Ar ((l.getD (i) Ay)).new.2) zz) (yE (Y2 Tk rfl rfl ((IL _ a1 ((AcT l.length++(l.take i).flatMap Ck++ [(((l.getD (i) Ay)).kind:UInt8)]:AhU)++AF (((l.getD (i) Ay)).name)) (Zc h) (by simp only[Acx,AcK,AcQ];omega) (((l.getD (i) Ay)).old)).mono ?_))))));rintro e bo ⟨a4,rfl,j⟩;refine⟨_,rfl,?_⟩;have hE:=hE.trans hZ1;have a5:=hE.size;have g:=AbW _ _ _ _ _ _ _ _ g hZ1;have m:=AbW _ _ _ _ _ _ _ _ m hZ1;have v:=j.own;have v:=AJ v a5;have s:=s.trans j.ext;refine⟨s,?_⟩;refine yD rfl (Y2 Tk rfl rfl ((IL _ a4 (((AcT l.length++(l.take i).flatMap Ck++ [(((l.getD (i) Ay)).kind:UInt8)]:AhU)++AF (((l.getD (i) Ay)).name):AhU)++(((l.getD (i) Ay)).old).1) (Zc v) (by simp only[Acx,AcK,AcQ];omega) (((l.getD (i) Ay)).new)).mono ?_));rintro e bp ⟨a6,rfl,al⟩;refine⟨_,rfl,?_⟩;have hE:=hE.trans j.ext;have a7:=hE.size;have c:=eb j.ext c;have g:=AbW _ _ _ _ _ _ _ _ g j.ext;have m:=AbW _ _ _ _ _ _ _ _ m j.ext;have h:=AbW _ _ _ _ _ _ _ _ h j.ext;have x:=al.own;have x:=AJ x a7;have hE:=hE.trans al.ext;refine yD rfl (AbX rfl (gS (Y4 (xv:=NI i) (yv:=NI 1) q rfl rfl (AG _ _ _ (by omega)) (gK (Adv ⟨i+1,a6,T0,T1,T4,aa,ab,rfl,rfl,hE,DI x (by rw[Ei Ay hlt];simp only[Ck,AcV]),by omega,trivial⟩ ?_)))));show l.length-(intOf (NI ((i)+(1)))).toNat<l.length-(intOf (ao 17)).toNat;rw[q17];simp only[intOf,AcX];omega
 have hie:i=l.length:=by omega
 have hfl:=Oh hu hl i;have hul:=BW (n:=l.length) (by omega);refine gS (Y2 Tj T5 T1 ((HA _ r5 (AcT l.length++(l.take i).flatMap Ck) (Zc hr_r5) note (by simp only[Acx,AcK,AcQ];omega)).mono ?_));rintro e bq ⟨am,rfl,an⟩;refine⟨_,rfl,?_⟩;have a8:=hE.size;have br:=hE.size;have y:=an.own;have y:=AJ y a8;refine AD rfl (vr am rfl) ?_;have hE:=hE.trans an.ext;exact⟨am,rfl,DI y (by rw[hie,AdY];rfl),hE⟩
section
variable {P : AcN} {K : Acr -> Acs -> Prop} {ρ : Ah} {w : Acs} {d : Option Tmp} {ty : Acz} {pos : String} {af : Array Edge} {gd : Option (Nat × Bool)} {t : Acz}
theorem Abz{a b:Acr}(hr:∀w:Acs,(Adu t #[(0,a),(1,b)]).run P w = .ok (.agg #[a,b]) w){x y:AcD}(hx:Ab ρ x=a)(hy:Ab ρ y=b)(hk:K (.agg #[a,b]) w):
  Yk P K ((execOp (Ab ρ) ⟨d, .build t #[(0,x),(1,y)],ty,pos,af,gd⟩).run P w):=by
 refine AbK (v:= .agg #[a,b]) (w' :=w) ?_ hk;unfold execOp;simp only[AcJ,AcL,AcR,hx,hy,AcC,hr,AcB,AcE]
theorem Aar{a b c:Acr}{n:Nat}(hr:∀w:Acs,(Ag1 t (.agg #[a,b]) (NI n)).run P w = .ok c w){x y:AcD}(hx:Ab ρ x = .agg #[a,b])(hy:Ab ρ y=NI n)(hk:K c w):
  Yk P K ((execOp (Ab ρ) ⟨d, .index t x y,ty,pos,af,gd⟩).run P w):=by
 refine AbK (v:=c) (w' :=w) ?_ hk;unfold execOp;simp only[hx,hy,AcC,hr,AcB,AcE]
end
theorem Tm:Eu Acu 36 refsC:=⟨⟨_,(L3).choose_spec⟩,fun x=>AN (Am x) KO⟩
theorem Tn{d:Option Tmp}{ty:Acz}{pos:String}{af:Array Edge}{gd:Option (Nat × Bool)}(σ:AcD->Acr)(w:Acs):(execOp σ ⟨d, .alloc 43,ty,pos,af,gd⟩).run Acu w = .ok (.value (PQ w.heap.size 0)) (w.alloc (.cells ([(AcI none 0 0)]).toArray 43)):=by kernel_rfl
theorem WP{a b:Acr}(ha:∃o n c,a = .slice o n c)(hb:∃o n c,b = .slice o n c)(w:Acs):(Adu 127 #[(0,a),(1,b)]).run Acu w = .ok (.agg #[a,b]) w:=by
 obtain⟨_,_,_,rfl⟩:=ha;obtain⟨_,_,_,rfl⟩:=hb
 kernel_rfl
theorem Vd{a b:Acr}(ha:∃o n c,a = .slice o n c)(hb:∃o n c,b = .slice o n c)(w:Acs):(Ag1 127 (.agg #[a,b]) (NI 0)).run Acu w = .ok a w:=by
 obtain⟨_,_,_,rfl⟩:=ha;obtain⟨_,_,_,rfl⟩:=hb
 kernel_rfl
theorem Ve{a b:Acr}(ha:∃o n c,a = .slice o n c)(hb:∃o n c,b = .slice o n c)(w:Acs):(Ag1 127 (.agg #[a,b]) (NI 1)).run Acu w = .ok b w:=by
 obtain⟨_,_,_,rfl⟩:=ha;obtain⟨_,_,_,rfl⟩:=hb
 kernel_rfl
theorem IZ:Plain Acu 55:=fun _ _=>by kernel_rfl
theorem MA:Eu Acu 94 nmdC:=⟨⟨_,(LT).choose_spec⟩,fun x=>AN (BG x) KF⟩
theorem FK:Plain Acu 57:=fun _ _=>by kernel_rfl
theorem FL:Plain Acu 59:=fun _ _=>by kernel_rfl
theorem To:Eu Acu 97 entC:=⟨⟨_,(LW).choose_spec⟩,fun x=>AN (C5 x) KG⟩
set_option maxHeartbeats 3200000
theorem Pb(w:Acs)(z:Af)(hm:RefsAt w z)(hL:E3 z.1):
  Calls Acu 22 #[.agg (refsC z).toArray] w fun e w' =>∃v,e = .returned (.tuple #[v,NI (if Az z.1=true then 0 else 1)])/\RB w' v (if Az z.1=true then CS z.1 else [])/\Ext w w' :=by
 have hmt:=hm.branches;have hmg:=hm.tags;have hml:=hm.log;refine gG (args:= [.agg (refsC z).toArray]) Tryz.func22 rfl 95 rfl rfl ?_;have hE:=AbE w;refine gS (AbU (vr (.agg (refsC z).toArray) rfl) fun l w3 d7 bq cw d8=> ?_);have f:=bq;clear bq;have d9:l<w3.heap.size:=by omega
 have hE:=hE.trans cw;refine gS (Zg Tm rfl f (gS (YZ SA rfl ((Hz _ z ⟨(hmt.keep hE),(hmg.keep hE),(hml.keep hE)⟩ hL).mono ?_))));rintro e ao ⟨rfl,a5⟩;refine⟨_,rfl,?_⟩;refine gS (Zh rfl ?_);refine cB (!(Az z.1)) rfl (fun a6=> ?_) fun a6=> ?_
 ·have hrt:Az z.1=false:=by simpa using a6
  refine DS rfl (vr (AcI none 0 0) rfl) (vr (NI 1) rfl) ?_;have hE:=hE.trans a5;exact⟨.slice none 0 0,by rw[hrt];rfl,by rw[hrt];exact RB.nil _,hE⟩
 have hrt:Az z.1=true:=by simpa using a6
 have hR:=IK hrt;have hbl_:=hR.bl;have htl_:=hR.tl;have hgl_:=hR.ll;refine gS (AbM Tn fun c br cx bs a7 ea=> ?_);have g:=AbE ao;have hE:=hE.trans a5;have q:=hE.size;have bt:=bs;clear bs;have ec:c<br.heap.size:=by omega
 have hrow0:br.ownsRow w.heap.size 5 1 (AcI none 0 0) ([]:AhU).length (Acv ([]:AhU)):=World.ownsRow_nil _ _ _ 1;have cy:Adc (AcI none 0 0)≠some l:=by simp[Adc]
 have cz:Adc (AcI none 0 0)≠some c:=by simp[Adc]
 have f:=eb a5 f;have ed:=AO (bl f) cx;have f:=eb a7 f;have hE:=hE.trans a7;have g:=g.trans a7;refine gS (Zl (vs:= #[PQ c 0]) (by simp only[AcJ,AcL,AcR];exact congrArg Ac4 (Fm (vr (PQ c 0) rfl))) (gS (Zl (vs:= #[PQ c 0]) (by simp only[AcJ,AcL,AcR];exact congrArg Ac4 (Fm (vr (PQ c 0) rfl))) (gS (Zl (vs:= #[PQ c 0]) (by simp only[AcJ,AcL,AcR];exact congrArg Ac4 (Fm (vr (PQ c 0) rfl))) (gS (AbD OY rfl (gS (YW EQ rfl rfl (Ac f (CZ z)) (gS (AbD OZ rfl (gS (YW EQ rfl rfl (Ac f (Dp z)) (gS (Abz (WP (Acj (hmt.keep hE)) (Acj (hmg.keep hE))) rfl rfl (gL (fun(ρ:Ah) (wz:Acs)=>∃i:Nat,∃vb_i:Acr,ρ 0=(.agg (refsC z).toArray:Acr)/\ρ 1=(PQ l 0:Acr)/\ρ 2=((AcI none 0 0):Acr)/\ρ 3=(NI 0:Acr)/\ρ 4=(PQ c 0:Acr)/\ρ 5=(.func (.func 55) #[] #[PQ c 0]:Acr)/\ρ 6=(.func (.func 57) #[] #[PQ c 0]:Acr)/\ρ 7=(.func (.func 59) #[] #[PQ c 0]:Acr)/\ρ 24=(.agg #[z.2.branches,z.2.tags]:Acr)/\ρ 25=(NI i:Acr)/\Ext w wz/\wz.heap[l]? =some (.cells (refsC z).toArray 36 (0,0))/\Ext ao wz/\wz.heap[c]? =some (.cells ([vb_i]).toArray 43 (0,0))/\wz.ownsRow w.heap.size 5 1 vb_i (lsB z.1 i:AhU).length (Acv (lsB z.1 i))/\(i<=2)/\(OB vb_i l)/\(OB vb_i c)/\True) (fun ρ _=>2-(intOf (ρ 25)).toNat) ⟨0,(AcI none 0 0),rfl,rfl,rfl,rfl,rfl,rfl,rfl,rfl,rfl,rfl,hE,f,g,bt,DI hrow0 ((VU rfl).symm),AcO _,cy,cz,trivial⟩ ?_))))))))))))))));clear bt;clear hrow0;clear hE f;rintro bu ee ⟨i,vb_i,s,T1,T2,T3,T4,T5,m,o,r,p,hE,f,g,hb_i,ho_i,hii,hap_n2i,hap_n16i,-⟩;have q25:=p;have hgli:=(bl hb_i);refine gS (YX (a:=(i:Nat)) (b:=(2:Nat)) p rfl (Bf _ _ _ _) ?_);refine cD rfl (fun c0=> ?_) fun c0=> ?_
 ·have h01:i=0\/i=1:=by omega
  have hll:=PD hR i;rcases h01 with h0 | h0
  ·have c1:=BW (n:=z.1.branches.length) (by have:=hR.bl;omega);refine gS (Aar (Vd (Acj (hmt.keep hE)) (Acj (hmg.keep hE))) r ((show _=NI i from p).trans (by rw[h0])) (gS (Y8 EQ (Y5 (hmt.keep hE) rfl) (gS (Zq IZ (caps:= #[PQ c 0]) T5 #[NI ((z.1.branches).length),PQ c 0] (by simp only[AcJ,AcL,AcR,Adh,Ac3,Ac9];exact congrArg Ac4 (B4 rfl rfl)) ((IY w _ hE c (by omega) vb_i (lsB z.1 i) hb_i (Zc ho_i) ((z.1.branches).length) (by(try simp only[Acx,AcK,AcQ]);omega) (by omega)).mono ?_))))));rintro e ef ⟨a8,rfl,bv,ae,a9⟩;refine⟨_,rfl,?_⟩;have c2:OB a8 l:=Bd ae (bl f);have c3:OB a8 c:=Bd ae (bl hb_i);have ae:=AJ ae hE.size;clear hb_i;clear ho_i;have hb_i:=bv;clear bv;have eg:=bl hb_i;have hE:=Ad hE a9 (Acw q (by omega));have f:=kb a9 f (by omega);have g:=Ad g a9 (Acw (Acy _) (by omega));refine gS (Y8 EQ (Y5 (hmt.keep hE) rfl) (gL (fun(ρ:Ah) (wz:Acs)=>∃j:Nat,∃vb_j:Acr,ρ 0=(.agg (refsC z).toArray:Acr)/\ρ 1=(PQ l 0:Acr)/\ρ 2=((AcI none 0 0):Acr)/\ρ 3=(NI 0:Acr)/\ρ 4=(PQ c 0:Acr)/\ρ 5=(.func (.func 55) #[] #[PQ c 0]:Acr)/\ρ 6=(.func (.func 57) #[] #[PQ c 0]:Acr)/\ρ 7=(.func (.func 59) #[] #[PQ c 0]:Acr)/\ρ 9=(z.2.branches:Acr)/\ρ 24=(.agg #[z.2.branches,z.2.tags]:Acr)/\ρ 25=(NI i:Acr)/\ρ 32=(z.2.branches:Acr)/\ρ 33=(NI ((z.1.branches).length):Acr)/\ρ 34=(NI j:Acr)/\Ext w wz/\wz.heap[l]? =some (.cells (refsC z).toArray 36 (0,0))/\Ext ao wz/\wz.heap[c]? =some (.cells ([vb_j]).toArray 43 (0,0))/\wz.ownsRow w.heap.size 5 1 vb_j (((lsB z.1 i:AhU)++AcT ((z.1.branches).length):AhU)++(z.1.branches.take j).flatMap CK:AhU).length (Acv (((lsB z.1 i:AhU)++AcT ((z.1.branches).length):AhU)++(z.1.branches.take j).flatMap CK))/\(j<=z.1.branches.length)/\(OB vb_j l)/\(OB vb_j c)/\True) (fun ρ _=>z.1.branches.length-(intOf (ρ 34)).toNat) ⟨0,a8,s,T1,T2,T3,T4,T5,m,o,rfl,r,p,rfl,rfl,rfl,hE,f,g,hb_i,DI ae (by simp),AcO _,c2,c3,trivial⟩ ?_));clear hb_i;clear ae;clear hE f g;rintro c4 c5 ⟨j,vb_j,s,T1,T2,T3,T4,T5,m,o,T9,r,p,ai,aj,t,hE,f,g,hb_j,ho_j,hij,hap_n2j,hap_n16j,-⟩;have q34:=t;have hglj:=(bl hb_j);refine gS (YX (a:=(j:Nat)) (b:=((z.1.branches).length:Nat)) t aj (Bf _ _ _ _) ?_);refine cD rfl (fun ak=> ?_) fun ak=> ?_
   ·have hltj:j<z.1.branches.length:=ak;have hnl:=hR.bn _ (Cb dNmd hltj);have htl:=BL hnl (by omega);have hfl:=NQ hR.bl hR.bn j;have hidl:(z.1.branches.getD j dNmd).id.1.length=32:=(z.1.branches.getD j dNmd).id.2;have eh:(nmdC ((z.1.branches).getD (j) dNmd)).length=33:=(AbO (hmt.keep hE) dNmd (hltj));refine gS (Zd EQ KE (by decide) dNmd (Y5 (hmt.keep hE) ai) t (hltj) fun ei bw=>(gS (Y3 (Zj bw rfl) (LT).choose_spec rfl (by rw[BG];exact KF) (gS (AbM R2 fun bb c6 ej bx bz el=> ?_)))));have x:=AbE c5;have em:=hE.size;have c7:=g.size;have y:=bx;clear bx;have en:bb<c6.heap.size:=by omega
    refine gS (Za MA (vr (PQ bb 0) rfl) (vr (.agg (nmdC ((z.1.branches).getD (j) dNmd)).toArray) rfl) y (DM) fun c8 b0 b1 eo=> ?_);clear y;have y:c8.heap[bb]? =some (.cells (nmdC ((z.1.branches).getD (j) dNmd)).toArray 94 (0,0)):=b0;clear b0;have ep:=bl y;clear bw;have x:=x.trans bz;have x:=Ad x b1 (Acw (Acy _) (by omega));have hb_j:=eb x hb_j;have ho_j:=AbW _ _ _ _ _ _ _ _ ho_j x;have hE:=hE.trans x;refine gS (AbD GP rfl (gS (YW EI rfl rfl (Ac y (EZ ((z.1.branches).getD (j) dNmd))) (gS (Zq FK (caps:= #[PQ c 0]) m #[St ((((z.1.branches).getD (j) dNmd)).name),PQ c 0] (by simp only[AcJ,AcL,AcR,Adh,Ac3,Ac9];exact congrArg Ac4 (B4 rfl rfl)) ((FI w _ hE c (by omega) vb_j (((lsB z.1 i:AhU)++AcT ((z.1.branches).length):AhU)++(z.1.branches.take j).flatMap CK) hb_j (Zc ho_j) ((((z.1.branches).getD (j) dNmd)).name) (by(try simp only[Acx,AcK,AcQ]);omega)).mono ?_))))));rintro e eq ⟨c9,rfl,b2,ap,aq⟩;refine⟨_,rfl,?_⟩;have f:=eb x f;have ap:=AJ ap hE.size;clear hb_j;clear ho_j;have hb_j:=b2;clear b2;have er:=bl hb_j;have hE:=Ad hE aq (Acw q (by omega));have y:=kb aq y (by omega);refine gS (AbD OX rfl (gS (Y3 (AbS y (G7 ((z.1.branches).getD (j) dNmd)) (G8 ((z.1.branches).getD (j) dNmd)) rfl) VT rfl (Ar (((z.1.branches).getD (j) dNmd)).id.2) (gS (Zq FL (caps:= #[PQ c 0]) o #[AB ((((z.1.branches).getD (j) dNmd)).id.1),PQ c 0] (by simp only[AcJ,AcL,AcR,Adh,Ac3,Ac9];exact congrArg Ac4 (B4 rfl rfl)) ((FJ w _ hE c (by omega) c9 ((((lsB z.1 i:AhU)++AcT ((z.1.branches).length):AhU)++(z.1.branches.take j).flatMap CK:AhU)++AF ((((z.1.branches).getD (j) dNmd)).name)) hb_j (Zc ap) ((((z.1.branches).getD (j) dNmd)).id) (by(try simp only[Acx,AcK,AcQ]);omega)).mono ?_))))));rintro e es ⟨bc,rfl,b3,al,bd⟩;refine⟨_,rfl,?_⟩;have f:=kb aq f (by omega);have da:OB bc l:=Bd al (bl f);have db:OB bc c:=Bd al (bl hb_j);have al:=AJ al hE.size;clear hb_j;clear ap;have hb_j:=b3;clear b3;have et:=bl hb_j;have g:=g.trans bz;have g:=Ad g b1 (Acw c7 (by omega));have g:=Ad g aq (Acw (Acy _) (by omega));have g:=Ad g bd (Acw (Acy _) (by omega));have hE:=Ad hE bd (Acw q (by omega));have f:=kb bd f (by omega);refine gS (Y4 (xv:=NI j) (yv:=NI 1) t rfl rfl (AG _ _ _ (by omega)) (gK (Adv ⟨j+1,bc,s,T1,T2,T3,T4,T5,m,o,T9,r,p,ai,aj,rfl,hE,f,g,hb_j,DI al (by rw[Ei dNmd hltj];simp only[CK,AcV]),by omega,da,db,trivial⟩ ?_)));show z.1.branches.length-(intOf (NI ((j)+(1)))).toNat<z.1.branches.length-(intOf (c4 34)).toNat;rw[q34];simp only[intOf,AcX];omega
   have hje:j=z.1.branches.length:=by omega
   refine gS (Y4 (xv:=NI i) (yv:=NI 1) p rfl rfl (AG _ _ _ (by omega)) (gK (Adv ⟨i+1,vb_j,s,T1,T2,T3,T4,T5,m,o,r,rfl,hE,f,g,hb_j,DI ho_j (by rw[VU h0,VV (show i+1=1 by omega),hje,AdY];simp[Ey]),by omega,hap_n2j,hap_n16j,trivial⟩ ?_)));show 2-(intOf (NI ((i)+(1)))).toNat<2-(intOf (bu 25)).toNat;rw[q25];simp only[intOf,AcX];omega
  have c1:=BW (n:=z.1.tags.length) (by have:=hR.tl;omega);refine gS (Aar (Ve (Acj (hmt.keep hE)) (Acj (hmg.keep hE))) r ((show _=NI i from p).trans (by rw[h0])) (gS (Y8 EQ (Y5 (hmg.keep hE) rfl) (gS (Zq IZ (caps:= #[PQ c 0]) T5 #[NI ((z.1.tags).length),PQ c 0] (by simp only[AcJ,AcL,AcR,Adh,Ac3,Ac9];exact congrArg Ac4 (B4 rfl rfl)) ((IY w _ hE c (by omega) vb_i (lsB z.1 i) hb_i (Zc ho_i) ((z.1.tags).length) (by(try simp only[Acx,AcK,AcQ]);omega) (by omega)).mono ?_))))));rintro e eu ⟨be,rfl,b4,af,bf⟩;refine⟨_,rfl,?_⟩;have dc:OB be l:=Bd af (bl f);have dd:OB be c:=Bd af (bl hb_i);have af:=AJ af hE.size;clear hb_i;clear ho_i;have hb_i:=b4;clear b4;have ew:=bl hb_i;have hE:=Ad hE bf (Acw q (by omega));have f:=kb bf f (by omega);have g:=Ad g bf (Acw (Acy _) (by omega));refine gS (Y8 EQ (Y5 (hmg.keep hE) rfl) (gL (fun(ρ:Ah) (wz:Acs)=>∃j:Nat,∃vb_j:Acr,ρ 0=(.agg (refsC z).toArray:Acr)/\ρ 1=(PQ l 0:Acr)/\ρ 2=((AcI none 0 0):Acr)/\ρ 3=(NI 0:Acr)/\ρ 4=(PQ c 0:Acr)/\ρ 5=(.func (.func 55) #[] #[PQ c 0]:Acr)/\ρ 6=(.func (.func 57) #[] #[PQ c 0]:Acr)/\ρ 7=(.func (.func 59) #[] #[PQ c 0]:Acr)/\ρ 9=(z.2.tags:Acr)/\ρ 24=(.agg #[z.2.branches,z.2.tags]:Acr)/\ρ 25=(NI i:Acr)/\ρ 32=(z.2.tags:Acr)/\ρ 33=(NI ((z.1.tags).length):Acr)/\ρ 34=(NI j:Acr)/\Ext w wz/\wz.heap[l]? =some (.cells (refsC z).toArray 36 (0,0))/\Ext ao wz/\wz.heap[c]? =some (.cells ([vb_j]).toArray 43 (0,0))/\wz.ownsRow w.heap.size 5 1 vb_j (((lsB z.1 i:AhU)++AcT ((z.1.tags).length):AhU)++(z.1.tags.take j).flatMap CK:AhU).length (Acv (((lsB z.1 i:AhU)++AcT ((z.1.tags).length):AhU)++(z.1.tags.take j).flatMap CK))/\(j<=z.1.tags.length)/\(OB vb_j l)/\(OB vb_j c)/\True) (fun ρ _=>z.1.tags.length-(intOf (ρ 34)).toNat) ⟨0,be,s,T1,T2,T3,T4,T5,m,o,rfl,r,p,rfl,rfl,rfl,hE,f,g,hb_i,DI af (by simp),AcO _,dc,dd,trivial⟩ ?_));clear hb_i;clear af;clear hE f g;rintro de df ⟨j,vb_j,s,T1,T2,T3,T4,T5,m,o,T9,r,p,ai,aj,t,hE,f,g,hb_j,ho_j,hij,hap_n2j,hap_n16j,-⟩;have q34:=t;have hglj:=(bl hb_j);refine gS (YX (a:=(j:Nat)) (b:=((z.1.tags).length:Nat)) t aj (Bf _ _ _ _) ?_);refine cD rfl (fun ak=> ?_) fun ak=> ?_
  ·have hltj:j<z.1.tags.length:=ak;have hnl:=hR.tn _ (Cb dNmd hltj);have htl:=BL hnl (by omega);have hfl:=NQ hR.tl hR.tn j;have hidl:(z.1.tags.getD j dNmd).id.1.length=32:=(z.1.tags.getD j dNmd).id.2;have ex:(nmdC ((z.1.tags).getD (j) dNmd)).length=33:=(AbO (hmg.keep hE) dNmd (hltj));refine gS (Zd EQ KE (by decide) dNmd (Y5 (hmg.keep hE) ai) t (hltj) fun ey b5=>(gS (Y3 (Zj b5 rfl) (LT).choose_spec rfl (by rw[BG];exact KF) (gS (AbM R2 fun bg dg ez b6 b7 e0=> ?_)))));have aa:=AbE df;have e1:=hE.size;have dh:=g.size;have ab:=b6;clear b6;have e2:bg<dg.heap.size:=by omega
   refine gS (Za MA (vr (PQ bg 0) rfl) (vr (.agg (nmdC ((z.1.tags).getD (j) dNmd)).toArray) rfl) ab (DM) fun di b8 b9 e3=> ?_);clear ab;have ab:di.heap[bg]? =some (.cells (nmdC ((z.1.tags).getD (j) dNmd)).toArray 94 (0,0)):=b8;clear b8;have e4:=bl ab;clear b5;have aa:=aa.trans b7;have aa:=Ad aa b9 (Acw (Acy _) (by omega));have hb_j:=eb aa hb_j;have ho_j:=AbW _ _ _ _ _ _ _ _ ho_j aa;have hE:=hE.trans aa;refine gS (AbD GP rfl (gS (YW EI rfl rfl (Ac ab (EZ ((z.1.tags).getD (j) dNmd))) (gS (Zq FK (caps:= #[PQ c 0]) m #[St ((((z.1.tags).getD (j) dNmd)).name),PQ c 0] (by simp only[AcJ,AcL,AcR,Adh,Ac3,Ac9];exact congrArg Ac4 (B4 rfl rfl)) ((FI w _ hE c (by omega) vb_j (((lsB z.1 i:AhU)++AcT ((z.1.tags).length):AhU)++(z.1.tags.take j).flatMap CK) hb_j (Zc ho_j) ((((z.1.tags).getD (j) dNmd)).name) (by(try simp only[Acx,AcK,AcQ]);omega)).mono ?_))))));rintro e e5 ⟨dj,rfl,ca,ar,au⟩;refine⟨_,rfl,?_⟩;have f:=eb aa f;have ar:=AJ ar hE.size;clear hb_j;clear ho_j;have hb_j:=ca;clear ca;have e6:=bl hb_j;have hE:=Ad hE au (Acw q (by omega));have ab:=kb au ab (by omega);refine gS (AbD OX rfl (gS (Y3 (AbS ab (G7 ((z.1.tags).getD (j) dNmd)) (G8 ((z.1.tags).getD (j) dNmd)) rfl) VT rfl (Ar (((z.1.tags).getD (j) dNmd)).id.2) (gS (Zq FL (caps:= #[PQ c 0]) o #[AB ((((z.1.tags).getD (j) dNmd)).id.1),PQ c 0] (by simp only[AcJ,AcL,AcR,Adh,Ac3,Ac9];exact congrArg Ac4 (B4 rfl rfl)) ((FJ w _ hE c (by omega) dj ((((lsB z.1 i:AhU)++AcT ((z.1.tags).length):AhU)++(z.1.tags.take j).flatMap CK:AhU)++AF ((((z.1.tags).getD (j) dNmd)).name)) hb_j (Zc ar) ((((z.1.tags).getD (j) dNmd)).id) (by(try simp only[Acx,AcK,AcQ]);omega)).mono ?_))))));rintro e e7 ⟨bh,rfl,cb,am,bi⟩;refine⟨_,rfl,?_⟩;have f:=kb au f (by omega);have dk:OB bh l:=Bd am (bl f);have dl:OB bh c:=Bd am (bl hb_j);have am:=AJ am hE.size;clear hb_j;clear ar;have hb_j:=cb;clear cb;have e8:=bl hb_j;have g:=g.trans b7;have g:=Ad g b9 (Acw dh (by omega));have g:=Ad g au (Acw (Acy _) (by omega));have g:=Ad g bi (Acw (Acy _) (by omega));have hE:=Ad hE bi (Acw q (by omega));have f:=kb bi f (by omega);refine gS (Y4 (xv:=NI j) (yv:=NI 1) t rfl rfl (AG _ _ _ (by omega)) (gK (Adv ⟨j+1,bh,s,T1,T2,T3,T4,T5,m,o,T9,r,p,ai,aj,rfl,hE,f,g,hb_j,DI am (by rw[Ei dNmd hltj];simp only[CK,AcV]),by omega,dk,dl,trivial⟩ ?_)));show z.1.tags.length-(intOf (NI ((j)+(1)))).toNat<z.1.tags.length-(intOf (de 34)).toNat;rw[q34];simp only[intOf,AcX];omega
  have hje:j=z.1.tags.length:=by omega
  refine gS (Y4 (xv:=NI i) (yv:=NI 1) p rfl rfl (AG _ _ _ (by omega)) (gK (Adv ⟨i+1,vb_j,s,T1,T2,T3,T4,T5,m,o,r,rfl,hE,f,g,hb_j,DI ho_j (by rw[VV h0,VW (show i+1=2 by omega),hje,AdY];simp only[Ey,AcV]),by omega,hap_n2j,hap_n16j,trivial⟩ ?_)));show 2-(intOf (NI ((i)+(1)))).toNat<2-(intOf (bu 25)).toNat;rw[q25];simp only[intOf,AcX];omega
 have hie:i=2:=by omega
 have hll:=PD hR i;have hhd:=hR.hd;have htl:=BL hhd (by omega);have hul:=BW (n:=z.1.log.length) (by have:=hR.ll;omega);have hal:z.1.at_.1.length=32:=z.1.at_.2;refine gS (AbD GQ T1 (gS (YW EI rfl rfl (Ac f (EN z)) (gS (Zq FK (caps:= #[PQ c 0]) m #[St (z.1.head),PQ c 0] (by simp only[AcJ,AcL,AcR,Adh,Ac3,Ac9];exact congrArg Ac4 (B4 rfl rfl)) ((FI w _ hE c (by omega) vb_i (lsB z.1 i) hb_i (Zc ho_i) z.1.head (by(try simp only[Acx,AcK,AcQ]);omega)).mono ?_))))));rintro e e9 ⟨dm,rfl,cc,av,cd⟩;refine⟨_,rfl,?_⟩;have av:=AJ av hE.size;clear hb_i;clear ho_i;have hb_i:=cc;clear cc;have fa:=bl hb_i;have hE:=Ad hE cd (Acw q (by omega));have f:=kb cd f (by omega);refine gS (AbD Jv T1 (gS (Y3 (AbS f (DN z) (Ef z) rfl) VT rfl (Ar z.1.at_.2) (gS (Zq FL (caps:= #[PQ c 0]) o #[AB z.1.at_.1,PQ c 0] (by simp only[AcJ,AcL,AcR,Adh,Ac3,Ac9];exact congrArg Ac4 (B4 rfl rfl)) ((FJ w _ hE c (by omega) dm ((lsB z.1 i:AhU)++AF z.1.head) hb_i (Zc av) z.1.at_ (by(try simp only[Acx,AcK,AcQ]);omega)).mono ?_))))));rintro e fb ⟨dn,rfl,ce,aw,cf⟩;refine⟨_,rfl,?_⟩;have aw:=AJ aw hE.size;clear hb_i;clear av;have hb_i:=ce;clear ce;have fc:=bl hb_i;have hE:=Ad hE cf (Acw q (by omega));have f:=kb cf f (by omega);refine gS (AbD Ju T1 (gS (YW Fx rfl rfl (Ac f (B0 z)) (gS (Y8 Fx (Y5 (hml.keep hE) rfl) (gS (Zq IZ (caps:= #[PQ c 0]) T5 #[NI ((z.1.log).length),PQ c 0] (by simp only[AcJ,AcL,AcR,Adh,Ac3,Ac9];exact congrArg Ac4 (B4 rfl rfl)) ((IY w _ hE c (by omega) dn (((lsB z.1 i:AhU)++AF z.1.head:AhU)++z.1.at_.1) hb_i (Zc aw) ((z.1.log).length) (by(try simp only[Acx,AcK,AcQ]);omega) (by omega)).mono ?_))))))));rintro e fd ⟨bj,rfl,cg,ag,ch⟩;refine⟨_,rfl,?_⟩;have dp:OB bj l:=Bd ag (bl f);have dq:OB bj c:=Bd ag (bl hb_i);have ag:=AJ ag hE.size;clear hb_i;clear aw;have hb_i:=cg;clear cg;have fe:=bl hb_i;have hE:=Ad hE ch (Acw q (by omega));have f:=kb ch f (by omega);refine gS (AbD Ju T1 (gS (YW Fx rfl rfl (Ac f (B0 z)) (gS (Y8 Fx (Y5 (hml.keep hE) rfl) (gL (fun(ρ:Ah) (wz:Acs)=>∃k:Nat,∃vb_k:Acr,ρ 0=(.agg (refsC z).toArray:Acr)/\ρ 1=(PQ l 0:Acr)/\ρ 2=((AcI none 0 0):Acr)/\ρ 3=(NI 0:Acr)/\ρ 4=(PQ c 0:Acr)/\ρ 5=(.func (.func 55) #[] #[PQ c 0]:Acr)/\ρ 6=(.func (.func 57) #[] #[PQ c 0]:Acr)/\ρ 7=(.func (.func 59) #[] #[PQ c 0]:Acr)/\ρ 24=(.agg #[z.2.branches,z.2.tags]:Acr)/\ρ 25=(NI i:Acr)/\ρ 62=(z.2.log:Acr)/\ρ 63=(NI ((z.1.log).length):Acr)/\ρ 64=(NI k:Acr)/\Ext w wz/\wz.heap[l]? =some (.cells (refsC z).toArray 36 (0,0))/\wz.heap[c]? =some (.cells ([vb_k]).toArray 43 (0,0))/\wz.ownsRow w.heap.size 5 1 vb_k (((((lsB z.1 i:AhU)++AF z.1.head:AhU)++z.1.at_.1:AhU)++AcT ((z.1.log).length):AhU)++(z.1.log.take k).flatMap Cp:AhU).length (Acv (((((lsB z.1 i:AhU)++AF z.1.head:AhU)++z.1.at_.1:AhU)++AcT ((z.1.log).length):AhU)++(z.1.log.take k).flatMap Cp))/\(k<=z.1.log.length)/\(OB vb_k l)/\(OB vb_k c)/\True) (fun ρ _=>z.1.log.length-(intOf (ρ 64)).toNat) ⟨0,bj,s,T1,T2,T3,T4,T5,m,o,r,p,rfl,rfl,rfl,hE,f,hb_i,DI ag (by simp),AcO _,dp,dq,trivial⟩ ?_))))));clear g;clear hb_i;clear ag;clear hE f;rintro dr ds ⟨k,vb_k,s,T1,T2,T3,T4,T5,m,o,r,p,ci,cj,ax,hE,f,hb_k,ho_k,hik,hap_n2k,hap_n16k,-⟩;have q64:=ax;have hglk:=(bl hb_k);refine gS (YX (a:=(k:Nat)) (b:=((z.1.log).length:Nat)) ax cj (Bf _ _ _ _) ?_);refine cD rfl (fun ck=> ?_) fun ck=> ?_
 ·have hltk:k<z.1.log.length:=ck;have hnn:=hR.ln _ (Cb At hltk);have hkn:=hnn.1;have hkm:=hnn.2;have ht1:=BL hkn (by omega);have ht2:=BL hkm (by omega);have hfl:=NR hR k;have hol:(z.1.log.getD k At).old.1.length=32:=(z.1.log.getD k At).old.2;have hnl:(z.1.log.getD k At).new.1.length=32:=(z.1.log.getD k At).new.2;have ff:(entC ((z.1.log).getD (k) At)).length=67:=(AbO (hml.keep hE) At (hltk));refine gS (Zd Fx Qh (by decide) At (Y5 (hml.keep hE) ci) ax (hltk) fun fg cl=>(gS (Y3 (Zj cl rfl) (LW).choose_spec rfl (by rw[C5];exact KG) (gS (AbM R4 fun ay dt fh cm du fi=> ?_)))));have u:=AbE ds;have fj:=hE.size;have dv:OB vb_k ay:=BZ ho_k (by omega);have h:=cm;clear cm;have fk:ay<dt.heap.size:=by omega
  refine gS (Za To (vr (PQ ay 0) rfl) (vr (.agg (entC ((z.1.log).getD (k) At)).toArray) rfl) h (F5) fun dw cn dx fl=> ?_);clear h;have h:dw.heap[ay]? =some (.cells (entC ((z.1.log).getD (k) At)).toArray 97 (0,0)):=cn;clear cn;have fm:=bl h;clear cl;have u:=u.trans du;have u:=Ad u dx (Acw (Acy _) (by omega));have hb_k:=eb u hb_k;refine gS (YW G1 rfl T4 (Ac hb_k rfl) (gS (AbD Jw rfl (gS (AbD O1 rfl (gS (YW u5 rfl rfl (Ac h (RF ((z.1.log).getD (k) At))) (gS (AaT (b:=(((z.1.log).getD (k) At)).kind) Tl (vr (B8 ((((z.1.log).getD (k) At)).kind)) rfl) fun co dy ad=> ?_)))))))));have hE:=hE.trans u;have fn:=hE.size;have fo:=u.size;have f:=eb u f;have ho_k:=AbW _ _ _ _ _ _ _ _ ho_k u;have dz:CN vb_k co:=KD ho_k ad.own;have az:=ad.own;have hE:=hE.trans ad.ext;have ho_k:=AbW _ _ _ _ _ _ _ _ ho_k ad.ext;refine gS (ZI _ _ w.heap.size (.int .u8 0) G1 P0 rfl G1 (((((lsB z.1 i:AhU)++AF z.1.head:AhU)++z.1.at_.1:AhU)++AcT ((z.1.log).length):AhU)++(z.1.log.take k).flatMap Cp) ([((((z.1.log).getD (k) At)).kind:UInt8)]) (G0 ho_k (vr vb_k rfl)) (Zn (Zc az) (vr co rfl)) (by(try simp only[Acx,AcK,AcQ]);omega) hE.size fun a0 d0 ah ac=> ?_);have ac:Grew dy d0 vb_k a0:=ac;have f:=eb ad.ext f;have hb_k:=eb ad.ext hb_k;have d1:OB a0 c:=Ca ac hap_n16k (bl hb_k);have h:=eb ad.ext h;have hE:=Br hE ac ho_k (Acy _);have f:=AV f ac hap_n2k;have hb_k:=AV hb_k ac hap_n16k;have h:=AV h ac dv;have az:=J4 az ac dz;clear ho_k;refine gS (Y1 (i:=0) (v:=a0) T4 rfl hb_k (AcF rfl) Ms (CE ah).1 (CE ah).2 fun fp cp a1 fq=> ?_);clear hb_k;have hb_k:=cp;clear cp;have fr:=bl hb_k;clear az;have hE:=Ad hE a1 (Acw q (by omega));have h:=kb a1 h (by omega);have ah:=EG ah a1 d1;refine gS (AbD Jw rfl (gS (AbD O3 rfl (gS (YW EI rfl rfl (Ac h (RH ((z.1.log).getD (k) At))) (gS (Zq FK (caps:= #[PQ c 0]) m #[St ((((z.1.log).getD (k) At)).name),PQ c 0] (by simp only[AcJ,AcL,AcR,Adh,Ac3,Ac9];exact congrArg Ac4 (B4 rfl rfl)) ((FI w _ hE c (by omega) a0 (((((lsB z.1 i:AhU)++AF z.1.head:AhU)++z.1.at_.1:AhU)++AcT ((z.1.log).length):AhU)++(z.1.log.take k).flatMap Cp++ [((((z.1.log).getD (k) At)).kind:UInt8)]) hb_k (Zc ah) ((((z.1.log).getD (k) At)).name) (by(try simp only[Acx,AcK,AcQ]);omega)).mono ?_))))))));rintro e fs ⟨d2,rfl,cq,a2,bk⟩;refine⟨_,rfl,?_⟩;have f:=kb a1 f (by omega);have a2:=AJ a2 hE.size;clear ah;clear hb_k;have hb_k:=cq;clear cq;have ft:=bl hb_k;have hE:=Ad hE bk (Acw q (by omega));have h:=kb bk h (by omega);refine gS (AbD Jw rfl (gS (AbD Jx rfl (gS (Y3 (AbS h (Nl ((z.1.log).getD (k) At)) (RI ((z.1.log).getD (k) At)) rfl) VT rfl (Ar (((z.1.log).getD (k) At)).old.2) (gS (Zq FL (caps:= #[PQ c 0]) o #[AB ((((z.1.log).getD (k) At)).old.1),PQ c 0] (by simp only[AcJ,AcL,AcR,Adh,Ac3,Ac9];exact congrArg Ac4 (B4 rfl rfl)) ((FJ w _ hE c (by omega) d2 ((((((lsB z.1 i:AhU)++AF z.1.head:AhU)++z.1.at_.1:AhU)++AcT ((z.1.log).length):AhU)++(z.1.log.take k).flatMap Cp++ [((((z.1.log).getD (k) At)).kind:UInt8)]:AhU)++AF ((((z.1.log).getD (k) At)).name)) hb_k (Zc a2) ((((z.1.log).getD (k) At)).old) (by(try simp only[Acx,AcK,AcQ]);omega)).mono ?_))))))));rintro e fu ⟨d3,rfl,cr,a3,bm⟩;refine⟨_,rfl,?_⟩;have f:=kb bk f (by omega);have a3:=AJ a3 hE.size;clear hb_k;clear a2;have hb_k:=cr;clear cr;have fv:=bl hb_k;have hE:=Ad hE bm (Acw q (by omega));have h:=kb bm h (by omega);refine gS (AbD Jw rfl (gS (AbD Jy rfl (gS (Y3 (AbS h (Nn ((z.1.log).getD (k) At)) (RJ ((z.1.log).getD (k) At)) rfl) VT rfl (Ar (((z.1.log).getD (k) At)).new.2) (gS (Zq FL (caps:= #[PQ c 0]) o #[AB ((((z.1.log).getD (k) At)).new.1),PQ c 0] (by simp only[AcJ,AcL,AcR,Adh,Ac3,Ac9];exact congrArg Ac4 (B4 rfl rfl)) ((FJ w _ hE c (by omega) d3 (((((((lsB z.1 i:AhU)++AF z.1.head:AhU)++z.1.at_.1:AhU)++AcT ((z.1.log).length):AhU)++(z.1.log.take k).flatMap Cp++ [((((z.1.log).getD (k) At)).kind:UInt8)]:AhU)++AF ((((z.1.log).getD (k) At)).name):AhU)++((((z.1.log).getD (k) At)).old).1) hb_k (Zc a3) ((((z.1.log).getD (k) At)).new) (by(try simp only[Acx,AcK,AcQ]);omega)).mono ?_))))))));rintro e fw ⟨d4,rfl,cs,a4,bo⟩;refine⟨_,rfl,?_⟩;have f:=kb bm f (by omega);have a4:=AJ a4 hE.size;clear hb_k;clear a3;have hb_k:=cs;clear cs;have fx:=bl hb_k;have hE:=Ad hE bo (Acw q (by omega));have h:=kb bo h (by omega);refine gS (AbD O2 rfl (gS (YW EI rfl rfl (Ac h (Ks ((z.1.log).getD (k) At))) (gS (Zq FK (caps:= #[PQ c 0]) m #[St ((((z.1.log).getD (k) At)).note),PQ c 0] (by simp only[AcJ,AcL,AcR,Adh,Ac3,Ac9];exact congrArg Ac4 (B4 rfl rfl)) ((FI w _ hE c (by omega) d4 ((((((((lsB z.1 i:AhU)++AF z.1.head:AhU)++z.1.at_.1:AhU)++AcT ((z.1.log).length):AhU)++(z.1.log.take k).flatMap Cp++ [((((z.1.log).getD (k) At)).kind:UInt8)]:AhU)++AF ((((z.1.log).getD (k) At)).name):AhU)++((((z.1.log).getD (k) At)).old).1:AhU)++((((z.1.log).getD (k) At)).new).1) hb_k (Zc a4) ((((z.1.log).getD (k) At)).note) (by(try simp only[Acx,AcK,AcQ]);omega)).mono ?_))))));rintro e fy ⟨bp,rfl,ct,an,cu⟩;refine⟨_,rfl,?_⟩;have f:=kb bo f (by omega);have d5:OB bp l:=Bd an (bl f);have d6:OB bp c:=Bd an (bl hb_k);have an:=AJ an hE.size;clear hb_k;clear a4;have hb_k:=ct;clear ct;have fz:=bl hb_k;have hE:=Ad hE cu (Acw q (by omega));have f:=kb cu f (by omega);refine gS (Y4 (xv:=NI k) (yv:=NI 1) ax rfl rfl (AG _ _ _ (by omega)) (gK (Adv ⟨k+1,bp,s,T1,T2,T3,T4,T5,m,o,r,p,ci,cj,rfl,hE,f,hb_k,DI an (by rw[Ei At hltk];simp only[Cp,AcV]),by omega,d5,d6,trivial⟩ ?_)));show z.1.log.length-(intOf (NI ((k)+(1)))).toNat<z.1.log.length-(intOf (dr 64)).toNat;rw[q64];simp only[intOf,AcX];omega
 have hke:k=z.1.log.length:=by omega
 refine gS (YW G1 rfl T4 (Ac hb_k rfl) (DS rfl (vr vb_k rfl) (vr (NI 0) rfl) ?_));have hen:((((lsB z.1 i:AhU)++AF z.1.head:AhU)++z.1.at_.1:AhU)++AcT ((z.1.log).length):AhU)++(z.1.log.take k).flatMap Cp=CS z.1:=by rw[VW hie,hke,AdY];simp only[CS,AcV]
 exact⟨vb_k,by rw[hrt];rfl,by rw[hrt,if_pos rfl,<-hen];exact Zc ho_k,hE⟩
section
variable {wb w w' : Acs} {g gj : Nat} {H H' : Dk} {D D' : Aj}
theorem DkX.box(hX:DkX wb w g gj H D w' H' D')(hD:DkG wb w g H D){cj:Array Acr}{fj:Nat × Nat}(hj:w.heap[gj]? =some (.cells cj 84 fj)){b:Nat}{cs:Array Acr}{t:Acz}{fr:Nat × Nat}(hb:w.heap[b]? =some (.cells cs t fr))(h1:t≠82)(h2:t≠120)(h3:t≠5)(h4:t≠113)(h5:t≠84):w'.heap[b]? =some (.cells cs t fr):=
 (hX.chg.blk b (bl hb) fun q=>q.elim (hD.st.offT hb h1 h2 h3 h4) fun e=>by
  subst e;rw[hj]at hb;cases hb;exact h5 rfl).trans hb
theorem DkX.og(hX:DkX wb w g gj H D w' H' D')(hD:DkG wb w g H D){cj:Array Acr}{fj:Nat × Nat}(hj:w.heap[gj]? =some (.cells cj 84 fj)){α:Type}{b k:Nat}{t:Acz}{enc:α->List Acr}{v:Acr}{l:List α}(hr:OG b t k enc w v l)(h1:t≠82)(h2:t≠120)(h3:t≠5)(h4:t≠113)(h5:t≠84):OG b t k enc w' v l:=by
 refine⟨hr.1,CY hX.chg hr.2 fun i hi q=> ?_⟩;have ht:=ET hr.2 hi;rcases q with q | q
 ·rcases(hD.st.foot q).1 with ⟨es,c,e⟩ | ⟨cs,t',fr,e,ht'⟩
  ·unfold Cz at ht;rw[e]at ht;cases ht
  ·have:=Bp e;rw[this]at ht;have ht:t' =t:=by simpa using ht
   subst ht;rcases ht' with q | q | q | q
   ·exact h1 q
   ·exact h2 q
   ·exact h3 q
   ·exact h4 q
 ·subst q;rw[Bp hj]at ht;exact h5 (by simpa using ht.symm)
theorem RefsOw.chgX{b:Nat}{z:Af}(h:RefsOw b w z)(hX:DkX wb w g gj H D w' H' D')(hD:DkG wb w g H D){cj:Array Acr}{fj:Nat × Nat}(hj:w.heap[gj]? =some (.cells cj 84 fj)):RefsOw b w' z:=
 ⟨hX.og hD hj h.br (by decide) (by decide) (by decide) (by decide) (by decide),hX.og hD hj h.tg (by decide) (by decide) (by decide) (by decide) (by decide),hX.og hD hj h.lg (by decide) (by decide) (by decide) (by decide) (by decide)⟩
def OffJ(H:Dk)(n gj:Nat)(w:Acs)(v:Acr):Prop:=∀i,v.ownBlock=some i->i<w.heap.size/\¬BR H n i/\i≠gj
theorem OffJ.keep{n:Nat}{v:Acr}(h:OffJ H n gj w v)(k:Ext w w'):OffJ H n gj w' v:=fun i hi=>⟨AdO (h i hi).1 k.size,(h i hi).2⟩
theorem OffJ.set{n x:Nat}{v:Acr}(h:OffJ H n gj w v)(k:w.grownBy w' (some x)):OffJ H n gj w' v:=fun i hi=>⟨AdO (h i hi).1 k.size,(h i hi).2⟩
abbrev Ack:=@OffJ.set
theorem OffJ.step{v:Acr}(h:OffJ H D.files.length gj w v)(hX:DkX wb w g gj H D w' H' D'):OffJ H' D'.files.length gj w' v:=fun i hi=>by
 obtain⟨h1,h2,h3⟩:=h i hi;exact⟨AdO h1 hX.chg.size,fun q=>(hX.foot i q).elim h2 fun q=>by omega,h3⟩
theorem OffJ.rb{v:Acr}{l:AhU}(h:OffJ H D.files.length gj w v)(hX:DkX wb w g gj H D w' H' D')(hr:RB w v l):RB w' v l:=hr.chg hX.chg (.inr fun i hi q=>q.elim (h i hi).2.1 (h i hi).2.2)
theorem OffJ.new{w0:Acs}{v:Acr}{n:Nat}{xs:List Acr}{e:Acz}{s:Nat}(hD:DkG wb w0 g H D)(hr:w.ownsRow w0.heap.size e s v n xs)(hg:gj<w0.heap.size):OffJ H D.files.length gj w v:=fun i hi=>by
 have h1:=hr.lt i hi;exact⟨h1.2,fun q=>by have:=(hD.st.foot q).2.1;omega,by omega⟩
theorem OffJ.off{n:Nat}{v:Acr}(h:OffJ H n gj w v):∀i,v.ownBlock=some i->¬BR H n i:=fun i hi=>(h i hi).2.1
end
theorem Fj{w:Acs}{gj g n e:Nat}{z:Af}{t l:Bool}{ty:Acz}{fr:Nat × Nat}(h:w.heap[gj]? =some (.cells (BD g z n t (l||decide (e=9))).toArray ty fr))(he:e≠9):w.heap[gj]? =some (.cells (BD g z n t l).toArray ty fr):=by
 rw[decide_eq_false he,Age]at h;exact h
theorem JQ(w:Acs)(z:Af)(hm:RefsAt w z)(hR:Az z.1=true):
  Calls Acu 22 #[.agg (refsC z).toArray] w fun e w' =>∃v,e = .returned (.tuple #[v,NI 0])/\RB w' v (CS z.1)/\Ext w w' :=
 (Pb w z hm (Gm hR)).mono fun e w' h=>by
  obtain⟨v,rfl,h1,h2⟩:=h;rw[if_pos hR]at h1;exact⟨v,by rw[if_pos hR],h1,h2⟩
theorem El{r:Aq}(h:Az r=true):(wholeB r).length<=40010:=by
 have:=HN (k:=83) (Gq h) (by omega);unfold wholeB;omega
section
variable {D : Aj} {J : Jn}
theorem Pc(h:(Bi D J.refs).2=8)(h2:(AL (Bi D J.refs).1 [.clear]).2≠0):AE D J=((AL (Bi D J.refs).1 [.clear]).1,F2 J (AL (Bi D J.refs).1 [.clear]).2,(AL (Bi D J.refs).1 [.clear]).2):=(if_pos h).trans (if_pos h2)
theorem Oi(h:(Bi D J.refs).2=8)(h2:¬(AL (Bi D J.refs).1 [.clear]).2≠0):AE D J=((AL (Bi D J.refs).1 [.clear]).1,J,8):=(if_pos h).trans (if_neg h2)
theorem Q5(h:¬(Bi D J.refs).2=8)(h2:(Bi D J.refs).2≠0):AE D J=((Bi D J.refs).1,F2 J (Bi D J.refs).2,(Bi D J.refs).2):=(if_neg h).trans (if_pos h2)
theorem Q6(h:¬(Bi D J.refs).2=8)(h2:¬(Bi D J.refs).2≠0)(h3:(Do (Bi D J.refs).1).2≠0):AE D J=((Do (Bi D J.refs).1).1,F2 J (Do (Bi D J.refs).1).2,(Do (Bi D J.refs).1).2):=(if_neg h).trans ((if_neg h2).trans (if_pos h3))
theorem Pd(h:¬(Bi D J.refs).2=8)(h2:¬(Bi D J.refs).2≠0)(h3:¬(Do (Bi D J.refs).1).2≠0):AE D J=((Do (Bi D J.refs).1).1,⟨J.refs,(wholeB J.refs).length,false,J.lost⟩,0):=(if_neg h).trans ((if_neg h2).trans (if_neg h3))
end
theorem Q7:AC Acu 84 1 1:=fun b o w=>by simp[go_sem]
theorem Vf:Plain Acu 22:=fun _ _=>by kernel_rfl
theorem Vg:Plain Acu 41:=fun _ _=>by kernel_rfl
theorem WQ(f0:Fn)(a0 c0:Array Acr)(f1:Fn)(a1 c1:Array Acr)(w:Acs):(Ac1 141 2 #[(0, .func f0 a0 c0),(1, .func f1 a1 c1)]).run Acu w = .ok (.slice (some ⟨w.heap.size,0,none⟩) 2 2) (w.alloc (.cells #[.func f0 a0 c0, .func f1 a1 c1] 50)):=by kernel_rfl
theorem Kc:Plain Acu 28:=fun _ _=>by kernel_rfl
theorem WR(f0:Fn)(a0 c0:Array Acr)(w:Acs):(Ac1 141 1 #[(0, .func f0 a0 c0)]).run Acu w = .ok (.slice (some ⟨w.heap.size,0,none⟩) 1 1) (w.alloc (.cells #[.func f0 a0 c0] 50)):=by kernel_rfl
theorem WS(f0:Fn)(a0 c0:Array Acr)(f1:Fn)(a1 c1:Array Acr)(f2:Fn)(a2 c2:Array Acr)(w:Acs):(Ac1 141 3 #[(0, .func f0 a0 c0),(1, .func f1 a1 c1),(2, .func f2 a2 c2)]).run Acu w = .ok (.slice (some ⟨w.heap.size,0,none⟩) 3 3) (w.alloc (.cells #[.func f0 a0 c0, .func f1 a1 c1, .func f2 a2 c2] 50)):=by kernel_rfl
theorem Q9:AC Acu 84 3 38:=fun b o w=>by simp[go_sem]
set_option maxHeartbeats 1600000
theorem MB(wb w:Acs)(g:Nat)(H:Dk)(D:Aj)(hD:DkG wb w g H D)(gj:Nat)(z:Af)(n:Nat)(t l:Bool)(hj:w.heap[gj]? =some (.cells (BD g z n t l).toArray 84 (0,0)))(hlo:wb.heap.size<=gj)(hz:RefsOw 0 w z)(hR:Az z.1=true)(m:Nat)(hB:DBd m D)(hm:m<=98000):
  Calls Acu 32 #[PQ gj 0] w fun e w' =>∃H',e = .returned (NI (AE D ⟨z.1,n,t,l⟩).2.2)/\DkX wb w g gj H D w' H' (AE D ⟨z.1,n,t,l⟩).1/\JnAt w' gj g (AE D ⟨z.1,n,t,l⟩).2.1 z:=by
 have hX:DkX wb w g gj H D w H D:= .ofExt hD (AbE w);have hwb:=hD.ext.size;have hel:=Gq hR;have hwl:=El hR;have hgl:=bl hj;have hbs1:∀a∈([.clear, .app nwN (wholeB z.1)]:List JA),∀s b,a = .app s b->b.length<=45000:=by
   intro a ha;simp only[Ac8,Adx,or_false]at ha;intro s b e;rcases ha with rfl | rfl <;> cases e
   omega
 refine gG (args:= [PQ gj 0]) Tryz.func32 rfl 55 rfl rfl ?_;have hE:=AbE w;refine gS (ZD (vr (PQ gj 0) rfl) rfl fun h w3 ba a2 af bg=> ?_);have bh:=AO (bl hj) ba;have hX:DkX wb w g gj H D w3 H (D):=(hX.keep af);have hz:RefsOw 0 w3 z:=(hz.keep af);have c:=a2;clear a2;have bi:h<w3.heap.size:=by omega
 have hj:=eb af hj;refine gS (YW Eb rfl rfl (Ac c rfl) (gS (AbF rfl (gS (AbD Q7 rfl (gS (Y3 (Aa9 hj rfl) (L3).choose_spec rfl (by rw[Am];exact KO) (gS (YZ Vf rfl ((JQ _ z (hz).rd hR).mono ?_))))))))));rintro e al ⟨ag,rfl,am,ad⟩;refine⟨_,rfl,?_⟩;have hX:DkX wb w g gj H D al H (D):=(hX.keep ad);have hz:RefsOw 0 al z:=(hz.keep ad);refine gS (AbG (vs:= [ag,NI 0]) rfl rfl (gS (AbG (vs:= [ag,NI 0]) rfl rfl (gS (AbM Tn fun p an a3 a4 y bj=> ?_)))));have o:=AbE al;have hE:=hE.trans (af.trans ad);have bb:=hE.size;have hj:=eb ad hj;have bk:=AO (bl hj) a3;have c:=eb ad c;have bm:=AO (bl c) a3;have hX:DkX wb w g gj H D an H (D):=(hX.keep y);have hz:RefsOw 0 an z:=(hz.keep y);have f:=a4;clear a4;have bn:p<an.heap.size:=by omega
 have o:=o.trans y;refine gS (Y1 (i:=0) (v:=ag) rfl rfl f (AcF rfl) Ms (Aco (am.keep o)).1 (Aco (am.keep o)).2 fun a5 a6 aa bo=> ?_);have hX:DkX wb w g gj H D a5 H (D):=AbZ hX aa f (.inl (by omega)) (by omega) (by decide) (by decide) (by decide) (by decide) (by decide) (by decide);have hz:RefsOw 0 a5 z:=AbN hz aa f (by decide) (by decide);clear f;have f:=a6;clear a6;have bp:=bl f;refine gS (YW G1 rfl rfl (Ac f rfl) ?_);have hE:=hE.trans y;have hE:=Ad hE aa (Acw bb (by omega));have o:=Ad o aa (Acw (Acy _) (by omega));have bq:=hE.size;have br:=o.size;have hXr:=hX;have hj:=eb y hj;have hj:=kb aa hj (by omega);have hjr:=hj;have bs:=(bl hj);have c:=eb y c;have c:=kb aa c (by omega);have bt:=(bl c);have bu:=(bl f);refine gS (Y2 Vg rfl rfl ((Lc _ 83 (.inl rfl) ag (CS z.1) (am.keep o) (by omega)).mono ?_));rintro e ao ⟨k,rfl,ap,ae⟩;refine⟨_,rfl,?_⟩;have hX:DkX wb w g gj H D ao H (D):=(hX.keep ae);have hz:RefsOw 0 ao z:=(hz.keep ae);have hO:OffJ H (D).files.length gj ao k:=OffJ.new hXr.g ap (bl hjr);have j:=Zc ap;have bc:OB k p:=fun q=>by have:=(ap.lt _ q).1;omega
 have f:=eb ae f;refine gS (Y1 (i:=0) (v:=k) rfl rfl f (AcF rfl) Ms (Aco j).1 (Aco j).2 fun aq a7 ab bv=> ?_);have hX:DkX wb w g gj H D aq H (D):=AbZ hX ab f (.inl (by omega)) (by omega) (by decide) (by decide) (by decide) (by decide) (by decide) (by decide);have hz:RefsOw 0 aq z:=AbN hz ab f (by decide) (by decide);have hO:OffJ H (D).files.length gj aq k:=Ack hO ab;clear f;have f:=a7;clear a7;have bw:=bl f;have c:=eb ae c;have c:=kb ab c (by omega);refine gS (Zl (vs:= #[PQ h 0,PQ p 0]) (by simp only[AcJ,AcL,AcR];exact congrArg Ac4 (B4 (vr (PQ h 0) rfl) (vr (PQ p 0) rfl))) (gS (YW Eb rfl rfl (Ac c rfl) (gS (YW Eb rfl rfl (Ac c rfl) (gS (Z2 (vr (PQ gj 0) rfl) (gS (AaG (vr (.func (.func 29) #[PQ gj 0] #[]) rfl) (vr (.func (.func 78) #[] #[PQ h 0,PQ p 0]) rfl) (fun w=>WQ _ _ _ _ _ _ w) fun b58 ar bx bd r bz=> ?_)))))))));have hX:DkX wb w g gj H D ar H (D):=(hX.keep r);have hz:RefsOw 0 ar z:=(hz.keep r);have hO:OffJ H (D).files.length gj ar k:=(hO.keep r);have hXc:=hX;have hj:=eb ae hj;have hj:=kb ab hj (by omega);have hj:=eb r hj;have hjc:=hj;have hzc:=hz;have c:=eb r c;have hb9c:=c;have f:=eb r f;have hb27c:=f;have hOc:=hO;have j:=RB.kept j ab (.inr bc);have j:=j.keep r;have hrc:=j;refine gS (Y2 Kc rfl rfl ?_);refine(IX wb _ g H D hXc.g gj z n t l hjc hlo b58 [.func (.func 29) #[PQ gj 0] #[], .func (.func 78) #[] #[PQ h 0,PQ p 0]] [.clear, .app nwN (wholeB z.1)] bd (XS (show JaAt _ _ _ _ _ (.clear)from rfl) (show JaAt _ _ _ _ _ (.app nwN (wholeB z.1))from⟨_,h,p,k,rfl, .inl ⟨rfl,rfl⟩,c,f,j, .inr (hO).off,by omega⟩)) (m) hB (by simp only[AcK,AcQ];omega) (by intro a ha;simp only[Ac8,Adx,or_false]at ha;intro s b e;rcases ha with rfl | rfl <;> cases e;omega)).mono ?_;rintro e b0 ⟨H64,rfl,hX65,hj66⟩;refine⟨_,rfl,?_⟩;have hX:=hXc.trans hX65;have hj:=hj66;have hz:=hzc.chgX hX65 hXc.g hjc;have c:=hX65.box hXc.g hjc hb9c (by decide) (by decide) (by decide) (by decide) (by decide);have f:=hX65.box hXc.g hjc hb27c (by decide) (by decide) (by decide) (by decide) (by decide);have j:=hOc.rb hX65 hrc;have hO:=hOc.step hX65;have b1:=bl c;have b2:=bl f;refine gS (YX (a:=((AL D [.clear, .app nwN (wholeB z.1)]).2:Nat)) (b:=(8:Nat)) rfl rfl (AK _ _ _ _) ?_);refine cD rfl (fun au=> ?_) fun au=> ?_
 ·have he1:(Bi D z.1).2=8:=au;have hj:=Fj hj (by have he1:=he1;unfold Bi at he1;omega);refine gS (YW Eb rfl rfl (Ac c rfl) (gS (YW Eb rfl rfl (Ac c rfl) (gS (Z2 (vr (PQ gj 0) rfl) (gS (AaF (vr (.func (.func 29) #[PQ gj 0] #[]) rfl) (fun w=>WR _ _ _ w) fun b74 av b3 be ac b4=> ?_)))))));have hX:DkX wb w g gj H D av H64 ((AL D [.clear, .app nwN (wholeB z.1)]).1):=(hX.keep ac);have hz:RefsOw 0 av z:=(hz.keep ac);have hO:OffJ H64 ((AL D [.clear, .app nwN (wholeB z.1)]).1).files.length gj av k:=(hO.keep ac);have hXc:=hX;have hj:=eb ac hj;have hjc:=hj;have hzc:=hz;have c:=eb ac c;have hb9c:=c;have f:=eb ac f;have hb27c:=f;refine gS (Y2 Kc rfl rfl ?_);refine(IX wb _ g H64 ((AL D [.clear, .app nwN (wholeB z.1)]).1) hXc.g gj z n t l hjc hlo b74 [.func (.func 29) #[PQ gj 0] #[]] [.clear] be (jas1 (show JaAt _ _ _ _ _ (.clear)from rfl)) (m+300) (hB.jdo _ hbs1) (by simp only[AcK,AcQ];omega) (by intro a ha;simp only[Ac8,Adx,or_false]at ha;intro s b e;rcases ha with rfl <;> cases e)).mono ?_;rintro e b5 ⟨H80,rfl,hX81,hj82⟩;refine⟨_,rfl,?_⟩;have hX:=hXc.trans hX81;have hj:=hj82;have hz:=hzc.chgX hX81 hXc.g hjc;have c:=hX81.box hXc.g hjc hb9c (by decide) (by decide) (by decide) (by decide) (by decide);have f:=hX81.box hXc.g hjc hb27c (by decide) (by decide) (by decide) (by decide) (by decide);have b6:=bl c;have b7:=bl f;refine gS (YX (a:=((AL ((AL D [.clear, .app nwN (wholeB z.1)]).1) [.clear]).2:Nat)) (b:=(0:Nat)) rfl rfl (Ba _ _ _ _) ?_);refine cD rfl (fun aw=> ?_) fun aw=> ?_
  ·have he2:(AL (Bi D z.1).1 [.clear]).2≠0:=aw;refine AD rfl (vr (NI ((AL ((AL D [.clear, .app nwN (wholeB z.1)]).1) [.clear]).2)) rfl) ?_;have hV:=Pc (J:=⟨z.1,n,t,l⟩) he1 he2;exact⟨H80,by rw[hV] <;> rfl,by rw[hV];exact hX,by rw[hV];exact⟨hj,hz,rfl⟩⟩
  have he2:¬(AL (Bi D z.1).1 [.clear]).2≠0:=aw;have hj:=Fj hj (by have he2:=he2;unfold Bi at he2;omega);refine AD rfl (vr (NI 8) rfl) ?_;have hV:=Oi (J:=⟨z.1,n,t,l⟩) he1 he2;exact⟨H80,by rw[hV] <;> rfl,by rw[hV];exact hX,by rw[hV];exact⟨hj,hz,rfl⟩⟩
 have he1:¬(Bi D z.1).2=8:=au;refine gS (YX (a:=((AL D [.clear, .app nwN (wholeB z.1)]).2:Nat)) (b:=(0:Nat)) rfl rfl (Ba _ _ _ _) ?_);refine cD rfl (fun ax=> ?_) fun ax=> ?_
 ·have he2:(Bi D z.1).2≠0:=ax;refine AD rfl (vr (NI ((AL D [.clear, .app nwN (wholeB z.1)]).2)) rfl) ?_;have hV:=Q5 (J:=⟨z.1,n,t,l⟩) he1 he2;exact⟨H64,by rw[hV] <;> rfl,by rw[hV];exact hX,by rw[hV];exact⟨hj,hz,rfl⟩⟩
 have he2:¬(Bi D z.1).2≠0:=ax;have hj:=Fj hj (by have he2:=he2;unfold Bi at he2;omega);refine gS (YW Eb rfl rfl (Ac c rfl) (gS (Zl (vs:= #[PQ h 0]) (by simp only[AcJ,AcL,AcR];exact congrArg Ac4 (Fm (vr (PQ h 0) rfl))) (gS (Zl (vs:= #[PQ h 0]) (by simp only[AcJ,AcL,AcR];exact congrArg Ac4 (Fm (vr (PQ h 0) rfl))) (gS (Zl (vs:= #[PQ h 0]) (by simp only[AcJ,AcL,AcR];exact congrArg Ac4 (Fm (vr (PQ h 0) rfl))) (gS (Abu (vr (.func (.func 79) #[] #[PQ h 0]) rfl) (vr (.func (.func 80) #[] #[PQ h 0]) rfl) (vr (.func (.func 82) #[] #[PQ h 0]) rfl) (fun w=>WS _ _ _ _ _ _ _ _ _ w) fun b93 ay b8 bf u b9=> ?_)))))))));have hX:DkX wb w g gj H D ay H64 ((AL D [.clear, .app nwN (wholeB z.1)]).1):=(hX.keep u);have hz:RefsOw 0 ay z:=(hz.keep u);have hO:OffJ H64 ((AL D [.clear, .app nwN (wholeB z.1)]).1).files.length gj ay k:=(hO.keep u);have hXc:=hX;have hj:=eb u hj;have hjc:=hj;have hzc:=hz;have c:=eb u c;have hb9c:=c;have f:=eb u f;have hb27c:=f;have hOc:=hO;have j:=j.keep u;have hrc:=j;refine gS (Y2 Kc rfl rfl ?_);refine(IX wb _ g H64 ((AL D [.clear, .app nwN (wholeB z.1)]).1) hXc.g gj z n t l hjc hlo b93 [.func (.func 79) #[] #[PQ h 0], .func (.func 80) #[] #[PQ h 0], .func (.func 82) #[] #[PQ h 0]] [.sync nwN, .move, .sync jrN] bf (YD (show JaAt _ _ _ _ _ (.sync nwN)from⟨_,h,rfl, .inl ⟨rfl,rfl⟩,c⟩) (show JaAt _ _ _ _ _ (.move)from⟨h,rfl,c⟩) (show JaAt _ _ _ _ _ (.sync jrN)from⟨_,h,rfl, .inr ⟨rfl, .inl rfl⟩,c⟩)) (m+300) (hB.jdo _ hbs1) (by simp only[AcK,AcQ];omega) (by intro a ha;simp only[Ac8,Adx,or_false]at ha;intro s b e;rcases ha with rfl | rfl | rfl <;> cases e)).mono ?_;rintro e ca ⟨H99,rfl,hX100,hj101⟩;refine⟨_,rfl,?_⟩;have hX:=hXc.trans hX100;have hj:=hj101;have hz:=hzc.chgX hX100 hXc.g hjc;have c:=hX100.box hXc.g hjc hb9c (by decide) (by decide) (by decide) (by decide) (by decide);have f:=hX100.box hXc.g hjc hb27c (by decide) (by decide) (by decide) (by decide) (by decide);have j:=hOc.rb hX100 hrc;have hO:=hOc.step hX100;have cb:=bl c;have cc:=bl f;refine gS (YX (a:=((AL ((AL D [.clear, .app nwN (wholeB z.1)]).1) [.sync nwN, .move, .sync jrN]).2:Nat)) (b:=(0:Nat)) rfl rfl (AK _ _ _ _) ?_);refine cD rfl (fun az=> ?_) fun az=> ?_
 ·have he3:¬(Do (Bi D z.1).1).2≠0:=fun q=>q az;have hj:=Fj hj (by have he3:=he3;unfold Do Bi at he3;omega);refine FS [0,1,2,3,4,5,6,7,8,9] [6,9] [] [1] fun a0 x=> ?_;have hX:DkX wb w g gj H D a0 H99 ((AL ((AL D [.clear, .app nwN (wholeB z.1)]).1) [.sync nwN, .move, .sync jrN]).1):=(hX.keep x);have hz:RefsOw 0 a0 z:=(hz.keep x);have hO:OffJ H99 ((AL ((AL D [.clear, .app nwN (wholeB z.1)]).1) [.sync nwN, .move, .sync jrN]).1).files.length gj a0 k:=(hO.keep x);have hj:=eb x hj;have c:=eb x c;have f:=eb x f;have j:=j.keep x;refine RL c ?_;refine ys (YW Eb rfl rfl (Ac c rfl) zz) (yf (fun _ ⟨c,_⟩=>YW Eb rfl rfl (Ac c rfl) zz) (ys (YW G1 rfl rfl (Ac f rfl) zz) (ys (Zk G1 (Zn j rfl) zz) (ys (AbF rfl zz) (ys (AbD Q4 rfl zz) (yI (Y1 (i:=37) (v:=NI ((wholeB z.1:AhU).length)) rfl rfl hj (by rw[Gy];decide) Dw rfl rfl fun ah a8 ai cd=> ?_)))))));have hX:DkX wb w g gj H D ah H99 ((AL ((AL D [.clear, .app nwN (wholeB z.1)]).1) [.sync nwN, .move, .sync jrN]).1):=AbZ hX ai hj (.inr rfl) hlo (by decide) (by decide) (by decide) (by decide) (by decide) (by decide);have hz:RefsOw 0 ah z:=AbN hz ai hj (by decide) (by decide);have hO:OffJ H99 ((AL ((AL D [.clear, .app nwN (wholeB z.1)]).1) [.sync nwN, .move, .sync jrN]).1).files.length gj ah k:=Ack hO ai;clear hj;have hj:ah.heap[gj]? =some (.cells (BD g z ((wholeB z.1:AhU).length) t l).toArray 84 (0,0)):=AA a8 (Of ((wholeB z.1:AhU).length));clear a8;have ce:=bl hj;have c:=kb ai c (by omega);refine⟨⟨c,trivial⟩,?_⟩;refine ys (AbF rfl zz) (ys (AbD Q9 rfl zz) (yD rfl (Y1 (i:=38) (v:= .bool (false)) rfl rfl hj (by rw[Gy];decide) UL rfl rfl fun aj a9 a1 cf=> ?_)));have hX:DkX wb w g gj H D aj H99 ((AL ((AL D [.clear, .app nwN (wholeB z.1)]).1) [.sync nwN, .move, .sync jrN]).1):=AbZ hX a1 hj (.inr rfl) hlo (by decide) (by decide) (by decide) (by decide) (by decide) (by decide);have hz:RefsOw 0 aj z:=AbN hz a1 hj (by decide) (by decide);have hO:OffJ H99 ((AL ((AL D [.clear, .app nwN (wholeB z.1)]).1) [.sync nwN, .move, .sync jrN]).1).files.length gj aj k:=Ack hO a1;clear hj;have hj:aj.heap[gj]? =some (.cells (BD g z ((wholeB z.1:AhU).length) false l).toArray 84 (0,0)):=AA a9 (Td false);clear a9;have cg:=bl hj;refine AD rfl (vr (NI ((AL ((AL D [.clear, .app nwN (wholeB z.1)]).1) [.sync nwN, .move, .sync jrN]).2)) rfl) ?_;have hV:=Pd (J:=⟨z.1,n,t,l⟩) he1 he2 he3;exact⟨H99,by rw[hV];exact congrArg (fun e=>Ending.returned (NI e)) (Decidable.not_not.1 he3),by rw[hV];exact hX,by rw[hV];exact⟨hj,hz,rfl⟩⟩
 have he3:(Do (Bi D z.1).1).2≠0:=az;refine AD rfl (vr (NI ((AL ((AL D [.clear, .app nwN (wholeB z.1)]).1) [.sync nwN, .move, .sync jrN]).2)) rfl) ?_;have hV:=Q6 (J:=⟨z.1,n,t,l⟩) he1 he2 he3;exact⟨H99,by rw[hV] <;> rfl,by rw[hV];exact hX,by rw[hV];exact⟨hj,hz,rfl⟩⟩
theorem MC(wb w:Acs)(g:Nat)(H:Dk)(D:Aj)(hD:DkG wb w g H D)(gj:Nat)(z:Af)(n:Nat)(t l:Bool)(hj:w.heap[gj]? =some (.cells (BD g z n t l).toArray 84 (0,0)))(hlo:wb.heap.size<=gj)(hz:RefsOw 0 w z)(hR:Az z.1=true)(m:Nat)(hB:DBd m D)(hm:m<=98000)(r:Aj × Jn × Nat)(hr:AE D ⟨z.1,n,t,l⟩=r):
  Calls Acu 32 #[PQ gj 0] w fun e w' =>∃H',e = .returned (NI r.2.2)/\DkX wb w g gj H D w' H' r.1/\JnAt w' gj g r.2.1 z:=by
 subst hr;exact MB wb w g H D hD gj z n t l hj hlo hz hR m hB hm
section
variable {D : Aj} {J : Jn} {us : List Av} {note : Bs} {r : Aj × Jn × Nat}
theorem Oj(h:J.lost=true):Bw D J us note=(D,J,19):=if_pos h
theorem H4(h:J.lost=false)(h2:(Ak J.refs us note).1≠0):Bw D J us note=(D,J,(Ak J.refs us note).1):=(if_neg (by rw[h];decide)).trans (if_pos h2)
theorem I0(h:J.lost=false)(h2:¬(Ak J.refs us note).1≠0)(h3:(J.torn||decide (8192<J.size))=true)(hr:AE D J=r)(h4:(decide (r.2.2≠0)&&(J.torn||decide (r.2.2≠8)))=true):Bw D J us note=r:=by
 simp only[AcZ,Ad7,decide_eq_true_eq]at h3 h4;unfold Bw;rw[if_neg (by rw[h];decide),if_neg h2,if_pos h3,hr,if_pos h4]
theorem JR(h:J.lost=false)(h2:¬(Ak J.refs us note).1≠0)(h3:(J.torn||decide (8192<J.size))=true)(hr:AE D J=r)(h4:(decide (r.2.2≠0)&&(J.torn||decide (r.2.2≠8)))=false):Bw D J us note=FN r.1 r.2.1 (Ak J.refs us note).2 (recB 84 (tranB us note)):=by
 simp only[Ad7,decide_eq_true_eq]at h3;unfold Bw;rw[if_neg (by rw[h];decide),if_neg h2,if_pos h3,hr,if_neg (fun q=>by
  have:(decide (r.2.2≠0)&&(J.torn||decide (r.2.2≠8)))=true:=by simp only[AcZ,Ad7,decide_eq_true_eq];exact q
  rw[h4]at this;cases this)]
theorem GW(h:J.lost=false)(h2:¬(Ak J.refs us note).1≠0)(h3:(J.torn||decide (8192<J.size))=false):Bw D J us note=FN D J (Ak J.refs us note).2 (recB 84 (tranB us note)):=by
 simp only[Bool.or_eq_false_iff,decide_eq_false_iff_not]at h3;unfold Bw;rw[if_neg (by rw[h];decide),if_neg h2,if_neg (fun q=>q.elim (fun q=>by rw[h3.1]at q;cases q) h3.2)]
theorem Vh{x:Aq}{b:Bs}(h:¬(DP D b).2=0):FN D J x b=((DP D b).1,F2 J (DP D b).2,(DP D b).2):=if_pos h
theorem PL{x:Aq}{b:Bs}(h:(DP D b).2=0):FN D J x b=((DP D b).1,⟨x,J.size+b.length,J.torn,J.lost⟩,0):=if_neg fun q=>q h
theorem Pe(hR:Az J.refs=true):(AE D J).2.1.size<=J.size\/(AE D J).2.1.size<=40010:=by
 unfold AE;split
 ·unfold Nb;split <;> exact .inl (Acy _)
 ·split
  ·exact .inl (Acy _)
  ·unfold QH;split
   ·exact .inl (Acy _)
   ·exact .inr (El hR)
end
theorem DBd.jrenew{m:Nat}{D:Aj}{J:Jn}(h:DBd m D)(hR:Az J.refs=true):DBd (m+900) (AE D J).1:=by
 have hw:=El hR;have h1:DBd (m+300) (Bi D J.refs).1:=h.jdo [.clear, .app nwN (wholeB J.refs)] fun a ha s b e=>by
  simp only[Ac8,Adx,or_false]at ha;rcases ha with rfl | rfl <;> cases e
  omega
 unfold AE;split
 ·have h2:DBd (m+450) (AL (Bi D J.refs).1 [.clear]).1:=h1.jdo [.clear] fun a ha s b e=>by
   simp only[Ac8,Adx,or_false]at ha;subst ha;cases e
  unfold Nb;split <;> exact h2.mono (by omega)
 ·split
  ·exact h1.mono (by omega)
  ·have h2:DBd (m+750) (Do (Bi D J.refs).1).1:=h1.jdo [.sync nwN, .move, .sync jrN] fun a ha s b e=>by
    simp only[Ac8,Adx,or_false]at ha;rcases ha with rfl | rfl | rfl <;> cases e
   unfold QH;split <;> exact h2.mono (by omega)
theorem RG.chgJ{α:Type}{k:Nat}{enc:α->List Acr}{w w' :Acs}{v:Acr}{l:List α}{B:Nat->Prop}(h:RG k enc w v l)(hc:Chg B w w')(hB:l= []\/∀i,v.ownBlock=some i->¬B i):RG k enc w' v l:=by
 obtain⟨h0,h1,ao,cap,rfl,h2,h3,h4,h5⟩:=h;refine⟨h0,h1,ao,cap,rfl,h2,h3,h4,fun a ha j u hu=> ?_⟩;have hl:=h5 a ha j u hu;have hlt:=World.block_lt_of_cell? w _ hl;rcases hB with rfl | hB
 ·simp at hu
 ·have hn:¬B (a.add j).block:=hB _ (by rw[ha];obtain⟨a1,a2,a3⟩:=a;simp only[Adc,Addr.add];split <;> rfl);have hb:=hc.blk _ hlt hn;unfold World.cell? at hl ⊢;rw[hb];exact hl
structure UpsAt (b : Nat) (H : Dk) (n gj : Nat) (w : Acs) (v : Acr) (l : List Av) : Prop where
 rg:RG 66 updC w v l
 off:l= []\/∀i,v.ownBlock=some i->i<b/\¬BR H n i/\i≠gj
section
variable {wb w w' : Acs} {b g gj n x : Nat} {H H' : Dk} {D D' : Aj} {v : Acr} {l : List Av}
theorem UpsAt.keep(h:UpsAt b H n gj w v l)(k:Ext w w'):UpsAt b H n gj w' v l:=⟨h.rg.keep k,h.off⟩
theorem UpsAt.set(h:UpsAt b H n gj w v l)(k:w.grownBy w' (some x))(hx:b<=x\/x=gj):UpsAt b H n gj w' v l:=
 ⟨h.rg.chgJ (B:=fun i=>i=x) (Zw k fun i e=> .inl (Option.some.inj e).symm) (h.off.imp id fun q i hi (e:i=x)=>hx.elim (fun hx=>by have:=(q i hi).1;omega) fun hx=>(q i hi).2.2 (e.trans hx)),h.off⟩
theorem UpsAt.step(h:UpsAt b H D.files.length gj w v l)(hb:b<=w.heap.size)(hX:DkX wb w g gj H D w' H' D'):UpsAt b H' D'.files.length gj w' v l:=
 ⟨h.rg.chgJ hX.chg (h.off.imp id fun q i hi r=>r.elim (q i hi).2.1 (q i hi).2.2),h.off.imp id fun q i hi=>⟨(q i hi).1,fun r=>(hX.foot i r).elim (q i hi).2.1 fun r=>by have:=(q i hi).1;omega,(q i hi).2.2⟩⟩
end
theorem Ra{b:Bs}{s t:List AI × Nat}(h:Cv b s=some t):t.1.length=s.1.length+1:=by
 unfold Cv at h;cases hn:FU b s.2 with
 | none=>rw[hn]at h;cases h
 | some x=>rw[hn]at h;cases h;simp
theorem Rb:Plain Acu 180:=fun _ _=>by kernel_rfl
theorem Rc:Plain Acu 178:=fun _ _=>by kernel_rfl
theorem Re:Plain Acu 179:=fun _ _=>by kernel_rfl
theorem M1(z0:AhU)(z1:B6)(w:Acs):(Adu 94 #[(0,St z0),(1,AB z1.1)]).run Acu w = .ok (.agg (St (z0) :: (Acv z1.1)).toArray) w:=by
 obtain⟨z1,k1⟩:=z1;obtain⟨a1_0,a1_1,a1_2,a1_3,a1_4,a1_5,a1_6,a1_7,a1_8,a1_9,a1_10,a1_11,a1_12,a1_13,a1_14,a1_15,a1_16,a1_17,a1_18,a1_19,a1_20,a1_21,a1_22,a1_23,a1_24,a1_25,a1_26,a1_27,a1_28,a1_29,a1_30,a1_31,rfl⟩:=Kn k1;exact Lt _ _ _ _ _ _ _ _ _ _ _ _ _ _ _ _ _ _ _ _ _ _ _ _ _ _ _ _ _ _ _ _ _ w
theorem Tp:∀(cs:Array Acr),cs.size=33->∀w:Acs,(Ac1 31 1 #[(0, .agg cs)]).run Acu w = .ok (.slice (some ⟨w.heap.size,0,none⟩) 1 1) (w.alloc (.cells cs 94))
 | ⟨c0 :: c1 :: c2 :: c3 :: c4 :: c5 :: c6 :: c7 :: c8 :: c9 :: c10 :: c11 :: c12 :: c13 :: c14 :: c15 :: c16 :: c17 :: c18 :: c19 :: c20 :: c21 :: c22 :: c23 :: c24 :: c25 :: c26 :: c27 :: c28 :: c29 :: c30 :: c31 :: c32 :: []⟩,_,w=>Sm c0 c1 c2 c3 c4 c5 c6 c7 c8 c9 c10 c11 c12 c13 c14 c15 c16 c17 c18 c19 c20 c21 c22 c23 c24 c25 c26 c27 c28 c29 c30 c31 c32 w
theorem MD{w0 w:Acs}{r:Nat}{v:Acr}{b:Bs}{i:Nat}(c:Ext w0 w)(hb:w.heap[r]? =some (.cells (BN (AT v b (i))).toArray 216 (0,0)))(hr:RB w0 v b)(lr:w0.heap.size<=r)(hi:i<=b.length)(hl:b.length<=4611686018427387904):
  Calls Acu 177 #[PQ r 0] w fun e w' =>(∃x,e = .returned x/\∃u l j,FA b i=some (l,j)/\u=x/\OG w.heap.size 94 33 nmdC w' u l/\w'.heap[r]? =some (.cells (BN (AT v b (j))).toArray 216 (0,0))/\j<=b.length/\w.grownBy w' (some r))\/∃ch,e = .panicked ch/\FA b i=none/\ch= [C2]/\w.grownBy w' (some r):=by
 have hsz0:=c.size;have hapr:b= []\/OB v r:=by
   rcases b with _ | ⟨b0,b1⟩
   ·exact .inl rfl
   ·exact .inr fun e=>by have:=RB.lt hr (by simp) e;omega
 have hlr:=(bl hb);have hgr:=Ac0 w (some r);refine gG (args:= [PQ r 0]) Tryz.func177 rfl 19 rfl rfl ?_;have hE:=AbE w;have hrow0:OG w.heap.size 94 33 nmdC w (AcI none 0 0) ([]:List AI):=AbQ _ _ _ _ _;have aj:=AbI hrow0 hb (by decide);refine gP (Z4 Rb rfl rfl ?_);refine An (JH _ r v b i hb (hr.keep c) hapr hi hl 64) ?_ ?_;rotate_left
 ·rintro ch w7 ⟨hPx,rfl,hgx⟩;refine Ao ?_;exact .inr ⟨_,rfl,Ut hPx,rfl,Aa hgr hgx (fun _ e=> .inl e)⟩
 rintro v_ w9 ⟨n,j,hP,rfl,ab,p⟩;have hgr:w.grownBy w9 (some r):=Aa hgr p (fun _ e=> .inl e);clear hb;have hb:=ab;clear ab;have hle_j:=(Jf hi hP).1;have aw:=bl hb;have hnl:=(Jf hi hP).2.1;have c:=Ad c p (Acw (Acy _) lr);have hrow0:=AbH hrow0 p aj;refine gL (fun(ρ:Ah) (wz:Acs)=>∃k:Nat,∃j0:Nat,∃o:List AI,∃vo:Acr,ρ 0=(PQ r 0:Acr)/\ρ 5=(NI n:Acr)/\ρ 6=(NI k:Acr)/\ρ 2=(vo:Acr)/\w.grownBy wz (some r)/\Ext w0 wz/\wz.heap[r]? =some (.cells (BN (AT v b (j0))).toArray 216 (0,0))/\OG w.heap.size 94 33 (nmdC) wz vo (o)/\(k<=n)/\(j0<=b.length)/\(B9 (Cv b) k ([],j)=some (o,j0))/\True) (fun ρ _=>n-(intOf (ρ 6)).toNat) ⟨0,j,[],(AcI none 0 0),rfl,rfl,rfl,rfl,hgr,c,hb,FY hrow0 (rfl),AcO _,hle_j,rfl,trivial⟩ ?_;clear hrow0;clear hb;clear hgr c;rintro al ax ⟨k,j0,o,vo,q,T5,y,T2,hgr,c,hb,hr_vo,hk,hj0,hit,-⟩;have q6:=y;refine gS (YX (a:=(k:Nat)) (b:=(n:Nat)) y T5 (Bf _ _ _ _) ?_);refine cD rfl (fun ac=> ?_) fun ac=> ?_
 ·have hlt:k<n:=ac;have hol:o.length=k:=by have:=Jc (f:=Cv b) (fun s t h=>Ra h) k hit;simpa using this
  have am:=AbI hr_vo hb (by decide);refine gP (Y6 Rc q ?_);refine An (GK _ r v b j0 hb (hr.keep c) hapr hj0 hl) ?_ ?_;rotate_left
  ·rintro ch ay ⟨hPx,rfl,hgx⟩;refine Ao ?_;exact .inr ⟨_,rfl,SL hP hlt hit (Yd hPx),rfl,Aa hgr hgx (fun _ e=> .inl e)⟩
  rintro v_ an ⟨d1,j1,hP1,rfl,ad,z⟩;have hgr:w.grownBy an (some r):=Aa hgr z (fun _ e=> .inl e);clear hb;have hb:=ad;clear ad;have hle_j1:=(txtP_le hP1).1;have az:=bl hb;have hr_vo:=AbH hr_vo z am;have ao:=AbI hr_vo hb (by decide);have c:=Ad c z (Acw (Acy _) lr);refine gP (Y6 Re q ?_);refine An (Je _ r v b j1 hb (hr.keep c) hapr hle_j1 hl) ?_ ?_;rotate_left
  ·rintro ch a0 ⟨hPx,rfl,hgx⟩;refine Ao ?_;exact .inr ⟨_,rfl,SL hP hlt hit (Ye hP1 hPx),rfl,Aa hgr hgx (fun _ e=> .inl e)⟩
  rintro v_ ap ⟨d2,j2,hP2,rfl,ae,aa⟩;have hgr:w.grownBy ap (some r):=Aa hgr aa (fun _ e=> .inl e);clear hb;have hb:=ae;clear ae;have hle_j2:=Hg hP2;have a1:=bl hb;refine gS (ZK (vr (St (d1)) rfl) (vr (AB d2.1) rfl) (fun w=>M1 d1 d2 w) (gS (ZS (a:=(⟨d1,d2⟩:AI)) (enc:=nmdC) (vr (.agg (nmdC (⟨d1,d2⟩:AI)).toArray) rfl) (BG _) Tp fun aq af ag m=> ?_)));have hgr:w.grownBy af (some r):=Aa hgr m.grown (fun _ e=>by cases e);have hr_vo:=AbH hr_vo aa ao;have hr_vo:=hr_vo.keep m;have hb:=eb m hb;have ar:=AbI hr_vo hb (by decide);refine gS (Zr _ _ w.heap.size _ 48 EQ wr30_ig94.choose_spec.1 wr30_ig94.choose_spec.2 EQ (o) ([(⟨d1,d2⟩:AI)]) (ZP hr_vo T2) (Y5 ag (vr aq rfl)) (fun _ _=>DM) (by simp only[AcK,AcQ];omega) (by simp only[AcK,AcQ];omega) hgr.size fun ah ai au g=> ?_);have g:Grew af ai vo ah:= .eqv T2 g;have hgr:w.grownBy ai (some r):=Aa hgr g.by_ (fun _ e=> .inr (hr_vo.2.lt _ e).1);have c:=Ad c aa (Acw (Acy _) lr);have c:=c.trans m;have c:=Br c g hr_vo.2 hsz0;have hb:=AV hb g ar;clear ag;clear hr_vo;refine gS (Y4 (xv:=NI k) (yv:=NI 1) y rfl rfl (AG _ _ _ (by omega)) (gK (Adv ⟨k+1,j2,o++ [⟨d1,d2⟩],ah,q,T5,rfl,rfl,hgr,c,hb,FY au (rfl),by omega,hle_j2,Wp hit (V0 hP1 hP2),trivial⟩ ?_)));show n-(intOf (NI ((k)+(1)))).toNat<n-(intOf (al 6)).toNat;rw[q6];simp only[intOf,AcX];omega
 have hkn:k=n:=by omega
 subst hkn;have hN:FA b i=some (o,j0):=(NT hP).trans hit;refine AD rfl T2 ?_;exact .inl ⟨_,rfl,_,o,j0,hN,rfl,hr_vo,hb,hj0,hgr⟩
theorem Rf{b:Bs}{s t:List A7 × Nat}(h:Cw b s=some t):t.1.length=s.1.length+1:=by
 unfold Cw at h;cases hn:C4 b s.2 with
 | none=>rw[hn]at h;cases h
 | some x=>rw[hn]at h;cases h;simp
theorem Le:Plain Acu 177:=fun _ _=>by kernel_rfl
theorem Rg:Plain Acu 181:=fun _ _=>by kernel_rfl
theorem Tq:Eu Acu 97 entC:=⟨⟨_,(LW).choose_spec⟩,fun x=>AN (C5 x) KG⟩
theorem Tr:∀(cs:Array Acr),cs.size=67->∀w:Acs,(Ac1 34 1 #[(0, .agg cs)]).run Acu w = .ok (.slice (some ⟨w.heap.size,0,none⟩) 1 1) (w.alloc (.cells cs 97))
 | ⟨c0 :: c1 :: c2 :: c3 :: c4 :: c5 :: c6 :: c7 :: c8 :: c9 :: c10 :: c11 :: c12 :: c13 :: c14 :: c15 :: c16 :: c17 :: c18 :: c19 :: c20 :: c21 :: c22 :: c23 :: c24 :: c25 :: c26 :: c27 :: c28 :: c29 :: c30 :: c31 :: c32 :: c33 :: c34 :: c35 :: c36 :: c37 :: c38 :: c39 :: c40 :: c41 :: c42 :: c43 :: c44 :: c45 :: c46 :: c47 :: c48 :: c49 :: c50 :: c51 :: c52 :: c53 :: c54 :: c55 :: c56 :: c57 :: c58 :: c59 :: c60 :: c61 :: c62 :: c63 :: c64 :: c65 :: c66 :: []⟩,_,w=>SF c0 c1 c2 c3 c4 c5 c6 c7 c8 c9 c10 c11 c12 c13 c14 c15 c16 c17 c18 c19 c20 c21 c22 c23 c24 c25 c26 c27 c28 c29 c30 c31 c32 c33 c34 c35 c36 c37 c38 c39 c40 c41 c42 c43 c44 c45 c46 c47 c48 c49 c50 c51 c52 c53 c54 c55 c56 c57 c58 c59 c60 c61 c62 c63 c64 c65 c66 w
theorem I1:Eu Acu 36 refsC:=⟨⟨_,(L3).choose_spec⟩,fun x=>AN (Am x) KO⟩
set_option maxHeartbeats 3200000
theorem Ts{w0 w:Acs}{r:Nat}{v:Acr}{b:Bs}(c:Ext w0 w)(hb:w.heap[r]? =some (.cells (BN (AT v b (0))).toArray 216 (0,0)))(hr:RB w0 v b)(lr:w0.heap.size<=r)(hl:b.length<=4611686018427387904):
  Calls Acu 150 #[PQ r 0] w fun e w' =>(∃x,e = .returned x/\∃X:Af,Cx b=some X.1/\x = .agg (refsC X).toArray/\RefsOw w0.heap.size w' X/\Ext w0 w')\/∃ch,e = .panicked ch/\Cx b=none/\ch= [C2]/\Ext w0 w' :=by
 have el:=c.size;have hlr:=(bl hb);have hapr:b= []\/OB v r:=by
   rcases b with _ | ⟨b0,b1⟩
   ·exact .inl rfl
   ·exact .inr fun e=>by have:=RB.lt hr (by simp) e;omega
 refine gG (args:= [PQ r 0]) Tryz.func150 rfl 63 rfl rfl ?_;have hE:=AbE w;refine gS (AbM So fun n2 w3 cb be ba em=> ?_);have en:=hE.size;have cc:=c.size;have o:=be;clear be;have eo:n2<w3.heap.size:=by omega
 refine gS (AbM So fun ad cd bf bg bb ep=> ?_);have hE:=hE.trans ba;have c:=c.trans ba;have eq:=hE.size;have ax:=c.size;have q:=bg;clear bg;have er:ad<cd.heap.size:=by omega
 have c:=c.trans bb;have hz_:=c.size;have es:=AO (bl hb) cb;have hb:=eb ba hb;have et:=AO (bl hb) bf;have hb:=eb bb hb;refine gP (Y6 Le rfl ?_);refine An (MD c hb hr lr (AcO _) hl) ?_ ?_;rotate_left
 ·rintro ch eu ⟨hPx,rfl,hgx⟩;refine Ao ?_;exact .inr ⟨_,rfl,by unfold Cx;simp only[hPx,AcP,Adt],rfl,Ad c hgx lr⟩
 rintro v_ ew ⟨u1,l1,i1,y,rfl,g,hbq1,hle_i1,hgq1⟩;clear hE;clear hb;have hb:=hbq1;clear hbq1;have ex:=bl hb;have g:=AbP g hz_;refine gS (AbD OY rfl ?_);have q:=kb hgq1 q (by omega);have ce:=AbI g q (by decide);refine gS (Y1 (i:=0) (v:=u1) rfl rfl q (by rw[Am];decide) KQ (AbJ (YY g)).1 (AbJ (YY g)).2 fun cf bh a7 ey=> ?_);clear q;have q:cf.heap[ad]? =some (.cells (refsC ((⟨l1,[],[],zid,[]⟩,⟨u1,(AcI none 0 0),(AcI none 0 0)⟩):Af)).toArray 36 (0,0)):=AA bh (G9 ((⟨[],[],[],zid,[]⟩,⟨.slice none 0 0, .slice none 0 0, .slice none 0 0⟩):Af) u1 (l1));clear bh;have ez:=bl q;have hb:=kb a7 hb (by omega);have g:=AbH g a7 ce;have cg:=AbI g hb (by decide);have c:=Ad c hgq1 (Acw (Acy _) lr);have c:=Ad c a7 (Acw ax (by omega));have hz_:=c.size;refine gP (Y6 Le rfl ?_);refine An (MD c hb hr lr hle_i1 hl) ?_ ?_;rotate_left
 ·rintro ch e0 ⟨hPx,rfl,hgx⟩;refine Ao ?_;exact .inr ⟨_,rfl,by unfold Cx;simp only[y,hPx,AcP,Adt],rfl,Ad c hgx lr⟩
 rintro v_ e1 ⟨u,l2,i2,aa,rfl,l,hbq2,hle_i2,hgq2⟩;clear hb;have hb:=hbq2;clear hbq2;have e2:=bl hb;have l:=AbP l hz_;refine gS (AbD OZ rfl ?_);have g:=AbH g hgq2 cg;have q:=kb hgq2 q (by omega);have ci:=AbI g q (by decide);have cj:=AbI l q (by decide);refine gS (Y1 (i:=1) (v:=u) rfl rfl q (by rw[Am];decide) KQ (AbJ (YY l)).1 (AbJ (YY l)).2 fun ck bi ay e3=> ?_);clear q;have q:ck.heap[ad]? =some (.cells (refsC ((⟨l1,l2,[],zid,[]⟩,⟨u1,u,(AcI none 0 0)⟩):Af)).toArray 36 (0,0)):=AA bi (Ha ((⟨l1,[],[],zid,[]⟩,⟨u1,(AcI none 0 0),(AcI none 0 0)⟩):Af) u (l2));clear bi;have e4:=bl q;have g:=AbH g ay ci;have hb:=kb ay hb (by omega);have cl:=AbI g hb (by decide);have l:=AbH l ay cj;have cm:=AbI l hb (by decide);have c:=Ad c hgq2 (Acw (Acy _) lr);have c:=Ad c ay (Acw ax (by omega));refine gP (Y6 Rc rfl ?_);refine An (GK _ r v b i2 hb (hr.keep c) hapr hle_i2 hl) ?_ ?_;rotate_left
 ·rintro ch e5 ⟨hPx,rfl,hgx⟩;refine Ao ?_;exact .inr ⟨_,rfl,by unfold Cx;simp only[y,aa,hPx,AcP,Adt],rfl,Ad c hgx lr⟩
 rintro v_ e6 ⟨d3,i3,hP3,rfl,bj,az⟩;clear hb;have hb:=bj;clear bj;have hle_i3:=(txtP_le hP3).1;have e7:=bl hb;refine gS (AbD GQ rfl ?_);have g:=AbH g az cl;have q:=kb az q (by omega);have cn:=AbI g q (by decide);have l:=AbH l az cm;have co:=AbI l q (by decide);refine gS (Y1 (i:=2) (v:=St (d3)) rfl rfl q (by rw[Am];decide) Ss rfl rfl fun cp bk a0 e8=> ?_);clear q;have q:cp.heap[ad]? =some (.cells (refsC ((⟨l1,l2,d3,zid,[]⟩,⟨u1,u,(AcI none 0 0)⟩):Af)).toArray 36 (0,0)):=AA bk (Lo ((⟨l1,l2,[],zid,[]⟩,⟨u1,u,(AcI none 0 0)⟩):Af) d3);clear bk;have e9:=bl q;have g:=AbH g a0 cn;have hb:=kb a0 hb (by omega);have cq:=AbI g hb (by decide);have l:=AbH l a0 co;have cr:=AbI l hb (by decide);have c:=Ad c az (Acw (Acy _) lr);have c:=Ad c a0 (Acw ax (by omega));refine gP (Y6 Re rfl ?_);refine An (Je _ r v b i3 hb (hr.keep c) hapr hle_i3 hl) ?_ ?_;rotate_left
 ·rintro ch fa ⟨hPx,rfl,hgx⟩;refine Ao ?_;exact .inr ⟨_,rfl,by unfold Cx;simp only[y,aa,hP3,hPx,AcP,Adt],rfl,Ad c hgx lr⟩
 rintro v_ fb ⟨d4,i4,hP4,rfl,bm,a1⟩;clear hb;have hb:=bm;clear bm;have hle_i4:=Hg hP4;have fc:=bl hb;refine gS (AbD Jv rfl ?_);have g:=AbH g a1 cq;have q:=kb a1 q (by omega);have cs:=AbI g q (by decide);have l:=AbH l a1 cr;have ct:=AbI l q (by decide);refine gS (Zv (a:=EO ((⟨l1,l2,d3,zid,[]⟩,⟨u1,u,(AcI none 0 0)⟩):Af)) (m:=Acv zid.1) (z:=F6 ((⟨l1,l2,d3,zid,[]⟩,⟨u1,u,(AcI none 0 0)⟩):Af)) (cells:=Acv d4.1) rfl rfl (DN ((⟨l1,l2,d3,zid,[]⟩,⟨u1,u,(AcI none 0 0)⟩):Af)▸q) (Ef ((⟨l1,l2,d3,zid,[]⟩,⟨u1,u,(AcI none 0 0)⟩):Af)) (by rw[AcH,AcH,zid.2,d4.2]) (by rw[AcH,d4.2];exact RR) (Ax _) fun cu bn a2 fd=> ?_);clear q;have q:cu.heap[ad]? =some (.cells (refsC ((⟨l1,l2,d3,d4,[]⟩,⟨u1,u,(AcI none 0 0)⟩):Af)).toArray 36 (0,0)):=AA bn (Lp ((⟨l1,l2,d3,zid,[]⟩,⟨u1,u,(AcI none 0 0)⟩):Af) d4);clear bn;have fe:=bl q;have g:=AbH g a2 cs;have hb:=kb a2 hb (by omega);have cv:=AbI g hb (by decide);have l:=AbH l a2 ct;have cw:=AbI l hb (by decide);have c:=Ad c a1 (Acw (Acy _) lr);have c:=Ad c a2 (Acw ax (by omega));refine gP (Z4 Rb rfl rfl ?_);refine An (JH _ r v b i4 hb (hr.keep c) hapr hle_i4 hl 64) ?_ ?_;rotate_left
 ·rintro ch ff ⟨hPx,rfl,hgx⟩;refine Ao ?_;exact .inr ⟨_,rfl,by unfold Cx;simp only[y,aa,hP3,hP4,Uu hPx,AcP,Adt],rfl,Ad c hgx lr⟩
 rintro v_ fg ⟨n,j,hP,rfl,bo,a3⟩;clear hb;have hb:=bo;clear bo;have hle_j:=(Jf hle_i4 hP).1;have fh:=bl hb;have hnl:=(Jf hle_i4 hP).2.1;have fi:=AO (bl o) bf;have o:=eb bb o;have o:=kb hgq1 o (by omega);have o:=kb a7 o (by omega);have o:=kb hgq2 o (by omega);have o:=kb ay o (by omega);have o:=kb az o (by omega);have o:=kb a0 o (by omega);have o:=kb a1 o (by omega);have o:=kb a2 o (by omega);have o:=kb a3 o (by omega);have c:=Ad c a3 (Acw (Acy _) lr);have g:=AbH g a3 cv;have l:=AbH l a3 cw;have q:=kb a3 q (by omega);refine gL (fun(ρ:Ah) (wz:Acs)=>∃k:Nat,∃j0:Nat,∃lo:List A7,∃vl:Acr,ρ 0=(PQ r 0:Acr)/\ρ 2=(PQ n2 0:Acr)/\ρ 3=(PQ ad 0:Acr)/\ρ 18=(NI n:Acr)/\ρ 19=(NI k:Acr)/\Ext w0 wz/\wz.heap[n2]? =some (.cells (refsC ((⟨[],[],[],zid,[]⟩,⟨.slice none 0 0, .slice none 0 0, .slice none 0 0⟩):Af)).toArray 36 (0,0))/\OG w0.heap.size 94 33 nmdC wz u1 l1/\OG w0.heap.size 94 33 nmdC wz u l2/\wz.heap[r]? =some (.cells (BN (AT v b (j0))).toArray 216 (0,0))/\wz.heap[ad]? =some (.cells (refsC ((⟨l1,l2,d3,d4,lo⟩,⟨u1,u,vl⟩):Af)).toArray 36 (0,0))/\OG w0.heap.size 97 67 entC wz vl lo/\(k<=n)/\(j0<=b.length)/\(B9 (Cw b) k ([],j)=some (lo,j0))/\True) (fun ρ _=>n-(intOf (ρ 19)).toNat) ⟨0,j,[],(AcI none 0 0),rfl,rfl,rfl,rfl,rfl,c,o,g,l,hb,q,AbQ _ _ _ _ _,AcO _,hle_j,rfl,trivial⟩ ?_;clear q;clear hb;clear c o g l;rintro cx fj ⟨k,j0,lo,vl,T0,T2,T3,bp,bc,c,o,g,l,hb,hbo,hol,hk,hj0,hit,-⟩;have q19:=bc;have hlg3:=(bl hbo);refine gS (YX (a:=(k:Nat)) (b:=(n:Nat)) bc bp (Bf _ _ _ _) ?_);refine cD rfl (fun bq=> ?_) fun bq=> ?_
 ·have hlt:k<n:=bq;have hol_:lo.length=k:=by have:=Jc (f:=Cw b) (fun s t h=>Rf h) k hit;simpa using this
  refine gS (AbM R4 fun af cy bd br ag fk=> ?_);have a4:=c.size;have au:OB vl af:=BZ hol.2 (by omega);have p:=br;clear br;have fl:af<cy.heap.size:=by omega
  have fm:=AO (bl hb) bd;have hb:=eb ag hb;have g:=g.keep ag;have cz:=AbI g hb (by decide);have l:=l.keep ag;have c0:=AbI l hb (by decide);have hol:=hol.keep ag;have c1:=AbI hol hb (by decide);have c:=c.trans ag;refine gP (Y6 Rg T0 ?_);refine An (SK _ r v b j0 hb (hr.keep c) hapr hj0 hl) ?_ ?_;rotate_left
  ·rintro ch fn ⟨hPx,rfl,hgx⟩;refine Ao ?_;exact .inr ⟨_,rfl,by unfold Cx;simp only[y,aa,hP3,hP4,IN hP hlt hit (show C4 b j0=none by unfold C4;simp only[hPx,AcP,Adt]),AcP,Adt],rfl,Ad c hgx lr⟩
  rintro v_ fo ⟨d5,i5,hP5,rfl,bs,ah⟩;clear hb;have hb:=bs;clear bs;have hle_i5:=Ur hP5;have fp:=bl hb;refine gS (AbD Jw rfl (gS (AbD O1 rfl ?_)));have g:=AbH g ah cz;have p:=kb ah p (by omega);have c2:=AbI g p (by decide);have l:=AbH l ah c0;have c3:=AbI l p (by decide);refine gS (Y1 (i:=0) (v:=B8 (d5)) rfl rfl p (by rw[C5];decide) Xn rfl rfl fun c4 bt ai fq=> ?_);clear p;have p:c4.heap[af]? =some (.cells (entC (⟨d5,[],zid,zid,[]⟩:A7)).toArray 97 (0,0)):=AA bt (Xh (⟨0,[],zid,zid,[]⟩:A7) d5);clear bt;have fr:=bl p;have g:=AbH g ai c2;have hb:=kb ai hb (by omega);have c5:=AbI g hb (by decide);have l:=AbH l ai c3;have c6:=AbI l hb (by decide);have hol:=AbH hol ah c1;have hol:=AbH hol ai au;have c7:=AbI hol hb (by decide);have c:=Ad c ah (Acw (Acy _) lr);have c:=Ad c ai (Acw a4 (by omega));refine gP (Y6 Rc T0 ?_);refine An (GK _ r v b i5 hb (hr.keep c) hapr hle_i5 hl) ?_ ?_;rotate_left
  ·rintro ch fs ⟨hPx,rfl,hgx⟩;refine Ao ?_;exact .inr ⟨_,rfl,by unfold Cx;simp only[y,aa,hP3,hP4,IN hP hlt hit (show C4 b j0=none by unfold C4;simp only[hP5,hPx,AcP,Adt]),AcP,Adt],rfl,Ad c hgx lr⟩
  rintro v_ ft ⟨d6,i6,hP6,rfl,bu,aj⟩;clear hb;have hb:=bu;clear bu;have hle_i6:=(txtP_le hP6).1;have fu:=bl hb;refine gS (AbD Jw rfl (gS (AbD O3 rfl ?_)));have g:=AbH g aj c5;have p:=kb aj p (by omega);have c8:=AbI g p (by decide);have l:=AbH l aj c6;have c9:=AbI l p (by decide);refine gS (Y1 (i:=1) (v:=St (d6)) rfl rfl p (by rw[C5];decide) Ss rfl rfl fun da bv ak fv=> ?_);clear p;have p:da.heap[af]? =some (.cells (entC (⟨d5,d6,zid,zid,[]⟩:A7)).toArray 97 (0,0)):=AA bv (Xi (⟨d5,[],zid,zid,[]⟩:A7) d6);clear bv;have fw:=bl p;have g:=AbH g ak c8;have hb:=kb ak hb (by omega);have db:=AbI g hb (by decide);have l:=AbH l ak c9;have dc:=AbI l hb (by decide);have hol:=AbH hol aj c7;have hol:=AbH hol ak au;have dd:=AbI hol hb (by decide);have c:=Ad c aj (Acw (Acy _) lr);have c:=Ad c ak (Acw a4 (by omega));refine gP (Y6 Re T0 ?_);refine An (Je _ r v b i6 hb (hr.keep c) hapr hle_i6 hl) ?_ ?_;rotate_left
  ·rintro ch fx ⟨hPx,rfl,hgx⟩;refine Ao ?_;exact .inr ⟨_,rfl,by unfold Cx;simp only[y,aa,hP3,hP4,IN hP hlt hit (show C4 b j0=none by unfold C4;simp only[hP5,hP6,hPx,AcP,Adt]),AcP,Adt],rfl,Ad c hgx lr⟩
  rintro v_ fy ⟨d7,i7,hP7,rfl,bw,al⟩;clear hb;have hb:=bw;clear bw;have hle_i7:=Hg hP7;have fz:=bl hb;refine gS (AbD Jw rfl (gS (AbD Jx rfl ?_)));have g:=AbH g al db;have p:=kb al p (by omega);have de:=AbI g p (by decide);have l:=AbH l al dc;have df:=AbI l p (by decide);refine gS (Zv (a:=G5 (⟨d5,d6,zid,zid,[]⟩:A7)) (m:=Acv zid.1) (z:=Kq (⟨d5,d6,zid,zid,[]⟩:A7)) (cells:=Acv d7.1) rfl rfl (Nl (⟨d5,d6,zid,zid,[]⟩:A7)▸p) (RI (⟨d5,d6,zid,zid,[]⟩:A7)) (by rw[AcH,AcH,zid.2,d7.2]) (by rw[AcH,d7.2];exact RR) (Ax _) fun dg bx am f0=> ?_);clear p;have p:dg.heap[af]? =some (.cells (entC (⟨d5,d6,d7,zid,[]⟩:A7)).toArray 97 (0,0)):=AA bx (Xj (⟨d5,d6,zid,zid,[]⟩:A7) d7);clear bx;have f1:=bl p;have g:=AbH g am de;have hb:=kb am hb (by omega);have dh:=AbI g hb (by decide);have l:=AbH l am df;have di:=AbI l hb (by decide);have hol:=AbH hol al dd;have hol:=AbH hol am au;have dj:=AbI hol hb (by decide);have c:=Ad c al (Acw (Acy _) lr);have c:=Ad c am (Acw a4 (by omega));refine gP (Y6 Re T0 ?_);refine An (Je _ r v b i7 hb (hr.keep c) hapr hle_i7 hl) ?_ ?_;rotate_left
  ·rintro ch f2 ⟨hPx,rfl,hgx⟩;refine Ao ?_;exact .inr ⟨_,rfl,by unfold Cx;simp only[y,aa,hP3,hP4,IN hP hlt hit (show C4 b j0=none by unfold C4;simp only[hP5,hP6,hP7,hPx,AcP,Adt]),AcP,Adt],rfl,Ad c hgx lr⟩
  rintro v_ f3 ⟨d8,i8,hP8,rfl,bz,an⟩;clear hb;have hb:=bz;clear bz;have hle_i8:=Hg hP8;have f4:=bl hb;refine gS (AbD Jw rfl (gS (AbD Jy rfl ?_)));have g:=AbH g an dh;have p:=kb an p (by omega);have dk:=AbI g p (by decide);have l:=AbH l an di;have dl:=AbI l p (by decide);refine gS (Zv (a:=G6 (⟨d5,d6,d7,zid,[]⟩:A7)) (m:=Acv zid.1) (z:=Kr (⟨d5,d6,d7,zid,[]⟩:A7)) (cells:=Acv d8.1) rfl rfl (Nn (⟨d5,d6,d7,zid,[]⟩:A7)▸p) (RJ (⟨d5,d6,d7,zid,[]⟩:A7)) (by rw[AcH,AcH,zid.2,d8.2]) (by rw[AcH,d8.2];exact RR) (Ax _) fun dm b2 ao f5=> ?_);clear p;have p:dm.heap[af]? =some (.cells (entC (⟨d5,d6,d7,d8,[]⟩:A7)).toArray 97 (0,0)):=AA b2 (Xk (⟨d5,d6,d7,zid,[]⟩:A7) d8);clear b2;have f6:=bl p;have g:=AbH g ao dk;have hb:=kb ao hb (by omega);have dn:=AbI g hb (by decide);have l:=AbH l ao dl;have dp:=AbI l hb (by decide);have hol:=AbH hol an dj;have hol:=AbH hol ao au;have dq:=AbI hol hb (by decide);have c:=Ad c an (Acw (Acy _) lr);have c:=Ad c ao (Acw a4 (by omega));refine gP (Y6 Rc T0 ?_);refine An (GK _ r v b i8 hb (hr.keep c) hapr hle_i8 hl) ?_ ?_;rotate_left
  ·rintro ch f7 ⟨hPx,rfl,hgx⟩;refine Ao ?_;exact .inr ⟨_,rfl,by unfold Cx;simp only[y,aa,hP3,hP4,IN hP hlt hit (show C4 b j0=none by unfold C4;simp only[hP5,hP6,hP7,hP8,hPx,AcP,Adt]),AcP,Adt],rfl,Ad c hgx lr⟩
  rintro v_ f8 ⟨d9,i9,hP9,rfl,b3,ap⟩;clear hb;have hb:=b3;clear b3;have hle_i9:=(txtP_le hP9).1;have f9:=bl hb;refine gS (AbD O2 rfl ?_);have g:=AbH g ap dn;have p:=kb ap p (by omega);have dr:=AbI g p (by decide);have l:=AbH l ap dp;have ds:=AbI l p (by decide);refine gS (Y1 (i:=66) (v:=St (d9)) rfl rfl p (by rw[C5];decide) Ss rfl rfl fun dt b4 aq ga=> ?_);clear p;have p:dt.heap[af]? =some (.cells (entC (⟨d5,d6,d7,d8,d9⟩:A7)).toArray 97 (0,0)):=AA b4 (Xl (⟨d5,d6,d7,d8,[]⟩:A7) d9);clear b4;have gb:=bl p;have gc:=AO (bl hbo) bd;have hbo:=eb ag hbo;have hbo:=kb ah hbo (by omega);have hbo:=kb ai hbo (by omega);have hbo:=kb aj hbo (by omega);have hbo:=kb ak hbo (by omega);have hbo:=kb al hbo (by omega);have hbo:=kb am hbo (by omega);have hbo:=kb an hbo (by omega);have hbo:=kb ao hbo (by omega);have hbo:=kb ap hbo (by omega);have hbo:=kb aq hbo (by omega);refine gS (AbD Ju T3 (gS (YW Fx rfl rfl (Ac hbo (B0 ((⟨l1,l2,d3,d4,lo⟩,⟨u1,u,vl⟩):Af))) (gS (Zg Tq rfl p (gS (ZS (a:=(⟨d5,d6,d7,d8,d9⟩:A7)) (enc:=entC) (vr (.agg (entC (⟨d5,d6,d7,d8,d9⟩:A7)).toArray) rfl) (C5 _) Tr fun du dv b5 ae=> ?_)))))));have gd:=AO (bl o) bd;have o:=eb ag o;have o:=kb ah o (by omega);have o:=kb ai o (by omega);have o:=kb aj o (by omega);have o:=kb ak o (by omega);have o:=kb al o (by omega);have o:=kb am o (by omega);have o:=kb an o (by omega);have o:=kb ao o (by omega);have o:=kb ap o (by omega);have o:=kb aq o (by omega);have o:=eb ae o;have hol:=AbH hol ap dq;have hol:=AbH hol aq au;have hol:=hol.keep ae;have g:=AbH g aq dr;have g:=g.keep ae;have l:=AbH l aq ds;have l:=l.keep ae;have hbo:=eb ae hbo;have hb:=kb aq hb (by omega);have hb:=eb ae hb;have dw:=AbI hol o (by decide);have dx:=Acf hol g (by decide);have dy:=Acf hol l (by decide);have dz:=AbI hol hbo (by decide);have d0:=AbI hol hb (by decide);have c:=Ad c ap (Acw (Acy _) lr);have c:=Ad c aq (Acw a4 (by omega));have c:=c.trans ae;refine gS (Zr _ _ w0.heap.size _ 104 Fx wr30_ig97.choose_spec.1 wr30_ig97.choose_spec.2 Fx (lo) ([(⟨d5,d6,d7,d8,d9⟩:A7)]) (ZP hol (vr vl rfl)) (Y5 b5 (vr du rfl)) (fun _ _=>F5) (by simp only[AcK,AcQ];omega) (by simp only[AcK,AcQ];omega) c.size fun a5 d1 av ac=> ?_);have ac:Grew dv d1 vl a5:=ac;have p:=eb ae p;have c:=Br c ac hol.2 (Acy _);have o:=AV o ac dw;have g:=Hd g ac dx;have l:=Hd l ac dy;have hbo:=AV hbo ac dz;have hb:=AV hb ac d0;have p:=AV p ac au;clear b5;clear hol;refine gS (AbD Ju T3 ?_);have d2:=AbI g hbo (by decide);have ea:=AbI l hbo (by decide);have ec:=AbI av hbo (by decide);refine gS (Y1 (i:=35) (v:=a5) rfl rfl hbo (by rw[Am];decide) HF (AbJ (YY av)).1 (AbJ (YY av)).2 fun ed b6 aw ge=> ?_);clear hbo;have hbo:ed.heap[ad]? =some (.cells (refsC ((⟨l1,l2,d3,d4,(lo)++ [(⟨d5,d6,d7,d8,d9⟩:A7)]⟩,⟨u1,u,a5⟩):Af)).toArray 36 (0,0)):=AA b6 (F7 ((⟨l1,l2,d3,d4,lo⟩,⟨u1,u,vl⟩):Af) a5 ((lo)++ [(⟨d5,d6,d7,d8,d9⟩:A7)]));clear b6;have gf:=bl hbo;have c:=Ad c aw (Acw ax (by omega));have o:=kb aw o (by omega);have g:=AbH g aw d2;have l:=AbH l aw ea;have hb:=kb aw hb (by omega);have av:=AbH av aw ec;refine gS (Y4 (xv:=NI k) (yv:=NI 1) bc rfl rfl (AG _ _ _ (by omega)) (gK (Adv ⟨k+1,i9,lo++ [⟨d5,d6,d7,d8,d9⟩],a5,T0,T2,T3,bp,rfl,c,o,g,l,hb,hbo,av,by omega,hle_i9,Wq hit (show C4 b j0=some (⟨d5,d6,d7,d8,d9⟩,i9) by unfold C4;simp only[hP5,hP6,hP7,hP8,hP9,AcP]),trivial⟩ ?_)));show n-(intOf (NI ((k)+(1)))).toNat<n-(intOf (cx 19)).toNat;rw[q19];simp only[intOf,AcX];omega
 have hkn:k=n:=by omega
 have hN:Hh b i4=some (lo,j0):=(NU hP).trans (hkn▸hit);have hMl:E3 (⟨l1,l2,d3,d4,lo⟩:Aq):=Uv y aa hP3 hN;by_cases hj:j0=b.length
 ·refine gM0 [0,1,2,3,4,5,6,7,8,9,10,11,12,13,14] [12,14] [] fun gg ar=> ?_;have c:=c.trans ar;have g:=g.keep ar;have l:=l.keep ar;have hb:=eb ar hb;have hbo:=eb ar hbo;have hol:=hol.keep ar;refine ys (AbF T0 zz) (ys (AbD AQ rfl zz) (ys (YW NB rfl rfl (Ac hb (BS (AT v b (j0)))) zz) (ys (AbF T0 zz) (ys (AbD BA rfl zz) (ys (YW G1 rfl rfl (Ac hb (Cc (AT v b (j0)))) zz) (ys (Zk G1 (Zn (hr.keep c) rfl) zz) (ys (YX (a:=(j0:Nat)) (b:=(b.length:Nat)) rfl rfl (AK _ _ _ _) zz) (kT (hj) (ys (Zg I1 T3 hbo zz) (yC (YZ SA rfl ((Hz _ ((⟨l1,l2,d3,d4,lo⟩,⟨u1,u,vl⟩):Af) ⟨YY g,YY l,YY hol⟩ hMl).mono ?_))))))))))));rintro e gh ⟨rfl,a8⟩;refine⟨_,rfl,?_⟩;refine ys (Zi rfl rfl zz) (Pu (Y6 Ce rfl ?_));refine An (B3 _ (Az ((⟨l1,l2,d3,d4,lo⟩,⟨u1,u,vl⟩):Af).1)) ?_ ?_;rotate_left
  ·have hb:=eb a8 hb;rintro ch gi ⟨rfl,hb,hx⟩;refine Ao ?_;have c:=c.trans a8;exact .inr ⟨_,rfl,by unfold Cx;simp only[y,aa,hP3,hP4,hN,AcP];exact if_neg fun h=>Bool.noConfusion (h.2.symm.trans hb),rfl,c.trans hx⟩
  rintro v_ gj ⟨rfl,ee,b7⟩;have hZ1:=a8.trans b7;have hbo:=eb hZ1 hbo;refine gS (Zg I1 T3 hbo ?_);have o:=eb ((ar.trans a8).trans b7) o;have g:=g.keep hZ1;have ef:=AbI g o (by decide);have l:=l.keep hZ1;have eg:=AbI l o (by decide);have hol:=hol.keep hZ1;have eh:=AbI hol o (by decide);refine gS (Za I1 T2 (vr (.agg (refsC ((⟨l1,l2,d3,d4,lo⟩,⟨u1,u,vl⟩):Af)).toArray) rfl) o (Bc (AbJ (YY g)).2 (AbJ (YY l)).2 (AbJ (YY hol)).2) fun ei b8 a9 gk=> ?_);clear o;have o:ei.heap[n2]? =some (.cells (refsC ((⟨l1,l2,d3,d4,lo⟩,⟨u1,u,vl⟩):Af)).toArray 36 (0,0)):=b8;clear b8;have gl:=bl o;refine Ie rfl (AbR T2 o (L3).choose_spec rfl (AN (Am _) KO)) ?_;have c:=c.trans hZ1;have c:=Ad c a9 (Acw cc (by omega));have g:=AbH g a9 ef;have l:=AbH l a9 eg;have hol:=AbH hol a9 eh;exact .inl ⟨_,rfl,((⟨l1,l2,d3,d4,lo⟩,⟨u1,u,vl⟩):Af),by unfold Cx;simp only[y,aa,hP3,hP4,hN,AcP];exact if_pos ⟨hj,ee⟩,rfl,⟨g,l,hol⟩,c⟩
 refine gM0 [0,1,2,3,4,5,6,7,8,9,10,11,12,13,14] [12,14] [] fun gm b9=> ?_;have c:=c.trans b9;have hb:=eb b9 hb;refine ys (AbF T0 zz) (ys (AbD AQ rfl zz) (ys (YW NB rfl rfl (Ac hb (BS (AT v b (j0)))) zz) (ys (AbF T0 zz) (ys (AbD BA rfl zz) (ys (YW G1 rfl rfl (Ac hb (Cc (AT v b (j0)))) zz) (ys (Zk G1 (Zn (hr.keep c) rfl) zz) (ys (YX (a:=(j0:Nat)) (b:=(b.length:Nat)) rfl rfl (AK _ _ _ _) zz) (kF (hj) (ys (Zx rfl rfl zz) (Pu (Y6 Ce rfl ?_)))))))))));refine An (B3 _ (false)) ?_ ?_;rotate_left
 ·rintro ch gn ⟨rfl,hb,hx⟩;refine Ao ?_;exact .inr ⟨_,rfl,by unfold Cx;simp only[y,aa,hP3,hP4,hN,AcP];exact if_neg fun h=>hj h.1,rfl,c.trans hx⟩
 rintro v_ go ⟨rfl,ej,gp⟩;cases ej
structure FitsD (n : Nat) (D : List Deferred) (ρ : Ah) (a : Act) : Prop where
 size:a.tmps.size=n
 defers:a.defers=D
 get:∀t,a.tmps.getD t undef=ρ t
theorem FitsD.fits{n:Nat}{D:List Deferred}{ρ:Ah}{a:Act}(h:FitsD n D ρ a):Fits n ρ { a with defers:= [] } :=⟨h.size,rfl,h.get⟩
theorem AaH{n:Nat}{ρ:Ah}{a:Act}(h:Fits n ρ a):FitsD n [] ρ a:=⟨h.size,h.defers,h.get⟩
theorem FitsD.toFits{n:Nat}{ρ:Ah}{a:Act}(h:FitsD n [] ρ a):Fits n ρ a:=⟨h.size,h.defers,h.get⟩
theorem FitsD.eval{n:Nat}{D:List Deferred}{ρ:Ah}{a:Act}(h:FitsD n D ρ a):a.eval=Ab ρ:=by
 funext x
 cases x with
 | tmp t=>exact h.get t
 | _=>rfl
theorem FitsD.put{n:Nat}{D:List Deferred}{ρ:Ah}{a:Act}(h:FitsD n D ρ a)(d:Option Tmp)(hd:∀t,d=some t->t<n)(v:Acr):FitsD n D (updO ρ d v) (a.put d v):=by
 have hf:=h.fits.put d hd v;cases d with
 | none=>exact h
 | some d=>exact⟨hf.size,h.defers,hf.get⟩
def ME(P:AcN)(n:Nat)(D:List Deferred)(c:Code)(QQ:Exit->Act->Acs->Prop)(ρ:Ah)(w:Acs):Prop:=∀a,FitsD n D ρ a->c.wp P QQ a w
def I2(P:AcN)(ops:Array Oper)(n:Nat)(D:List Deferred)(QQ:Exit->Act->Acs->Prop)(l:List Oper)(ρ:Ah)(w:Acs):Prop:=∀a,FitsD n D ρ a->wpList P ops QQ l a w
section
variable {P : AcN} {n : Nat} {D : List Deferred} {QQ : Exit -> Act -> Acs -> Prop} {ρ : Ah} {w : Acs}
theorem MF{x y:Code}(QR:Be)(hq:∀e ρ a w,e ≠ .normal->Fits n ρ a->QR e ρ w->QQ e a w)(h:∀K:Ah->Acs->Prop,(∀ρ w,ME P n [] y QQ ρ w->K ρ w)->Cg P n x (Ee K QR) ρ w):ME P n [] (.seq x y) QQ ρ w:=fun a ha=>
 wp_seq (wp_mono (h (fun ρ w=>ME P n [] y QQ ρ w) (fun _ _ h=>h) a ha.toFits) fun e a' w' ⟨ρ',hf,hQ⟩=>by
  cases e with
  | normal=>exact hQ a' (AaH hf)
  | exit _=>exact hq _ ρ' a' w' (by simp) hf hQ
  | goto _=>exact hq _ ρ' a' w' (by simp) hf hQ
  | ret=>exact hq _ ρ' a' w' (by simp) hf hQ
  | panic _=>exact hq _ ρ' a' w' (by simp) hf hQ
  | outgrown=>exact hq _ ρ' a' w' (by simp) hf hQ)
theorem Gz{id:Nat}{l:List Oper}{y:Code}(h:I2 P l.toArray n D (Exit.then (y.wp P QQ) QQ) l ρ w):ME P n D (.seq (.region id l.toArray false) y) QQ ρ w:=fun a ha=>wp_seq (wp_region_lit (h a ha))
theorem WT(h:∀a,FitsD n D ρ a->QQ .ret a w):ME P n D .ret QQ ρ w:=fun a ha=>wp_ret (h a ha)
theorem Kd{ops:Array Oper}{y:Code}(I:Ah->Prop)(hI:I ρ)(h:∀ρ',I ρ' ->ME P n D y QQ ρ' w):I2 P ops n D (Exit.then (y.wp P QQ) QQ) [] ρ w:=fun a ha=>h ρ hI a ha
theorem Lf{ops:Array Oper}{rest:List Oper}{dst:Option Tmp}{op:Op}{ty:Acz}{pos:String}{af:Array Edge}(hd:(match dst with | some d=>Aef d n | none=>true)=true) 
  (h:Yp P (fun v w' =>I2 P ops n D QQ rest (updO ρ dst v) w') (fun ch w' =>∀a,FitsD n D ρ a->QQ (.panic ch) a w') ((execOp (Ab ρ) ⟨dst,op,ty,pos,af,none⟩).run P w)):I2 P ops n D QQ (⟨dst,op,ty,pos,af,none⟩ :: rest) ρ w:=by
 intro a ha;have hdn:∀t,dst=some t->t<n:=fun t ht=>by subst ht;exact AcF hd
 refine wpList_plain rfl fun K hK=> ?_;unfold Oper.wp Oper.upon;rw[ha.eval];have hput:=fun v=>ha.put dst hdn v
 revert h
 generalize (execOp (Ab ρ) ⟨dst,op,ty,pos,af,none⟩).run P w=r
 intro h
 match r,h with
 | .ok (.value v) w',h=>exact hK _ _ (h _ (hput v))
 | .ok .skip w',h=>exact hK _ _ (h _ (hput undef))
 | .halt (.panic v) w',h=>exact h a ha
 | .ok (.enter f args) w',h=>
  refine Calls.mono h ?_;intro e w'' hx
  match e,hx with
  | .returned v,hx=>exact hK _ _ (hx _ (hput v))
  | .panicked ch,hx=>exact hx a ha
theorem Ec{ops:Array Oper}{rest:List Oper}{dst:Option Tmp}{op:Op}{ty:Acz}{pos:String}{af:Array Edge}(hd:(match dst with | some d=>Aef d n | none=>true)=true) 
  (h:Yk P (fun v w' =>I2 P ops n D QQ rest (updO ρ dst v) w') ((execOp (Ab ρ) ⟨dst,op,ty,pos,af,none⟩).run P w)):I2 P ops n D QQ (⟨dst,op,ty,pos,af,none⟩ :: rest) ρ w:=
 Lf hd (Yp.ofK h)
theorem Lg{ops:Array Oper}{rest:List Oper}{x:AcD}{ty:Acz}{pos:String}{af:Array Edge}{fv:Fn}{first cap:Array Acr}(hx:Ab ρ x = .func fv first cap) 
  (hr:(execOp (Ab ρ) ⟨none, .defer ⟨.value x,#[],#[]⟩,ty,pos,af,none⟩).run P w = .ok (.defer ⟨.fn fv cap,first⟩) w)
  (h:I2 P ops n (⟨.fn fv cap,first⟩ :: D) QQ rest ρ w):I2 P ops n D QQ (⟨none, .defer ⟨.value x,#[],#[]⟩,ty,pos,af,none⟩ :: rest) ρ w:=by
 intro a ha;refine wpList_plain rfl fun K hK=> ?_;unfold Oper.wp Oper.upon;rw[ha.eval,hr];refine hK _ _ (h _ ⟨ha.size,?_,ha.get⟩);show _ :: a.defers=_;rw[ha.defers]
theorem JS{fn:Func}{R:Ending->Acs->Prop}:∀e ρ a w,e ≠ .normal->Fits n ρ a->C9 P fn R e ρ w->bodyPostD P fn R e a w:=fun e ρ a w he ha h=>by
 cases e with
 | normal=>exact absurd rfl he
 | ret=>
  show Leaves P fn a.tmps R a.defers .returning w;rw[ha.defers];exact h a.tmps ha.get
 | panic ch=>
  show Leaves P fn a.tmps R a.defers (.panicking ch) w;rw[ha.defers];exact h
 | exit _=>exact h.elim
 | goto _=>exact h.elim
 | outgrown=>exact h.elim
theorem I3{f:FuncId}{fn:Func}{c:Code}{args:List Acr}{R:Ending->Acs->Prop}(hf:P.funcs[f]? =some fn)(hb:fn.body=some c)(m:Nat)(hm:fn.ntmps=m)(hn:args.length<=m) 
  (h:∀ρ,Begun args ρ->ME P m [] c (bodyPostD P fn R) ρ w):Calls P f args.toArray w R:=by
 subst hm;refine calls_of_wp_defers hf hb ?_;have hget:∀t,(args.toArray++Aee (fn.ntmps-args.toArray.size) undef).getD t undef=args.getD t undef:=fun t=>by
  simp only[Adi,AcA,AfN,Ac6,Adw];by_cases ht:t<args.length
  ·rw[if_pos ht]
  ·rw[if_neg ht,Ad5 (by omega),Aex];split <;> rfl
 refine h (fun t=>args.getD t undef) ⟨fun _=>rfl⟩ _ ⟨?_,rfl,hget⟩;simp;omega
end
section
variable {P : AcN} {n : Nat}
theorem Tt{c:Code}{QF:Be}{Q:Exit->Act->Acs->Prop}{ρ:Ah}{a:Act}{w:Acs}(h:Cg P n c QF ρ w)(ha:Fits n ρ a)(hq:∀e ρ' a' w',Fits n ρ' a' ->QF e ρ' w' ->Q e a' w'):c.wp P Q a w:=
 wp_mono (h a ha) fun e a' w' ⟨ρ',hf,hQ⟩=>hq e ρ' a' w' hf hQ
def A0:FrameMode->Acr × FrameMode
 | .panicking ({ v,recovered:=false,goexit:=false } :: older)=>(v, .panicking ({ v,recovered:=true } :: older))
 | u=>(.nilIface,u)
theorem Pf(c₀:Frame)(cs:List Frame)(u:FrameMode)(hu:c₀.mode=u)(K:Acr->List Frame->Prop)(h:K (A0 u).1 ({ c₀ with mode:=(A0 u).2 } :: cs)):
  match recoverD (c₀ :: cs)with
  | some (v,cs')=>K v cs'
  | none=>K .nilIface (c₀ :: cs):=by
 subst hu;obtain⟨cf,ct,ctodo,cd,cm,ck,cr⟩:=c₀
 match cm,h with
 | .run,h=>exact h
 | .returning,h=>exact h
 | .panicking [],h=>exact h
 | .panicking ({ v,recovered:=true,goexit:=g } :: older),h=>exact h
 | .panicking ({ v,recovered:=false,goexit:=true } :: older),h=>exact h
 | .panicking ({ v,recovered:=false,goexit:=false } :: older),h=>exact h
theorem Em{f:FuncId}{fn:Func}{c:Code}{args:List Acr}{u:FrameMode}{w:Acs}{R:Ending->Acs->Prop}{id:Nat}{d0 d1:Tmp}{ty0 ty1:Acz}{p0 p1:String}{af0 af1:Array Edge} 
  (hf:P.funcs[f]? =some fn) (hb:fn.body=some (.seq (.region id #[⟨some d0, .call ⟨.builtin .recover,#[],#[]⟩,ty0,p0,af0,none⟩,⟨some d1, .assign (.tmp d0),ty1,p1,af1,none⟩] false) c)) (m:Nat) (hm:fn.ntmps=m) (hn:args.length<=m) (h0:Aef d0 m=true) (h1:Aef d1 m=true)
  (h:∀b,Begun args b->Cg P m c (C9 P fn R) (updO (updO b (some d0) (A0 u).1) (some d1) (A0 u).1) w):
  CallsD P f args.toArray u w fun e u' w' =>u' =(A0 u).2/\R e w' :=by
 subst hm;refine callsD_of_wpS hf hb fun c₀ cs hu=> ?_;have hget:∀t,(args.toArray++Aee (fn.ntmps-args.toArray.size) undef).getD t undef=args.getD t undef:=fun t=>by
  simp only[Adi,AcA,AfN,Ac6,Adw];by_cases ht:t<args.length
  ·rw[if_pos ht]
  ·rw[if_neg ht,Ad5 (by omega),Aex];split <;> rfl
 have hF:Fits fn.ntmps (fun t=>args.getD t undef) { tmps:=args.toArray++Aee (fn.ntmps-args.toArray.size) undef,defers:= [] } :=⟨by simp;omega,rfl,hget⟩
 generalize ({ tmps:=args.toArray++Aee (fn.ntmps-args.toArray.size) undef,defers:= [] } :Act)=a at hF ⊢
 have hd0:∀t,some d0=some t->t<fn.ntmps:=fun t ht=>by cases ht;exact AcF h0
 have hd1:∀t,some d1=some t->t<fn.ntmps:=fun t ht=>by cases ht;exact AcF h1
 have hF1:=hF.put (some d0) hd0 (A0 u).1;have hF2:=hF1.put (some d1) hd1 (A0 u).1
 apply wpS_seq
 apply wpS_region
 have g:(execOp a.eval (⟨some d0, .call ⟨.builtin .recover,#[],#[]⟩,ty0,p0,af0,none⟩:Oper)).run P w = .ok .recover w:=by
  simp[go_sem]
 have hkey:∀(v:Acr) (cs' :List Frame),v=(A0 u).1->cs' = { c₀ with mode:=(A0 u).2 } :: cs->wpOpsS P #[⟨some d0, .call ⟨.builtin .recover,#[],#[]⟩,ty0,p0,af0,none⟩,⟨some d1, .assign (.tmp d0),ty1,p1,af1,none⟩] (Exit.thenS (c.wpS P (bodyPostS P fn c₀ cs fun e u' w' =>u' =(A0 u).2/\R e w')) (bodyPostS P fn c₀ cs fun e u' w' =>u' =(A0 u).2/\R e w')) [1] (a.put (some d0) v) cs' w:=by
  rintro v cs' rfl rfl;have hv:(a.put (some d0) (A0 u).1).eval (.tmp d0)=(A0 u).1:=by
   rw[hF1.eval];show(bif Nat.beq d0 d0 then _ else _)=_;rw[Nat.beq_refl];rfl
  have i:(execOp (a.put (some d0) (A0 u).1).eval (⟨some d1, .assign (.tmp d0),ty1,p1,af1,none⟩:Oper)).run P w = .ok (.value (A0 u).1) w:=by
   simp[execOp,hv]
  simp only[wpOpsS,Adw,List.getElem?_cons_succ,AfE,Region.wanted,i,Oper.upon,if_true];refine wpS_of_wp (Tt (h _ ⟨fun _=>rfl⟩) hF2 fun e ρ' a' w' hf' hQ=> ?_);cases e with
  | normal=>obtain⟨v,hv,hR⟩:=hQ a'.tmps hf'.get;exact⟨hf'.defers,_,rfl,v,hv,rfl,hR⟩
  | ret=>obtain⟨v,hv,hR⟩:=hQ a'.tmps hf'.get;exact⟨hf'.defers,_,rfl,v,hv,rfl,hR⟩
  | panic ch=>exact⟨hf'.defers,_,rfl,rfl,hQ⟩
  | exit _=>exact hQ.elim
  | goto _=>exact hQ.elim
  | outgrown=>exact hQ.elim
 show wpOpsS P _ _ [0,1] a (c₀ :: cs) w;unfold wpOpsS;simp only[Adw,AfE,Region.wanted,if_true,g];exact Pf c₀ cs u hu (fun v cs' =>wpOpsS P _ _ [1] (a.put (some d0) v) cs' w) (hkey _ _ rfl rfl)
end
section
variable {P : AcN} {K : Acr -> Acs -> Prop} {ρ : Ah} {w : Acs} {d : Option Tmp} {ty : Acz} {pos : String} {af : Array Edge} {gd : Option (Nat × Bool)} {t ty2 : Acz}
theorem Aab{x:AcD}{u:Acz}{v:Acr}{fs}(hu:P.underlying u=some (.struct fs))(hx:Ab ρ x = .iface u v)(hk:K (.tuple #[v, .bool true]) w):Yk P K ((execOp (Ab ρ) ⟨d, .typeAssert x t u true,ty,pos,af,gd⟩).run P w):=by
 refine AbK (v:= .tuple #[v, .bool true]) (w' :=w) ?_ hk;unfold execOp;simp[Instr.typeAssert,hx,run_underlying hu,Adj]
theorem Aaj{x:AcD}(he:(Op.equal t .nilIface .nilIface).run P w = .ok true w)(hx:Ab ρ x = .nilIface)(hk:K (.bool false) w):Yk P K ((execOp (Ab ρ) ⟨d, .binOp .neq t x (.const .nilIface) ty2,ty,pos,af,gd⟩).run P w):=by
 have hy:Ab ρ (.const .nilIface) = .nilIface:=rfl;refine AbK (v:= .bool false) (w' :=w) ?_ hk;unfold execOp;simp only[hx,hy];simp[eqGuard,Go.binOp,he,Adj]
theorem Aak{x:AcD}{u:Acz}{v:Acr}(he:(Op.equal t (.iface u v) .nilIface).run P w = .ok false w)(hx:Ab ρ x = .iface u v)(hk:K (.bool true) w):Yk P K ((execOp (Ab ρ) ⟨d, .binOp .neq t x (.const .nilIface) ty2,ty,pos,af,gd⟩).run P w):=by
 have hy:Ab ρ (.const .nilIface) = .nilIface:=rfl;refine AbK (v:= .bool true) (w' :=w) ?_ hk;unfold execOp;simp only[hx,hy];simp[eqGuard,Go.binOp,he,Adj]
theorem PM{x:AcD}{fv:Fn}{first cap:Array Acr}(hx:Ab ρ x = .func fv first cap):(execOp (Ab ρ) ⟨none, .defer ⟨.value x,#[],#[]⟩,ty,pos,af,none⟩).run P w = .ok (.defer ⟨.fn fv cap,first⟩) w:=by
 unfold execOp;simp[resolve,hx,Deferred.ofValue]
theorem ZE{p:Tmp}{ty:Acz}{g:Nat}{t:Acz}{v:Acr}{fr:Nat × Nat}{d:TypeDesc}(hp:ρ p = .pointer (some ⟨g,0,none⟩))(hg:w.heap[g]? =some (.cells ([v]).toArray t fr)) 
  (hu:P.underlying ty=some d) (hd:(match d with | .struct _ | .array _ _=>false | _=>true)=true):ResF P ρ w (.cell p ty) v:=by
 refine⟨_,hp,?_⟩;have hc:w.cell? ⟨g,0,none⟩=some v:=Ac hg rfl;have hagg:(isAgg ty).run P w = .ok false w:=by
  unfold isAgg;cases d <;> first | (simp at hd;done) | simp[run_underlying hu,Adj]
 simp[loadVar,hagg,hc]
theorem Fa{fn:Func}{tmps:Array Acr}{R:Ending->Acs->Prop}(rs:List ResultVar)(hrs:fn.results=rs.toArray)(vs:List Acr)(v:Acr)(hv:Io vs=v)(ht:∀t,tmps.getD t undef=ρ t)(h:GZ P ρ w rs vs)(hR:R (.returned v) w):Leaves P fn tmps R [] .returning w:=
 ⟨_,Hr hrs ht h,by rw[hv];exact hR⟩
end
set_option maxHeartbeats 1600000
theorem WU(w:Acs):(Op.equal 20 .nilIface .nilIface).run Acu w = .ok true w:=by kernel_rfl
theorem Vi(u:Acz)(v:Acr)(w:Acs):(Op.equal 20 (.iface u v) .nilIface).run Acu w = .ok false w:=by kernel_rfl
theorem Rh{d:Option Tmp}{ty:Acz}{pos:String}{af:Array Edge}{gd:Option (Nat × Bool)}(σ:AcD->Acr)(w:Acs):(execOp σ ⟨d, .alloc 212,ty,pos,af,gd⟩).run Acu w = .ok (.value (PQ w.heap.size 0)) (w.alloc (.cells (([]:List Acr)).toArray 212)):=by kernel_rfl
theorem Ri:(Tryz.prog.info? 28).map (·.size)=some 1:=by kernel_rfl
theorem M2(b2 b3:Nat)(w:Acs):CallsD Acu 149 #[PQ b2 0,PQ b3 0] (.returning) w fun e u' w' =>u' =(A0 (.returning)).2/\(e = .returned (.tuple #[])/\Ext w w'):=by
 have hE:=AbE w;refine Em (u:= .returning) (args:= [PQ b2 0,PQ b3 0]) Tryz.func149 rfl 17 rfl (AcF rfl) rfl rfl (R:=fun e w' =>e = .returned (.tuple #[])/\Ext w w') ?_;intro ρz hb;have a:(updO (updO ρz (some 5) (A0 (.returning)).1) (some 2) (A0 (.returning)).1) 0=(PQ b2 0:Acr):=hb.get 0;have T1:(updO (updO ρz (some 5) (A0 (.returning)).1) (some 2) (A0 (.returning)).1) 1=(PQ b3 0:Acr):=hb.get 1;have T2:(updO (updO ρz (some 5) (A0 (.returning)).1) (some 2) (A0 (.returning)).1) 2=(.nilIface:Acr):=rfl
 generalize updO (updO ρz (some 5) (A0 (.returning)).1) (some 2) (A0 (.returning)).1=c at a T1 T2 ⊢
 clear hb;refine sk fun f b=>(wt (oM rfl (oS rfl (Aaj (WU _) T2 (oZ (tN (b _ _ (DU (vr (.bool (false)) rfl) (Gd (GE (fn:=Tryz.f149) [] rfl [] (.tuple #[]) rfl trivial ?_))))))))));exact⟨rfl,hE⟩
theorem M3(w0:Acs)(b2 b3:Nat)(X2:Af)(p:Acr)(w:Acs)(h0:Ext w0 w)(l2:w0.heap.size<=b2)(l3:w0.heap.size<=b3)(hne:b2≠b3)(h2:w.heap[b2]? =some (.cells (refsC X2).toArray 36 (0,0)))(h3:w.heap[b3]? =some (.cells ([p]).toArray 28 (0,0))):CallsD Acu 149 #[PQ b2 0,PQ b3 0] (.panicking [C2]) w fun e u' w' =>u' =(A0 (.panicking [C2])).2/\(e = .returned (.tuple #[])/\w'.heap[b2]? =some (.cells (refsC ((⟨[],[],[],zid,[]⟩,⟨.slice none 0 0, .slice none 0 0, .slice none 0 0⟩):Af)).toArray 36 (0,0))/\w'.heap[b3]? =some (.cells ([NI 6]).toArray 28 (0,0))/\Ext w0 w'):=by
 have hl2_:=(bl h2);have hl3_:=(bl h3);refine Em (u:= .panicking [C2]) (args:= [PQ b2 0,PQ b3 0]) Tryz.func149 rfl 17 rfl (AcF rfl) rfl rfl (R:=fun e w' =>e = .returned (.tuple #[])/\w'.heap[b2]? =some (.cells (refsC ((⟨[],[],[],zid,[]⟩,⟨.slice none 0 0, .slice none 0 0, .slice none 0 0⟩):Af)).toArray 36 (0,0))/\w'.heap[b3]? =some (.cells ([NI 6]).toArray 28 (0,0))/\Ext w0 w') ?_;intro ρz hb;have h:(updO (updO ρz (some 5) (A0 (.panicking [C2])).1) (some 2) (A0 (.panicking [C2])).1) 0=(PQ b2 0:Acr):=hb.get 0;have T1:(updO (updO ρz (some 5) (A0 (.panicking [C2])).1) (some 2) (A0 (.panicking [C2])).1) 1=(PQ b3 0:Acr):=hb.get 1;have T2:(updO (updO ρz (some 5) (A0 (.panicking [C2])).1) (some 2) (A0 (.panicking [C2])).1) 2=((.iface 212 (.agg #[])):Acr):=rfl
 generalize updO (updO ρz (some 5) (A0 (.panicking [C2])).1) (some 2) (A0 (.panicking [C2])).1=aa at h T1 T2 ⊢
 clear hb;refine sk fun K1 q=>(wt (oM rfl (oS rfl (Aak (Vi _ _ _) T2 (oZ (tN (q _ _ (Ge (vr (.bool (true)) rfl) (sk fun K2 r=>(sk fun K3 s=>(wt (oM rfl (oS rfl (Aab (QD).choose_spec T2 (oM rfl (oS rfl (AbG (vs:= [.agg (([]:List Acr)).toArray, .bool (true)]) (vr (.tuple #[.agg (([]:List Acr)).toArray, .bool (true)]) rfl) (show _=some (.agg (([]:List Acr)).toArray:Acr)from rfl) (oS rfl (AbG (vs:= [.agg (([]:List Acr)).toArray, .bool (true)]) (vr (.tuple #[.agg (([]:List Acr)).toArray, .bool (true)]) rfl) (show _=some (.bool (true):Acr)from rfl) (oS rfl (AbM Rh fun j t k l b ae=> ?_)))))))))))))))))))));have x:=h0.size;have af:=AO (bl h2) k;have ag:=AO (bl h3) k;have h0:=h0.trans b;have h2:=eb b h2;have h3:=eb b h3;have a:=l;clear l;have ah:j<t.heap.size:=by omega
 refine oS rfl (Zb (vr (PQ j 0) rfl) (vr (.agg (([]:List Acr)).toArray) rfl) a (rfl) ((show(Tryz.prog.info? 212).map (·.size)=some 0 from by kernel_rfl)) ((by intro u hu;cases hu)) fun ai m c aj=> ?_);have h0:=Ad h0 c (Acw x (by omega));have h2:=kb c h2 (by omega);have h3:=kb c h3 (by omega);clear a;have a:=m;clear m;have ak:=bl a;refine oA rfl (oZ (tN (s _ _ (sk fun al y=>(wt (oM rfl (oS rfl (Zh (vr (.bool (true)) rfl) (oZ (tN (y _ _ (DU (vr (.bool (false)) rfl) (Gd (tN (r _ _ (wt (oS rfl (Ab4 (v:= .agg (refsC ((⟨[],[],[],zid,[]⟩,⟨.slice none 0 0, .slice none 0 0, .slice none 0 0⟩):Af)).toArray) (by kernel_rfl) (oS rfl (Zb h (vr (.agg (refsC ((⟨[],[],[],zid,[]⟩,⟨.slice none 0 0, .slice none 0 0, .slice none 0 0⟩):Af)).toArray) rfl) h2 (by simp only[Ac6,Am]) (AN (Am _) KO) (Bc rfl rfl rfl) fun z n f am=> ?_))))))))))))))))))));have h0:=Ad h0 f (Acw (Acy _) (by omega));have h3:=kb f h3 (by omega);have a:=kb f a (by omega);clear h2;have h2:z.heap[b2]? =some (.cells (refsC ((⟨[],[],[],zid,[]⟩,⟨.slice none 0 0, .slice none 0 0, .slice none 0 0⟩):Af)).toArray 36 (0,0)):=n;clear n;have an:=bl h2;refine oS rfl (Y1 (i:=0) (v:=NI 6) T1 (vr (NI 6) rfl) h3 (AcF rfl) Ri rfl rfl fun ao o g ap=> ?_);have h0:=Ad h0 g (Acw (Acy _) (by omega));have a:=kb g a (by omega);have h2:=kb g h2 (by omega);clear h3;have h3:=o;clear o;have aq:=bl h3;refine oZ (GE (fn:=Tryz.f149) [] rfl [] (.tuple #[]) rfl trivial ?_);exact⟨rfl,h2,h3,h0⟩
theorem OG.setE{α:Type}{n k g:Nat}{t:Acz}{enc:α->List Acr}{w w' :Acs}{v:Acr}{l:List α}(h:OG n t k enc w v l)(hg:w.grownBy w' (some g))(hl:g<n):OG n t k enc w' v l:=
 h.kept hg fun e=>by have:=(h.2.lt g e).1;omega
theorem RefsOw.set{w w' :Acs}{X:Af}{n g:Nat}(h:RefsOw n w X)(hg:w.grownBy w' (some g))(hl:g<n):RefsOw n w' X:=⟨h.br.setE hg hl,h.tg.setE hg hl,h.lg.setE hg hl⟩
theorem AaQ{w:Acs}{X:Af}{n:Nat}(h:RefsOw n w X):RefsAt w X:=⟨YY h.br,YY h.tg,YY h.lg⟩
def WV(w:Acs)(X:Af)(c:Nat):Option Aq->Prop
 | some m=>c=0/\X.1=m/\RefsAt w X/\RefsOw 0 w X
 | none=>c=6/\X=((⟨[],[],[],zid,[]⟩,⟨.slice none 0 0, .slice none 0 0, .slice none 0 0⟩):Af)
theorem Tu{d:Option Tmp}{ty:Acz}{pos:String}{af:Array Edge}{gd:Option (Nat × Bool)}(σ:AcD->Acr)(w:Acs):(execOp σ ⟨d, .alloc 28,ty,pos,af,gd⟩).run Acu w = .ok (.value (PQ w.heap.size 0)) (w.alloc (.cells ([NI 0]).toArray 28)):=by kernel_rfl
theorem M4{z0:Acr}(h0:∃ao n c,z0 = .slice ao n c)(w:Acs):(Adu 216 #[(0,z0)]).run Acu w = .ok (.agg #[z0, .int .i64 0]) w:=by obtain⟨_,_,_,rfl⟩:=h0;kernel_rfl
theorem Ok{z0:Acr}(h0:∃ao n c,z0 = .slice ao n c)(w:Acs):(Adu 216 #[(0,z0)]).run Acu w = .ok (.agg (z0 :: (.int .i64 (0) :: ([]))).toArray) w:=by
 exact M4 h0 w
theorem Rj:Plain Acu 150:=fun _ _=>by kernel_rfl
theorem MG:Tryz.prog.underlying 28=some (.int .i64):=by kernel_rfl
theorem Pg(w:Acs)(v:Acr)(b:Bs)(hr:RB w v b)(hl:b.length<=4611686018427387904):
  Calls Acu 123 #[v] w fun e w' =>∃x,e = .returned x/\∃X c,x = .tuple #[.agg (refsC X).toArray,NI c]/\WV w' X c (Cx b)/\Ext w w' :=by
 refine I3 (args:= [v]) Tryz.func123 rfl 9 rfl (AcF rfl) ?_;intro ah hb;have k:ah 0=(v:Acr):=hb.get 0;clear hb;have hE:=AbE w;refine MF _ JS fun K1 ai=>(wt (oS rfl (AbM So fun a p ar t aj au=> ?_)));have hE:=hE.trans aj;have l:=t;clear t;have av:a<p.heap.size:=by omega
 refine oS rfl (AbM Tu fun g m ak u y aw=> ?_);have al:=hE.size;have ax:=AO (bl l) ak;have hE:=hE.trans y;have l:=eb y l;have n:=u;clear u;have ay:g<m.heap.size:=by omega
 refine Yv [(0,v),(2,PQ a 0),(3,PQ g 0)] ⟨k,rfl,rfl,trivial⟩ fun az ⟨k,T2,T3,_⟩=> ?_;have hrA:RB m v b:=(hr.keep hE);have z:=l;have aa:=n;have hEA:=hE;have q:=AbE m;have a0:=hE.size;refine tN (ai _ _ (Gz (Ec rfl (Zl (vs:= #[PQ a 0,PQ g 0]) (by simp only[AcJ,AcL,AcR];exact congrArg Ac4 (B4 T2 T3)) (Lg (vr (.func (.func 149) #[] #[PQ a 0,PQ g 0]) rfl) (PM (vr (.func (.func 149) #[] #[PQ a 0,PQ g 0]) rfl)) (Kd (fun ρ=>ρ 0=(v:Acr)/\ρ 2=(PQ a 0:Acr)/\ρ 3=(PQ g 0:Acr)/\True) ⟨k,T2,T3,trivial⟩ fun a1 ⟨k,T2,T3,_⟩=>(Gz (Ec rfl (AbL k (Ec rfl (ZY (vr v rfl) (fun w=>Ok (RB.slice (hr.keep hE)) w) (Ec rfl (AbU (vr (.agg (BN ((⟨b,0⟩,⟨v⟩):Dq)).toArray) rfl) fun ab am ac ad o a2=> ?_)))))))))))));have a3:=AO (bl l) ac;have a4:=AO (bl n) ac;have hE:=hE.trans o;have l:=eb o l;have n:=eb o n;have q:=q.trans o;have an:=ad;clear ad;have a5:ab<am.heap.size:=by omega
 refine Lf rfl (Y6 Rj (vr (PQ ab 0) rfl) ?_);refine An (Ts q an hrA (by omega) hl) ?_ ?_;rotate_left
 ·
  rintro ch a6 ⟨hP,rfl,hx⟩;intro a_ ha_;show Leaves _ _ a_.tmps _ a_.defers (.panicking _) _;rw[ha_.defers];refine leaves_cons (f:=149) (args:= #[PQ a 0,PQ g 0]) (by simp) (by simp[go_sem]) ((M3 w a g _ _ _ (hEA.trans hx) (by omega) (by omega) (by omega) (eb hx z) (eb hx aa)).mono ?_);rintro e u' p ⟨rfl,rfl,h,j,ao⟩;exact Fa (ρ:=_) _ rfl [.agg (refsC ((⟨[],[],[],zid,[]⟩,⟨.slice none 0 0, .slice none 0 0, .slice none 0 0⟩):Af)).toArray,NI 6] (.tuple #[.agg (refsC ((⟨[],[],[],zid,[]⟩,⟨.slice none 0 0, .slice none 0 0, .slice none 0 0⟩):Af)).toArray,NI 6]) rfl ha_.get ⟨AbR (T2) h (L3).choose_spec rfl (AN (Am _) KO),ZE (T3) j MG rfl,trivial⟩ ⟨_,rfl,_,_,rfl,by rw[hP];exact⟨rfl,rfl⟩,ao⟩
 rintro v_ a7 ⟨X,hP,rfl,hX,hx⟩;have hE:=hEA.trans hx;have h:=eb hx z;have j:=eb hx aa;have a8:=hx.size;have hmt:=YY hX.br;have hmg:=YY hX.tg;have hml:=YY hX.lg;have a9:=(bl h);have ba:=(bl j);have hzA:=hEA.size;refine Ec rfl (Zb T2 (vr (.agg (refsC X).toArray) rfl) h (by simp only[Ac6,Am]) (AN (Am _) KO) (Bc (AbJ hmt).2 (AbJ hmg).2 (AbJ hml).2) fun ae af r bb=> ?_);have hE:=Ad hE r (Acw (Acy _) (by omega));have j:=kb r j (by omega);have hX:RefsOw m.heap.size ae X:=RefsOw.set hX r (by omega);clear hmt;clear hmg;clear hml;clear h;have h:ae.heap[a]? =some (.cells (refsC X).toArray 36 (0,0)):=af;clear af;have bc:=bl h;refine Ec rfl (Y1 (i:=0) (v:=NI 0) T3 (vr (NI 0) rfl) j (AcF rfl) Ri rfl rfl fun ap ag s bd=> ?_);have hE:=Ad hE s (Acw al (by omega));have hX:RefsOw m.heap.size ap X:=RefsOw.set hX s (by omega);have h:=kb s h (by omega);clear j;have j:=ag;clear ag;have be:=bl j;refine Kd (fun ρ=>ρ 0=(v:Acr)/\ρ 2=(PQ a 0:Acr)/\ρ 3=(PQ g 0:Acr)/\True) ⟨k,T2,T3,trivial⟩ fun bf ⟨k,T2,T3,_⟩=>(WT fun a_ ha_=> ?_);show Leaves _ _ a_.tmps _ a_.defers .returning _;rw[ha_.defers];refine leaves_cons (f:=149) (args:= #[PQ a 0,PQ g 0]) (by simp) (by simp[go_sem]) ((M2 a g _).mono ?_);rintro e u' p ⟨rfl,rfl,hxi⟩;exact Fa (ρ:=_) _ rfl [.agg (refsC X).toArray,NI 0] (.tuple #[.agg (refsC X).toArray,NI 0]) rfl ha_.get ⟨AbR (T2) (eb hxi h) (L3).choose_spec rfl (AN (Am _) KO),ZE (T3) (eb hxi j) MG rfl,trivial⟩ ⟨_,rfl,_,_,rfl,by rw[hP];exact⟨rfl,rfl,(AaQ hX).keep hxi,(RefsOw.zero hX).keep hxi⟩,hE.trans hxi⟩
section
variable {was : Aq} {b : Bs}
theorem XT(h:¬0<b.length):BI was b=none:=if_neg h
theorem Ol(h:0<b.length)(h1:(b.getD 0 0).toNat=83):BI was b=Cx (b.drop 1):=(if_pos h).trans (if_pos h1)
theorem WW(h:0<b.length)(h1:¬(b.getD 0 0).toNat=83)(h2:¬(b.getD 0 0).toNat=84):BI was b=none:=(if_pos h).trans ((if_neg h1).trans (if_neg h2))
theorem Fk(h:0<b.length)(h1:¬(b.getD 0 0).toNat=83)(h2:(b.getD 0 0).toNat=84):BI was b=(Cm b 1 b.length (CU b) []).bind fun x=>ED was b x.1 x.2:=(if_pos h).trans ((if_neg h1).trans (if_pos h2))
theorem WX(h:Cu b 1=none):Cm b 1 b.length (CU b) []=none:=by unfold Cm;rw[h];rfl
theorem WY{n j:Nat}(h:Cu b 1=some (n,j))(hn:¬n<=b.length):Cm b 1 b.length (CU b) []=none:=by unfold Cm;rw[h];exact if_neg hn
theorem PN{n j:Nat}(h:Cu b 1=some (n,j))(hn:n<=b.length):Cm b 1 b.length (CU b) []=B9 (CU b) n ([],j):=by unfold Cm;rw[h];exact if_pos hn
theorem XU{j n k j' :Nat}{o:List Av}(hk:k<n)(hit:B9 (CU b) k ([],j)=some (o,j'))(hx:FB b j' =none):B9 (CU b) n ([],j)=none:=by
 refine HH (j:=k+1) ?_ n hk;rw[Fh hit];unfold CU;rw[hx];rfl
theorem WZ{j k j' j2:Nat}{o:List Av}{x:Av}(hit:B9 (CU b) k ([],j)=some (o,j'))(hx:FB b j' =some (x,j2)):B9 (CU b) (k+1) ([],j)=some (o++ [x],j2):=by
 rw[Fh hit];unfold CU;rw[hx];rfl
theorem Tv{i n:Nat}{x:Av}(h:FB b i=some (x,n)):i+66<=n/\n<=b.length/\x.name.length<=256:=by
 unfold FB at h;simp only[Aea]at h;obtain⟨⟨k,j1⟩,h1,⟨s,j2⟩,h2,⟨o,j3⟩,h3,⟨q,j4⟩,h4,h5⟩:=h;cases h5;have a:=ES h2;have c:=(txtP_le h2).2;have f1:j1=i+1:=by
  unfold DD at h1;split at h1
  ·cases h1;rfl
  ·cases h1
 have f3:j3=j2+32:=by
  unfold Dv at h3;split at h3
  ·cases h3;rfl
  ·cases h3
 have f4:j4=j3+32/\j3+32<=b.length:=by
  unfold Dv at h4;split at h4
  ·cases h4;exact⟨rfl,by assumption⟩
  ·cases h4
 simp only at a c f1 f3 f4 ⊢;omega
theorem Om{j:Nat}:∀ {k:Nat} {o:List Av} {j' :Nat},B9 (CU b) k ([],j)=some (o,j')->j<=b.length->o.length=k/\j+66*k<=j' /\j' <=b.length/\∀u∈o,u.name.length<=256
 | 0,o,j',h,hj=>by cases h;exact⟨rfl,by omega,hj,fun u hu=>by cases hu⟩
 | k+1,o,j',h,hj=>by
  obtain⟨u,h1,h2⟩:=HI h;obtain⟨q1,q2,q3,q4⟩:=Om (o:=u.1) (j' :=u.2) h1 hj;unfold CU at h2;cases hd:FB b u.2 with
  | none=>rw[hd]at h2;cases h2
  | some x=>
   rw[hd]at h2;cases h2;have q5:=Tv (x:=x.1) (n:=x.2) hd;refine⟨by rw[Acx,q1];rfl,by omega,q5.2.1,fun y hy=> ?_⟩;rcases Adf.1 hy with hy | hy
   ·exact q4 y hy
   ·rw[Ada.1 hy];exact q5.2.2
theorem tj_text{l:List Av}{i:Nat}(h:AW b i 256=none):ED was b l i=none:=by unfold ED;rw[h];rfl
theorem XV{l:List Av}{i n:Nat}{s:Bs}(h:AW b i 256=some (s,n))(hn:¬n=b.length):ED was b l i=none:=by unfold ED;rw[h];exact if_neg hn
theorem XW{l:List Av}{i n:Nat}{s:Bs}(h:AW b i 256=some (s,n))(hn:n=b.length)(ha:¬(Ak was l s).1=0):ED was b l i=none:=by unfold ED;rw[h];exact(if_pos hn).trans (if_neg ha)
theorem Yt{l:List Av}{i n:Nat}{s:Bs}(h:AW b i 256=some (s,n))(hn:n=b.length)(ha:(Ak was l s).1=0):ED was b l i=some (Ak was l s).2:=by unfold ED;rw[h];exact(if_pos hn).trans (if_pos ha)
theorem If{r:Aq}(h:BI was b=some r):Az r=true:=by
 unfold BI at h;split at h
 ·split at h
  ·exact(SM h).1
  ·split at h
   ·obtain⟨x,-,h2⟩:=Aea.1 h;unfold ED at h2;obtain⟨t,-,h3⟩:=Aea.1 h2;split at h3
    ·split at h3
     ·rename_i h4
      cases h3;exact O6 h4
     ·cases h3
    ·cases h3
   ·cases h
 ·cases h
end
def DecJ(m:Aq)(c:Nat):Option Aq->Prop
 | some n=>c=0/\m=n
 | none=>c=6
theorem DecJ.ok{m:Aq}{c:Nat}{o:Option Aq}(h:DecJ m c o)(hc:c=0):o=some m:=by
 cases o with
 | none=>have h:c=6:=h;omega
 | some n=>rw[h.2]
theorem DecJ.bad{m:Aq}{c:Nat}{o:Option Aq}(h:DecJ m c o)(hc:¬c=0):o=none:=by
 cases o with
 | none=>rfl
 | some n=>exact absurd h.1 hc
theorem Ph(w:Acs)(v:Acr)(b:Bs)(hr:RB w v b)(hl:b.length<=4611686018427387904):
  Calls Acu 123 #[v] w fun e w' =>∃X c,e = .returned (.tuple #[.agg (refsC X).toArray,NI c])/\RefsOw 0 w' X/\DecJ X.1 c (Cx b)/\Ext w w' :=
 (Pg w v b hr hl).mono fun e w' h=>by
  obtain⟨x,rfl,X,c,rfl,h1,h2⟩:=h;refine⟨X,c,rfl,?_,?_,h2⟩
  ·cases hd:Cx b with
   | none=>rw[hd]at h1;rw[h1.2];exact⟨AbQ _ _ _ _ _,AbQ _ _ _ _ _,AbQ _ _ _ _ _⟩
   | some m=>rw[hd]at h1;exact h1.2.2.2
  ·cases hd:Cx b with
   | none=>rw[hd]at h1;exact h1.1
   | some m=>rw[hd]at h1;exact⟨h1.1,h1.2.1⟩
theorem Z9{w:Acs}{v:Acr}{l:AhU}{n:Nat}(h:RB w v l)(hn:w.heap.size<=n):l= []\/OB v n:=by
 by_cases e:l= []
 ·exact .inl e
 ·exact .inr fun q=>by have:=RB.lt h (AfZ.2 e) q;omega
def C3:PanicEntry:= { v:= .iface 145 (.agg #[]),recovered:=false }
theorem Tw:∃fs,Tryz.prog.underlying 145=some (.struct fs):=Du (by kernel_rfl)
theorem Cs:AC Acu 188 0 0:=fun b o w=>by simp[go_sem]
theorem Bh:AC Acu 188 1 1:=fun b o w=>by simp[go_sem]
theorem Dy:Plain Acu 122:=fun _ _=>by kernel_rfl
theorem Pi(z0:Int)(w:Acs):(Adu 77 #[(0, .int .u8 z0)]).run Acu w = .ok (.agg #[.int .u8 z0, .string ⟨#[]⟩, .int .u8 0, .int .u8 0, .int .u8 0, .int .u8 0, .int .u8 0, .int .u8 0, .int .u8 0, .int .u8 0, .int .u8 0, .int .u8 0, .int .u8 0, .int .u8 0, .int .u8 0, .int .u8 0, .int .u8 0, .int .u8 0, .int .u8 0, .int .u8 0, .int .u8 0, .int .u8 0, .int .u8 0, .int .u8 0, .int .u8 0, .int .u8 0, .int .u8 0, .int .u8 0, .int .u8 0, .int .u8 0, .int .u8 0, .int .u8 0, .int .u8 0, .int .u8 0, .int .u8 0, .int .u8 0, .int .u8 0, .int .u8 0, .int .u8 0, .int .u8 0, .int .u8 0, .int .u8 0, .int .u8 0, .int .u8 0, .int .u8 0, .int .u8 0, .int .u8 0, .int .u8 0, .int .u8 0, .int .u8 0, .int .u8 0, .int .u8 0, .int .u8 0, .int .u8 0, .int .u8 0, .int .u8 0, .int .u8 0, .int .u8 0, .int .u8 0, .int .u8 0, .int .u8 0, .int .u8 0, .int .u8 0, .int .u8 0, .int .u8 0, .int .u8 0]) w:=by kernel_rfl
theorem Rl(z0:UInt8)(w:Acs):(Adu 77 #[(0,B8 z0)]).run Acu w = .ok (.agg (B8 (z0) :: (St ([]) :: (Acv zid.1++(Acv zid.1)))).toArray) w:=by
 exact Pi _ w
theorem Ke:Eu Acu 77 updC:=⟨⟨_,(Sr).choose_spec⟩,fun x=>AN (CF x) Qu⟩
theorem Tx:Plain Acu 125:=fun _ _=>by kernel_rfl
theorem MH:Plain Acu 151:=fun _ _=>by kernel_rfl
theorem BM(w:Acs)(b:Bool):
  Calls Acu 122 #[.bool b] w fun r w' =>(∃v,r = .returned v/\v = .tuple #[]/\b=true/\Ext w w')\/∃ch,r = .panicked ch/\ch= [C3]/\b=false/\Ext w w' :=by
 refine gG (args:= [.bool (b)]) Tryz.func122 rfl 6 rfl rfl ?_;have hE:=AbE w;refine gS (Zh rfl ?_);refine cB (!(b)) rfl (fun a=> ?_) fun a=> ?_
 ·refine gS (Ab4 (v:= .agg #[]) (by kernel_rfl) (gS (Aah (Tw).choose_spec (vr (.agg #[]) rfl) (gP (Yp.panic rfl (Ao ?_))))));exact .inr ⟨_,rfl,rfl,by simpa using a,hE⟩
 refine Gg rfl ?_;exact .inl ⟨_,rfl,rfl,by simpa using a,hE⟩
theorem MI(w:Acs)(r:Nat)(v:Acr)(b:Bs)(i:Nat)(hb:w.heap[r]? =some (.cells (BN (AT v b (i))).toArray 188 (0,0)))(hr:RB w v b)(hap:b= []\/OB v r)(hi:i<=b.length)(hl:b.length<=4611686018427387904):
  Calls Acu 125 #[PQ r 0] w fun e w' =>(∃x,e = .returned x/\∃c n,AW b i 256=some (c,n)/\x=St c/\w'.heap[r]? =some (.cells (BN (AT v b (n))).toArray 188 (0,0))/\w.grownBy w' (some r))\/∃ch,e = .panicked ch/\AW b i 256=none/\ch= [C3]/\w.grownBy w' (some r):=by
 have hlr:=(bl hb);have hgr:=Ac0 w (some r);refine gG (args:= [PQ r 0]) Tryz.func125 rfl 27 rfl rfl ?_;have hE:=AbE w;rcases hd:AP 0 (b.drop i)with _ | ⟨xn,xk⟩
 ·have hP:AW b i 256=none:=by unfold AW;rw[hd]
  refine gM0 [0,1,2,3,4,5,6,7,8,9,10,11,12,13,14,15] [8] [] fun w3 g=> ?_;have hgr:w.grownBy w3 (some r):=Aa hgr g.grown (fun _ e=>by cases e);have hb:=eb g hb;have hE:=hE.trans g;refine ys (AbF rfl zz) (ys (AbD Cs rfl zz) (ys (YW G1 rfl rfl (Ac hb (Cc (AT v b (i)))) zz) (ys (AbF rfl zz) (ys (AbD Bh rfl zz) (ys (YW NB rfl rfl (Ac hb (BS (AT v b (i)))) zz) (yC (Y9 GJ rfl rfl rfl ?_)))))));refine((show Calls _ _ _ _ (fun e w2=>e = .returned (.tuple #[St (([]:AhU)),NI 0,NI 6])/\Ext _ w2)from(CP _ v b (hr.keep hE) i hi 256).mono fun e w2 ⟨h1,h2⟩=>by subst h2;subst h1;refine⟨?_,AbE _⟩;unfold Bm;rw[hd];simp only;rfl)).mono ?_;rintro e w6 ⟨rfl,h⟩;refine⟨_,rfl,?_⟩;have hgr:w.grownBy w6 (some r):=Aa hgr h.grown (fun _ e=>by cases e);refine ys (AbG (vs:= [St (([]:AhU)),NI 0,NI 6]) rfl rfl zz) (ys (AbG (vs:= [St (([]:AhU)),NI 0,NI 6]) rfl rfl zz) (ys (AbG (vs:= [St (([]:AhU)),NI 0,NI 6]) rfl rfl zz) (gS (YX (a:=(6:Nat)) (b:=(0:Nat)) rfl rfl (AK _ _ _ _) (gP (Y6 Dy rfl ?_))))));refine An (BM _ (decide ((6:Nat)=(0)))) ?_ ?_;rotate_left
  ·have hb:=eb h hb;rintro ch a2 ⟨rfl,hb,hx⟩;refine Ao ?_;have hno:=of_decide_eq_false hb;exact .inr ⟨_,rfl,hP,rfl,(Aa hgr hx.grown (fun _ e=>by cases e))⟩
  rintro v_ ai ⟨rfl,aj,q⟩;have hgr:w.grownBy ai (some r):=Aa hgr q.grown (fun _ e=>by cases e);have a3:=of_decide_eq_true aj;have hZ1:=h.trans q;have hb:=eb hZ1 hb;refine gS (AbF rfl (gS (AbD Bh rfl (gS (Y1 (i:=1) (v:=NI 0) rfl rfl hb (by rw[CL];decide) Dw rfl rfl fun s t ak a4=> ?_)))));have hgr:w.grownBy s (some r):=Aa hgr ak (fun _ e=> .inl e);clear hE;clear hb;have hb:s.heap[r]? =some (.cells (BN ((⟨b,((0:Nat):Int)⟩,⟨v⟩):Dq)).toArray 188 (0,0)):=AA t (Dj (AT v b (i)) ((0:Nat):Int));clear t;have a5:=bl hb;refine AD rfl (vr (St (([]:AhU))) rfl) ?_;omega
 by_cases hm:256<xn
 ·have hP:AW b i 256=none:=by unfold AW;rw[hd];exact if_pos hm
  refine gM0 [0,1,2,3,4,5,6,7,8,9,10,11,12,13,14,15] [8] [] fun al j=> ?_;have hgr:w.grownBy al (some r):=Aa hgr j.grown (fun _ e=>by cases e);have hb:=eb j hb;have hE:=hE.trans j;refine ys (AbF rfl zz) (ys (AbD Cs rfl zz) (ys (YW G1 rfl rfl (Ac hb (Cc (AT v b (i)))) zz) (ys (AbF rfl zz) (ys (AbD Bh rfl zz) (ys (YW NB rfl rfl (Ac hb (BS (AT v b (i)))) zz) (yC (Y9 GJ rfl rfl rfl ?_)))))));refine((show Calls _ _ _ _ (fun e w2=>e = .returned (.tuple #[St (([]:AhU)),NI 0,NI 2])/\Ext _ w2)from(CP _ v b (hr.keep hE) i hi 256).mono fun e w2 ⟨h1,h2⟩=>by subst h2;subst h1;refine⟨?_,AbE _⟩;unfold Bm;rw[hd];simp only;rw[if_pos (by omega)];rfl)).mono ?_;rintro e am ⟨rfl,k⟩;refine⟨_,rfl,?_⟩;have hgr:w.grownBy am (some r):=Aa hgr k.grown (fun _ e=>by cases e);refine ys (AbG (vs:= [St (([]:AhU)),NI 0,NI 2]) rfl rfl zz) (ys (AbG (vs:= [St (([]:AhU)),NI 0,NI 2]) rfl rfl zz) (ys (AbG (vs:= [St (([]:AhU)),NI 0,NI 2]) rfl rfl zz) (gS (YX (a:=(2:Nat)) (b:=(0:Nat)) rfl rfl (AK _ _ _ _) (gP (Y6 Dy rfl ?_))))));refine An (BM _ (decide ((2:Nat)=(0)))) ?_ ?_;rotate_left
  ·have hb:=eb k hb;rintro ch a6 ⟨rfl,hb,hx⟩;refine Ao ?_;have hno:=of_decide_eq_false hb;exact .inr ⟨_,rfl,hP,rfl,(Aa hgr hx.grown (fun _ e=>by cases e))⟩
  rintro v_ an ⟨rfl,ao,u⟩;have hgr:w.grownBy an (some r):=Aa hgr u.grown (fun _ e=>by cases e);have a7:=of_decide_eq_true ao;have hZ2:=k.trans u;have hb:=eb hZ2 hb;refine gS (AbF rfl (gS (AbD Bh rfl (gS (Y1 (i:=1) (v:=NI 0) rfl rfl hb (by rw[CL];decide) Dw rfl rfl fun y z ap a8=> ?_)))));have hgr:w.grownBy y (some r):=Aa hgr ap (fun _ e=> .inl e);clear hE;clear hb;have hb:y.heap[r]? =some (.cells (BN ((⟨b,((0:Nat):Int)⟩,⟨v⟩):Dq)).toArray 188 (0,0)):=AA z (Dj (AT v b (i)) ((0:Nat):Int));clear z;have a9:=bl hb;refine AD rfl (vr (St (([]:AhU))) rfl) ?_;omega
 by_cases f:b.length<i+xk+xn
 ·have hP:AW b i 256=none:=by unfold AW;rw[hd];exact(if_neg hm).trans (if_pos f)
  refine gM0 [0,1,2,3,4,5,6,7,8,9,10,11,12,13,14,15] [8] [] fun aq l=> ?_;have hgr:w.grownBy aq (some r):=Aa hgr l.grown (fun _ e=>by cases e);have hb:=eb l hb;have hE:=hE.trans l;refine ys (AbF rfl zz) (ys (AbD Cs rfl zz) (ys (YW G1 rfl rfl (Ac hb (Cc (AT v b (i)))) zz) (ys (AbF rfl zz) (ys (AbD Bh rfl zz) (ys (YW NB rfl rfl (Ac hb (BS (AT v b (i)))) zz) (yC (Y9 GJ rfl rfl rfl ?_)))))));refine((show Calls _ _ _ _ (fun e w2=>e = .returned (.tuple #[St (([]:AhU)),NI 0,NI 6])/\Ext _ w2)from(CP _ v b (hr.keep hE) i hi 256).mono fun e w2 ⟨h1,h2⟩=>by subst h2;subst h1;refine⟨?_,AbE _⟩;unfold Bm;rw[hd];simp only;rw[if_neg (by omega),if_pos f];rfl)).mono ?_;rintro e ar ⟨rfl,m⟩;refine⟨_,rfl,?_⟩;have hgr:w.grownBy ar (some r):=Aa hgr m.grown (fun _ e=>by cases e);refine ys (AbG (vs:= [St (([]:AhU)),NI 0,NI 6]) rfl rfl zz) (ys (AbG (vs:= [St (([]:AhU)),NI 0,NI 6]) rfl rfl zz) (ys (AbG (vs:= [St (([]:AhU)),NI 0,NI 6]) rfl rfl zz) (gS (YX (a:=(6:Nat)) (b:=(0:Nat)) rfl rfl (AK _ _ _ _) (gP (Y6 Dy rfl ?_))))));refine An (BM _ (decide ((6:Nat)=(0)))) ?_ ?_;rotate_left
  ·have hb:=eb m hb;rintro ch ba ⟨rfl,hb,hx⟩;refine Ao ?_;have hno:=of_decide_eq_false hb;exact .inr ⟨_,rfl,hP,rfl,(Aa hgr hx.grown (fun _ e=>by cases e))⟩
  rintro v_ au ⟨rfl,av,aa⟩;have hgr:w.grownBy au (some r):=Aa hgr aa.grown (fun _ e=>by cases e);have bb:=of_decide_eq_true av;have hZ3:=m.trans aa;have hb:=eb hZ3 hb;refine gS (AbF rfl (gS (AbD Bh rfl (gS (Y1 (i:=1) (v:=NI 0) rfl rfl hb (by rw[CL];decide) Dw rfl rfl fun ab ac aw bc=> ?_)))));have hgr:w.grownBy ab (some r):=Aa hgr aw (fun _ e=> .inl e);clear hE;clear hb;have hb:ab.heap[r]? =some (.cells (BN ((⟨b,((0:Nat):Int)⟩,⟨v⟩):Dq)).toArray 188 (0,0)):=AA ac (Dj (AT v b (i)) ((0:Nat):Int));clear ac;have bd:=bl hb;refine AD rfl (vr (St (([]:AhU))) rfl) ?_;omega
 have hP:AW b i 256=some ((b.drop (i+xk)).take xn,i+xk+xn):=by unfold AW;rw[hd];exact(if_neg hm).trans (if_neg f)
 refine gM0 [0,1,2,3,4,5,6,7,8,9,10,11,12,13,14,15] [8] [] fun ax o=> ?_;have hgr:w.grownBy ax (some r):=Aa hgr o.grown (fun _ e=>by cases e);have hb:=eb o hb;have hE:=hE.trans o;refine ys (AbF rfl zz) (ys (AbD Cs rfl zz) (ys (YW G1 rfl rfl (Ac hb (Cc (AT v b (i)))) zz) (ys (AbF rfl zz) (ys (AbD Bh rfl zz) (ys (YW NB rfl rfl (Ac hb (BS (AT v b (i)))) zz) (yC (Y9 GJ rfl rfl rfl ?_)))))));refine((show Calls _ _ _ _ (fun e w2=>e = .returned (.tuple #[St (((b.drop (i+xk)).take xn)),NI (i+xk+xn),NI 0])/\Ext _ w2)from(CP _ v b (hr.keep hE) i hi 256).mono fun e w2 ⟨h1,h2⟩=>by subst h2;subst h1;refine⟨?_,AbE _⟩;unfold Bm;rw[hd];simp only;rw[if_neg (by omega),if_neg f];rfl)).mono ?_;rintro e ay ⟨rfl,p⟩;refine⟨_,rfl,?_⟩;have hgr:w.grownBy ay (some r):=Aa hgr p.grown (fun _ e=>by cases e);refine ys (AbG (vs:= [St (((b.drop (i+xk)).take xn)),NI (i+xk+xn),NI 0]) rfl rfl zz) (ys (AbG (vs:= [St (((b.drop (i+xk)).take xn)),NI (i+xk+xn),NI 0]) rfl rfl zz) (ys (AbG (vs:= [St (((b.drop (i+xk)).take xn)),NI (i+xk+xn),NI 0]) rfl rfl zz) (gS (YX (a:=(0:Nat)) (b:=(0:Nat)) rfl rfl (AK _ _ _ _) (gP (Y6 Dy rfl ?_))))));refine An (BM _ (decide ((0:Nat)=(0)))) ?_ ?_;rotate_left
 ·have hb:=eb p hb;rintro ch be ⟨rfl,hb,hx⟩;refine Ao ?_;have hno:=of_decide_eq_false hb;exact absurd rfl hno
 rintro v_ az ⟨rfl,a0,ad⟩;have hgr:w.grownBy az (some r):=Aa hgr ad.grown (fun _ e=>by cases e);have bf:=of_decide_eq_true a0;have hZ4:=p.trans ad;have hb:=eb hZ4 hb;refine gS (AbF rfl (gS (AbD Bh rfl (gS (Y1 (i:=1) (v:=NI (i+xk+xn)) rfl rfl hb (by rw[CL];decide) Dw rfl rfl fun ae af a1 bg=> ?_)))));have hgr:w.grownBy ae (some r):=Aa hgr a1 (fun _ e=> .inl e);clear hE;clear hb;have hb:ae.heap[r]? =some (.cells (BN ((⟨b,((i+xk+xn:Nat):Int)⟩,⟨v⟩):Dq)).toArray 188 (0,0)):=AA af (Dj (AT v b (i)) ((i+xk+xn:Nat):Int));clear af;have bh:=bl hb;refine AD rfl (vr (St (((b.drop (i+xk)).take xn))) rfl) ?_;exact .inl ⟨_,rfl,_,_,hP,rfl,hb,hgr⟩
theorem PO(w:Acs)(r:Nat)(v:Acr)(b:Bs)(i:Nat)(hb:w.heap[r]? =some (.cells (BN (AT v b (i))).toArray 188 (0,0)))(hr:RB w v b)(hap:b= []\/OB v r)(hi:i<=b.length)(hl:b.length<=4611686018427387904):
  Calls Acu 151 #[PQ r 0] w fun e w' =>(∃x,e = .returned x/\∃c n,Dv b i=some (c,n)/\x=AB c.1/\w'.heap[r]? =some (.cells (BN (AT v b (n))).toArray 188 (0,0))/\w.grownBy w' (some r))\/∃ch,e = .panicked ch/\Dv b i=none/\ch= [C3]/\w.grownBy w' (some r):=by
 have hlr:=(bl hb);have hgr:=Ac0 w (some r);refine gG (args:= [PQ r 0]) Tryz.func151 rfl 27 rfl rfl ?_;have hE:=AbE w;refine gS (AbM L1 fun t w3 ah ai u be=> ?_);have hgr:w.grownBy w3 (some r):=Aa hgr u.grown (fun _ e=>by cases e);have f:=ai;clear ai;have bf:t<w3.heap.size:=by omega
 by_cases hle:i+32<=b.length
 ·have hQ:((b.drop i).take 32).length=32:=by rw[AcS,List.length_drop];omega
  have hP:Dv b i=some (⟨(b.drop i).take 32,hQ⟩,i+32):=dif_pos hle;refine VZ 13 [0,1,2,3,4,5,6,7,8,9,10,11,12] [14,15,16] [8,14] [11,12] [] (cells:=(Acv (Ady 32 0)).toArray) L1 fun aw y=> ?_;have hgr:w.grownBy aw (some r):=Aa hgr y.grown (fun _ e=>by cases e);have hZ1:=u.trans y;have hE:=hE.trans hZ1;have bg:=hE.size;have ax:=AO (bl hb) ah;have hb:=eb hZ1 hb;have bh:=(bl hb);have f:=eb y f;have bi:=(bl f);refine aM rfl rfl (aP rfl rfl (fun _ _=>AbF rfl zz) (aP rfl rfl (fun _ _=>AbD Cs rfl zz) (aF rfl rfl (fun _ hZ=>YW G1 rfl rfl (Ac (eb hZ hb) (Cc (AT v b (i)))) zz) (aM rfl rfl (aP rfl rfl (fun _ _=>AbF rfl zz) (aP rfl rfl (fun _ _=>AbD Bh rfl zz) (aF rfl rfl (fun _ hZ=>YW NB rfl rfl (Ac (eb hZ hb) (BS (AT v b (i)))) zz) (aC rfl rfl fun aj j=> ?_))))))));have hgr:w.grownBy aj (some r):=Aa hgr j.grown (fun _ e=>by cases e);have z:=AbE aj;have hE:=hE.trans j;refine id (Y2 KX (vr v rfl) (vr (NI i) rfl) ?_);refine((show Calls _ _ _ _ (fun e w2=>e = .returned (.tuple #[AB ((b.drop i).take 32),NI (i+32),NI 0])/\Ext _ w2)from(Hw _ v b (hr.keep hE) i hi).mono fun e w2 ⟨h1,h2⟩=>by subst h1;refine⟨?_,h2⟩;unfold DB;rw[if_neg (by omega)];rfl)).mono ?_;rintro e ay ⟨rfl,k⟩;refine⟨_,rfl,?_⟩;have hgr:w.grownBy ay (some r):=Aa hgr k.grown (fun _ e=>by cases e);have z:=z.trans k;refine⟨z,?_⟩;refine aM rfl rfl (aP rfl rfl (fun _ _=>AbG (vs:= [AB ((b.drop i).take 32),NI (i+32),NI 0]) rfl rfl zz) (aP rfl rfl (fun _ _=>AbG (vs:= [AB ((b.drop i).take 32),NI (i+32),NI 0]) rfl rfl zz) (aP rfl rfl (fun _ _=>AbG (vs:= [AB ((b.drop i).take 32),NI (i+32),NI 0]) rfl rfl zz) (aE fun az a0 aa ⟨bj,bk⟩ bm g=> ?_))));have hgr:w.grownBy a0 (some r):=Aa hgr aa.grown (fun _ e=>by cases e);refine yD rfl (Zb (vr (PQ az 0) rfl) (vr (AB ((b.drop i).take 32)) rfl) g (by exact DV hQ Ade) (by exact Ar hQ) (Ax _) fun a1 ak l bn=> ?_);have hgr:w.grownBy a1 (some r):=Aa hgr l (fun _ e=> .inr (by cases e;omega));clear g;have g:=ak;clear ak;have bo:=bl g;refine gS (YX (a:=(0:Nat)) (b:=(0:Nat)) rfl rfl (AK _ _ _ _) (gP (Y6 Dy rfl ?_)));refine An (BM _ (decide ((0:Nat)=(0)))) ?_ ?_;rotate_left
  ·have hZ2:=(j.trans k).trans aa;have hb:=eb hZ2 hb;have hb:=kb l hb (by omega);rintro ch bp ⟨rfl,hb,hx⟩;refine Ao ?_;have hno:=of_decide_eq_false hb;exact absurd rfl hno
  rintro v_ a2 ⟨rfl,a3,m⟩;have hgr:w.grownBy a2 (some r):=Aa hgr m.grown (fun _ e=>by cases e);have bq:=of_decide_eq_true a3;have hZ3:=(j.trans k).trans aa;have hb:=eb hZ3 hb;have hb:=kb l hb (by omega);have hb:=eb m hb;refine gS (AbF rfl (gS (AbD Bh rfl (gS (Y1 (i:=1) (v:=NI (i+32)) rfl rfl hb (by rw[CL];decide) Dw rfl rfl fun al am ab br=> ?_)))));have hgr:w.grownBy al (some r):=Aa hgr ab (fun _ e=> .inl e);clear hE;clear hb;have hb:al.heap[r]? =some (.cells (BN ((⟨b,((i+32:Nat):Int)⟩,⟨v⟩):Dq)).toArray 188 (0,0)):=AA am (Dj (AT v b (i)) ((i+32:Nat):Int));clear am;have bs:=bl hb;have f:=eb hZ3 f;have f:=kb l f (by omega);have f:=eb m f;have f:=kb ab f (by omega);have g:=eb m g;have g:=kb ab g (by omega);refine gS (Zs rfl g VT rfl (by exact Ar hQ) (gS (Zb (vr (PQ t 0) rfl) (vr (AB ((b.drop i).take 32)) rfl) f (by exact DV hQ Ade) (by exact Ar hQ) (Ax _) fun a4 an ao bt=> ?_)));have hgr:w.grownBy a4 (some r):=Aa hgr ao (fun _ e=> .inr (by cases e;omega));clear f;have f:=an;clear an;have bu:=bl f;refine Ie rfl (AbR rfl f VT rfl (by exact Ar hQ)) ?_;have hb:=kb ao hb (by omega);exact .inl ⟨_,rfl,_,_,hP,rfl,hb,hgr⟩
 have hP:Dv b i=none:=dif_neg hle;refine VZ 13 [0,1,2,3,4,5,6,7,8,9,10,11,12] [14,15,16] [8,14] [11,12] [] (cells:=(Acv (Ady 32 0)).toArray) L1 fun a5 ac=> ?_;have hgr:w.grownBy a5 (some r):=Aa hgr ac.grown (fun _ e=>by cases e);have hZ4:=u.trans ac;have hE:=hE.trans hZ4;have bv:=hE.size;have ax:=AO (bl hb) ah;have hb:=eb hZ4 hb;have bw:=(bl hb);have f:=eb ac f;have bx:=(bl f);refine aM rfl rfl (aP rfl rfl (fun _ _=>AbF rfl zz) (aP rfl rfl (fun _ _=>AbD Cs rfl zz) (aF rfl rfl (fun _ hZ=>YW G1 rfl rfl (Ac (eb hZ hb) (Cc (AT v b (i)))) zz) (aM rfl rfl (aP rfl rfl (fun _ _=>AbF rfl zz) (aP rfl rfl (fun _ _=>AbD Bh rfl zz) (aF rfl rfl (fun _ hZ=>YW NB rfl rfl (Ac (eb hZ hb) (BS (AT v b (i)))) zz) (aC rfl rfl fun ap o=> ?_))))))));have hgr:w.grownBy ap (some r):=Aa hgr o.grown (fun _ e=>by cases e);have ad:=AbE ap;have hE:=hE.trans o;refine id (Y2 KX (vr v rfl) (vr (NI i) rfl) ?_);refine((show Calls _ _ _ _ (fun e w2=>e = .returned (.tuple #[AB zero32,NI 0,NI 6])/\Ext _ w2)from(Hw _ v b (hr.keep hE) i hi).mono fun e w2 ⟨h1,h2⟩=>by subst h1;refine⟨?_,h2⟩;unfold DB;rw[if_pos (by omega)];rfl)).mono ?_;rintro e a6 ⟨rfl,p⟩;refine⟨_,rfl,?_⟩;have hgr:w.grownBy a6 (some r):=Aa hgr p.grown (fun _ e=>by cases e);have ad:=ad.trans p;refine⟨ad,?_⟩;refine aM rfl rfl (aP rfl rfl (fun _ _=>AbG (vs:= [AB zero32,NI 0,NI 6]) rfl rfl zz) (aP rfl rfl (fun _ _=>AbG (vs:= [AB zero32,NI 0,NI 6]) rfl rfl zz) (aP rfl rfl (fun _ _=>AbG (vs:= [AB zero32,NI 0,NI 6]) rfl rfl zz) (aE fun a7 a8 ae ⟨bz,b0⟩ b1 h=> ?_))));have hgr:w.grownBy a8 (some r):=Aa hgr ae.grown (fun _ e=>by cases e);refine yD rfl (Zb (vr (PQ a7 0) rfl) (vr (AB zero32) rfl) h (by exact DV (by decide) Ade) (by exact Ar (by decide)) (Ax _) fun a9 aq q b2=> ?_);have hgr:w.grownBy a9 (some r):=Aa hgr q (fun _ e=> .inr (by cases e;omega));clear h;have h:=aq;clear aq;have b3:=bl h;refine gS (YX (a:=(6:Nat)) (b:=(0:Nat)) rfl rfl (AK _ _ _ _) (gP (Y6 Dy rfl ?_)));refine An (BM _ (decide ((6:Nat)=(0)))) ?_ ?_;rotate_left
 ·have hZ5:=(o.trans p).trans ae;have hb:=eb hZ5 hb;have hb:=kb q hb (by omega);rintro ch b4 ⟨rfl,hb,hx⟩;refine Ao ?_;have hno:=of_decide_eq_false hb;exact .inr ⟨_,rfl,hP,rfl,(Aa hgr hx.grown (fun _ e=>by cases e))⟩
 rintro v_ ba ⟨rfl,bb,s⟩;have hgr:w.grownBy ba (some r):=Aa hgr s.grown (fun _ e=>by cases e);have b5:=of_decide_eq_true bb;have hZ6:=(o.trans p).trans ae;have hb:=eb hZ6 hb;have hb:=kb q hb (by omega);have hb:=eb s hb;refine gS (AbF rfl (gS (AbD Bh rfl (gS (Y1 (i:=1) (v:=NI 0) rfl rfl hb (by rw[CL];decide) Dw rfl rfl fun ar au af b6=> ?_)))));have hgr:w.grownBy ar (some r):=Aa hgr af (fun _ e=> .inl e);clear hE;clear hb;have hb:ar.heap[r]? =some (.cells (BN ((⟨b,((0:Nat):Int)⟩,⟨v⟩):Dq)).toArray 188 (0,0)):=AA au (Dj (AT v b (i)) ((0:Nat):Int));clear au;have b7:=bl hb;have f:=eb hZ6 f;have f:=kb q f (by omega);have f:=eb s f;have f:=kb af f (by omega);have h:=eb s h;have h:=kb af h (by omega);refine gS (Zs rfl h VT rfl (by exact Ar (by decide)) (gS (Zb (vr (PQ t 0) rfl) (vr (AB zero32) rfl) f (by exact DV (by decide) Ade) (by exact Ar (by decide)) (Ax _) fun bc av bd b8=> ?_)));have hgr:w.grownBy bc (some r):=Aa hgr bd (fun _ e=> .inr (by cases e;omega));clear f;have f:=av;clear av;have b9:=bl f;refine Ie rfl (AbR rfl f VT rfl (by exact Ar (by decide))) ?_;omega
theorem Vj(w:Acs)(r:Nat)(v:Acr)(b:Bs)(i:Nat)(hb:w.heap[r]? =some (.cells (BN (AT v b (i))).toArray 188 (0,0)))(hr:RB w v b)(hap:b= []\/OB v r)(hi:i<=b.length)(hl:b.length<=4611686018427387904):
  Calls Acu 124 #[PQ r 0] w fun e w' =>(∃x,e = .returned x/\∃c n,FB b i=some (c,n)/\x = .agg (updC c).toArray/\w'.heap[r]? =some (.cells (BN (AT v b (n))).toArray 188 (0,0))/\w.grownBy w' (some r))\/∃ch,e = .panicked ch/\FB b i=none/\ch= [C3]/\w.grownBy w' (some r):=by
 have hlr:=(bl hb);have hgr:=Ac0 w (some r);have al:=hr;refine gG (args:= [PQ r 0]) Tryz.func124 rfl 43 rfl rfl ?_;have hE:=AbE w;refine gS (AbM SD fun p w3 an ao af bj=> ?_);have hgr:w.grownBy w3 (some r):=Aa hgr af.grown (fun _ e=>by cases e);have f:=ao;clear ao;have bk:p<w3.heap.size:=by omega
 have ba:b= []\/OB v p:=Z9 al (by omega);by_cases hlt:i<b.length
 ·have hP0:DD b i=some (b.getD i 0,i+1):=if_pos hlt;refine gM0 [0,1,2,3,4,5,6,7,8,9,10] [10] [] fun bb ag=> ?_;have hgr:w.grownBy bb (some r):=Aa hgr ag.grown (fun _ e=>by cases e);have bc:=AO (bl hb) an;have hZ1:=af.trans ag;have hb:=eb hZ1 hb;have hE:=hE.trans hZ1;refine ys (AbF rfl zz) (ys (AbD Bh rfl zz) (ys (YW NB rfl rfl (Ac hb (BS (AT v b (i)))) zz) (ys (AbF rfl zz) (ys (AbD Cs rfl zz) (ys (YW G1 rfl rfl (Ac hb (Cc (AT v b (i)))) zz) (ys (Zk G1 (Zn (hr.keep hE) rfl) zz) (ys (YX (a:=(i:Nat)) (b:=(b.length:Nat)) rfl rfl (Bf _ _ _ _) zz) (kT ((by omega)) (Pu (Y6 Dy rfl ?_))))))))));refine An (BM _ (true)) ?_ ?_;rotate_left
  ·rintro ch bm ⟨rfl,hb,hx⟩;refine Ao ?_;cases hb
  rintro v_ bd ⟨rfl,bn,q⟩;have hgr:w.grownBy bd (some r):=Aa hgr q.grown (fun _ e=>by cases e);have hE:=hE.trans q;refine FS [0,1,2,3,4,5,6,7,8,9,10,11,12] [11,12] [1,2,5,6,8,10] [3,7,9] fun ah k=> ?_;have hgr:w.grownBy ah (some r):=Aa hgr k.grown (fun _ e=>by cases e);have hr:=hr.keep (hE.trans k);have j:=AbE ah;have hE:=hE.trans k;have bo:=hE.size;have s:=AbE ah;have hb:=eb (q.trans k) hb;refine Gf s ?_;refine yp (AbF rfl zz) (yp (AbD Cs rfl zz) (yf (fun _ ⟨hZ,_⟩=>YW G1 rfl rfl (Ac (eb hZ hb) (Cc (AT v b (i)))) zz) (yp (AbF rfl zz) (yp (AbD Bh rfl zz) (yf (fun _ ⟨hZ,_⟩=>YW NB rfl rfl (Ac (eb hZ hb) (BS (AT v b (i)))) zz) (yA (Z7 (l:=b) (i:=i) G1 P8 (Zn (hr.keep j) rfl) rfl (hlt) fun bp ap=>(yf (fun _ ⟨hZ,_⟩=>Zo u5 rfl (Zu (ap.keep hZ) rfl) zz) (yp (ZY (vr (B8 (b.getD (i) 0)) rfl) (fun w=>Rl (b.getD (i) 0) w) zz) (yE (AbM SD fun h aq ar au o bq=> ?_)))))))))));have hgr:w.grownBy aq (some r):=Aa hgr o.grown (fun _ e=>by cases e);have g:=au;clear au;have br:h<aq.heap.size:=by omega
  have s:=s.trans o;refine⟨s,?_⟩;refine yD rfl (Za Ke (vr (PQ h 0) rfl) (vr (.agg (updC (⟨(b.getD (i) 0),[],zid,zid⟩:Av)).toArray) rfl) g (G2) fun av aw t bs=> ?_);have hgr:w.grownBy av (some r):=Aa hgr t (fun _ e=> .inr (by cases e;omega));clear g;have g:av.heap[h]? =some (.cells (updC (⟨(b.getD (i) 0),[],zid,zid⟩:Av)).toArray 77 (0,0)):=aw;clear aw;have bt:=bl g;clear ap;have ai:b= []\/OB v h:=Z9 al (by omega);have j:=j.trans o;have j:=Ad j t (Acw (Acy _) (by omega));have bu:=AO (bl hb) ar;have hb:=eb o hb;have hb:=kb t hb (by omega);refine gS (AbF rfl (gS (AbD Bh rfl (gS (YW NB rfl rfl (Ac hb (BS (AT v b (i)))) (gS (Y4 (xv:=NI i) (yv:=NI 1) rfl rfl rfl (AG _ _ _ (by omega)) (gS (AbF rfl (gS (AbD Bh rfl (gS (Y1 (i:=1) (v:=NI ((i)+(1))) rfl rfl hb (by rw[CL];decide) Dw rfl rfl fun aj ax u bv=> ?_)))))))))))));have hr:=hr.keep j;have hr:=ZH hr u hap;have hgr:w.grownBy aj (some r):=Aa hgr u (fun _ e=> .inl e);clear hE;clear hb;have hb:aj.heap[r]? =some (.cells (BN ((⟨b,(((i)+(1):Nat):Int)⟩,⟨v⟩):Dq)).toArray 188 (0,0)):=AA ax (Dj (AT v b (i)) (((i)+(1):Nat):Int));clear ax;have bw:=bl hb;have hb:aj.heap[r]? =some (.cells (BN (AT v b (i+1))).toArray 188 (0,0)):=hb;have f:=eb ((ag.trans q).trans k) f;have bx:=AO (bl f) ar;have f:=eb o f;have f:=kb t f (by omega);have f:=kb u f (by omega);have bz:=(bl f);have g:=kb u g (by omega);have b0:=(bl g);have b1:=(bl hb);refine gP (Y6 Tx rfl ?_);refine An (MI _ r v b (i+1) hb hr hap hlt hl) ?_ ?_;rotate_left
  ·rintro ch b2 ⟨hPx,rfl,hgx⟩;refine Ao ?_;exact .inr ⟨_,rfl,by unfold FB;simp only[hP0,hPx,AcP,Adt],rfl,Aa hgr hgx (fun _ e=> .inl e)⟩
  rintro v_ be ⟨d1,j1,hP1,rfl,ay,y⟩;have hr:=ZH hr y hap;have hgr:w.grownBy be (some r):=Aa hgr y (fun _ e=> .inl e);clear hb;have hb:=ay;clear ay;have hle_j1:=(txtP_le hP1).1;have g:=kb y g (by omega);refine gS (AbD O3 rfl (gS (Y1 (i:=1) (v:=St (d1)) rfl rfl g (by rw[CF];decide) Ss rfl rfl fun az a0 aa b3=> ?_)));have hr:=ZH hr aa ai;have hgr:w.grownBy az (some r):=Aa hgr aa (fun _ e=> .inr (by cases e;omega));clear g;have g:az.heap[h]? =some (.cells (updC (⟨(b.getD (i) 0),d1,zid,zid⟩:Av)).toArray 77 (0,0)):=AA a0 (Xd (⟨(b.getD (i) 0),[],zid,zid⟩:Av) d1);clear a0;have b4:=bl g;have f:=kb y f (by omega);have f:=kb aa f (by omega);have b5:=(bl f);have hb:=kb aa hb (by omega);have b6:=(bl hb);have b7:=(bl g);refine gP (Y6 MH rfl ?_);refine An (PO _ r v b j1 hb hr hap hle_j1 hl) ?_ ?_;rotate_left
  ·rintro ch b8 ⟨hPx,rfl,hgx⟩;refine Ao ?_;exact .inr ⟨_,rfl,by unfold FB;simp only[hP0,hP1,hPx,AcP,Adt],rfl,Aa hgr hgx (fun _ e=> .inl e)⟩
  rintro v_ bf ⟨d2,j2,hP2,rfl,a1,ab⟩;have hr:=ZH hr ab hap;have hgr:w.grownBy bf (some r):=Aa hgr ab (fun _ e=> .inl e);clear hb;have hb:=a1;clear a1;have hle_j2:=Hg hP2;have g:=kb ab g (by omega);refine gS (AbD Jx rfl (gS (Zv (a:=G3 (⟨(b.getD (i) 0),d1,zid,zid⟩:Av)) (m:=Acv zid.1) (z:=Ko (⟨(b.getD (i) 0),d1,zid,zid⟩:Av)) (cells:=Acv d2.1) rfl rfl (Et (⟨(b.getD (i) 0),d1,zid,zid⟩:Av)▸g) (EY (⟨(b.getD (i) 0),d1,zid,zid⟩:Av)) (by rw[AcH,AcH,zid.2,d2.2]) (by rw[AcH,d2.2];exact RR) (Ax _) fun a2 a3 ac b9=> ?_)));have hr:=ZH hr ac ai;have hgr:w.grownBy a2 (some r):=Aa hgr ac (fun _ e=> .inr (by cases e;omega));clear g;have g:a2.heap[h]? =some (.cells (updC (⟨(b.getD (i) 0),d1,d2,zid⟩:Av)).toArray 77 (0,0)):=AA a3 (Xf (⟨(b.getD (i) 0),d1,zid,zid⟩:Av) d2);clear a3;have ca:=bl g;have f:=kb ab f (by omega);have f:=kb ac f (by omega);have cb:=(bl f);have hb:=kb ac hb (by omega);have cc:=(bl hb);have cd:=(bl g);refine gP (Y6 MH rfl ?_);refine An (PO _ r v b j2 hb hr hap hle_j2 hl) ?_ ?_;rotate_left
  ·rintro ch ce ⟨hPx,rfl,hgx⟩;refine Ao ?_;exact .inr ⟨_,rfl,by unfold FB;simp only[hP0,hP1,hP2,hPx,AcP,Adt],rfl,Aa hgr hgx (fun _ e=> .inl e)⟩
  rintro v_ bg ⟨d3,j3,hP3,rfl,a4,ad⟩;have hr:=ZH hr ad hap;have hgr:w.grownBy bg (some r):=Aa hgr ad (fun _ e=> .inl e);clear hb;have hb:=a4;clear a4;have hle_j3:=Hg hP3;have g:=kb ad g (by omega);refine gS (AbD Jy rfl (gS (Zv (a:=G4 (⟨(b.getD (i) 0),d1,d2,zid⟩:Av)) (m:=Acv zid.1) (z:=Kp (⟨(b.getD (i) 0),d1,d2,zid⟩:Av)) (cells:=Acv d3.1) rfl rfl (C1 (⟨(b.getD (i) 0),d1,d2,zid⟩:Av)▸g) (C8 (⟨(b.getD (i) 0),d1,d2,zid⟩:Av)) (by rw[AcH,AcH,zid.2,d3.2]) (by rw[AcH,d3.2];exact RR) (Ax _) fun a5 a6 ae cf=> ?_)));have hr:=ZH hr ae ai;have hgr:w.grownBy a5 (some r):=Aa hgr ae (fun _ e=> .inr (by cases e;omega));clear g;have g:a5.heap[h]? =some (.cells (updC (⟨(b.getD (i) 0),d1,d2,d3⟩:Av)).toArray 77 (0,0)):=AA a6 (Xg (⟨(b.getD (i) 0),d1,d2,zid⟩:Av) d3);clear a6;have cg:=bl g;have f:=kb ad f (by omega);have f:=kb ae f (by omega);refine gS (Zg Ke rfl g (gS (Za Ke (vr (PQ p 0) rfl) (vr (.agg (updC (⟨(b.getD (i) 0),d1,d2,d3⟩:Av)).toArray) rfl) f (G2) fun a7 a8 ak ci=> ?_)));have hr:=ZH hr ak ba;have hgr:w.grownBy a7 (some r):=Aa hgr ak (fun _ e=> .inr (by cases e;omega));clear f;have f:a7.heap[p]? =some (.cells (updC (⟨(b.getD (i) 0),d1,d2,d3⟩:Av)).toArray 77 (0,0)):=a8;clear a8;have cj:=bl f;refine Ie rfl (AbR rfl f (Sr).choose_spec rfl (AN (CF _) Qu)) ?_;have hP:FB b i=some (⟨b.getD i 0,d1,d2,d3⟩,j3):=by unfold FB;simp only[hP0,hP1,hP2,hP3,AcP]
  have hb:=kb ae hb (by omega);have hb:=kb ak hb (by omega);exact .inl ⟨_,rfl,_,_,hP,rfl,hb,hgr⟩
 have hP:FB b i=none:=by unfold FB;rw[show DD b i=none from if_neg hlt];rfl
 refine gM0 [0,1,2,3,4,5,6,7,8,9,10] [10] [] fun bh a9=> ?_;have hgr:w.grownBy bh (some r):=Aa hgr a9.grown (fun _ e=>by cases e);have bc:=AO (bl hb) an;have hZ2:=af.trans a9;have hb:=eb hZ2 hb;have hE:=hE.trans hZ2;refine ys (AbF rfl zz) (ys (AbD Bh rfl zz) (ys (YW NB rfl rfl (Ac hb (BS (AT v b (i)))) zz) (ys (AbF rfl zz) (ys (AbD Cs rfl zz) (ys (YW G1 rfl rfl (Ac hb (Cc (AT v b (i)))) zz) (ys (Zk G1 (Zn (hr.keep hE) rfl) zz) (ys (YX (a:=(i:Nat)) (b:=(b.length:Nat)) rfl rfl (Bf _ _ _ _) zz) (kF ((by omega)) (Pu (Y6 Dy rfl ?_))))))))));refine An (BM _ (false)) ?_ ?_;rotate_left
 ·rintro ch ck ⟨rfl,hb,hx⟩;refine Ao ?_;exact .inr ⟨_,rfl,hP,rfl,(Aa hgr hx.grown (fun _ e=>by cases e))⟩
 rintro v_ cl ⟨rfl,bi,cm⟩;cases bi
end Go.Proofs.YtbbbblinjomajaaGreatDoor
