/- Part 4 of what stands behind these statements: laws and walks of the functions that are reached. Conditions: those that each theorem names. -/
import Derived.Test.YtfpekahfdalfkaaGreatDoorB3
set_option linter.unusedVariables false
set_option linter.unusedSimpArgs false
namespace Go.Proofs.YtfpekahfdalfkaaGreatDoor
open _root_.Go renaming Value → AcJ, World → AcK, TypeId → AcR, Program → Adg, Edge → AdL, Operand → AcW, Code → Ae5, Exit → Afj, Oper → Adb, Func → AfB, Ending → Afa, FuncId → AeB, binOp → Adq
open _root_.List renaming replicate → AcX, mem_append → Adf, mem_singleton → AcY, getElem?_cons_succ → Aem, getElem?_append_right → AdB, getElem?_append_left → AdF, getElem?_eq_some_iff → Adc, mem_cons → Adz, not_mem_nil → Aeu, length_take → Ac8, set_append_right → Aeg, size_toArray → Ac6, length_drop → Ac5, length_replicate → Ac7, length_cons → Adh, length_nil → Adp, map_append → Aei, length_append → AcQ, getD_eq_getElem?_getD → AcO, getElem?_eq_getElem → AcS, getElem_mem → Ad9, drop_zero → Afg, getElem?_map → Aej, length_map → Ada, range → AdN, all_eq_true → Adv, mem_map → Adx, getElem_of_mem → Aeh, getElem?_toArray → AdG, getElem?_eq_none → AdY, getElem?_cons_zero → Afe, mem_of_getElem? → AdX, mem_flatMap → AhP
open _root_.Go.Lib renaming byteCells → AcL, byteCells_length → AcZ, compareBytes → Adj
open _root_.Go.Proofs.Tryz renaming prog → AcM
open _root_.Nat renaming lt_of_lt_of_le → AdE, mul_one → Ah9, le_refl → AcP, lt_succ_self → AgV, zero_le → Adm, le_trans → AcN, add_assoc → Ae2, add_comm → AgB, zero_add → Ad4, strongRecOn → Ae0, not_lt_zero → Aet, blt → AeC, le_of_ble_eq_true → Ac2, beq → Ae9, beq_refl → AgE, ble → AgI
open _root_.ByteArray renaming size → Aij
open _root_.Go.Sem renaming run_bind → Ac1, run_pure → Ac3
open _root_.Go.Result renaming andThen_ok → AcV, andThen → AdH
open _root_.Go.Addr renaming add → AeO
open _root_.Go.Instr renaming build → AeH, buildSlice → Adt
open _root_.Go.Value renaming int → AeJ, bool → Adl, slice → AcU, ownBlock → AcT
open _root_.Prod renaming fst → Adk
open _root_.And renaming intro → Adr
open _root_.Int renaming toNat_natCast → Ac0
open _root_.UInt8 renaming toNat_inj → Agr
open _root_.Go.MapKept renaming IsKey → Agm
open _root_.Go.World renaming cell? → Afc, cell?_spot → AfC, drew → AgJ, block_lt_of_cell? → Ad7
open _root_.Go.Oper renaming wp → Afn, upon → AfQ
open _root_.Go.Calls renaming mono → AfS
open _root_.Array renaming replicate → Aeq, getD_eq_getD_getElem? → Ady, getElem?_append → AgZ, getElem?_replicate → Aea
open _root_.Go.Region renaming wanted → Ad8
open _root_.Go.Op renaming equal → Agy
open _root_.Go.Deferred renaming ofValue → AfA
open _root_.Bool renaming not_eq_true → AgU
open _root_.Option renaming bind_some → Ae4
open _root_.Go.RowKit.Below renaming refl → AdC
open _root_.Option.some renaming inj → Adu
open Go.RowKit
def B3(b:Bs)(a fin:Nat):Option (Bs × Nat):=
  match A6 0 ((b.take fin).drop a)with
  | none=>none
  | some x=>if 1048576<x.1 then none else if(b.take fin).length<a+x.2+x.1 then none else some (((b.take fin).drop (a+x.2)).take x.1,a+x.2+x.1)
structure Ent where
  pos:Nat
  based:Bool
  base:Bs
  bytes:Bs
abbrev Aj:=Ent × AcJ
def dEnt:Aj:=(⟨0,false,AcX 32 0,[]⟩, .slice none 0 0)
def entC(x:Aj):List AcJ:=NI x.1.pos :: .bool x.1.based :: (AcL x.1.base++ [x.2])
def EntsOk(w:AcK)(xs:List Aj):Prop:=∀x∈xs,RB w x.2 x.1.bytes∧x.1.base.length=32
theorem EntsOk.keep{w w' :AcK}{xs:List Aj}(h:EntsOk w xs)(k:Ext w w'):EntsOk w' xs:=fun x hx=>⟨(h x hx).1.keep k,(h x hx).2⟩
def NewV(n:Nat)(v:AcJ):Prop:=∀k,v.ownBlock=some k→n≤k
theorem NewV.nil(n:Nat):NewV n (.slice none 0 0):=fun k h=>by cases h
def NewM{α:Type}(n:Nat)(M:Bs→Option (α × AcJ)):Prop:=∀id x,M id=some x→NewV n x.2
theorem NewM.none{α:Type}(n:Nat):NewM (α:=α) n (fun _=> .none):=fun _ _ h=>by cases h
theorem NewM.put{α:Type}{n:Nat}{M:Bs→Option (α × AcJ)}(h:NewM n M)(id:Bs){x:α × AcJ}(hx:NewV n x.2):NewM n (updM M id (some x)):=fun a c hc=>by
  unfold updM at hc;split at hc
  · cases hc;exact hx
  · exact h a c hc
theorem NewM.get{n:Nat}{M:Bs→Option Aj}(h:NewM n M)(k:Bs):NewV n ((M k).getD dEnt).2:=by
  cases e:M k with
  | none=>exact NewV.nil n
  | some c=>exact h k c e
theorem NN{α:Type}{l:List α}{y:α}{P:α→Prop}(h:∀x∈l,P x)(hy:P y):∀x∈l++ [y],P x:=fun x hx=>by
  rcases Adf.1 hx with hx | hx
  · exact h x hx
  · rw[AcY.1 hx];exact hy
theorem entC_len{x:Aj}(h:x.1.base.length=32):(entC x).length=35:=by simp[entC,AcL,h]
theorem NO{x:Aj}(h:x.1.base.length=32):(entC x)[34]? =some x.2:=by
  unfold entC;rw[Aem,Aem,AdB (by rw[AcZ,h];omega),AcZ,h];rfl
theorem Ev{w:AcK}{g:Nat}{x:Aj}{t:AcR}{fr:Nat × Nat}(hb:w.heap[g]? =some (.cells (entC x).toArray t fr)):w.rangeAt g 2 (AcL x.1.base):=fun j u hu=>by
  refine cellAt hb ?_;unfold entC;rw[show 2+j=j+1+1 by omega,Aem,Aem,AdF (Adc.1 hu).1];exact hu
theorem Bz{x:Aj}(h:x.2.oneCell' =true):∀u∈entC x,u.oneCell' =true:=by
  intro u hu;simp only[entC,Adz,Adf,Aeu,or_false]at hu;rcases hu with rfl | rfl | hu | rfl
  · rfl
  · rfl
  · exact Af _ u hu
  · exact h
def entOne(b:Bs)(fin pos:Nat):Option (Ent × Nat):=
  if pos<fin∧(b.getD pos 0).toNat≤1 then
    if b.getD pos 0=1 then
      if fin-(pos+1)<32 then none
      else(B3 b (pos+33) fin).map fun x=>(⟨pos,true,((b.take fin).drop (pos+1)).take 32,x.1⟩,x.2)
    else(B3 b (pos+1) fin).map fun x=>(⟨pos,false,AcX 32 0,x.1⟩,x.2)
  else none
def Dg(b:Bs)(fin first:Nat):Nat→Option (List Ent × Nat)
  | 0=>some ([],first)
  | i+1=>(Dg b fin first i).bind fun x=>(entOne b fin x.2).map fun y=>(x.1++ [y.1],y.2)
theorem DO{b:Bs}{fin first i:Nat}(h:Dg b fin first i=none):∀k,Dg b fin first (i+k)=none
  | 0=>h
  | k+1=>by
    show(Dg b fin first (i+k)).bind _=none;rw[DO h k];rfl
theorem HN{b:Bs}{fin first i:Nat}{es:List Ent}{p:Nat}(h:Dg b fin first i=some (es,p)):Dg b fin first (i+1)=(entOne b fin p).map fun y=>(es++ [y.1],y.2):=by
  show(Dg b fin first i).bind _=_;rw[h];rfl
def CA(b:Bs)(n first fin:Nat):Option (List Ent):=(Dg b fin first n).bind fun x=>if x.2=fin then some x.1 else none
theorem NP{b:Bs}{a fin:Nat}{s:Bs}{n:Nat}(h:B3 b a fin=some (s,n))(ha:a≤fin)(hf:fin≤b.length):n≤fin∧a≤n:=by
  unfold B3 at h;split at h
  · cases h
  · split at h
    · cases h
    · split at h
      · cases h
      · rename_i h1
        cases h;rw[Ac8]at h1;omega
set_option maxRecDepth 100000
set_option maxHeartbeats 1600000
theorem F1:Plain AcM 210:=fun _ _=>by kernel_rfl
theorem F2:Plain AcM 129:=fun _ _=>by kernel_rfl
theorem NQ(w:AcK)(v:AcJ)(b:Bs)(hr:RB w v b)(a fin:Nat)(ha:a≤fin)(hf:fin≤b.length):
  Calls AcM 172 #[v,NI a,NI fin] w fun r w' =>(∃x,r = .returned x∧∃s n,B3 b a fin=some (s,n)∧x = .tuple #[St s,NI n]∧Ext w w')∨∃ch,r = .panicked ch∧B3 b a fin=none∧ch= [CV 6]∧Ext w w' :=by
 refine gG (args:= [v,NI a,NI fin]) Tryz.func172 rfl 25 rfl rfl ?_;have hE:=Ext.refl w;have htk:(b.take fin).length=fin:=by rw[Ac8];omega
 rcases hd:A6 0 ((b.take fin).drop a)with _ | ⟨xn,xk⟩
 ·have hP:B3 b a fin=none:=by unfold B3;rw[hd]
  refine gS (Aag (xs:=b) (n:=fin) Gj Qq rfl (hr.keep hE) rfl (by omega) fun c f ha5=>(gS (ZV F1 rfl rfl rfl ?_)));refine((show Calls _ _ _ _ (fun e w2=>e = .returned (.tuple #[St (([]:List UInt8)),NI 0,NI 6])∧Ext _ w2)from(FZ _ c (b.take (fin)) f a (by omega) 1048576).mono fun e w2 ⟨h1,h2⟩=>by subst h2;subst h1;refine⟨?_,Ext.refl _⟩;unfold B9;rw[hd];simp only;rfl)).mono ?_;rintro e w7 ⟨rfl,g⟩;refine⟨_,rfl,?_⟩;refine gS (Yk.extract (vs:= [St (([]:List UInt8)),NI 0,NI 6]) rfl rfl (gS (Yk.extract (vs:= [St (([]:List UInt8)),NI 0,NI 6]) rfl rfl (gS (Yk.extract (vs:= [St (([]:List UInt8)),NI 0,NI 6]) rfl rfl (gS (Zv (a:=(6:Nat)) (b:=(0:Nat)) rfl rfl (AF _ _ _ _) (gP (ZN F2 rfl rfl ?_)))))))));refine Ar (AW _ (decide ((6:Nat)=(0))) 6) ?_ ?_;rotate_left
  ·rintro ch ac ⟨rfl,hb,hx⟩;refine Au ?_;have hno:=of_decide_eq_false hb;have hE:=hE.trans g;exact .inr ⟨_,rfl,hP,rfl,hE.trans hx⟩
  rintro v_ ad ⟨rfl,h,ae⟩;have af:=of_decide_eq_true h;refine BF rfl (vr (St (([]:List UInt8))) rfl) (vr (NI 0) rfl) ?_;omega
 by_cases hm:1048576<xn
 ·have hP:B3 b a fin=none:=by unfold B3;rw[hd];simp only;rw[if_pos hm]
  refine gS (Aag (xs:=b) (n:=fin) Gj Qq rfl (hr.keep hE) rfl (by omega) fun i j ha19=>(gS (ZV F1 rfl rfl rfl ?_)));refine((show Calls _ _ _ _ (fun e w2=>e = .returned (.tuple #[St (([]:List UInt8)),NI 0,NI 2])∧Ext _ w2)from(FZ _ i (b.take (fin)) j a (by omega) 1048576).mono fun e w2 ⟨h1,h2⟩=>by subst h2;subst h1;refine⟨?_,Ext.refl _⟩;unfold B9;rw[hd];simp only;rw[if_pos (by omega)];rfl)).mono ?_;rintro e ag ⟨rfl,k⟩;refine⟨_,rfl,?_⟩;refine gS (Yk.extract (vs:= [St (([]:List UInt8)),NI 0,NI 2]) rfl rfl (gS (Yk.extract (vs:= [St (([]:List UInt8)),NI 0,NI 2]) rfl rfl (gS (Yk.extract (vs:= [St (([]:List UInt8)),NI 0,NI 2]) rfl rfl (gS (Zv (a:=(2:Nat)) (b:=(0:Nat)) rfl rfl (AF _ _ _ _) (gP (ZN F2 rfl rfl ?_)))))))));refine Ar (AW _ (decide ((2:Nat)=(0))) 6) ?_ ?_;rotate_left
  ·rintro ch ah ⟨rfl,hb,hx⟩;refine Au ?_;have hno:=of_decide_eq_false hb;have hE:=hE.trans k;exact .inr ⟨_,rfl,hP,rfl,hE.trans hx⟩
  rintro v_ ai ⟨rfl,l,aj⟩;have ak:=of_decide_eq_true l;refine BF rfl (vr (St (([]:List UInt8))) rfl) (vr (NI 0) rfl) ?_;omega
 by_cases hl:(b.take fin).length<a+xk+xn
 ·have hP:B3 b a fin=none:=by unfold B3;rw[hd];simp only;rw[if_neg hm,if_pos hl]
  refine gS (Aag (xs:=b) (n:=fin) Gj Qq rfl (hr.keep hE) rfl (by omega) fun m o ha33=>(gS (ZV F1 rfl rfl rfl ?_)));refine((show Calls _ _ _ _ (fun e w2=>e = .returned (.tuple #[St (([]:List UInt8)),NI 0,NI 6])∧Ext _ w2)from(FZ _ m (b.take (fin)) o a (by omega) 1048576).mono fun e w2 ⟨h1,h2⟩=>by subst h2;subst h1;refine⟨?_,Ext.refl _⟩;unfold B9;rw[hd];simp only;rw[if_neg (by omega),if_pos hl];rfl)).mono ?_;rintro e al ⟨rfl,p⟩;refine⟨_,rfl,?_⟩;refine gS (Yk.extract (vs:= [St (([]:List UInt8)),NI 0,NI 6]) rfl rfl (gS (Yk.extract (vs:= [St (([]:List UInt8)),NI 0,NI 6]) rfl rfl (gS (Yk.extract (vs:= [St (([]:List UInt8)),NI 0,NI 6]) rfl rfl (gS (Zv (a:=(6:Nat)) (b:=(0:Nat)) rfl rfl (AF _ _ _ _) (gP (ZN F2 rfl rfl ?_)))))))));refine Ar (AW _ (decide ((6:Nat)=(0))) 6) ?_ ?_;rotate_left
  ·rintro ch am ⟨rfl,hb,hx⟩;refine Au ?_;have hno:=of_decide_eq_false hb;have hE:=hE.trans p;exact .inr ⟨_,rfl,hP,rfl,hE.trans hx⟩
  rintro v_ an ⟨rfl,q,ao⟩;have ap:=of_decide_eq_true q;refine BF rfl (vr (St (([]:List UInt8))) rfl) (vr (NI 0) rfl) ?_;omega
 have hP:B3 b a fin=some (((b.take fin).drop (a+xk)).take xn,a+xk+xn):=by unfold B3;rw[hd];simp only;rw[if_neg hm,if_neg hl]
 refine gS (Aag (xs:=b) (n:=fin) Gj Qq rfl (hr.keep hE) rfl (by omega) fun t u ha47=>(gS (ZV F1 rfl rfl rfl ?_)));refine((show Calls _ _ _ _ (fun e w2=>e = .returned (.tuple #[St (((b.take fin).drop (a+xk)).take xn),NI (a+xk+xn),NI 0])∧Ext _ w2)from(FZ _ t (b.take (fin)) u a (by omega) 1048576).mono fun e w2 ⟨h1,h2⟩=>by subst h2;subst h1;refine⟨?_,Ext.refl _⟩;unfold B9;rw[hd];simp only;rw[if_neg (by omega),if_neg hl];rfl)).mono ?_;rintro e aq ⟨rfl,y⟩;refine⟨_,rfl,?_⟩;refine gS (Yk.extract (vs:= [St (((b.take fin).drop (a+xk)).take xn),NI (a+xk+xn),NI 0]) rfl rfl (gS (Yk.extract (vs:= [St (((b.take fin).drop (a+xk)).take xn),NI (a+xk+xn),NI 0]) rfl rfl (gS (Yk.extract (vs:= [St (((b.take fin).drop (a+xk)).take xn),NI (a+xk+xn),NI 0]) rfl rfl (gS (Zv (a:=(0:Nat)) (b:=(0:Nat)) rfl rfl (AF _ _ _ _) (gP (ZN F2 rfl rfl ?_)))))))));refine Ar (AW _ (decide ((0:Nat)=(0))) 6) ?_ ?_;rotate_left
 ·rintro ch ar ⟨rfl,hb,hx⟩;refine Au ?_;have hno:=of_decide_eq_false hb;exact absurd rfl hno
 rintro v_ au ⟨rfl,z,aa⟩;have av:=of_decide_eq_true z;refine BF rfl (vr (St (((b.take fin).drop (a+xk)).take xn)) rfl) (vr (NI (a+xk+xn)) rfl) ?_;have hZ1:=y.trans aa;have hE:=hE.trans hZ1;exact .inl ⟨_,rfl,_,_,hP,rfl,hE⟩
def EntsIn(w:AcK)(va:AcJ)(xs:List Aj):Prop:=∀x∈xs,RB w x.2 x.1.bytes∧x.1.base.length=32∧∀k,x.2.ownBlock=some k→k<w.heap.size∧va.ownBlock≠some k
theorem EntsIn.keep{w w' :AcK}{va:AcJ}{xs:List Aj}(h:EntsIn w va xs)(k:Ext w w'):EntsIn w' va xs:=fun x hx=>
  ⟨(h x hx).1.keep k,(h x hx).2.1,fun j hj=>⟨AdE ((h x hx).2.2 j hj).1 k.size,((h x hx).2.2 j hj).2⟩⟩
theorem EntsIn.nil(w:AcK)(va:AcJ):EntsIn w va []:=fun x hx=>by cases hx
theorem AaX{w:AcK}{va:AcJ}{xs:List Aj}(h:EntsIn w va xs){x:Aj}(h1:RB w x.2 x.1.bytes)(h2:x.1.base.length=32)(h3:∀k,x.2.ownBlock=some k→k<w.heap.size∧va.ownBlock≠some k):EntsIn w va (xs++ [x]):=fun y hy=>by
  rcases Adf.1 hy with hy | hy
  · exact h y hy
  · rw[AcY.1 hy];exact⟨h1,h2,h3⟩
theorem HP{w w' :AcK}{v v' x:AcJ}{m:List UInt8}(h:RB w x m)(hx:∀k,x.ownBlock=some k→v.ownBlock≠some k)(gr:Grew w w' v v'):RB w' x m:=by
  refine h.kept gr.by_ ?_;cases hv:x.ownBlock with
  | none=>exact .inl rfl
  | some g=>exact .inr (fun e=>hx g hv (by rw[←e]))
theorem EntsIn.grew{w w' :AcK}{va va' :AcJ}{xs:List Aj}(h:EntsIn w va xs)(g:Grew w w' va va'):EntsIn w' va' xs:=fun x hx=>
  ⟨HP (h x hx).1 (fun k hk=>((h x hx).2.2 k hk).2) g,(h x hx).2.1,fun j hj=>⟨AdE ((h x hx).2.2 j hj).1 g.by_.size,fun e=>(g.fresh j e).elim (fun q=>((h x hx).2.2 j hj).2 q) (fun q=>by have:=((h x hx).2.2 j hj).1;omega)⟩⟩
theorem EntsIn.ok{w:AcK}{va:AcJ}{xs:List Aj}(h:EntsIn w va xs):EntsOk w xs:=fun x hx=>⟨(h x hx).1,(h x hx).2.1⟩
section
variable {P : Adg} {K : AcJ → AcK → Prop} {ρ : Ad} {w : AcK} {d : Option Tmp} {ty : AcR} {pos : String} {af : Array AdL} {gd : Option (Nat × Bool)}
theorem Aa5{t e s:AcR}{u:TypeDesc}(hs:P.underlying s=some u)(ht:P.underlying t=some (.slice e))(he:P.underlying e=some (.int .u8)){x:AcW}{l:List UInt8}(hx:Aa ρ x=St l)(hl:l.length≤9223372036854775807) 
    (hk:∀v w',RB w' v l→Ext w w' →(∀k,v.ownBlock=some k→w.heap.size≤k∧k<w'.heap.size)→K v w'):Yk P K ((execOp (Aa ρ) ⟨d, .convert s t x,ty,pos,af,gd⟩).run P w):=by
  have hr:=Lib.run_convert_string_bytes (P:=P) w s t e ⟨l.toArray⟩ hs ht he;have hsz:(⟨l.toArray⟩:ByteArray).size=l.length:=by simp[Aij]
  rw[hsz]at hr;refine Yk.value (v:= .slice (some ⟨w.heap.size,0,none⟩) l.length (grownCap w l.length 0 e)) (w' :=Lib.bytesWorld w e ⟨l.toArray⟩) ?_ (hk _ _ ?_ (Lib.bytesWorld_below w e _) ?_)
  · unfold execOp;simp only[hx,hr,Ac1,Ac3,AcV]
  · refine⟨by rw[AcZ,Ah9],_,_,rfl,grownCap_ge w _ _ _,grownCap_le_maxLen w _ _ _ (by simpa [maxLen] using hl),(fun h=>by cases h),fun a ha j u hu=> ?_⟩;cases ha;have hj:j<l.length:=by have:=(Adc.1 hu).1;rwa [AcZ]at this
    have hc:=Lib.bytesWorld_cell w e ⟨l.toArray⟩ j (by rw[hsz];exact hj);rw[show(⟨w.heap.size,0,none⟩:Addr).add j=⟨w.heap.size,j,none⟩ by simp[AeO];exact fun h=>h.symm];rw[hc,←hu,Jk hj]
  · intro k hk;cases hk;rw[Lib.bytesWorld_size];exact⟨AcP _,AgV _⟩
theorem J9(p:Nat)(q:Bool)(B s:Bs)(v:AcJ):entC (⟨p,q,B,s⟩,v)= [NI p, .bool q]++AcL B++ [v]:=rfl
theorem AbN{t' :AcR}{x y:AcW}{g p:Nat}{q:Bool}{B B' s:Bs}{v:AcJ}{t:AcR}(hx:Aa ρ x = .pointer (some ⟨g,2,none⟩))(hy:Aa ρ y = .agg (AcL B').toArray)(hg:w.heap[g]? =some (.cells (entC (⟨p,q,B,s⟩,v)).toArray t (0,0)))(hB:B.length=32)(hB' :B'.length=32)(hi:(P.info? t').map (·.size)=some 32) 
    (hk:∀w',w'.heap[g]? =some (.cells (entC (⟨p,q,B',s⟩,v)).toArray t (0,0))→w.grownBy w' (some g)→w'.heap.size=w.heap.size→K undef w'):Yk P K ((execOp (Aa ρ) ⟨d, .store t' x y,ty,pos,af,gd⟩).run P w):=
  Abx (a:= [NI p, .bool q]) (m:=AcL B) (z:= [v]) hx hy (by rw[←J9];exact hg) rfl (by rw[AcZ,AcZ,hB,hB']) (by rw[AcZ,hB'];exact hi) (Af _) hk
theorem SO(p:Nat)(q:Bool)(B s:Bs)(v v' :AcJ)(hB:B.length=32):(entC (⟨p,q,B,s⟩,v)).set 34 v' =entC (⟨p,q,B,s⟩,v'):=by
  rw[J9,J9,Aeg _ _ (by simp[AcL,hB])]
  congr 1
  simp[AcL,hB]
theorem Abf{t' :AcR}{x y:AcW}{g p:Nat}{q:Bool}{B s s' :Bs}{v v' :AcJ}{t:AcR}(hx:Aa ρ x = .pointer (some ⟨g,34,none⟩))(hy:Aa ρ y=v')(hg:w.heap[g]? =some (.cells (entC (⟨p,q,B,s⟩,v)).toArray t (0,0)))(hB:B.length=32)(hi:(P.info? t').map (·.size)=some 1)(hr:RB w v' s') 
    (hk:∀w',w'.heap[g]? =some (.cells (entC (⟨p,q,B,s'⟩,v')).toArray t (0,0))→w.grownBy w' (some g)→w'.heap.size=w.heap.size→K undef w'):Yk P K ((execOp (Aa ρ) ⟨d, .store t' x y,ty,pos,af,gd⟩).run P w):=
  ZK (i:=34) hx hy hg (by rw[entC_len (x:=(⟨p,q,B,s⟩,v)) hB];decide) hi hr.one.1 hr.one.2 fun w' h1 h2 h3=>hk w' (by rw[SO p q B s v v' hB]at h1;exact h1) h2 h3
end
theorem Bk{P:Adg}{t:AcR}{x:Aj}(hi:(P.info? t).map (·.size)=some 35)(h:x.1.base.length=32):(P.info? t).map (·.size)=some (entC x).toArray.size:=by rw[Ac6,entC_len h];exact hi
theorem Bx{x y:Aj}(h:x.1.base.length=32)(h' :y.1.base.length=32):(entC x).toArray.size=(entC y).toArray.size:=by rw[Ac6,Ac6,entC_len h,entC_len h']
theorem SP{b:Bs}{fin pos:Nat}(h:pos<fin∧(b.getD pos 0).toNat≤1):entOne b fin pos =
    if b.getD pos 0=1 then
      if fin-(pos+1)<32 then none
      else(B3 b (pos+33) fin).map fun x=>(⟨pos,true,((b.take fin).drop (pos+1)).take 32,x.1⟩,x.2)
    else(B3 b (pos+1) fin).map fun x=>(⟨pos,false,AcX 32 0,x.1⟩,x.2):=if_pos h
theorem GL{b:Bs}{a fin:Nat}{s:Bs}{n:Nat}(h:B3 b a fin=some (s,n))(hf:fin≤b.length):s.length≤b.length:=by
  unfold B3 at h;split at h
  · cases h
  · split at h
    · cases h
    · split at h
      · cases h
      · cases h;rw[Ac8,Ac5,Ac8];omega
theorem KW{b:Bs}{fin pos:Nat}{e:Ent}{n:Nat}(h:entOne b fin pos=some (e,n))(hf:fin≤b.length):n≤fin∧pos<n:=by
  unfold entOne at h;split at h
  · rename_i hc
    split at h
    · split at h
      · cases h
      · cases ht:B3 b (pos+33) fin with
        | none=>rw[ht]at h;cases h
        | some x=>rw[ht]at h;cases h;have:=NP ht (by omega) hf;omega
    · cases ht:B3 b (pos+1) fin with
      | none=>rw[ht]at h;cases h
      | some x=>rw[ht]at h;cases h;have:=NP ht (by omega) hf;omega
  · cases h
theorem HQ(z0:Int)(z1:Bool)(w:AcK):(AeH 208 #[(0, .int .i64 z0),(1, .bool z1)]).run AcM w = .ok (.agg (AeJ .i64 z0 :: Adl z1 :: (AcL (AcX 32 0)++ [AcU none 0 0])).toArray) w:=by kernel_rfl
theorem HT{d:Option Tmp}{ty:AcR}{pos:String}{af:Array AdL}{gd:Option (Nat × Bool)}(σ:AcW→AcJ)(w:AcK):(execOp σ ⟨d, .alloc 208,ty,pos,af,gd⟩).run AcM w = .ok (.value (PQ w.heap.size 0)) (w.alloc (.cells (entC dEnt).toArray 208)):=by kernel_rfl
theorem EI:(Tryz.prog.info? 208).map (·.size)=some 35:=by kernel_rfl
theorem Gn:AV AcM 208 1 1:=fun b o w=>by simp[go_sem]
theorem Ka:Tryz.prog.underlying 4=some (.bool):=by kernel_rfl
theorem KX:Plain AcM 171:=fun _ _=>by kernel_rfl
theorem NR:AV AcM 208 2 2:=fun b o w=>by simp[go_sem]
theorem KY:Plain AcM 172:=fun _ _=>by kernel_rfl
theorem IP:AV AcM 208 3 34:=fun b o w=>by simp[go_sem]
theorem KZ:∃fs,Tryz.prog.underlying 208=some (.struct fs):=EZ (by kernel_rfl)
theorem QP(c0 c1 c2 c3 c4 c5 c6 c7 c8 c9 c10 c11 c12 c13 c14 c15 c16 c17 c18 c19 c20 c21 c22 c23 c24 c25 c26 c27 c28 c29 c30 c31 c32 c33 c34:AcJ)(w:AcK):(Adt 200 1 #[(0, .agg #[c0,c1,c2,c3,c4,c5,c6,c7,c8,c9,c10,c11,c12,c13,c14,c15,c16,c17,c18,c19,c20,c21,c22,c23,c24,c25,c26,c27,c28,c29,c30,c31,c32,c33,c34])]).run AcM w = .ok (.slice (some ⟨w.heap.size,0,none⟩) 1 1) (w.alloc (.cells #[c0,c1,c2,c3,c4,c5,c6,c7,c8,c9,c10,c11,c12,c13,c14,c15,c16,c17,c18,c19,c20,c21,c22,c23,c24,c25,c26,c27,c28,c29,c30,c31,c32,c33,c34] 208)):=by kernel_rfl
theorem K0:∀(cs:Array AcJ),cs.size=35→∀w:AcK,(Adt 200 1 #[(0, .agg cs)]).run AcM w = .ok (.slice (some ⟨w.heap.size,0,none⟩) 1 1) (w.alloc (.cells cs 208))
 | ⟨c0 :: c1 :: c2 :: c3 :: c4 :: c5 :: c6 :: c7 :: c8 :: c9 :: c10 :: c11 :: c12 :: c13 :: c14 :: c15 :: c16 :: c17 :: c18 :: c19 :: c20 :: c21 :: c22 :: c23 :: c24 :: c25 :: c26 :: c27 :: c28 :: c29 :: c30 :: c31 :: c32 :: c33 :: c34 :: []⟩,_,w=>QP c0 c1 c2 c3 c4 c5 c6 c7 c8 c9 c10 c11 c12 c13 c14 c15 c16 c17 c18 c19 c20 c21 c22 c23 c24 c25 c26 c27 c28 c29 c30 c31 c32 c33 c34 w
theorem pk12_ig208:∃z,(Tryz.prog.info? 208).map (fun i=>(i.zero,i.size,i.bytes))=some (some z,35,72)∧z.cells.size=35:=Fl (by kernel_rfl)
theorem F3:Tryz.prog.underlying 200=some (.slice 208):=by kernel_rfl
theorem O7(w:AcK)(v:AcJ)(b:Bs)(hr:RB w v b)(n first fin:Nat)(hff:first≤fin)(hf:fin≤b.length)(hn:n≤1048576)(hb:b.length≤1048576):
  Calls AcM 130 #[v,NI n,NI first,NI fin] w fun r w' =>(∃x,r = .returned x∧∃es:List Aj,CA b n first fin=some (es.map Adk)∧RG 35 entC w' x es∧EntsOk w' es∧(∀x∈es,NewV w.heap.size x.2)∧Ext w w')∨∃ch,r = .panicked ch∧CA b n first fin=none∧ch= [CV 6]∧Ext w w' :=by
 refine gG (args:= [v,NI n,NI first,NI fin]) Tryz.func130 rfl 77 rfl rfl ?_;have hE:=Ext.refl w;have hen0:OG w.heap.size 208 35 entC w (AcU none 0 0) ([]:List Aj):=OG.nil _ _ _ _ _;refine gL (fun(ρ:Ad) (wz:AcK)=>∃i:Nat,∃es:List Aj,∃p:Nat,∃va:AcJ,ρ 0=(v:AcJ)∧ρ 1=(NI n:AcJ)∧ρ 3=(NI fin:AcJ)∧ρ 8=((AcU none 0 0):AcJ)∧ρ 16=(NI n:AcJ)∧ρ 17=(NI i:AcJ)∧ρ 2=(NI p:AcJ)∧ρ 9=(va:AcJ)∧Ext w wz∧EntsIn wz va es∧OG w.heap.size 208 35 (entC) wz va (es)∧(Dg b fin first i=some (es.map Adk,p))∧(i≤n)∧(p≤fin)∧(es.length=i)∧(∀x∈es,NewV w.heap.size x.2)∧True) (fun ρ _=>n-(intOf (ρ 17)).toNat) ⟨0,[],first,(AcU none 0 0),rfl,rfl,rfl,rfl,rfl,rfl,rfl,rfl,hE,EntsIn.nil _ _,Bc hen0 (rfl),rfl,Adm _,by omega,rfl,(fun x hx=>by cases hx),trivial⟩ ?_;clear hen0;clear hE;rintro be w6 ⟨i,es,p,va,u,T1,z,T8,a5,ao,g,T9,hE,hEn,hr_va,hs,hi,hp,hil,hnw,-⟩;have q17:=ao;refine gS (Zv (a:=(i:Nat)) (b:=(n:Nat)) ao a5 (AI _ _ _ _) ?_);refine cD rfl (fun bh=> ?_) fun bh=> ?_
 ·have hil0:i<n:=bh;have hst:=HN hs;have hlen:(b.take fin).length=fin:=by rw[Ac8];omega
  by_cases hlt:p<fin
  ·by_cases hle:(b.getD p 0).toNat≤1
   ·have hO1:=SP ⟨hlt,hle⟩;by_cases h1:b.getD p 0=1
    ·rw[if_pos h1]at hO1;have h1n:(b.getD p 0).toNat=1:=by rw[h1];rfl
     by_cases hg:fin-(p+1)<32
     ·rw[if_pos hg]at hO1;refine gS (Zv (a:=(p:Nat)) (b:=(fin:Nat)) g z (AI _ _ _ _) (kT (hlt) (gS (ZU (l:=b) (i:=p) Gj Qq (ZB (hr.keep hE) u) g (by omega) fun dr bi=>(gS (ZL u5 rfl (ZQ bi rfl) (gS (Zv (a:=((b.getD (p) 0).toNat:Nat)) (b:=(1:Nat)) rfl rfl (DD _ _ _ _) (kT (hle) (gS (ZE rfl rfl (gP (ZN F2 rfl rfl ?_)))))))))))));refine Ar (AW _ (true) 6) ?_ ?_;rotate_left
      ·rintro ch ds ⟨rfl,hb,hx⟩;refine Au ?_;cases hb
      rintro v_ bj ⟨rfl,dt,bk⟩;have hEn:EntsIn bj va es:=(hEn.keep bk);clear bi;have hE:=hE.trans bk;refine gS (ZU (l:=b) (i:=p) Gj Qq (ZB (hr.keep hE) u) g (by omega) fun du bm=>(gS (ZL u5 rfl (ZQ bm rfl) (gS (Zv (a:=((b.getD (p) 0).toNat:Nat)) (b:=(1:Nat)) rfl rfl (AF _ _ _ _) (kT (h1n) (gS (Aai g (vr (.bool (true)) rfl) (fun w=>HQ (p:Int) true w) (gS (Yk.alloc HT fun bn co dv bo cp dw=> ?_))))))))));have ad:=Ext.refl bj;have dx:=hE.size;have ab:=bo;clear bo;have dy:bn<co.heap.size:=by omega
      refine gS (Zy (vr (PQ bn 0) rfl) (vr (.agg (entC ((⟨p,true,AcX 32 0,[]⟩, .slice none 0 0))).toArray) rfl) ab (Bx (x:=((⟨p,true,AcX 32 0,[]⟩, .slice none 0 0):Aj)) (y:=dEnt) (by simp) (by simp[dEnt])) (Bk (x:=((⟨p,true,AcX 32 0,[]⟩, .slice none 0 0):Aj)) EI (by simp)) (Bz (x:=((⟨p,true,AcX 32 0,[]⟩, .slice none 0 0):Aj)) rfl) fun dz bp cq d0=> ?_);clear ab;have ab:=bp;clear bp;have d1:=bl ab;clear bm;have ad:=ad.trans cp;have ad:=Ab ad cq (AcN (AcP _) (by omega));have hE:=hE.trans ad;refine gS (Zw (xv:=NI p) (yv:=NI 1) g rfl rfl (Ag _ _ _ (by omega)) (gS (Yk.fieldAt Gn rfl (gS (Zu Ka rfl rfl (cellAt ab (show(entC ((⟨p,true,AcX 32 0,[]⟩, .slice none 0 0)))[1]? =some (.bool (true):AcJ)from rfl)) (cT rfl (gS (Aag (xs:=b) (n:=fin) Gj Qq u (hr.keep hE) z (by omega) fun cr cs ha44=>(gS (Zx KX rfl rfl ?_))))))))));refine((show Calls _ _ _ _ (fun e w2=>e = .returned (.tuple #[AB zero32,NI 0,NI 6])∧Ext _ w2)from(JZ _ cr (b.take fin) cs (p+1) (by omega)).mono fun e w2 ⟨h1,h2⟩=>by subst h1;refine⟨?_,h2⟩;unfold Ea;rw[hlen];rw[if_pos (by omega)];rfl)).mono ?_;rintro e d2 ⟨rfl,a6⟩;refine⟨_,rfl,?_⟩;refine gS (Yk.extract (vs:= [AB zero32,NI 0,NI 6]) rfl rfl (gS (Yk.extract (vs:= [AB zero32,NI 0,NI 6]) rfl rfl (gS (Yk.extract (vs:= [AB zero32,NI 0,NI 6]) rfl rfl (gS (Yk.alloc Ur fun bq ct cu br cv d3=> ?_)))))));have hE:=hE.trans a6;have ad:=ad.trans a6;have cw:=hE.size;have ab:=eb a6 ab;have d4:=As (bl ab) cu;have ap:=br;clear br;have d5:bq<ct.heap.size:=by omega
      refine gS (Zy (vr (PQ bq 0) rfl) (vr (AB zero32) rfl) ap (by exact Bn (by decide) Ac7) (by exact Ac (by decide)) (Af _) fun d6 bs cx d7=> ?_);clear ap;have ap:=bs;clear bs;have d8:=bl ap;refine gS (Zv (a:=(6:Nat)) (b:=(0:Nat)) rfl rfl (AF _ _ _ _) (kF (by decide) (gP (ZN F2 rfl rfl ?_))));refine Ar (AW _ (false) 6) ?_ ?_;rotate_left
      ·rintro ch d9 ⟨rfl,hb,hx⟩;refine Au ?_;have o:=DO (show Dg b fin first (i+1)=none by rw[hst,hO1];rfl) (n-(i+1));rw[show i+1+(n-(i+1))=n by omega]at o;have hE:=hE.trans cv;have hE:=Ab hE cx (AcN cw (by omega));exact .inr ⟨_,rfl,by unfold CA;rw[o];rfl,rfl,hE.trans hx⟩
      rintro v_ ea ⟨rfl,cy,ec⟩;cases cy
     rw[if_neg hg]at hO1;have ac:(((b.take fin).drop (p+1)).take 32).length=32:=by rw[Ac8,Ac5,hlen];omega
     refine gS (Zv (a:=(p:Nat)) (b:=(fin:Nat)) g z (AI _ _ _ _) (kT (hlt) (gS (ZU (l:=b) (i:=p) Gj Qq (ZB (hr.keep hE) u) g (by omega) fun ed bt=>(gS (ZL u5 rfl (ZQ bt rfl) (gS (Zv (a:=((b.getD (p) 0).toNat:Nat)) (b:=(1:Nat)) rfl rfl (DD _ _ _ _) (kT (hle) (gS (ZE rfl rfl (gP (ZN F2 rfl rfl ?_)))))))))))));refine Ar (AW _ (true) 6) ?_ ?_;rotate_left
     ·rintro ch ee ⟨rfl,hb,hx⟩;refine Au ?_;cases hb
     rintro v_ bu ⟨rfl,ef,a7⟩;have hEn:EntsIn bu va es:=(hEn.keep a7);clear bt;have hE:=hE.trans a7;refine gS (ZU (l:=b) (i:=p) Gj Qq (ZB (hr.keep hE) u) g (by omega) fun eg bv=>(gS (ZL u5 rfl (ZQ bv rfl) (gS (Zv (a:=((b.getD (p) 0).toNat:Nat)) (b:=(1:Nat)) rfl rfl (AF _ _ _ _) (kT (h1n) (gS (Aai g (vr (.bool (true)) rfl) (fun w=>HQ (p:Int) true w) (gS (Yk.alloc HT fun aq cz eh bw bx ei=> ?_))))))))));have f:=Ext.refl bu;have bz:=hE.size;have hr_va:=hr_va.keep a7;have ar:OB va aq:=A3 hr_va.2 (by omega);have c:=bw;clear bw;have ej:aq<cz.heap.size:=by omega
     refine gS (Zy (vr (PQ aq 0) rfl) (vr (.agg (entC ((⟨p,true,AcX 32 0,[]⟩, .slice none 0 0))).toArray) rfl) c (Bx (x:=((⟨p,true,AcX 32 0,[]⟩, .slice none 0 0):Aj)) (y:=dEnt) (by simp) (by simp[dEnt])) (Bk (x:=((⟨p,true,AcX 32 0,[]⟩, .slice none 0 0):Aj)) EI (by simp)) (Bz (x:=((⟨p,true,AcX 32 0,[]⟩, .slice none 0 0):Aj)) rfl) fun el b0 b1 em=> ?_);clear c;have c:=b0;clear b0;have en:=bl c;clear bv;have f:=f.trans bx;have f:=Ab f b1 (AcN (AcP _) (by omega));have hE:=hE.trans f;refine gS (Zw (xv:=NI p) (yv:=NI 1) g rfl rfl (Ag _ _ _ (by omega)) (gS (Yk.fieldAt Gn rfl (gS (Zu Ka rfl rfl (cellAt c (show(entC ((⟨p,true,AcX 32 0,[]⟩, .slice none 0 0)))[1]? =some (.bool (true):AcJ)from rfl)) (cT rfl (gS (Aag (xs:=b) (n:=fin) Gj Qq u (hr.keep hE) z (by omega) fun c0 c1 ha108=>(gS (Zx KX rfl rfl ?_))))))))));refine((show Calls _ _ _ _ (fun e w2=>e = .returned (.tuple #[AB (((b.take fin).drop (p+1)).take 32),NI (p+1+32),NI 0])∧Ext _ w2)from(JZ _ c0 (b.take fin) c1 (p+1) (by omega)).mono fun e w2 ⟨h1,h2⟩=>by subst h1;refine⟨?_,h2⟩;unfold Ea;rw[hlen];rw[if_neg (by omega)];rfl)).mono ?_;rintro e eo ⟨rfl,au⟩;refine⟨_,rfl,?_⟩;refine gS (Yk.extract (vs:= [AB (((b.take fin).drop (p+1)).take 32),NI (p+1+32),NI 0]) rfl rfl (gS (Yk.extract (vs:= [AB (((b.take fin).drop (p+1)).take 32),NI (p+1+32),NI 0]) rfl rfl (gS (Yk.extract (vs:= [AB (((b.take fin).drop (p+1)).take 32),NI (p+1+32),NI 0]) rfl rfl (gS (Yk.alloc Ur fun a8 c2 c3 b2 av ep=> ?_)))))));have hE:=hE.trans au;have f:=f.trans au;have c4:=hE.size;have c5:=f.size;have c:=eb au c;have eq:=As (bl c) c3;have hr_va:=hr_va.keep bx;have hr_va:=OG.kept hr_va b1 ar;have hr_va:=hr_va.keep au;have b3:OB va a8:=A3 hr_va.2 (by omega);have j:=b2;clear b2;have er:a8<c2.heap.size:=by omega
     refine gS (Zy (vr (PQ a8 0) rfl) (vr (AB (((b.take fin).drop (p+1)).take 32)) rfl) j (by exact Bn ac Ac7) (by exact Ac ac) (Af _) fun et b4 aw eu=> ?_);clear j;have j:=b4;clear b4;have ew:=bl j;refine gS (Zv (a:=(0:Nat)) (b:=(0:Nat)) rfl rfl (AF _ _ _ _) (kT (rfl) (gP (ZN F2 rfl rfl ?_))));refine Ar (AW _ (true) 6) ?_ ?_;rotate_left
     ·rintro ch ex ⟨rfl,hb,hx⟩;refine Au ?_;cases hb
     rintro v_ ey ⟨rfl,ez,ai⟩;have c:=eb av c;have c:=kb aw c (by omega);have c:=eb ai c;have j:=eb ai j;refine gS (Zz rfl j Wq rfl (by exact Ac ac) (gS (Yk.fieldAt NR rfl (gS (AbN (B:=AcX 32 0) (B' :=((b.take fin).drop (p+1)).take 32) rfl rfl c (by simp) ac R4 fun e0 b5 ax e1=> ?_)))));clear c;have c:=b5;clear b5;have e2:=bl c;have hE:=hE.trans av;have hE:=Ab hE aw (AcN c4 (by omega));have hE:=hE.trans ai;have hE:=Ab hE ax (AcN bz (by omega));refine gP (Abe KY u rfl z ?_);refine Ar (NQ _ v b (hr.keep hE) (p+33) fin (by omega) hf) ?_ ?_;rotate_left
     ·rintro ch e3 ⟨hT,rfl,hx⟩;refine Au ?_;have hO1:entOne b fin p=none:=by rw[hO1,show B3 b (p+33) fin=none from hT];rfl
      have o:=DO (show Dg b fin first (i+1)=none by rw[hst,hO1];rfl) (n-(i+1));rw[show i+1+(n-(i+1))=n by omega]at o;exact .inr ⟨_,rfl,by unfold CA;rw[o];rfl,rfl,hE.trans hx⟩
     rintro v_ c6 ⟨ts,tn,hT,rfl,aj⟩;have hO:entOne b fin p=some (⟨p,true,((b.take fin).drop (p+1)).take 32,ts⟩,tn):=by rw[hO1,show B3 b (p+33) fin=some (ts,tn)from hT];rfl
     refine gS (Yk.extract (vs:= [St (ts),NI tn]) rfl rfl (gS (Yk.extract (vs:= [St (ts),NI tn]) rfl rfl (gS (Aa5 PO Gj u5 rfl (by have:=GL hT hf;omega) fun q c7 ae ak ay=> ?_)))));have j:=kb ax j (by omega);have j:=eb aj j;have c:=eb aj c;have c8:OB q aq:=fun e=>by have h1:=(ay _ e).1;have h2:=(bl c);omega
     have hr_va:=hr_va.keep av;have hr_va:=OG.kept hr_va aw b3;have hr_va:=hr_va.keep ai;have hr_va:=OG.kept hr_va ax ar;have hr_va:=hr_va.keep aj;have hva:∀k,AcT va=some k→k<c6.heap.size:=fun k hk=>((hr_va).2.lt k hk).2;have hkv:∀k,AcT q=some k→k<c7.heap.size∧OB va k:=fun k hk=>⟨(ay k hk).2,fun e=>by have h1:=hva k e;have h2:=(ay k hk).1;omega⟩;have hE:=hE.trans aj;have hnv:NewV w.heap.size q:=fun k hk=>AcN (hE).size (ay k hk).1;have c:=eb ak c;refine gS (Yk.fieldAt IP rfl (gS (Abf (s:= []) (s' :=ts) rfl rfl c ac KN ae fun b6 b7 al e4=> ?_)));clear c;have c:=b7;clear b7;have e5:=bl c;have hkv2:∀k,AcT q=some k→k<b6.heap.size∧OB va k:=fun k hk=>⟨by have:=(hkv k hk).1;omega,(hkv k hk).2⟩;have f:=f.trans av;have f:=Ab f aw (AcN c5 (by omega));have f:=f.trans ai;have f:=Ab f ax (AcN (AcP _) (by omega));have f:=f.trans (aj.trans ak);have f:=Ab f al (AcN (AcP _) (by omega));have ae:=RB.kept ae al (.inr c8);have hEn:EntsIn b6 va (es++ [((⟨p,true,((b.take fin).drop (p+1)).take 32,ts⟩,q):Aj)]):=AaX (hEn.keep f) ae ac hkv2;have hone_:=Bz (x:=((⟨p,true,((b.take fin).drop (p+1)).take 32,ts⟩,q):Aj)) (RB.one ae).2;refine gS (Zz rfl c (KZ).choose_spec rfl (Bk (x:=((⟨p,true,((b.take fin).drop (p+1)).take 32,ts⟩,q):Aj)) EI ac) (gS (Z2 (a:=((⟨p,true,((b.take fin).drop (p+1)).take 32,ts⟩,q))) (enc:=entC) (vr (.agg (entC ((⟨p,true,((b.take fin).drop (p+1)).take 32,ts⟩,q))).toArray) rfl) ((entC_len (x:=((⟨p,true,((b.take fin).drop (p+1)).take 32,ts⟩,q):Aj)) ac)) K0 fun c9 b8 b9 am=> ?_)));have hEn:EntsIn b8 va (es++ [((⟨p,true,((b.take fin).drop (p+1)).take 32,ts⟩,q):Aj)]):=(hEn.keep am);have hE:=hE.trans ak;have hE:=Ab hE al (AcN bz (by omega));have hE:=hE.trans am;have hr_va:=hr_va.keep ak;have hr_va:=OG.kept hr_va al ar;have hr_va:=hr_va.keep am;refine gS (ZM _ _ w.heap.size _ 72 F3 pk12_ig208.choose_spec.1 pk12_ig208.choose_spec.2 F3 (es) ([((⟨p,true,((b.take fin).drop (p+1)).take 32,ts⟩,q))]) (OG.of hr_va T9) (ZC b9 (vr c9 rfl)) (fun y hy=>by rw[AcY.1 hy];exact hone_) (by simp only[Adh,Adp];omega) (by simp only[Adh,Adp];omega) hE.size fun a9 ca da af=> ?_);have hEn_:=hEn;have af:Grew b8 ca va a9:= .eqv T9 af;have c:=eb am c;have j:=eb ak j;have j:=kb al j (by omega);have j:=eb am j;have hE:=Aq hE af hr_va.2 (AcP _);have j:=Ao j af b3;clear ae;have c:=Ao c af ar;clear b9;clear hr_va;have hEn:EntsIn ca a9 (es++ [((⟨p,true,((b.take fin).drop (p+1)).take 32,ts⟩,q):Aj)]):=EntsIn.grew hEn_ af;clear hEn_;refine gS (Zw (xv:=NI i) (yv:=NI 1) ao rfl rfl (Ag _ _ _ (by omega)) (gK (Adr ⟨i+1,es++ [(⟨p,true,((b.take fin).drop (p+1)).take 32,ts⟩,q)],tn,a9,u,T1,z,T8,a5,rfl,rfl,rfl,hE,hEn,Bc da (rfl),by rw[hst,hO,Aei];rfl,by omega,(KW hO hf).1,by rw[AcQ,hil];rfl,NN hnw hnv,trivial⟩ ?_)));show n-(intOf (NI ((i)+(1)))).toNat<n-(intOf (be 17)).toNat;rw[q17];simp only[intOf,Ac0];omega
    rw[if_neg h1]at hO1;have h1n:¬(b.getD p 0).toNat=1:=fun h=>h1 (Agr.1 (by rw[h];rfl));refine gS (Zv (a:=(p:Nat)) (b:=(fin:Nat)) g z (AI _ _ _ _) (kT (hlt) (gS (ZU (l:=b) (i:=p) Gj Qq (ZB (hr.keep hE) u) g (by omega) fun e6 cb=>(gS (ZL u5 rfl (ZQ cb rfl) (gS (Zv (a:=((b.getD (p) 0).toNat:Nat)) (b:=(1:Nat)) rfl rfl (DD _ _ _ _) (kT (hle) (gS (ZE rfl rfl (gP (ZN F2 rfl rfl ?_)))))))))))));refine Ar (AW _ (true) 6) ?_ ?_;rotate_left
    ·rintro ch e7 ⟨rfl,hb,hx⟩;refine Au ?_;cases hb
    rintro v_ cc ⟨rfl,e8,ba⟩;have hEn:EntsIn cc va es:=(hEn.keep ba);clear cb;have hE:=hE.trans ba;refine gS (ZU (l:=b) (i:=p) Gj Qq (ZB (hr.keep hE) u) g (by omega) fun e9 cd=>(gS (ZL u5 rfl (ZQ cd rfl) (gS (Zv (a:=((b.getD (p) 0).toNat:Nat)) (b:=(1:Nat)) rfl rfl (AF _ _ _ _) (kF (h1n) (gS (Aai g (vr (.bool (false)) rfl) (fun w=>HQ (p:Int) false w) (gS (Yk.alloc HT fun az db fa ce cf fb=> ?_))))))))));have aa:=Ext.refl cc;have dc:=hE.size;have hr_va:=hr_va.keep ba;have bb:OB va az:=A3 hr_va.2 (by omega);have m:=ce;clear ce;have fc:az<db.heap.size:=by omega
    refine gS (Zy (vr (PQ az 0) rfl) (vr (.agg (entC ((⟨p,false,AcX 32 0,[]⟩, .slice none 0 0))).toArray) rfl) m (Bx (x:=((⟨p,false,AcX 32 0,[]⟩, .slice none 0 0):Aj)) (y:=dEnt) (by simp) (by simp[dEnt])) (Bk (x:=((⟨p,false,AcX 32 0,[]⟩, .slice none 0 0):Aj)) EI (by simp)) (Bz (x:=((⟨p,false,AcX 32 0,[]⟩, .slice none 0 0):Aj)) rfl) fun fd cg ci fe=> ?_);clear m;have m:=cg;clear cg;have ff:=bl m;clear cd;have aa:=aa.trans cf;have aa:=Ab aa ci (AcN (AcP _) (by omega));have hE:=hE.trans aa;refine gS (Zw (xv:=NI p) (yv:=NI 1) g rfl rfl (Ag _ _ _ (by omega)) (gS (Yk.fieldAt Gn rfl (gS (Zu Ka rfl rfl (cellAt m (show(entC ((⟨p,false,AcX 32 0,[]⟩, .slice none 0 0)))[1]? =some (.bool (false):AcJ)from rfl)) (cF rfl (gP (Abe KY u rfl z ?_))))))));refine Ar (NQ _ v b (hr.keep hE) (p+1) fin (by omega) hf) ?_ ?_;rotate_left
    ·rintro ch fg ⟨hT,rfl,hx⟩;refine Au ?_;have hO1:entOne b fin p=none:=by rw[hO1,show B3 b (p+1) fin=none from hT];rfl
     have o:=DO (show Dg b fin first (i+1)=none by rw[hst,hO1];rfl) (n-(i+1));rw[show i+1+(n-(i+1))=n by omega]at o;exact .inr ⟨_,rfl,by unfold CA;rw[o];rfl,rfl,hE.trans hx⟩
    rintro v_ dd ⟨ts,tn,hT,rfl,a0⟩;have hO:entOne b fin p=some (⟨p,false,AcX 32 0,ts⟩,tn):=by rw[hO1,show B3 b (p+1) fin=some (ts,tn)from hT];rfl
    refine gS (Yk.extract (vs:= [St (ts),NI tn]) rfl rfl (gS (Yk.extract (vs:= [St (ts),NI tn]) rfl rfl (gS (Aa5 PO Gj u5 rfl (by have:=GL hT hf;omega) fun t de ag a1 a2=> ?_)))));have m:=eb a0 m;have df:OB t az:=fun e=>by have h1:=(a2 _ e).1;have h2:=(bl m);omega
    have hr_va:=hr_va.keep cf;have hr_va:=OG.kept hr_va ci bb;have hr_va:=hr_va.keep a0;have hva:∀k,AcT va=some k→k<dd.heap.size:=fun k hk=>((hr_va).2.lt k hk).2;have hkv:∀k,AcT t=some k→k<de.heap.size∧OB va k:=fun k hk=>⟨(a2 k hk).2,fun e=>by have h1:=hva k e;have h2:=(a2 k hk).1;omega⟩;have hE:=hE.trans a0;have hnv:NewV w.heap.size t:=fun k hk=>AcN (hE).size (a2 k hk).1;have m:=eb a1 m;refine gS (Yk.fieldAt IP rfl (gS (Abf (s:= []) (s' :=ts) rfl rfl m (by simp) KN ag fun cj ck a3 fh=> ?_)));clear m;have m:=ck;clear ck;have fi:=bl m;have hkv2:∀k,AcT t=some k→k<cj.heap.size∧OB va k:=fun k hk=>⟨by have:=(hkv k hk).1;omega,(hkv k hk).2⟩;have aa:=aa.trans (a0.trans a1);have aa:=Ab aa a3 (AcN (AcP _) (by omega));have ag:=RB.kept ag a3 (.inr df);have hEn:EntsIn cj va (es++ [((⟨p,false,AcX 32 0,ts⟩,t):Aj)]):=AaX (hEn.keep aa) ag (by simp) hkv2;have hone_:=Bz (x:=((⟨p,false,AcX 32 0,ts⟩,t):Aj)) (RB.one ag).2;refine gS (Zz rfl m (KZ).choose_spec rfl (Bk (x:=((⟨p,false,AcX 32 0,ts⟩,t):Aj)) EI (by simp)) (gS (Z2 (a:=((⟨p,false,AcX 32 0,ts⟩,t))) (enc:=entC) (vr (.agg (entC ((⟨p,false,AcX 32 0,ts⟩,t))).toArray) rfl) ((entC_len (x:=((⟨p,false,AcX 32 0,ts⟩,t):Aj)) (by simp))) K0 fun dh cl cm a4=> ?_)));have hEn:EntsIn cl va (es++ [((⟨p,false,AcX 32 0,ts⟩,t):Aj)]):=(hEn.keep a4);have hE:=hE.trans a1;have hE:=Ab hE a3 (AcN dc (by omega));have hE:=hE.trans a4;have hr_va:=hr_va.keep a1;have hr_va:=OG.kept hr_va a3 bb;have hr_va:=hr_va.keep a4;refine gS (ZM _ _ w.heap.size _ 72 F3 pk12_ig208.choose_spec.1 pk12_ig208.choose_spec.2 F3 (es) ([((⟨p,false,AcX 32 0,ts⟩,t))]) (OG.of hr_va T9) (ZC cm (vr dh rfl)) (fun y hy=>by rw[AcY.1 hy];exact hone_) (by simp only[Adh,Adp];omega) (by simp only[Adh,Adp];omega) hE.size fun bc cn di an=> ?_);have hEn_:=hEn;have an:Grew cl cn va bc:= .eqv T9 an;have m:=eb a4 m;have hE:=Aq hE an hr_va.2 (AcP _);clear ag;have m:=Ao m an bb;clear cm;clear hr_va;have hEn:EntsIn cn bc (es++ [((⟨p,false,AcX 32 0,ts⟩,t):Aj)]):=EntsIn.grew hEn_ an;clear hEn_;refine gS (Zw (xv:=NI i) (yv:=NI 1) ao rfl rfl (Ag _ _ _ (by omega)) (gK (Adr ⟨i+1,es++ [(⟨p,false,AcX 32 0,ts⟩,t)],tn,bc,u,T1,z,T8,a5,rfl,rfl,rfl,hE,hEn,Bc di (rfl),by rw[hst,hO,Aei];rfl,by omega,(KW hO hf).1,by rw[AcQ,hil];rfl,NN hnw hnv,trivial⟩ ?_)));show n-(intOf (NI ((i)+(1)))).toNat<n-(intOf (be 17)).toNat;rw[q17];simp only[intOf,Ac0];omega
   have hO1:entOne b fin p=none:=by unfold entOne;rw[if_neg (fun h=>hle h.2)]
   refine gS (Zv (a:=(p:Nat)) (b:=(fin:Nat)) g z (AI _ _ _ _) (kT (hlt) (gS (ZU (l:=b) (i:=p) Gj Qq (ZB (hr.keep hE) u) g (by omega) fun fj dj=>(gS (ZL u5 rfl (ZQ dj rfl) (gS (Zv (a:=((b.getD (p) 0).toNat:Nat)) (b:=(1:Nat)) rfl rfl (DD _ _ _ _) (kF (hle) (gS (ZE rfl rfl (gP (ZN F2 rfl rfl ?_)))))))))))));refine Ar (AW _ (false) 6) ?_ ?_;rotate_left
   ·rintro ch fk ⟨rfl,hb,hx⟩;refine Au ?_;have o:=DO (show Dg b fin first (i+1)=none by rw[hst,hO1];rfl) (n-(i+1));rw[show i+1+(n-(i+1))=n by omega]at o;exact .inr ⟨_,rfl,by unfold CA;rw[o];rfl,rfl,hE.trans hx⟩
   rintro v_ fl ⟨rfl,dk,fm⟩;cases dk
  have hO1:entOne b fin p=none:=by unfold entOne;rw[if_neg (fun h=>hlt h.1)]
  refine gS (Zv (a:=(p:Nat)) (b:=(fin:Nat)) g z (AI _ _ _ _) (kF (hlt) (gS (ZH rfl rfl (gP (ZN F2 rfl rfl ?_))))));refine Ar (AW _ (false) 6) ?_ ?_;rotate_left
  ·rintro ch fn ⟨rfl,hb,hx⟩;refine Au ?_;have o:=DO (show Dg b fin first (i+1)=none by rw[hst,hO1];rfl) (n-(i+1));rw[show i+1+(n-(i+1))=n by omega]at o;exact .inr ⟨_,rfl,by unfold CA;rw[o];rfl,rfl,hE.trans hx⟩
  rintro v_ fo ⟨rfl,dl,fp⟩;cases dl
 have hin:i=n:=by omega
 refine gS (Zv (a:=(p:Nat)) (b:=(fin:Nat)) g z (AF _ _ _ _) (gP (ZN F2 rfl rfl ?_)));refine Ar (AW _ (decide ((p:Nat)=(fin))) 6) ?_ ?_;rotate_left
 ·rintro ch fq ⟨rfl,hb,hx⟩;refine Au ?_;have hno:=of_decide_eq_false hb;exact .inr ⟨_,rfl,by unfold CA;rw[←hin,hs];exact if_neg hno,rfl,hE.trans hx⟩
 rintro v_ dm ⟨rfl,dn,bd⟩;have hEn:EntsIn dm va es:=(hEn.keep bd);have dp:=of_decide_eq_true dn;refine Bb rfl T9 ?_;have hE:=hE.trans bd;have hr_va:=hr_va.keep bd;exact .inl ⟨_,rfl,es,by unfold CA;rw[←hin,hs];exact if_pos dp,ZG hr_va,hEn.ok,hnw,hE⟩
abbrev BD(x:Aj):AcJ:= .agg (entC x).toArray
theorem Gp:KL AcM 3 (Agm (.int .i64)):=Abn (by kernel_rfl)
theorem Gq:∀n:Nat,True→Agm (.int .i64) (NI n):=fun n _=>by first | exact⟨_,rfl⟩ | simp[Agm]
theorem Hj{a b:Nat}(h:NI a=NI b):a=b:=by injection h with _ h;exact Int.ofNat.inj h
theorem Dh:∀u:AcK,(zeroValue 208).run AcM u = .ok (BD dEnt) u:=fun _=>by kernel_rfl
structure IxS (α : Type) where
  ids:List Bs
  G:Nat→Option α
  M:Bs→Option α
section
variable {α : Type} (at_ : α → Nat) (d : α) (t : Bs) (es : List α)
def DY:Nat→Nat→Option α
  | 0=>fun _=>none
  | i+1=>updM (DY i) (at_ (es.getD i d)) (some (es.getD i d))
def BU(i:Nat):Bs:=(t.drop (36*i)).take 32
def ER(i:Nat):Nat:=Eb ((t.drop (36*i)).drop 32)
def DT(i:Nat)(s:IxS α)(c:α):IxS α:=⟨s.ids++ [BU t i],updM s.G (at_ c) none,updM s.M (BU t i) (some c)⟩
def Ds(i:Nat)(s:IxS α):Option (IxS α):=
  match s.G (ER t i)with
  | none=>none
  | some c=>if i=0∨Adj (s.ids.getD (i-1) []) (BU t i)<0 then some (DT at_ t i s c)else none
def DI:Nat→Option (IxS α)
  | 0=>some ⟨[],DY at_ d es es.length,fun _=>none⟩
  | i+1=>(DI i).bind (Ds at_ t i)
variable {at_ d t es}
theorem E0{i:Nat}(h:DI at_ d t es i=none):∀k,DI at_ d t es (i+k)=none
  | 0=>h
  | k+1=>by
    show(DI at_ d t es (i+k)).bind _=none;rw[E0 h k];rfl
theorem FH{i:Nat}{s:IxS α}(h:DI at_ d t es i=some s):DI at_ d t es (i+1)=Ds at_ t i s:=by
  show(DI at_ d t es i).bind _=_;rw[h];rfl
theorem JL:∀i,i≤es.length→∀k c,DY at_ d es i k=some c→c∈es∧at_ c=k
  | 0,_,_,_,h=>by cases h
  | i+1,hi,k,c,h=>by
    unfold DY updM at h;split at h
    · rename_i hk
      cases h;refine⟨?_,hk.symm⟩;rw[AcO,AcS (by omega)];exact Ad9 _
    · exact JL i (by omega) k c h
structure Yb (t : Bs) (es : List α) (i : Nat) (s : IxS α) : Prop where
  len:s.ids.length=i
  ids:∀x∈s.ids,∃j,j<i∧x=BU t j
  G:∀k c,s.G k=some c→c∈es
  M:∀k c,s.M k=some c→c∈es
  all:∀x∈s.ids,(s.M x).isSome=true
theorem Jo:∀i s,DI at_ d t es i=some s→Yb t es i s
  | 0,s,h=>by
    cases h;exact⟨rfl,(fun x hx=>by cases hx),(fun k c hk=>(JL _ (AcP _) k c hk).1),(fun k c hk=>by cases hk),(fun x hx=>by cases hx)⟩
  | i+1,s,h=>by
    cases h1:DI at_ d t es i with
    | none=>rw[E0 h1 1]at h;cases h
    | some s0=>
      have ih:=Jo i s0 h1;rw[FH h1]at h;unfold Ds at h;split at h
      · cases h
      · rename_i c hc
        split at h
        · cases h;have hcm:=ih.G _ c hc;refine⟨?_,fun x hx=> ?_,fun k c' hk=> ?_,fun k c' hk=> ?_,fun x hx=> ?_⟩
          · show(s0.ids++ [BU t i]).length=i+1;rw[AcQ,ih.len];rfl
          · rcases Adf.1 hx with hx | hx
            · obtain⟨j,hj,e⟩:=ih.ids x hx;exact⟨j,by omega,e⟩
            · exact⟨i,by omega,AcY.1 hx⟩
          · unfold DT updM at hk
            dsimp only at hk
            split at hk
            · cases hk
            · exact ih.G k c' hk
          · unfold DT updM at hk
            dsimp only at hk
            split at hk
            · cases hk;exact hcm
            · exact ih.M k c' hk
          · unfold DT updM
            dsimp only
            split
            · rfl
            · rename_i hne
              rcases Adf.1 hx with hx | hx
              · exact ih.all x hx
              · exact absurd (AcY.1 hx) hne
        · cases h
end
theorem rowId_len{t:Bs}{i n:Nat}(h:t.length=36*n)(hi:i<n):(BU t i).length=32:=by
  unfold BU;rw[Ac8,Ac5];omega
theorem O8:∀w' :AcK,(sizeOf 208).run AcM w' = .ok 35 w' :=fun _=>by kernel_rfl
theorem Gr:AV AcM 208 0 0:=fun b o w=>by simp[go_sem]
theorem DP:Tryz.prog.underlying 262=some (.map 3 208):=by kernel_rfl
theorem F4:Plain AcM 127:=fun _ _=>by kernel_rfl
theorem Mi:∀(cs:Array AcJ),cs.size=32→∀w:AcK,(Adt 42 1 #[(0, .agg cs)]).run AcM w = .ok (.slice (some ⟨w.heap.size,0,none⟩) 1 1) (w.alloc (.cells cs 33))
 | ⟨[c0,c1,c2,c3,c4,c5,c6,c7,c8,c9,c10,c11,c12,c13,c14,c15,c16,c17,c18,c19,c20,c21,c22,c23,c24,c25,c26,c27,c28,c29,c30,c31]⟩,_,w=>Us c0 c1 c2 c3 c4 c5 c6 c7 c8 c9 c10 c11 c12 c13 c14 c15 c16 c17 c18 c19 c20 c21 c22 c23 c24 c25 c26 c27 c28 c29 c30 c31 w
theorem K3:Tryz.prog.underlying 202=some (.map 33 208):=by kernel_rfl
theorem QS(w:AcK)(v:AcJ)(t:Bs)(hr:RB w v t)(ve:AcJ)(es:List Aj)(hg:RG 35 entC w ve es)(hok:EntsOk w es)(htl:t.length=36*es.length)(hn:es.length≤1048576):
  Calls AcM 131 #[v,ve] w fun r w' =>(∃x,r = .returned x∧∃s vi b,DI (fun x:Aj=>x.1.pos) dEnt t es es.length=some s∧x = .tuple #[vi, .map (some b)]∧RG 32 AcL w' vi s.ids∧MapF rk BD (fun id:List UInt8=>id.length=32) w' b s.M∧NewV w.heap.size vi∧Ext w w')∨∃ch,r = .panicked ch∧DI (fun x:Aj=>x.1.pos) dEnt t es es.length=none∧ch= [CV 6]∧Ext w w' :=by
 refine gG (args:= [v,ve]) Tryz.func131 rfl 83 rfl rfl ?_;have hE:=Ext.refl w;refine gS (Aan NI BD (fun _:Nat=>True) fun u w4 ew b5 dc ex=> ?_);have ey:u<w4.heap.size:=by omega
 have hE:=hE.trans dc;refine gS (ZI F3 (ZC (hg.keep hE) rfl) (gL (fun(ρ:Ad) (wz:AcK)=>∃m:Nat,ρ 0=(v:AcJ)∧ρ 1=(ve:AcJ)∧ρ 4=((AcU none 0 0):AcJ)∧ρ 5=((Value.map none):AcJ)∧ρ 6=(.map (some u):AcJ)∧ρ 19=(ve:AcJ)∧ρ 20=(NI es.length:AcJ)∧ρ 21=(NI m:AcJ)∧Ext w wz∧MapF NI BD (fun _:Nat=>True) wz u (DY (fun x:Aj=>x.1.pos) dEnt es m)∧(m≤es.length)∧True) (fun ρ _=>es.length-(intOf (ρ 21)).toNat) ⟨0,rfl,rfl,rfl,rfl,rfl,rfl,rfl,rfl,hE,Cb b5 (rfl),Adm _,trivial⟩ ?_));clear b5;clear hE;rintro dd b6 ⟨m,T0,T1,T4,T5,T6,aq,ar,aj,hE,hb6l,hm,-⟩;have q21:=aj;refine gS (Zv (a:=(m:Nat)) (b:=(es.length:Nat)) aj ar (AI _ _ _ _) ?_);refine cD rfl (fun b7=> ?_) fun b7=> ?_
 ·have hmi:=getD_mem dEnt (l:=es) (i:=m) b7;have hel:=hok _ hmi;have de:(entC (es.getD (m) dEnt)).length=35:=(RG.elem (hg.keep hE) dEnt (by omega));refine gS (ZO F3 O8 (by decide) dEnt (ZC (hg.keep hE) aq) aj (by omega) fun ez b8=>(gS (ZS (ZT b8 rfl) (KZ).choose_spec rfl (by rw[de];exact EI) (gS (Yk.alloc HT fun b9 df dh ca cb e0=> ?_)))));have a3:=Ext.refl b6;have e1:=hE.size;have e2:=As hb6l.lt dh;have au:=ca;clear ca;have e3:b9<df.heap.size:=by omega
  refine gS (Zy (vr (PQ b9 0) rfl) (vr (.agg (entC (es.getD (m) dEnt)).toArray) rfl) au (Bx (x:=((es.getD (m) dEnt):Aj)) (y:=(dEnt:Aj)) hel.2 (by simp[dEnt])) (Bk (x:=((es.getD (m) dEnt):Aj)) EI hel.2) (Bz (x:=((es.getD (m) dEnt):Aj)) (RB.one hel.1).2) fun e4 cc cd e5=> ?_);have hb6l:=hb6l.keep cb;have hb6l:=MapF.other hb6l cd (Ak (by omega));clear au;have au:=cc;clear cc;have e6:=bl au;clear b8;refine gS (Yk.fieldAt Gr rfl (gS (Zu Uo rfl rfl (cellAt au ((show(entC ((es.getD (m) dEnt)))[0]? =some (NI (((es.getD (m) dEnt)).1.pos):AcJ)from rfl))) (gS (Zz rfl au (KZ).choose_spec rfl (Bk (x:=((es.getD (m) dEnt):Aj)) EI hel.2) ?_)))));have a3:=a3.trans cb;have a3:=Ab a3 cd (AcN (AcP _) (by omega));have hE:=hE.trans a3;refine gS (Aak (ek:=NI) (ev:=BD) (D:=(fun _:Nat=>True)) (c:=((es.getD (m) dEnt))) Gp Gq DP T6 (vr (NI (((es.getD (m) dEnt)).1.pos)) rfl) (vr (.agg (entC ((es.getD (m) dEnt))).toArray) rfl) hb6l trivial fun di ce dj e7=> ?_);clear hb6l;have e8:u<di.heap.size:=ce.lt;have hE:=Ab hE dj (AcN (AcP _) (by omega));refine gS (Zw (xv:=NI m) (yv:=NI 1) aj rfl rfl (Ag _ _ _ (by omega)) (gK (Adr ⟨m+1,T0,T1,T4,T5,T6,aq,ar,rfl,hE,Cb ce (rfl),by omega,trivial⟩ ?_)));show es.length-(intOf (NI ((m)+(1)))).toNat<es.length-(intOf (dd 21)).toNat;rw[q21];simp only[intOf,Ac0];omega
 have hie:m=es.length:=by omega
 have hids0:OG w.heap.size 33 32 AcL b6 (AcU none 0 0) ([]:List Bs):=OG.nil _ _ _ _ _;have dk:AcT (AcU none 0 0)≠some u:=fun h=>by cases h
 refine gS (Aan rk BD (fun id:List UInt8=>id.length=32) fun ae dl dm cf bh e9=> ?_);have cg:=hE.size;have fa:=As hb6l.lt dm;have dn:AcT (AcU none 0 0)≠some ae:=A3 hids0.2 (by omega);have fb:ae<dl.heap.size:=by omega
 have hE:=hE.trans bh;have hb6l:=hb6l.keep bh;have hids0:=hids0.keep bh;refine gS (ZI F3 (ZC (hg.keep hE) T1) (gL (fun(ρ:Ad) (wz:AcK)=>∃i:Nat,∃s:IxS Aj,∃vi:AcJ,ρ 0=(v:AcJ)∧ρ 1=(ve:AcJ)∧ρ 4=((AcU none 0 0):AcJ)∧ρ 5=((Value.map none):AcJ)∧ρ 6=(.map (some u):AcJ)∧ρ 10=(.map (some ae):AcJ)∧ρ 19=(ve:AcJ)∧ρ 20=(NI es.length:AcJ)∧ρ 21=(NI m:AcJ)∧ρ 32=(NI es.length:AcJ)∧ρ 33=(NI i:AcJ)∧ρ 9=(vi:AcJ)∧Ext w wz∧OG w.heap.size 33 32 (AcL) wz vi (s.ids)∧MapF NI BD (fun _:Nat=>True) wz u (s.G)∧MapF rk BD (fun id:List UInt8=>id.length=32) wz ae (s.M)∧(DI (fun x:Aj=>x.1.pos) dEnt t es i=some s)∧(i≤es.length)∧(OB vi u)∧(OB vi ae)∧True) (fun ρ _=>es.length-(intOf (ρ 33)).toNat) ⟨0,⟨[],DY (fun x:Aj=>x.1.pos) dEnt es es.length,fun _=>none⟩,(AcU none 0 0),T0,T1,T4,T5,T6,rfl,aq,ar,aj,rfl,rfl,rfl,hE,Bc hids0 (rfl),Cb hb6l (by rw[hie]),Cb cf (rfl),rfl,Adm _,dk,dn,trivial⟩ ?_));clear hb6l;clear hids0;clear cf;clear hE;rintro ci fc ⟨i,s,vi,T0,T1,T4,T5,T6,a4,aq,ar,aj,bi,ac,T9,hE,hr_vi,hb6ll,hb49l,hs,hi,hap_vi_n3,hap_vi_n46,-⟩;have q33:=ac;refine gS (Zv (a:=(i:Nat)) (b:=(es.length:Nat)) ac bi (AI _ _ _ _) ?_);refine cD rfl (fun cj=> ?_) fun cj=> ?_
 ·have hil:i<es.length:=cj;have hI:=Jo i s hs;have hIl:=hI.len;have hst:=FH hs;have h32:=rowId_len htl hil;refine gS (Zw (xv:=NI 36) (yv:=NI i) rfl ac rfl (Cq _ _ _ (by omega)) (gS (Z1 (xs:=t) (l:=(36)*(i)) Gj Qq T0 (hr.keep hE) rfl (by omega) fun dp o ha69=>(gS (Zx KX rfl rfl ?_)))));refine((show Calls _ _ _ _ (fun e w2=>e = .returned (.tuple #[AB (BU t i),NI 32,NI 0])∧Ext _ w2)from(JZ _ dp (t.drop ((36)*(i))) o 0 (Adm _)).mono fun e w2 ⟨h1,h2⟩=>by subst h1;refine⟨?_,h2⟩;unfold Ea BU;rw[if_neg (by simp only[Ac5];omega),Afg];rfl)).mono ?_;rintro e dq ⟨rfl,ak⟩;refine⟨_,rfl,?_⟩;refine gS (Yk.extract (vs:= [AB (BU t i),NI 32,NI 0]) rfl rfl (gS (Yk.extract (vs:= [AB (BU t i),NI 32,NI 0]) rfl rfl (gS (Yk.extract (vs:= [AB (BU t i),NI 32,NI 0]) rfl rfl (gS (Yk.alloc Ur fun bj dr ck cl p fd=> ?_)))))));have g:=Ext.refl dq;have hE:=hE.trans ak;have bb:=hE.size;have hb6ll:=hb6ll.keep ak;have fe:=As hb6ll.lt ck;have hb49l:=hb49l.keep ak;have ff:=As hb49l.lt ck;have hr_vi:=hr_vi.keep ak;have a5:OB vi bj:=A3 hr_vi.2 (by omega);have f:=cl;clear cl;have fg:bj<dr.heap.size:=by omega
  refine gS (Zy (vr (PQ bj 0) rfl) (vr (AB (BU t i)) rfl) f (by exact Bn h32 Ac7) (by exact Ac h32) (Af _) fun fh cm q fi=> ?_);have hb6ll:=hb6ll.keep p;have hb6ll:=MapF.other hb6ll q (Ak (by omega));have hb49l:=hb49l.keep p;have hb49l:=MapF.other hb49l q (Ak (by omega));clear f;have f:=cm;clear cm;have fj:=bl f;rcases hG:s.G (ER t i)with _ | c
  ·have hO:Ds (fun x:Aj=>x.1.pos) t i s=none:=by unfold Ds;rw[hG]
   have o:=o.keep ak;have g:=g.trans p;have g:=Ab g q (AcN (AcP _) (by omega));refine gS (Z1 (xs:=t.drop ((36)*(i))) (l:=32) Gj Qq rfl (o.keep g) rfl (by simp only[Ac5];omega) fun ds dt ha95=>(gS (ZA F4 rfl (((show Calls _ _ _ _ (fun e w2=>e = .returned (NI (ER t i))∧Ext _ w2)from DX _ ds ((t.drop ((36)*(i)):List UInt8).drop (32)) dt (by simp only[Ac5];omega))).mono ?_))));rintro e du ⟨rfl,bc⟩;refine⟨_,rfl,?_⟩;have hE:=hE.trans p;have hE:=Ab hE q (AcN bb (by omega));have hE:=hE.trans bc;have hb6ll:=hb6ll.keep bc;refine gS (Aah (ek:=NI) (ev:=BD) (D:=(fun _:Nat=>True)) Gp Gq (fun _ _=>Hj) DP (z:=BD dEnt) Dh T6 rfl hb6ll trivial hG (gS (Yk.extract (vs:= [.agg (entC (dEnt)).toArray, .bool (false)]) rfl rfl (gS (Yk.extract (vs:= [.agg (entC (dEnt)).toArray, .bool (false)]) rfl rfl (gS (Yk.alloc HT fun cn dv co cp bk fk=> ?_)))))));have am:=Ext.refl du;have g:=g.trans bc;have fl:=hE.size;have fm:=g.size;have fn:=As hb6ll.lt co;have hb49l:=hb49l.keep bc;have fo:=As hb49l.lt co;have bd:=cp;clear cp;have fp:cn<dv.heap.size:=by omega
   refine gS (Zy (vr (PQ cn 0) rfl) (vr (.agg (entC (dEnt)).toArray) rfl) bd (Bx (x:=((dEnt):Aj)) (y:=(dEnt:Aj)) (by simp[dEnt]) (by simp[dEnt])) (Bk (x:=((dEnt):Aj)) EI (by simp[dEnt])) (Bz (x:=((dEnt):Aj)) rfl) fun fq cq bm fr=> ?_);have hb6ll:=hb6ll.keep bk;have hb6ll:=MapF.other hb6ll bm (Ak (by omega));have hb49l:=hb49l.keep bk;have hb49l:=MapF.other hb49l bm (Ak (by omega));clear bd;have bd:=cq;clear cq;have fs:=bl bd;refine CD [0,1,2,3,4,5,6,7,8,9,10,11,12,13,14,15] [11,15] [] fun ft dw=>(ys (ZH rfl rfl zz) (Wp (ZN F2 rfl rfl ?_)));refine Ar (AW _ (false) 6) ?_ ?_;rotate_left
   ·rintro ch fu ⟨rfl,hb,hx⟩;refine Au ?_;rw[hO]at hst;have a6:=E0 hst (es.length-(i+1));rw[show i+1+(es.length-(i+1))=es.length by omega]at a6;have am:=am.trans bk;have am:=Ab am bm (AcN (AcP _) (by omega));have am:=am.trans dw;have hE:=hE.trans am;exact .inr ⟨_,rfl,a6,rfl,hE.trans hx⟩
   rintro v_ fv ⟨rfl,dx,fw⟩;cases dx
  have hcm:=hI.G _ c hG;have hcl:=hok _ hcm;by_cases h0:i=0
  ·have hO:Ds (fun x:Aj=>x.1.pos) t i s=some (DT (fun x:Aj=>x.1.pos) t i s c):=by unfold Ds;rw[hG];exact if_pos (.inl h0)
   rw[hO]at hst;have o:=o.keep ak;have g:=g.trans p;have g:=Ab g q (AcN (AcP _) (by omega));refine gS (Z1 (xs:=t.drop ((36)*(i))) (l:=32) Gj Qq rfl (o.keep g) rfl (by simp only[Ac5];omega) fun dy dz ha131=>(gS (ZA F4 rfl (((show Calls _ _ _ _ (fun e w2=>e = .returned (NI (ER t i))∧Ext _ w2)from DX _ dy ((t.drop ((36)*(i)):List UInt8).drop (32)) dz (by simp only[Ac5];omega))).mono ?_))));rintro e d0 ⟨rfl,av⟩;refine⟨_,rfl,?_⟩;have hE:=hE.trans p;have hE:=Ab hE q (AcN bb (by omega));have hE:=hE.trans av;have hb6ll:=hb6ll.keep av;refine gS (Aab (ek:=NI) (ev:=BD) (D:=(fun _:Nat=>True)) Gp Gq (fun _ _=>Hj) DP (z:=BD dEnt) Dh T6 rfl hb6ll trivial hG (gS (Yk.extract (vs:= [.agg (entC (c)).toArray, .bool (true)]) rfl rfl (gS (Yk.extract (vs:= [.agg (entC (c)).toArray, .bool (true)]) rfl rfl (gS (Yk.alloc HT fun bn d1 bo cr aw fx=> ?_)))))));have an:=Ext.refl d0;have g:=g.trans av;have fy:=hE.size;have d2:=g.size;have fz:=As hb6ll.lt bo;have hb49l:=hb49l.keep av;have f0:=As hb49l.lt bo;have hr_vi:=hr_vi.keep p;have hr_vi:=OG.kept hr_vi q a5;have hr_vi:=hr_vi.keep av;have cs:OB vi bn:=A3 hr_vi.2 (by omega);have j:=cr;clear cr;have f1:bn<d1.heap.size:=by omega
   refine gS (Zy (vr (PQ bn 0) rfl) (vr (.agg (entC (c)).toArray) rfl) j (Bx (x:=((c):Aj)) (y:=(dEnt:Aj)) hcl.2 (by simp[dEnt])) (Bk (x:=((c):Aj)) EI hcl.2) (Bz (x:=((c):Aj)) (RB.one hcl.1).2) fun f2 ct ax f3=> ?_);have hb6ll:=hb6ll.keep aw;have hb6ll:=MapF.other hb6ll ax (Ak (by omega));have hb49l:=hb49l.keep aw;have hb49l:=MapF.other hb49l ax (Ak (by omega));clear j;have j:=ct;clear ct;have f4:=bl j;refine CD [0,1,2,3,4,5,6,7,8,9,10,11,12,13,14,15] [11,15] [] fun f5 d3=>(ys (Zv (a:=(i:Nat)) (b:=(0:Nat)) ac rfl (AF _ _ _ _) zz) (kT (h0) (ys (ZE rfl rfl zz) (ys (ZE rfl rfl zz) (Wp (ZN F2 rfl rfl ?_))))));refine Ar (AW _ (true) 6) ?_ ?_;rotate_left
   ·rintro ch f6 ⟨rfl,hb,hx⟩;refine Au ?_;cases hb
   rintro v_ f7 ⟨rfl,f8,d4⟩;have hZ1:=d3.trans d4;have hb6ll:=hb6ll.keep hZ1;have j:=eb hZ1 j;refine gS (Yk.fieldAt Gr rfl (gS (Zu Uo rfl rfl (cellAt j ((show(entC ((c)))[0]? =some (NI (((c)).1.pos):AcJ)from rfl))) ?_)));have an:=an.trans aw;have an:=Ab an ax (AcN (AcP _) (by omega));have an:=an.trans hZ1;have hE:=hE.trans an;have g:=g.trans aw;have g:=Ab g ax (AcN d2 (by omega));have g:=g.trans hZ1;refine gS (Abc (ek:=NI) (ev:=BD) (D:=(fun _:Nat=>True)) Gp Gq (fun _ _=>Hj) DP T6 rfl hb6ll trivial fun d5 af a7 f9=> ?_);have hb49l:=hb49l.keep hZ1;have hb49l:=MapF.other hb49l a7 (Ak (by omega));clear hb6ll;have ga:u<d5.heap.size:=af.lt;refine D6 [0,1,2,3,6,4,5,7,8] [4,5,7,8] [] [1,6] fun gb bp=> ?_;have f:=eb av f;have gc:=As (bl f) bo;have f:=eb aw f;have f:=kb ax f (by omega);have f:=eb hZ1 f;have f:=kb a7 f (by omega);have f:=eb bp f;have j:=kb a7 j (by omega);have j:=eb bp j;refine Zb f j ?_;refine yf (fun _ ⟨f,_,_⟩=>Zz rfl f Wq rfl (by exact Ac h32) zz) (ys (Zz rfl f Wq rfl (by exact Ac h32) zz) (yf (fun _ ⟨_,j,_⟩=>Zz rfl j (KZ).choose_spec rfl (Bk (x:=((c):Aj)) EI hcl.2) zz) (yI (Z2 (a:=(BU t i)) (enc:=AcL) (vr (AB (BU t i)) rfl) (by rw[AcZ];exact h32) Mi fun d6 d7 cu bq=> ?_))));have hr_vi:=hr_vi.keep aw;have hr_vi:=OG.kept hr_vi ax cs;have hr_vi:=hr_vi.keep hZ1;have hr_vi:=OG.kept hr_vi a7 hap_vi_n3;have hZ2:=bp.trans bq;have hr_vi:=hr_vi.keep hZ2;have hE:=Ab hE a7 (AcN (AcP _) (by omega));have hE:=hE.trans hZ2;have f:=eb bq f;have j:=eb bq j;refine⟨⟨f,j,trivial⟩,?_⟩;refine yI (ZM _ _ w.heap.size _ 32 NB pk6_ig33.choose_spec.1 pk6_ig33.choose_spec.2 NB (s.ids) ([(BU t i)]) (OG.of hr_vi T9) (ZC cu (vr d6 rfl)) (fun _ _=>Af _) (by simp only[Adh,Adp];omega) (by simp only[Adh,Adp];omega) hE.size fun be d8 br ag=> ?_);have ag:Grew d7 d8 vi be:= .eqv T9 ag;have af:=af.keep hZ2;have d9:OB be u:=An ag hap_vi_n3 af.lt;have hb49l:=hb49l.keep hZ2;have cv:OB be ae:=An ag hap_vi_n46 hb49l.lt;have hE:=Aq hE ag hr_vi.2 (AcP _);have hb49l:=MapF.grew hb49l ag hap_vi_n46;have f:=Ao f ag a5;have j:=Ao j ag cs;have af:=MapF.grew af ag hap_vi_n3;clear cu;clear hr_vi;refine⟨⟨f,j,trivial⟩,?_⟩;refine yI (Yk.assign rfl ?_);refine⟨⟨f,j,trivial⟩,?_⟩;refine yD rfl (Aak (ek:=rk) (ev:=BD) (D:=(fun id:List UInt8=>id.length=32)) (c:=((c))) Cm Cn K3 a4 (vr (AB (BU t i)) rfl) (vr (.agg (entC ((c))).toArray) rfl) hb49l h32 fun ea cw bs gd=> ?_);have af:=MapF.other af bs (Ak (by omega));clear hb49l;have ge:ae<ea.heap.size:=cw.lt;have hE:=Ab hE bs (AcN cg (by omega));have br:=OG.kept br bs cv;refine gS (Zw (xv:=NI i) (yv:=NI 1) ac rfl rfl (Ag _ _ _ (by omega)) (gK (Adr ⟨i+1,DT (fun x:Aj=>x.1.pos) t i s c,be,T0,T1,T4,T5,T6,a4,aq,ar,aj,bi,rfl,rfl,hE,Bc br (rfl),Cb af (rfl),Cb cw (rfl),hst,by omega,d9,cv,trivial⟩ ?_)));show es.length-(intOf (NI ((i)+(1)))).toNat<es.length-(intOf (ci 33)).toNat;rw[q33];simp only[intOf,Ac0];omega
  by_cases hlt:Adj (s.ids.getD (i-1) []) (BU t i)<0
  ·have hO:Ds (fun x:Aj=>x.1.pos) t i s=some (DT (fun x:Aj=>x.1.pos) t i s c):=by unfold Ds;rw[hG];exact if_pos (.inr hlt)
   rw[hO]at hst;have o:=o.keep ak;have g:=g.trans p;have g:=Ab g q (AcN (AcP _) (by omega));refine gS (Z1 (xs:=t.drop ((36)*(i))) (l:=32) Gj Qq rfl (o.keep g) rfl (by simp only[Ac5];omega) fun ec ed ha192=>(gS (ZA F4 rfl (((show Calls _ _ _ _ (fun e w2=>e = .returned (NI (ER t i))∧Ext _ w2)from DX _ ec ((t.drop ((36)*(i)):List UInt8).drop (32)) ed (by simp only[Ac5];omega))).mono ?_))));rintro e ee ⟨rfl,ay⟩;refine⟨_,rfl,?_⟩;have hE:=hE.trans p;have hE:=Ab hE q (AcN bb (by omega));have hE:=hE.trans ay;have hb6ll:=hb6ll.keep ay;refine gS (Aab (ek:=NI) (ev:=BD) (D:=(fun _:Nat=>True)) Gp Gq (fun _ _=>Hj) DP (z:=BD dEnt) Dh T6 rfl hb6ll trivial hG (gS (Yk.extract (vs:= [.agg (entC (c)).toArray, .bool (true)]) rfl rfl (gS (Yk.extract (vs:= [.agg (entC (c)).toArray, .bool (true)]) rfl rfl (gS (Yk.alloc HT fun bt ef cx cy a8 gf=> ?_)))))));have ad:=Ext.refl ee;have g:=g.trans ay;have gg:=hE.size;have eg:=g.size;have gh:=As hb6ll.lt cx;have hb49l:=hb49l.keep ay;have gi:=As hb49l.lt cx;have hr_vi:=hr_vi.keep p;have hr_vi:=OG.kept hr_vi q a5;have hr_vi:=hr_vi.keep ay;have cz:OB vi bt:=A3 hr_vi.2 (by omega);have n:=cy;clear cy;have gj:bt<ef.heap.size:=by omega
   refine gS (Zy (vr (PQ bt 0) rfl) (vr (.agg (entC (c)).toArray) rfl) n (Bx (x:=((c):Aj)) (y:=(dEnt:Aj)) hcl.2 (by simp[dEnt])) (Bk (x:=((c):Aj)) EI hcl.2) (Bz (x:=((c):Aj)) (RB.one hcl.1).2) fun gk c0 a9 gl=> ?_);have hb6ll:=hb6ll.keep a8;have hb6ll:=MapF.other hb6ll a9 (Ak (by omega));have hb49l:=hb49l.keep a8;have hb49l:=MapF.other hb49l a9 (Ak (by omega));clear n;have n:=c0;clear c0;have gm:=bl n;refine CD [0,1,2,3,4,5,6,7,8,9,10,11,12,13,14,15] [11,15] [] fun gn bu=>(ys (Zv (a:=(i:Nat)) (b:=(0:Nat)) ac rfl (AF _ _ _ _) zz) (kF (h0) (ys (Zw (xv:=NI i) (yv:=NI 1) ac rfl rfl (BN _ _ _ (by omega) (by omega)) zz) ?_)));have hr_vi:=hr_vi.keep a8;have hr_vi:=OG.kept hr_vi a9 cz;have hr_vi:=hr_vi.keep bu;have c1:(AcL ((s.ids).getD ((i)-(1)) ([]:List UInt8))).length=32:=(RG.elem (ZG hr_vi) ([]:List UInt8) (by omega));have ad:=ad.trans a8;have ad:=Ab ad a9 (AcN (AcP _) (by omega));have ad:=ad.trans bu;have f:=eb (ay.trans ad) f;refine yA (ZO NB Sj (by decide) ([]:List UInt8) (ZC (ZG hr_vi) T9) rfl (by omega) fun go az=>(ys (ZS (ZT az rfl) Wq rfl (by rw[c1];exact R4) zz) (ys (Zz rfl f Wq rfl (by exact Ac h32) zz) (yC (Zx Sl rfl rfl ((G3 _ ((s.ids).getD ((i)-(1)) ([]:List UInt8)) (BU t i) ((AD (c1))) (h32)).mono ?_))))));rintro e gp ⟨rfl,bv⟩;refine⟨_,rfl,?_⟩;have az:=PR.keep az bv;refine ys (Zv rfl rfl (FV _ .i64 (Adj ((s.ids).getD ((i)-(1)) ([]:List UInt8)) (BU t i):Int) ((0:Nat):Int)) zz) (kT (hlt) (ys (ZH rfl rfl zz) (ys (ZE rfl rfl zz) (Wp (ZN F2 rfl rfl ?_)))));refine Ar (AW _ (true) 6) ?_ ?_;rotate_left
   ·rintro ch gq ⟨rfl,hb,hx⟩;refine Au ?_;cases hb
   rintro v_ gr ⟨rfl,gs,bw⟩;have az:=PR.keep az bw;clear az;have hZ3:=(bu.trans bv).trans bw;have hb6ll:=hb6ll.keep hZ3;have n:=eb hZ3 n;refine gS (Yk.fieldAt Gr rfl (gS (Zu Uo rfl rfl (cellAt n ((show(entC ((c)))[0]? =some (NI (((c)).1.pos):AcJ)from rfl))) ?_)));have hZ4:=bv.trans bw;have ad:=ad.trans hZ4;have hE:=hE.trans ad;have g:=g.trans a8;have g:=Ab g a9 (AcN eg (by omega));have g:=g.trans hZ3;refine gS (Abc (ek:=NI) (ev:=BD) (D:=(fun _:Nat=>True)) Gp Gq (fun _ _=>Hj) DP T6 rfl hb6ll trivial fun eh ah ba gt=> ?_);have hb49l:=hb49l.keep hZ3;have hb49l:=MapF.other hb49l ba (Ak (by omega));clear hb6ll;have gu:u<eh.heap.size:=ah.lt;refine D6 [0,1,2,3,6,4,5,7,8] [4,5,7,8] [] [1,6] fun gv bx=> ?_;have f:=eb hZ4 f;have f:=kb ba f (by omega);have f:=eb bx f;have n:=kb ba n (by omega);have n:=eb bx n;refine Zb f n ?_;refine yf (fun _ ⟨f,_,_⟩=>Zz rfl f Wq rfl (by exact Ac h32) zz) (ys (Zz rfl f Wq rfl (by exact Ac h32) zz) (yf (fun _ ⟨_,n,_⟩=>Zz rfl n (KZ).choose_spec rfl (Bk (x:=((c):Aj)) EI hcl.2) zz) (yI (Z2 (a:=(BU t i)) (enc:=AcL) (vr (AB (BU t i)) rfl) (by rw[AcZ];exact h32) Mi fun ei ej c2 bz=> ?_))));have hr_vi:=hr_vi.keep hZ4;have hr_vi:=OG.kept hr_vi ba hap_vi_n3;have hZ5:=bx.trans bz;have hr_vi:=hr_vi.keep hZ5;have hE:=Ab hE ba (AcN (AcP _) (by omega));have hE:=hE.trans hZ5;have f:=eb bz f;have n:=eb bz n;refine⟨⟨f,n,trivial⟩,?_⟩;refine yI (ZM _ _ w.heap.size _ 32 NB pk6_ig33.choose_spec.1 pk6_ig33.choose_spec.2 NB (s.ids) ([(BU t i)]) (OG.of hr_vi T9) (ZC c2 (vr ei rfl)) (fun _ _=>Af _) (by simp only[Adh,Adp];omega) (by simp only[Adh,Adp];omega) hE.size fun bf el b0 ai=> ?_);have ai:Grew ej el vi bf:= .eqv T9 ai;have ah:=ah.keep hZ5;have em:OB bf u:=An ai hap_vi_n3 ah.lt;have hb49l:=hb49l.keep hZ5;have c3:OB bf ae:=An ai hap_vi_n46 hb49l.lt;have hE:=Aq hE ai hr_vi.2 (AcP _);have hb49l:=MapF.grew hb49l ai hap_vi_n46;have f:=Ao f ai a5;have n:=Ao n ai cz;have ah:=MapF.grew ah ai hap_vi_n3;clear c2;clear hr_vi;refine⟨⟨f,n,trivial⟩,?_⟩;refine yI (Yk.assign rfl ?_);refine⟨⟨f,n,trivial⟩,?_⟩;refine yD rfl (Aak (ek:=rk) (ev:=BD) (D:=(fun id:List UInt8=>id.length=32)) (c:=((c))) Cm Cn K3 a4 (vr (AB (BU t i)) rfl) (vr (.agg (entC ((c))).toArray) rfl) hb49l h32 fun en c4 b1 gw=> ?_);have ah:=MapF.other ah b1 (Ak (by omega));clear hb49l;have gx:ae<en.heap.size:=c4.lt;have hE:=Ab hE b1 (AcN cg (by omega));have b0:=OG.kept b0 b1 c3;refine gS (Zw (xv:=NI i) (yv:=NI 1) ac rfl rfl (Ag _ _ _ (by omega)) (gK (Adr ⟨i+1,DT (fun x:Aj=>x.1.pos) t i s c,bf,T0,T1,T4,T5,T6,a4,aq,ar,aj,bi,rfl,rfl,hE,Bc b0 (rfl),Cb ah (rfl),Cb c4 (rfl),hst,by omega,em,c3,trivial⟩ ?_)));show es.length-(intOf (NI ((i)+(1)))).toNat<es.length-(intOf (ci 33)).toNat;rw[q33];simp only[intOf,Ac0];omega
  have hO:Ds (fun x:Aj=>x.1.pos) t i s=none:=by unfold Ds;rw[hG];exact if_neg (fun h=>h.elim h0 hlt)
  have o:=o.keep ak;have g:=g.trans p;have g:=Ab g q (AcN (AcP _) (by omega));refine gS (Z1 (xs:=t.drop ((36)*(i))) (l:=32) Gj Qq rfl (o.keep g) rfl (by simp only[Ac5];omega) fun eo ep ha258=>(gS (ZA F4 rfl (((show Calls _ _ _ _ (fun e w2=>e = .returned (NI (ER t i))∧Ext _ w2)from DX _ eo ((t.drop ((36)*(i)):List UInt8).drop (32)) ep (by simp only[Ac5];omega))).mono ?_))));rintro e eq ⟨rfl,a0⟩;refine⟨_,rfl,?_⟩;have hE:=hE.trans p;have hE:=Ab hE q (AcN bb (by omega));have hE:=hE.trans a0;have hb6ll:=hb6ll.keep a0;refine gS (Aab (ek:=NI) (ev:=BD) (D:=(fun _:Nat=>True)) Gp Gq (fun _ _=>Hj) DP (z:=BD dEnt) Dh T6 rfl hb6ll trivial hG (gS (Yk.extract (vs:= [.agg (entC (c)).toArray, .bool (true)]) rfl rfl (gS (Yk.extract (vs:= [.agg (entC (c)).toArray, .bool (true)]) rfl rfl (gS (Yk.alloc HT fun c5 er c6 c7 b2 gy=> ?_)))))));have ab:=Ext.refl eq;have g:=g.trans a0;have gz:=hE.size;have g0:=g.size;have g1:=As hb6ll.lt c6;have hb49l:=hb49l.keep a0;have g2:=As hb49l.lt c6;have bg:=c7;clear c7;have g3:c5<er.heap.size:=by omega
  refine gS (Zy (vr (PQ c5 0) rfl) (vr (.agg (entC (c)).toArray) rfl) bg (Bx (x:=((c):Aj)) (y:=(dEnt:Aj)) hcl.2 (by simp[dEnt])) (Bk (x:=((c):Aj)) EI hcl.2) (Bz (x:=((c):Aj)) (RB.one hcl.1).2) fun g4 c8 b3 g5=> ?_);have hb6ll:=hb6ll.keep b2;have hb6ll:=MapF.other hb6ll b3 (Ak (by omega));have hb49l:=hb49l.keep b2;have hb49l:=MapF.other hb49l b3 (Ak (by omega));clear bg;have bg:=c8;clear c8;have g6:=bl bg;refine CD [0,1,2,3,4,5,6,7,8,9,10,11,12,13,14,15] [11,15] [] fun g7 et=>(ys (Zv (a:=(i:Nat)) (b:=(0:Nat)) ac rfl (AF _ _ _ _) zz) (kF (h0) (ys (Zw (xv:=NI i) (yv:=NI 1) ac rfl rfl (BN _ _ _ (by omega) (by omega)) zz) ?_)));have hr_vi:=hr_vi.keep p;have hr_vi:=OG.kept hr_vi q a5;have ab:=ab.trans b2;have ab:=Ab ab b3 (AcN (AcP _) (by omega));have ab:=ab.trans et;have hr_vi:=hr_vi.keep (a0.trans ab);have c9:(AcL ((s.ids).getD ((i)-(1)) ([]:List UInt8))).length=32:=(RG.elem (ZG hr_vi) ([]:List UInt8) (by omega));have f:=eb (a0.trans ab) f;refine yA (ZO NB Sj (by decide) ([]:List UInt8) (ZC (ZG hr_vi) T9) rfl (by omega) fun g8 b4=>(ys (ZS (ZT b4 rfl) Wq rfl (by rw[c9];exact R4) zz) (ys (Zz rfl f Wq rfl (by exact Ac h32) zz) (yC (Zx Sl rfl rfl ((G3 _ ((s.ids).getD ((i)-(1)) ([]:List UInt8)) (BU t i) ((AD (c9))) (h32)).mono ?_))))));rintro e g9 ⟨rfl,da⟩;refine⟨_,rfl,?_⟩;have b4:=PR.keep b4 da;refine ys (Zv rfl rfl (FV _ .i64 (Adj ((s.ids).getD ((i)-(1)) ([]:List UInt8)) (BU t i):Int) ((0:Nat):Int)) zz) (kF (hlt) (ys (ZH rfl rfl zz) (ys (ZE rfl rfl zz) (Wp (ZN F2 rfl rfl ?_)))));refine Ar (AW _ (false) 6) ?_ ?_;rotate_left
  ·rintro ch ha ⟨rfl,hb,hx⟩;refine Au ?_;rw[hO]at hst;have a6:=E0 hst (es.length-(i+1));rw[show i+1+(es.length-(i+1))=es.length by omega]at a6;have ab:=ab.trans da;have hE:=hE.trans ab;exact .inr ⟨_,rfl,a6,rfl,hE.trans hx⟩
  rintro v_ hc ⟨rfl,eu,hd⟩;cases eu
 have hie1:i=es.length:=by omega
 refine BF rfl T9 a4 ?_;exact .inl ⟨_,rfl,s,_,_,by rw[←hie1];exact hs,rfl,ZG hr_vi,hb49l,(fun k hk=>(hr_vi.2.lt k hk).1),hE⟩
theorem AaP{P:Adg}{K:AcJ→AcK→Prop}{ρ:Ad}{w:AcK}{d:Option Tmp}{ty:AcR}{pos:String}{af:Array AdL}{gd:Option (Nat × Bool)}{α β:Type}{ek:α→AcJ}{ev:β→AcJ}{D:α→Prop}{b:Nat}{G:α→Option β}{t Kt E:AcR}{OK:AcJ→Prop} 
    (L:KL P Kt OK) (hD:∀a,D a→OK (ek a)) (hi:∀a c,ek a=ek c→a=c) (ht:P.underlying t=some (.map Kt E)) {df:β} (hz:∀u:AcK,(zeroValue E).run P u = .ok (ev df) u) {x y:AcW} {a:α}
    (hm:Aa ρ x = .map (some b)) (hy:Aa ρ y=ek a) (h:MapF ek ev D w b G) (ha:D a) (hk:K (ev ((G a).getD df)) w):Yk P K ((execOp (Aa ρ) ⟨d, .lookup t x y false,ty,pos,af,gd⟩).run P w):=
  Aa3 L hD hi ht hz hm hy h ha (by cases e:G a <;> rw[e]at hk <;> exact hk)
def NS(w:AcK)(x:Aj):Prop:=RB w x.2 x.1.bytes∧x.1.base.length=32∧x.1.bytes.length≤1048576
def MOk(w:AcK)(M:Bs→Option Aj):Prop:=∀k c,M k=some c→NS w c
theorem MOk.keep{w w' :AcK}{M:Bs→Option Aj}(h:MOk w M)(k:Ext w w'):MOk w' M:=fun a c hc=>⟨(h a c hc).1.keep k,(h a c hc).2⟩
theorem MOk.get{w:AcK}{M:Bs→Option Aj}(h:MOk w M)(k:Bs):NS w ((M k).getD dEnt):=by
  cases e:M k with
  | none=>exact⟨RB.nil w,by simp[dEnt],by simp[dEnt]⟩
  | some c=>exact h k c e
def AG(M:Bs→Option Aj)(k:Bs):Ent:=((M k).getD dEnt).1
section
variable (E : Bs → Ent)
def Ba:Nat→Ent→Option Nat
  | 0,e=>if e.based then none else some 0
  | n+1,e=>if e.based then(Ba n (E e.base)).map (· + 1)else some 0
def BP:Nat→Bs→Option (Bs × Nat)
  | 0,_=>none
  | n+1,id=>
    if(E id).based then(BP n (E id).base).bind fun x=>if(A9 x.1 (E id).bytes).2=0 then(if(A9 x.1 (E id).bytes).1.length≤262144 then some ((A9 x.1 (E id).bytes).1,x.2+1)else none)else none
    else if(E id).bytes.length≤262144 then some ((E id).bytes,0)else none
variable {E}
theorem Eg{n:Nat}{e:Ent}(h:e.based=false):Ba E n e=some 0:=by
  cases n <;> (unfold Ba;rw[h];rfl)
theorem Fb{e:Ent}(h:e.based=true):Ba E 0 e=none:=by unfold Ba;rw[h];rfl
theorem DJ{n:Nat}{e:Ent}(h:e.based=true):Ba E (n+1) e=(Ba E n (E e.base)).map (· + 1):=by
  show(if e.based=true then _ else _)=_;rw[if_pos h]
theorem QT{n c:Nat}{e:Ent}(h:e.based=true):(Ba E (n+1) e).map (· + c)=(Ba E n (E e.base)).map (· + (c+1)):=by
  rw[DJ h];cases Ba E n (E e.base)with
  | none=>rfl
  | some d=>show some (d+1+c)=some (d+(c+1));rw[Ae2,AgB 1 c]
theorem Gs:∀(n m:Nat) (e:Ent) (d:Nat),Ba E n e=some d→d≤m→Ba E m e=some d
  | n,m,e,d,h,hm=>by
    cases hb:e.based with
    | false=>rw[Eg hb]at h ⊢;exact h
    | true=>
      cases n with
      | zero=>rw[Fb hb]at h;cases h
      | succ n=>
        rw[DJ hb]at h;cases h1:Ba E n (E e.base)with
        | none=>rw[h1]at h;cases h
        | some d1=>
          rw[h1]at h;cases h;cases m with
          | zero=>simp at hm
          | succ m=>rw[DJ hb,Gs n m _ d1 h1 (by simpa using hm)];rfl
end
theorem IQ:AV AcM 212 0 0:=fun b o w=>by simp[go_sem]
theorem QU(w:AcK)(gm be bm:Nat)(M:Bs→Option Aj)(hmk:w.heap[gm]? =some (.cells ([.map (some be), .map (some bm)]).toArray 212 (0,0)))(hme:MapF rk BD (fun id:List UInt8=>id.length=32) w be M)(hMO:MOk w M)(id:Bs)(hid:id.length=32):
  Calls AcM 133 #[PQ gm 0,AB id] w fun r w' =>(∃x,r = .returned x∧∃d,Ba (AG M) 50 (AG M id)=some d∧x=NI d∧Ext w w')∨∃ch,r = .panicked ch∧Ba (AG M) 50 (AG M id)=none∧ch= [CV 17]∧Ext w w' :=by
 refine gG (args:= [PQ gm 0,AB id]) Tryz.func133 rfl 29 rfl rfl ?_;have hE:=Ext.refl w;refine gS (Yk.box (vr (AB id) rfl) fun s w3 ab ac an a3=> ?_);have a4:=As hme.lt ab;have e:=ac;clear ac;have a5:s<w3.heap.size:=by omega
 refine D6 [0,1,2,3,4,5,6,7] [6,7] [1,2] [3,4,5] fun ao ad=> ?_;have hZ1:=an.trans ad;have hE:=hE.trans hZ1;have ap:=hE.size;have k:=Ext.refl ao;have a6:=As (bl hmk) ab;have hmk:=eb hZ1 hmk;have hme:=hme.keep hZ1;have e:=eb ad e;refine DM k ?_;refine yp (Yk.nilCheck rfl zz) (yp (Yk.fieldAt IQ rfl zz) (yf (fun _ ⟨hZ,_⟩=>Zu K3 rfl rfl (cellAt (eb hZ hmk) rfl) zz) (yf (fun _ ⟨hZ,_⟩=>Zz rfl (eb hZ e) Wq rfl (by exact Ac hid) zz) (yf (fun _ ⟨hZ,_⟩=>AaP (ek:=rk) (ev:=BD) (D:=(fun id:List UInt8=>id.length=32)) (df:=dEnt) Cm Cn (fun _ _=>Cg) K3 Dh rfl rfl (hme.keep hZ) hid zz) (yE (Yk.alloc HT fun t aq u ae i a7=> ?_))))));have a8:=As hme.lt u;have h:=ae;clear ae;have a9:t<aq.heap.size:=by omega
 have k:=k.trans i;refine⟨k,?_⟩;refine yD rfl (Zy (vr (PQ t 0) rfl) (vr (.agg (entC ((M (id)).getD dEnt)).toArray) rfl) h (Bx (x:=(((M (id)).getD dEnt):Aj)) (y:=(dEnt:Aj)) (hMO.get (id)).2.1 (by simp[dEnt])) (Bk (x:=(((M (id)).getD dEnt):Aj)) EI (hMO.get (id)).2.1) (Bz (x:=(((M (id)).getD dEnt):Aj)) (RB.one (hMO.get (id)).1).2) fun ba af l bb=> ?_);have hme:=hme.keep i;have hme:=MapF.other hme l (Ak (by omega));clear h;have h:=af;clear af;have bc:=bl h;have bd:=As (bl hmk) u;have hmk:=eb i hmk;have hmk:=kb l hmk (by omega);have bf:=As (bl e) u;have e:=eb i e;have e:=kb l e (by omega);have hE:=hE.trans i;have hE:=Ab hE l (AcN ap (by omega));refine gL (fun(ρ:Ad) (wz:AcK)=>∃c:Nat,∃x:Aj,∃q:Nat,ρ 0=(PQ gm 0:AcJ)∧ρ 1=(AB id:AcJ)∧ρ 3=(PQ s 0:AcJ)∧ρ 4=(NI 0:AcJ)∧ρ 5=(NI c:AcJ)∧ρ 6=(PQ q 0:AcJ)∧wz.heap[gm]? =some (.cells ([.map (some be), .map (some bm)]).toArray 212 (0,0))∧MapF rk BD (fun id:List UInt8=>id.length=32) wz be M∧Ext w wz∧wz.heap[s]? =some (.cells (AcL id).toArray 33 (0,0))∧wz.heap[q]? =some (.cells (entC (x)).toArray 208 (0,0))∧(c≤50)∧(Ba (AG M) 50 (AG M id)=(Ba (AG M) (50-c) x.1).map (· + c))∧(NS w x)∧(w.heap.size≤q)∧True) (fun ρ _=>51-(intOf (ρ 5)).toNat) ⟨0,(M id).getD dEnt,t,rfl,rfl,rfl,rfl,rfl,rfl,hmk,hme,hE,e,h,Adm _,by simp[AG],hMO.get id,by omega,trivial⟩ ?_;clear h;clear hmk hme hE e;rintro ar bg ⟨c,x,q,T0,T1,T3,T4,v,T6,hmk,hme,hE,e,hbq,hc,hd,hxo,hqw,-⟩;have q5:=v;refine gS (Yk.fieldAt Gn T6 (gS (Zu Ka rfl rfl (cellAt hbq ((show(entC (x))[1]? =some (.bool ((x).1.based):AcJ)from rfl))) ?_)));refine cB ((x).1.based) rfl (fun m=> ?_) fun m=> ?_
 ·have ax:x.1.based=true:=m;refine gS (Zw (xv:=NI c) (yv:=NI 1) v rfl rfl (Ag _ _ _ (by omega)) (gS (Zv (a:=((c)+(1):Nat)) (b:=(50:Nat)) rfl rfl (DD _ _ _ _) (gP (ZN F2 rfl rfl ?_)))));refine Ar (AW _ (decide (((c)+(1))≤(50))) 17) ?_ ?_;rotate_left
  ·rintro ch bh ⟨rfl,hb,hx⟩;refine Au ?_;have hno:=of_decide_eq_false hb;refine .inr ⟨_,rfl,?_,rfl,hE.trans hx⟩;rw[hd,show 50-c=0 by omega,Fb m];rfl
  rintro v_ ay ⟨rfl,az,j⟩;have bi:=of_decide_eq_true az;have hbq:=eb j hbq;refine gS (Zz T6 hbq (KZ).choose_spec rfl (Bk (x:=(x:Aj)) EI hxo.2.1) (gS (Yk.alloc HT fun n a0 a1 ai z bj=> ?_)));have g:=Ext.refl ay;have hE:=hE.trans j;have aj:=hE.size;have hme:=hme.keep j;have bk:=As hme.lt a1;have f:=ai;clear ai;have bn:n<a0.heap.size:=by omega
  refine gS (Zy (vr (PQ n 0) rfl) (vr (.agg (entC (x)).toArray) rfl) f (Bx (x:=((x):Aj)) (y:=(dEnt:Aj)) hxo.2.1 (by simp[dEnt])) (Bk (x:=((x):Aj)) EI hxo.2.1) (Bz (x:=((x):Aj)) (RB.one hxo.1).2) fun bo ak aa bp=> ?_);have hme:=hme.keep z;have hme:=MapF.other hme aa (Ak (by omega));clear f;have f:=ak;clear ak;have bq:=bl f;refine CD [0,1,2,3,4,5,6,7] [7] [] fun br o=> ?_;have g:=g.trans z;have g:=Ab g aa (AcN (AcP _) (by omega));have g:=g.trans o;have hmk:=eb (j.trans g) hmk;have hme:=hme.keep o;have f:=eb o f;refine ys (Yk.nilCheck T0 zz) (ys (Yk.fieldAt IQ rfl zz) (ys (Zu K3 rfl rfl (cellAt hmk rfl) zz) (ys (Yk.fieldAt NR rfl zz) (ys (Z0 rfl (Ev (x:=((x):Aj)) f) Wq rfl (by rw[AcZ,hxo.2.1];exact R4) zz) (ys (AaP (ek:=rk) (ev:=BD) (D:=(fun id:List UInt8=>id.length=32)) (df:=dEnt) Cm Cn (fun _ _=>Cg) K3 Dh rfl rfl hme hxo.2.1 zz) (yC (Zy (vr (PQ n 0) rfl) (vr (.agg (entC ((M (((x)).1.base)).getD dEnt)).toArray) rfl) f (Bx (x:=(((M (((x)).1.base)).getD dEnt):Aj)) (y:=((x):Aj)) (hMO.get (((x)).1.base)).2.1 hxo.2.1) (Bk (x:=(((M (((x)).1.base)).getD dEnt):Aj)) EI (hMO.get (((x)).1.base)).2.1) (Bz (x:=(((M (((x)).1.base)).getD dEnt):Aj)) (RB.one (hMO.get (((x)).1.base)).1).2) fun bs al p bt=> ?_)))))));have hme:=MapF.other hme p (Ak (by omega));clear f;have f:=al;clear al;have bu:=bl f;have g:=Ab g p (AcN (AcP _) (by omega));have e:=eb (j.trans g) e;have hE:=hE.trans z;have hE:=Ab hE aa (AcN aj (by omega));have hE:=hE.trans o;have hE:=Ab hE p (AcN aj (by omega));have hmk:=kb p hmk (by omega);refine gK (Adr ⟨c+1,(M x.1.base).getD dEnt,n,T0,T1,T3,T4,rfl,rfl,hmk,hme,hE,e,f,by omega,hd.trans (by rw[show 50-c=(50-(c+1))+1 by omega];exact QT ax),hMO.get _,by omega,trivial⟩ ?_);show 51-(intOf (NI ((c)+(1)))).toNat<51-(intOf (ar 5)).toNat;rw[q5];simp only[intOf,Ac0];omega
 have a2:x.1.based=false:=by simpa using m
 refine Bb rfl v ?_;exact .inl ⟨_,rfl,c,by rw[hd,Eg a2];exact congrArg some (Ad4 c),rfl,hE⟩
abbrev Co:=(Bs × Nat)× AcJ
abbrev Ck(x:Co):AcJ:= .agg ([x.2,NI x.1.2]).toArray
def LD:Co:=(([],0), .slice none 0 0)
theorem Hk:∀u:AcK,(zeroValue 215).run AcM u = .ok (Ck LD) u:=fun _=>by kernel_rfl
theorem Cv{v:AcJ}{n:Nat}(h:v.oneCell' =true):∀u∈([v,NI n]).toArray.toList,u.oneCell' =true:=by
  intro u hu;simp only[Adz,Aeu,or_false]at hu;rcases hu with rfl | rfl
  · exact h
  · rfl
def IsMapB(w:AcK)(b:Nat):Prop:=∃es c,w.heap[b]? =some (.map es c)
theorem Aat{α β:Type}{ek:α→AcJ}{ev:β→AcJ}{D:α→Prop}{w:AcK}{b:Nat}{G:α→Option β}(h:MapF ek ev D w b G):IsMapB w b:=by
  obtain⟨es,c,h,-⟩:=h;exact⟨_,c,h⟩
def Eh(w:AcK)(b:Nat):Prop:=∀j x,w.cell? ⟨b,j,none⟩≠some (B8 x)
theorem IsMapB.noB8{w:AcK}{b:Nat}(h:IsMapB w b):Eh w b:=fun j x hc=>by
  obtain⟨es,c,hm⟩:=h;unfold Afc at hc;rw[hm]at hc;simp at hc
theorem Kb{w:AcK}{g k:Nat}{v:AcJ}{T:AcR}{fr:Nat × Nat}(hb:w.heap[g]? =some (.cells ([v,NI k]).toArray T fr))(hv:∃ao n c,v = .slice ao n c):Eh w g:=fun j x hc=>by
  obtain⟨ao,n,c,rfl⟩:=hv;unfold Afc at hc;rw[hb]at hc
  match j,hc with
  | 0,hc=>simp at hc
  | 1,hc=>simp at hc
  | j+2,hc=>simp at hc
theorem RB.keepN{w w' :AcK}{b:Nat}{v:AcJ}{l:List UInt8}(h:RB w v l)(hm:Eh w b)(hg:w.grownBy w' (some b)):RB w' v l:=by
  by_cases hv:v.ownBlock=some b
  · obtain⟨h1,ao,cap,rfl,h2,h3,h4,h5⟩:=h;refine⟨h1,ao,cap,rfl,h2,h3,h4,fun a ha j u hu=> ?_⟩;subst ha;exfalso;have hb:a.block=b:=by injection hv
    have hc:=h5 a rfl j u hu;have hj:j<l.length:=by have:=(Adc.1 hu).1;rwa [AcZ]at this
    rw[Jk hj]at hu;cases hu;have hsp:=AfC hc;obtain⟨ab,ao,asp⟩:=a;have e:({ block:=ab,off:=ao,spot:=asp } :Addr).add j=⟨b,(({ block:=ab,off:=ao,spot:=asp } :Addr).add j).off,none⟩:=by
      have h1:(({ block:=ab,off:=ao,spot:=asp } :Addr).add j).block=b:=by rw[←hb];unfold AeO;split <;> rfl
      generalize ({ block:=ab,off:=ao,spot:=asp } :Addr).add j=q at h1 hsp ⊢
      obtain⟨q1,q2,q3⟩:=q;simp only at h1 hsp;rw[h1,hsp]
    rw[e]at hc;exact hm _ _ hc
  · exact h.kept hg (.inr hv)
theorem MOk.keepN{w w' :AcK}{b:Nat}{M:Bs→Option Aj}(h:MOk w M)(hm:Eh w b)(hg:w.grownBy w' (some b)):MOk w' M:=fun a c hc=>⟨(h a c hc).1.keepN hm hg,(h a c hc).2⟩
theorem BX.keep{w0 w w' :AcK}{r:Option Nat}(h:BX w0.heap.size r w0 w)(k:Ext w w'):BX w0.heap.size r w0 w' :=h.trans (Z5 k h.size)
theorem BX.set{w0 w w' :AcK}{r:Option Nat}{g:Nat}(h:BX w0.heap.size r w0 w)(hg:w.grownBy w' (some g))(hn:w0.heap.size≤g):BX w0.heap.size r w0 w' :=h.trans (Z6 hg h.size (fun k hk=>by cases hk;exact .inr hn))
theorem BX.put{w0 w w' :AcK}{b:Nat}(h:BX w0.heap.size (some b) w0 w)(hg:w.grownBy w' (some b)):BX w0.heap.size (some b) w0 w' :=h.trans (Z6 hg h.size (fun k hk=> .inl hk))
def HOk(w:AcK)(M:Bs→Option Aj)(H:Bs→Option Co):Prop:=∀id x,H id=some x→RB w x.2 x.1.1∧∃n d,Ba (AG M) n (AG M id)=some d∧BP (AG M) (d+1) id=some x.1
theorem HOk.keep{w w' :AcK}{M:Bs→Option Aj}{H:Bs→Option Co}(h:HOk w M H)(k:Ext w w'):HOk w' M H:=fun a c hc=>⟨(h a c hc).1.keep k,(h a c hc).2⟩
theorem HOk.keepN{w w' :AcK}{b:Nat}{M:Bs→Option Aj}{H:Bs→Option Co}(h:HOk w M H)(hm:Eh w b)(hg:w.grownBy w' (some b)):HOk w' M H:=fun a c hc=>⟨(h a c hc).1.keepN hm hg,(h a c hc).2⟩
theorem HOk.nil{w:AcK}{M:Bs→Option Aj}:HOk w M (fun _=>none):=fun _ _ h=>by cases h
theorem HOk.put{w:AcK}{M:Bs→Option Aj}{H:Bs→Option Co}(h:HOk w M H){id:Bs}{x:Co}(h1:RB w x.2 x.1.1){n d:Nat}(h2:Ba (AG M) n (AG M id)=some d)(h3:BP (AG M) (d+1) id=some x.1):HOk w M (updM H id (some x)):=fun a c hc=>by
  unfold updM at hc;split at hc
  · rename_i e
    cases hc;subst e;exact⟨h1,n,d,h2,h3⟩
  · exact h a c hc
section
variable {E : Bs → Ent}
theorem NT{n m:Nat}{e:Ent}{d d' :Nat}(h:Ba E n e=some d)(h' :Ba E m e=some d'):d=d' :=by
  have h1:=Gs n (max d d') e d h (Nat.le_max_left _ _);have h2:=Gs m (max d d') e d' h' (Nat.le_max_right _ _);rw[h1]at h2;cases h2;rfl
theorem NU{n:Nat}{e:Ent}{d:Nat}(hb:e.based=true)(h:Ba E n e=some d):∃n' d',d=d' +1∧Ba E n' (E e.base)=some d' :=by
  cases n with
  | zero=>rw[Fb hb]at h;cases h
  | succ n=>
    rw[DJ hb]at h;cases h1:Ba E n (E e.base)with
    | none=>rw[h1]at h;cases h
    | some d1=>rw[h1]at h;cases h;exact⟨n,d1,rfl,h1⟩
theorem FN{n:Nat}{id:Bs}(hb:(E id).based=true):BP E (n+1) id=(BP E n (E id).base).bind fun x=>if(A9 x.1 (E id).bytes).2=0 then(if(A9 x.1 (E id).bytes).1.length≤262144 then some ((A9 x.1 (E id).bytes).1,x.2+1)else none)else none:=by
  show(if _=true then _ else _)=_;rw[if_pos hb]
theorem Gt{n:Nat}{id:Bs}(hb:(E id).based=false):BP E (n+1) id=if(E id).bytes.length≤262144 then some ((E id).bytes,0)else none:=by
  show(if _=true then _ else _)=_;rw[if_neg (by rw[hb];decide)]
theorem HU:∀ {n:Nat} {id:Bs} {b:Bs} {k:Nat},BP E n id=some (b,k)→b.length≤262144∧k<n
  | 0,_,_,_,h=>by cases h
  | n+1,id,b,k,h=>by
    cases hb:(E id).based with
    | false=>
      rw[Gt hb]at h;split at h
      · cases h;exact⟨‹_›,Nat.succ_pos _⟩
      · cases h
    | true=>
      rw[FN hb]at h;cases h1:BP E n (E id).base with
      | none=>rw[h1]at h;cases h
      | some x=>
        rw[h1]at h;have h2:(if(A9 x.1 (E id).bytes).2=0 then(if(A9 x.1 (E id).bytes).1.length≤262144 then some ((A9 x.1 (E id).bytes).1,x.2+1)else none)else none)=some (b,k):=h;split at h2
        · split at h2
          · cases h2;have:=HU (b:=x.1) (k:=x.2) h1;exact⟨‹_›,by omega⟩
          · cases h2
        · cases h2
end
theorem Bo:(Tryz.prog.info? 215).map (·.size)=some 2:=by kernel_rfl
theorem DQ{d:Option Tmp}{ty:AcR}{pos:String}{af:Array AdL}{gd:Option (Nat × Bool)}(σ:AcW→AcJ)(w:AcK):(execOp σ ⟨d, .alloc 215,ty,pos,af,gd⟩).run AcM w = .ok (.value (PQ w.heap.size 0)) (w.alloc (.cells ([(AcU none 0 0),NI 0]).toArray 215)):=by kernel_rfl
theorem Ei:AV AcM 212 1 1:=fun b o w=>by simp[go_sem]
theorem CN:Tryz.prog.underlying 161=some (.map 33 215):=by kernel_rfl
theorem Ik{z0:AcJ}(h0:∃ao n c,z0 = .slice ao n c)(w:AcK):(AeH 215 #[(0,z0)]).run AcM w = .ok (.agg ([z0,NI 0]:List AcJ).toArray) w:=by obtain⟨_,_,_,rfl⟩:=h0;kernel_rfl
theorem Gu:AV AcM 215 0 0:=fun b o w=>by simp[go_sem]
theorem Dt:∃fs,Tryz.prog.underlying 215=some (.struct fs):=EZ (by kernel_rfl)
theorem QV:Plain AcM 134:=fun _ _=>by kernel_rfl
theorem QW:Plain AcM 173:=fun _ _=>by kernel_rfl
theorem NV:AV AcM 215 1 1:=fun b o w=>by simp[go_sem]
theorem K4{z0:AcJ}(h0:∃ao n c,z0 = .slice ao n c)(z1:Int)(w:AcK):(AeH 215 #[(0,z0),(1, .int .i64 z1)]).run AcM w = .ok (.agg ([z0, .int .i64 z1]:List AcJ).toArray) w:=by obtain⟨_,_,_,rfl⟩:=h0;kernel_rfl
theorem QX(gm be bm:Nat)(M:Bs→Option Aj)(d:Nat)(ih:∀d1,d1<d→∀(w:AcK) (H:Bs→Option Co) (id:Bs) (hmk:w.heap[gm]? =some (.cells ([.map (some be), .map (some bm)]).toArray 212 (0,0))) (hme:MapF rk BD (fun id:List UInt8=>id.length=32) w be M) (hmm:MapF rk Ck (fun id:List UInt8=>id.length=32) w bm H) (hMO:MOk w M) (hHO:HOk w M H) (hne:be≠bm) (hid:id.length=32) (hd50:d1≤50) (n0:Nat) (hdp:Ba (AG M) n0 (AG M id)=some d1) (n0w:Nat) (hNM:NewM n0w M) (hNH:NewM n0w H) (b7:n0w≤w.heap.size),Calls AcM 134 #[PQ gm 0,AB id] w fun r w' =>(∃x,r = .returned x∧∃v b k H',x = .agg ([v,NI k]).toArray∧BP (AG M) (d1+1) id=some (b,k)∧RB w' v b∧MapF rk Ck (fun id:List UInt8=>id.length=32) w' bm H' ∧HOk w' M H' ∧BX w.heap.size (some bm) w w' ∧NewV n0w v∧NewM n0w H')∨∃ch,r = .panicked ch∧BP (AG M) (d1+1) id=none∧ch= [CV 6]∧BX w.heap.size (some bm) w w')(w:AcK)(H:Bs→Option Co)(id:Bs)(hmk:w.heap[gm]? =some (.cells ([.map (some be), .map (some bm)]).toArray 212 (0,0)))(hme:MapF rk BD (fun id:List UInt8=>id.length=32) w be M)(hmm:MapF rk Ck (fun id:List UInt8=>id.length=32) w bm H)(hMO:MOk w M)(hHO:HOk w M H)(hne:be≠bm)(hid:id.length=32)(hd50:d≤50)(n0:Nat)(hdp:Ba (AG M) n0 (AG M id)=some d)(n0w:Nat)(hNM:NewM n0w M)(hNH:NewM n0w H)(b7:n0w≤w.heap.size):
  Calls AcM 134 #[PQ gm 0,AB id] w fun r w' =>(∃x,r = .returned x∧∃v b k H',x = .agg ([v,NI k]).toArray∧BP (AG M) (d+1) id=some (b,k)∧RB w' v b∧MapF rk Ck (fun id:List UInt8=>id.length=32) w' bm H' ∧HOk w' M H' ∧BX w.heap.size (some bm) w w' ∧NewV n0w v∧NewM n0w H')∨∃ch,r = .panicked ch∧BP (AG M) (d+1) id=none∧ch= [CV 6]∧BX w.heap.size (some bm) w w' :=by
 have hX:=BX.refl w.heap.size (some bm) w;have hgb:gm≠bm:=fun e=>by obtain⟨es_,c_,h_⟩:=Aat hmm;rw[←e,hmk]at h_;cases h_
 have hbl:=hmm.lt;have hgl:=(bl hmk);have hel:=hme.lt;refine gG (args:= [PQ gm 0,AB id]) Tryz.func134 rfl 66 rfl rfl ?_;have hE:=Ext.refl w;refine gS (Yk.box (vr (AB id) rfl) fun n2 w3 bd ci a6 ew=> ?_);have ex:=As hme.lt bd;have ey:=As hmm.lt bd;have f:=ci;clear ci;have ez:n2<w3.heap.size:=by omega
 refine gS (Yk.alloc DQ fun am dv aq cj b8 e0=> ?_);have hE:=hE.trans a6;have dw:=hE.size;have hme:=hme.keep a6;have e1:=As hme.lt aq;have hmm:=hmm.keep a6;have e2:=As hmm.lt aq;have g:=cj;clear cj;have e3:am<dv.heap.size:=by omega
 rcases hH:H id with _ | x
 ·rcases hb:(AG M id).based with _ | _
  ·have hcg:=Gt (n:=d) (E:=AG M) hb;have hbx:((M (id)).getD dEnt).1.based=false:=hb;refine D6 [0,1,2,3,4,5,6,7,8,9,10,11] [9,10] [1,2,7,8] [3,4,5] fun ck cl=> ?_;have m:=Ext.refl ck;have hZ1:=b8.trans cl;have hE:=hE.trans hZ1;have dx:=hE.size;have bq:=Ext.refl ck;have cm:=As (bl hmk) bd;have hmk:=eb a6 hmk;have cn:=As (bl hmk) aq;have hmk:=eb hZ1 hmk;have co:=As (bl f) aq;have f:=eb hZ1 f;have hmm:=hmm.keep hZ1;refine DM bq ?_;refine yp (Yk.nilCheck rfl zz) (yp (Yk.fieldAt Ei rfl zz) (yf (fun _ ⟨hZ,_⟩=>Zu CN rfl rfl (cellAt (eb hZ hmk) rfl) zz) (yf (fun _ ⟨hZ,_⟩=>Zz rfl (eb hZ f) Wq rfl (by exact Ac hid) zz) (yf (fun _ ⟨hZ,_⟩=>Aah (ek:=rk) (ev:=Ck) (D:=(fun id:List UInt8=>id.length=32)) Cm Cn (fun _ _=>Cg) CN (z:=Ck LD) Hk rfl rfl (hmm.keep hZ) hid hH zz) (yp (Yk.extract (vs:= [.agg ([(AcU none 0 0),NI 0]).toArray, .bool (false)]) rfl rfl zz) (yp (Yk.extract (vs:= [.agg ([(AcU none 0 0),NI 0]).toArray, .bool (false)]) rfl rfl zz) (yE (Yk.alloc DQ fun b9 dy br cp az e4=> ?_))))))));have hme:=hme.keep hZ1;have e5:=As hme.lt br;have e6:=As hmm.lt br;have ar:=cp;clear cp;have e7:b9<dy.heap.size:=by omega
   have bq:=bq.trans az;refine⟨bq,?_⟩;refine yD rfl (Zy (vr (PQ b9 0) rfl) (vr (.agg ([(AcU none 0 0),NI 0]).toArray) rfl) ar rfl (show(Tryz.prog.info? 215).map (·.size)=some 2 from Bo) (Cv rfl) fun e8 cq a7 e9=> ?_);have hme:=hme.keep az;have hme:=MapF.other hme a7 (Ak (by omega));have hmm:=hmm.keep az;have hmm:=MapF.other hmm a7 (Ak (by omega));clear ar;have ar:=cq;clear cq;have fa:=bl ar;refine cF rfl (D6 [0,1,2,3,4,5,6,7] [6,7] [1,2] [3,4,5] fun cr a0=> ?_);have ad:=Ext.refl cr;have hE:=hE.trans az;have hE:=Ab hE a7 (AcN dx (by omega));have hE:=hE.trans a0;have m:=m.trans az;have m:=Ab m a7 (AcN (AcP _) (by omega));have m:=m.trans a0;have dz:=hE.size;have bs:=Ext.refl cr;have fb:=As (bl hmk) br;have hmk:=eb az hmk;have hmk:=kb a7 hmk (by omega);have hmk:=eb a0 hmk;have fc:=As (bl f) br;have f:=eb az f;have f:=kb a7 f (by omega);have f:=eb a0 f;have hme:=hme.keep a0;refine DM bs ?_;refine yp (Yk.nilCheck rfl zz) (yp (Yk.fieldAt IQ rfl zz) (yf (fun _ ⟨hZ,_⟩=>Zu K3 rfl rfl (cellAt (eb hZ hmk) rfl) zz) (yf (fun _ ⟨hZ,_⟩=>Zz rfl (eb hZ f) Wq rfl (by exact Ac hid) zz) (yf (fun _ ⟨hZ,_⟩=>AaP (ek:=rk) (ev:=BD) (D:=(fun id:List UInt8=>id.length=32)) (df:=dEnt) Cm Cn (fun _ _=>Cg) K3 Dh rfl rfl (hme.keep hZ) hid zz) (yE (Yk.alloc HT fun ca d0 bt cs au fd=> ?_))))));have fe:=As hme.lt bt;have hmm:=hmm.keep a0;have ff:=As hmm.lt bt;have ae:=cs;clear cs;have fg:ca<d0.heap.size:=by omega
   have bs:=bs.trans au;refine⟨bs,?_⟩;refine yD rfl (Zy (vr (PQ ca 0) rfl) (vr (.agg (entC ((M (id)).getD dEnt)).toArray) rfl) ae (Bx (x:=(((M (id)).getD dEnt):Aj)) (y:=(dEnt:Aj)) (hMO.get (id)).2.1 (by simp[dEnt])) (Bk (x:=(((M (id)).getD dEnt):Aj)) EI (hMO.get (id)).2.1) (Bz (x:=(((M (id)).getD dEnt):Aj)) (RB.one (hMO.get (id)).1).2) fun ct cu a1 fh=> ?_);have hme:=hme.keep au;have hme:=MapF.other hme a1 (Ak (by omega));have hmm:=hmm.keep au;have hmm:=MapF.other hmm a1 (Ak (by omega));clear ae;have ae:=cu;clear cu;have fi:=bl ae;refine gS (Yk.fieldAt IP rfl ?_);have hE:=hE.trans au;have hE:=Ab hE a1 (AcN dz (by omega));have hre91:RB ct (((M (id)).getD dEnt)).2 (AG M id).bytes:=(MOk.get (hMO.keep hE) id).1;refine gS (Zu Gj rfl rfl (cellAt ae (NO (x:=(((M (id)).getD dEnt):Aj)) (hMO.get (id)).2.1)) (gS (AaU (vr ((((M (id)).getD dEnt)).2) rfl) (fun w=>Ik (RB.slice hre91) w) (gS (Yk.alloc DQ fun cb d3 cv cw bf fj=> ?_)))));have s:=Ext.refl ct;have d4:=m.size;have m:=m.trans au;have m:=Ab m a1 (AcN d4 (by omega));have ad:=ad.trans au;have ad:=Ab ad a1 (AcN (AcP _) (by omega));have fk:=hE.size;have fl:=As hme.lt cv;have fm:=As hmm.lt cv;have ah:=cw;clear cw;have fn:cb<d3.heap.size:=by omega
   have s:=s.trans bf;refine gS (Zy (vr (PQ cb 0) rfl) (vr (.agg ([(((M (id)).getD dEnt)).2,NI 0]).toArray) rfl) ah rfl (show(Tryz.prog.info? 215).map (·.size)=some 2 from Bo) (Cv (RB.one (hre91.keep s)).2) fun fo cx bg fp=> ?_);have hme:=hme.keep bf;have hme:=MapF.other hme bg (Ak (by omega));have hmm:=hmm.keep bf;have hmm:=MapF.other hmm bg (Ak (by omega));clear ah;have ah:=cx;clear cx;have fq:=bl ah;have s:=Ab s bg (AcN (AcP _) (by omega));have ae:=eb s ae;refine gS (Yk.fieldAt Gn rfl (gS (Zu Ka rfl rfl (cellAt ae ((show(entC (((M (id)).getD dEnt)))[1]? =some (.bool false:AcJ)from congrArg (fun b=>some (Adl b)) hbx))) (cF rfl (gS (Yk.fieldAt Gu rfl (gS (Zu Gj rfl rfl (cellAt ah rfl) (gS (ZF Gj (ZB (hre91.keep s) rfl) (gS (Zv (a:=(((AG M id).bytes:List UInt8).length:Nat)) (b:=(262144:Nat)) rfl rfl (DD _ _ _ _) (gP (ZN F2 rfl rfl ?_))))))))))))));refine Ar (AW _ (decide ((((AG M id).bytes:List UInt8).length)≤(262144))) 6) ?_ ?_;rotate_left
   ·rintro ch fr ⟨rfl,hb,hx⟩;refine Au ?_;have hno:=of_decide_eq_false hb;have hE:=hE.trans s;refine .inr ⟨_,rfl,?_,rfl,(BX.keep (hX.keep hE) hx)⟩;rw[hcg];exact if_neg hno
   rintro v_ fs ⟨rfl,d5,d6⟩;have d7:=of_decide_eq_true d5;have hcf:BP (AG M) (d+1) id=some ((AG M id).bytes,0):=hcg.trans (if_pos d7);refine CD [0,1,2,3,4,5,6] [6] [] fun d8 d9=> ?_;have ft:=As (bl hmk) bt;have hmk:=eb au hmk;have hmk:=kb a1 hmk (by omega);have hZ2:=d6.trans d9;have s:=s.trans hZ2;have hmk:=eb s hmk;have fu:=As (bl f) bt;have f:=eb au f;have f:=kb a1 f (by omega);have f:=eb s f;have hmm:=hmm.keep hZ2;have ah:=eb hZ2 ah;refine ys (Yk.nilCheck rfl zz) (ys (Yk.fieldAt Ei rfl zz) (ys (Zu CN rfl rfl (cellAt hmk rfl) zz) (ys (Zz rfl f Wq rfl (by exact Ac hid) zz) (ys (Zz rfl ah (Dt).choose_spec rfl (show(Tryz.prog.info? 215).map (·.size)=some 2 from Bo) zz) (yC (Aak (ek:=rk) (ev:=Ck) (D:=(fun id:List UInt8=>id.length=32)) (c:=((((AG M id).bytes,0),(((M (id)).getD dEnt)).2):Co)) Cm Cn CN (vr (.map (some bm)) rfl) (vr (AB id) rfl) (vr (.agg ([(((M (id)).getD dEnt)).2,NI 0]).toArray) rfl) hmm hid fun ac cc ai fv=> ?_))))));have hE:=hE.trans s;have hP:=HOk.put (hHO.keep hE) (id:=id) (x:=((((AG M id).bytes,0),(((M (id)).getD dEnt)).2):Co)) (hre91.keep s) hdp hcf;have hm137:Eh d8 bm:=(Aat hmm).noB8;have hX:BX w.heap.size (some bm) w ac:=BX.put (hX.keep hE) ai;have hmk:ac.heap[gm]? =some (.cells ([.map (some be), .map (some bm)]).toArray 212 (0,0)):=kb ai hmk (by omega);have hme:=hme.keep hZ2;have hme:MapF rk BD (fun id:List UInt8=>id.length=32) ac be M:=MapF.other hme ai (Ak (by omega));clear hmm;have hMO:MOk ac M:=(hMO.keep hE).keepN hm137 ai;have f:ac.heap[n2]? =some (.cells (AcL id).toArray 33 (0,0)):=kb ai f (by omega);have ea:=m.size;have m:=m.trans bf;have m:=Ab m bg (AcN ea (by omega));have m:=m.trans hZ2;have g:=eb (cl.trans m) g;have g:ac.heap[am]? =some (.cells ([(AcU none 0 0),NI 0]).toArray 215 (0,0)):=kb ai g (by omega);have ec:=ad.size;have ad:=ad.trans bf;have ad:=Ab ad bg (AcN ec (by omega));have ad:=ad.trans hZ2;have ar:=eb (a0.trans ad) ar;have ar:ac.heap[b9]? =some (.cells ([(AcU none 0 0),NI 0]).toArray 215 (0,0)):=kb ai ar (by omega);have ae:=eb hZ2 ae;have ae:ac.heap[ca]? =some (.cells (entC (((M (id)).getD dEnt))).toArray 208 (0,0)):=kb ai ae (by omega);have hre91:RB ac (((M (id)).getD dEnt)).2 (AG M id).bytes:=(hre91.keep s).keepN hm137 ai;have ah:ac.heap[cb]? =some (.cells ([(((M (id)).getD dEnt)).2,NI 0]).toArray 215 (0,0)):=kb ai ah (by omega);have hP:HOk ac M (updM H (id) (some (((((AG M id).bytes,0),(((M (id)).getD dEnt)).2):Co)))):=hP.keepN hm137 ai;have fw:=Ext.refl ac;have fx:=hX.size;refine gS (Zz rfl ah (Dt).choose_spec rfl (show(Tryz.prog.info? 215).map (·.size)=some 2 from Bo) (gS (Zy (vr (PQ am 0) rfl) (vr (.agg ([(((M (id)).getD dEnt)).2,NI 0]).toArray) rfl) g rfl (show(Tryz.prog.info? 215).map (·.size)=some 2 from Bo) (Cv (RB.one hre91).2) fun bh cy a8 fy=> ?_)));have hnb_:Eh ac am:=Kb g ⟨_,_,_,rfl⟩;have hX:BX w.heap.size (some bm) w bh:=BX.set hX a8 (by omega);have hme:=MapF.other hme a8 (Ak (by omega));have hMO:MOk bh M:=hMO.keepN hnb_ a8;have hre91:RB bh (((M (id)).getD dEnt)).2 (AG M id).bytes:=hre91.keepN hnb_ a8;have hP:HOk bh M (updM H (id) (some (((((AG M id).bytes,0),(((M (id)).getD dEnt)).2):Co)))):=hP.keepN hnb_ a8;have cc:=MapF.other cc a8 (Ak (by omega));clear g;have g:=cy;clear cy;have fz:=bl g;have f0:=Ext.refl bh;have f1:=hX.size;refine L6 rfl (ResF.row rfl g (Dt).choose_spec rfl ((show(Tryz.prog.info? 215).map (·.size)=some 2 from Bo))) ?_;exact .inl ⟨_,rfl,_,_,_,_,rfl,hcf,hre91,cc,hP,hX,(hNM.get id),NewM.put hNH id (hNM.get id)⟩
  have hcg:=FN (n:=d) (E:=AG M) hb;have hbx:((M (id)).getD dEnt).1.based=true:=hb;obtain⟨na_,d1,hd1,hdp1⟩:=NU hb hdp;refine D6 [0,1,2,3,4,5,6,7,8,9,10,11] [9,10] [1,2,7,8] [3,4,5] fun cz c0=> ?_;have o:=Ext.refl cz;have hZ3:=b8.trans c0;have hE:=hE.trans hZ3;have ed:=hE.size;have bu:=Ext.refl cz;have cm:=As (bl hmk) bd;have hmk:=eb a6 hmk;have cn:=As (bl hmk) aq;have hmk:=eb hZ3 hmk;have co:=As (bl f) aq;have f:=eb hZ3 f;have hmm:=hmm.keep hZ3;refine DM bu ?_;refine yp (Yk.nilCheck rfl zz) (yp (Yk.fieldAt Ei rfl zz) (yf (fun _ ⟨hZ,_⟩=>Zu CN rfl rfl (cellAt (eb hZ hmk) rfl) zz) (yf (fun _ ⟨hZ,_⟩=>Zz rfl (eb hZ f) Wq rfl (by exact Ac hid) zz) (yf (fun _ ⟨hZ,_⟩=>Aah (ek:=rk) (ev:=Ck) (D:=(fun id:List UInt8=>id.length=32)) Cm Cn (fun _ _=>Cg) CN (z:=Ck LD) Hk rfl rfl (hmm.keep hZ) hid hH zz) (yp (Yk.extract (vs:= [.agg ([(AcU none 0 0),NI 0]).toArray, .bool (false)]) rfl rfl zz) (yp (Yk.extract (vs:= [.agg ([(AcU none 0 0),NI 0]).toArray, .bool (false)]) rfl rfl zz) (yE (Yk.alloc DQ fun bv ee bw c1 a2 f2=> ?_))))))));have hme:=hme.keep hZ3;have f3:=As hme.lt bw;have f4:=As hmm.lt bw;have j:=c1;clear c1;have f5:bv<ee.heap.size:=by omega
  have bu:=bu.trans a2;refine⟨bu,?_⟩;refine yD rfl (Zy (vr (PQ bv 0) rfl) (vr (.agg ([(AcU none 0 0),NI 0]).toArray) rfl) j rfl (show(Tryz.prog.info? 215).map (·.size)=some 2 from Bo) (Cv rfl) fun f6 c2 a9 f7=> ?_);have hme:=hme.keep a2;have hme:=MapF.other hme a9 (Ak (by omega));have hmm:=hmm.keep a2;have hmm:=MapF.other hmm a9 (Ak (by omega));clear j;have j:=c2;clear c2;have f8:=bl j;refine cF rfl (D6 [0,1,2,3,4,5,6,7] [6,7] [1,2] [3,4,5] fun c3 a3=> ?_);have ak:=Ext.refl c3;have hE:=hE.trans a2;have hE:=Ab hE a9 (AcN ed (by omega));have hE:=hE.trans a3;have o:=o.trans a2;have o:=Ab o a9 (AcN (AcP _) (by omega));have o:=o.trans a3;have ef:=hE.size;have bx:=Ext.refl c3;have f9:=As (bl hmk) bw;have hmk:=eb a2 hmk;have hmk:=kb a9 hmk (by omega);have hmk:=eb a3 hmk;have ga:=As (bl f) bw;have f:=eb a2 f;have f:=kb a9 f (by omega);have f:=eb a3 f;have hme:=hme.keep a3;refine DM bx ?_;refine yp (Yk.nilCheck rfl zz) (yp (Yk.fieldAt IQ rfl zz) (yf (fun _ ⟨hZ,_⟩=>Zu K3 rfl rfl (cellAt (eb hZ hmk) rfl) zz) (yf (fun _ ⟨hZ,_⟩=>Zz rfl (eb hZ f) Wq rfl (by exact Ac hid) zz) (yf (fun _ ⟨hZ,_⟩=>AaP (ek:=rk) (ev:=BD) (D:=(fun id:List UInt8=>id.length=32)) (df:=dEnt) Cm Cn (fun _ _=>Cg) K3 Dh rfl rfl (hme.keep hZ) hid zz) (yE (Yk.alloc HT fun bz eg b0 c4 av gb=> ?_))))));have gc:=As hme.lt b0;have hmm:=hmm.keep a3;have gd:=As hmm.lt b0;have h:=c4;clear c4;have ge:bz<eg.heap.size:=by omega
  have bx:=bx.trans av;refine⟨bx,?_⟩;refine yD rfl (Zy (vr (PQ bz 0) rfl) (vr (.agg (entC ((M (id)).getD dEnt)).toArray) rfl) h (Bx (x:=(((M (id)).getD dEnt):Aj)) (y:=(dEnt:Aj)) (hMO.get (id)).2.1 (by simp[dEnt])) (Bk (x:=(((M (id)).getD dEnt):Aj)) EI (hMO.get (id)).2.1) (Bz (x:=(((M (id)).getD dEnt):Aj)) (RB.one (hMO.get (id)).1).2) fun c5 c6 a4 gf=> ?_);have hme:=hme.keep av;have hme:=MapF.other hme a4 (Ak (by omega));have hmm:=hmm.keep av;have hmm:=MapF.other hmm a4 (Ak (by omega));clear h;have h:=c6;clear c6;have gg:=bl h;refine gS (Yk.fieldAt IP rfl ?_);have hE:=hE.trans av;have hE:=Ab hE a4 (AcN ef (by omega));have hre211:RB c5 (((M (id)).getD dEnt)).2 (AG M id).bytes:=(MOk.get (hMO.keep hE) id).1;refine gS (Zu Gj rfl rfl (cellAt h (NO (x:=(((M (id)).getD dEnt):Aj)) (hMO.get (id)).2.1)) (gS (AaU (vr ((((M (id)).getD dEnt)).2) rfl) (fun w=>Ik (RB.slice hre211) w) (gS (Yk.alloc DQ fun ba eh c7 c8 bi gh=> ?_)))));have al:=Ext.refl c5;have ei:=o.size;have o:=o.trans av;have o:=Ab o a4 (AcN ei (by omega));have ak:=ak.trans av;have ak:=Ab ak a4 (AcN (AcP _) (by omega));have gi:=hE.size;have gj:=As hme.lt c7;have gk:=As hmm.lt c7;have i:=c8;clear c8;have gl:ba<eh.heap.size:=by omega
  have al:=al.trans bi;refine gS (Zy (vr (PQ ba 0) rfl) (vr (.agg ([(((M (id)).getD dEnt)).2,NI 0]).toArray) rfl) i rfl (show(Tryz.prog.info? 215).map (·.size)=some 2 from Bo) (Cv (RB.one (hre211.keep al)).2) fun c9 da bj gn=> ?_);have hme:=hme.keep bi;have hme:=MapF.other hme bj (Ak (by omega));have hmm:=hmm.keep bi;have hmm:=MapF.other hmm bj (Ak (by omega));clear i;have i:=da;clear da;have go:=bl i;have gp:=As (bl hmk) b0;have hmk:=eb av hmk;have hmk:=kb a4 hmk (by omega);have al:=Ab al bj (AcN (AcP _) (by omega));have hmk:=eb al hmk;have h:=eb al h;have hE:=hE.trans al;refine gS (Yk.fieldAt Gn rfl (gS (Zu Ka rfl rfl (cellAt h ((show(entC (((M (id)).getD dEnt)))[1]? =some (.bool true:AcJ)from congrArg (fun b=>some (Adl b)) hbx))) (cT rfl (gS (Yk.fieldAt NR rfl (gS (Z0 rfl (Ev (x:=(((M (id)).getD dEnt):Aj)) h) Wq rfl (by rw[AcZ,(hMO.get (id)).2.1];exact R4) (gP (ZN QV rfl rfl ?_))))))))));refine Ar (ih d1 (by omega) c9 H ((M (id)).getD dEnt).1.base hmk hme hmm (hMO.keep hE) (hHO.keep hE) hne (MOk.get (hMO.keep hE) id).2.1 (by omega) na_ hdp1 n0w hNM hNH (AcN b7 (hX.keep hE).size)) ?_ ?_;rotate_left
  ·rintro ch gq ⟨hno,rfl,hx⟩;refine Au ?_;refine .inr ⟨_,rfl,?_,rfl,BX.put (hX.keep hE) hx.grown⟩;rw[hcg,show BP (AG M) d (AG M id).base=none from by rw[hd1];exact hno];rfl
  rintro v_ af ⟨a5,bb,kk,H1,rfl,db,ag,hm250,hHO251,ej,hNv1,hNH1⟩;have aj:=ej.grown;have hm257:Eh c9 bm:=(Aat hmm).noB8;have hX:BX w.heap.size (some bm) w af:=BX.put (hX.keep hE) aj;have hmk:af.heap[gm]? =some (.cells ([.map (some be), .map (some bm)]).toArray 212 (0,0)):=kb aj hmk (by omega);have hme:MapF rk BD (fun id:List UInt8=>id.length=32) af be M:=MapF.other hme aj (Ak (by omega));clear hmm;have hMO:MOk af M:=(hMO.keep hE).keepN hm257 aj;have hHO:HOk af M H:=(hHO.keep hE).keepN hm257 aj;have gr:=As (bl f) b0;have f:=eb av f;have f:=kb a4 f (by omega);have f:=eb al f;have f:af.heap[n2]? =some (.cells (AcL id).toArray 33 (0,0)):=kb aj f (by omega);have el:=o.size;have o:=o.trans bi;have o:=Ab o bj (AcN el (by omega));have g:=eb (c0.trans o) g;have g:af.heap[am]? =some (.cells ([(AcU none 0 0),NI 0]).toArray 215 (0,0)):=kb aj g (by omega);have em:=ak.size;have ak:=ak.trans bi;have ak:=Ab ak bj (AcN em (by omega));have j:=eb (a3.trans ak) j;have j:af.heap[bv]? =some (.cells ([(AcU none 0 0),NI 0]).toArray 215 (0,0)):=kb aj j (by omega);have h:af.heap[bz]? =some (.cells (entC (((M (id)).getD dEnt))).toArray 208 (0,0)):=kb aj h (by omega);have hre211:RB af (((M (id)).getD dEnt)).2 (AG M id).bytes:=(hre211.keep al).keepN hm257 aj;have i:af.heap[ba]? =some (.cells ([(((M (id)).getD dEnt)).2,NI 0]).toArray 215 (0,0)):=kb aj i (by omega);have l:=Ext.refl af;have gs:=hX.size;have hcl:=HU db;rw[show BP (AG M) d (AG M id).base=some (bb,kk)from by rw[hd1];exact db]at hcg;refine gS (Yk.alloc DQ fun cd en aw dc an gt=> ?_);have gu:=As hme.lt aw;have gv:=As hm250.lt aw;have ab:=dc;clear dc;have gw:cd<en.heap.size:=by omega
  have l:=l.trans an;refine gS (Zy (vr (PQ cd 0) rfl) (vr (.agg ([a5,NI kk]).toArray) rfl) ab rfl (show(Tryz.prog.info? 215).map (·.size)=some 2 from Bo) (Cv (RB.one (ag.keep l)).2) fun dd de ao gx=> ?_);have hme:=hme.keep an;have hme:=MapF.other hme ao (Ak (by omega));have hm250:=hm250.keep an;have hm250:=MapF.other hm250 ao (Ak (by omega));clear ab;have ab:=de;clear de;have gy:=bl ab;refine gS (Yk.fieldAt Gu rfl (gS (Zu Gj rfl rfl (cellAt ab rfl) (gS (Yk.fieldAt IP rfl ?_)))));have l:=Ab l ao (AcN (AcP _) (by omega));have hre282:RB dd (((M (id)).getD dEnt)).2 (AG M id).bytes:=(MOk.get (hMO.keep l) id).1;have gz:=As (bl h) aw;have h:=eb an h;have h:=kb ao h (by omega);refine gS (Zu Gj rfl rfl (cellAt h (NO (x:=(((M (id)).getD dEnt):Aj)) (hMO.get (id)).2.1)) (gS (Zx QW rfl rfl ((Sv _ a5 (((M (id)).getD dEnt)).2 bb (AG M id).bytes (ag.keep l) hre282 (by omega) (by have:(AG M id).bytes.length≤1048576:=(MOk.get (hMO.keep l) id).2.2;omega)).mono ?_))));rintro e g0 ⟨t,rfl,q,dh,hap_⟩;refine⟨_,rfl,?_⟩;have hsz_:n0w≤dd.heap.size:=AcN b7 ((hX.keep l)).size;have hNa:NewV n0w t:=fun k hk=>AcN hsz_ (hap_ k hk).1;refine gS (Yk.extract (vs:= [t,NI ((A9 bb (AG M id).bytes).2)]) rfl rfl (gS (Yk.extract (vs:= [t,NI ((A9 bb (AG M id).bytes).2)]) rfl rfl (gS (Zv (a:=((A9 bb (AG M id).bytes).2:Nat)) (b:=(0:Nat)) rfl rfl (AF _ _ _ _) (gP (ZN F2 rfl rfl ?_)))))));refine Ar (AW _ (decide (((A9 bb (AG M id).bytes).2:Nat)=(0))) 6) ?_ ?_;rotate_left
  ·rintro ch g1 ⟨rfl,hb,hx⟩;refine Au ?_;have hno:=of_decide_eq_false hb;have l:=l.trans dh;refine .inr ⟨_,rfl,?_,rfl,(BX.keep (hX.keep l) hx)⟩;rw[hcg];exact if_neg hno
  rintro v_ bc ⟨rfl,eo,di⟩;have ep:=of_decide_eq_true eo;have hap:=ep;have g2:=As (bl i) aw;have i:=eb an i;have i:=kb ao i (by omega);have hZ4:=dh.trans di;have i:=eb hZ4 i;have ab:=eb hZ4 ab;have q:=q.keep di;refine gS (Yk.fieldAt NV rfl (gS (Zu Uo rfl rfl (cellAt ab rfl) (gS (Zw (xv:=NI kk) (yv:=NI 1) rfl rfl rfl (Ag _ _ _ (by omega)) (gS (Aai (vr t rfl) (vr (NI ((kk)+(1))) rfl) (fun w=>K4 (RB.slice q) ((((kk)+(1):Nat):Int)) w) (gS (Zy (vr (PQ ba 0) rfl) (vr (.agg ([t,NI ((kk)+(1))]).toArray) rfl) i rfl (show(Tryz.prog.info? 215).map (·.size)=some 2 from Bo) (Cv (RB.one q).2) fun ax dj u g3=> ?_)))))))));have l:=l.trans hZ4;have hnb_:Eh bc ba:=Kb i (RB.slice (hre211.keep l));have hX:BX w.heap.size (some bm) w bc:=(hX.keep l);have hMO:MOk bc M:=(hMO.keep l);have hre211:RB bc (((M (id)).getD dEnt)).2 (AG M id).bytes:=(hre211.keep l);have ag:RB bc a5 bb:=(ag.keep l);have hHO251:HOk bc M H1:=(hHO251.keep l);have hX:BX w.heap.size (some bm) w ax:=BX.set hX u (by omega);have hme:=hme.keep hZ4;have hme:=MapF.other hme u (Ak (by omega));have hMO:MOk ax M:=hMO.keepN hnb_ u;have hre211:RB ax (((M (id)).getD dEnt)).2 (AG M id).bytes:=hre211.keepN hnb_ u;have ag:RB ax a5 bb:=ag.keepN hnb_ u;have hm250:=hm250.keep hZ4;have hm250:=MapF.other hm250 u (Ak (by omega));have hHO251:HOk ax M H1:=hHO251.keepN hnb_ u;have hre282:=hre282.keep hZ4;have hre282:RB ax (((M (id)).getD dEnt)).2 (AG M id).bytes:=hre282.keepN hnb_ u;have q:RB ax t (A9 bb (AG M id).bytes).1:=q.keepN hnb_ u;clear i;have i:=dj;clear dj;have g4:=bl i;have g5:=Ext.refl ax;have g6:=hX.size;refine gS (Yk.fieldAt Gu rfl (gS (Zu Gj rfl rfl (cellAt i rfl) (gS (ZF Gj (ZB q rfl) (gS (Zv (a:=(((A9 bb (AG M id).bytes).1:List UInt8).length:Nat)) (b:=(262144:Nat)) rfl rfl (DD _ _ _ _) (gP (ZN F2 rfl rfl ?_)))))))));refine Ar (AW _ (decide ((((A9 bb (AG M id).bytes).1:List UInt8).length)≤(262144))) 6) ?_ ?_;rotate_left
  ·rintro ch g7 ⟨rfl,hb,hx⟩;refine Au ?_;have hno:=of_decide_eq_false hb;refine .inr ⟨_,rfl,?_,rfl,(BX.keep hX hx)⟩;rw[hcg];exact(if_pos hap).trans (if_neg hno)
  rintro v_ ce ⟨rfl,eq,b1⟩;have hX:BX w.heap.size (some bm) w ce:=(hX.keep b1);have hMO:MOk ce M:=(hMO.keep b1);have hHO251:HOk ce M H1:=(hHO251.keep b1);have er:=of_decide_eq_true eq;have hcf:BP (AG M) (d+1) id=some ((A9 bb (AG M id).bytes).1,kk+1):=hcg.trans ((if_pos hap).trans (if_pos er));refine CD [0,1,2,3,4,5,6] [6] [] fun b2 b3=> ?_;have hX:BX w.heap.size (some bm) w b2:=(hX.keep b3);have hMO:MOk b2 M:=(hMO.keep b3);have hHO251:HOk b2 M H1:=(hHO251.keep b3);have g8:=As (bl hmk) aw;have hmk:=eb an hmk;have hmk:=kb ao hmk (by omega);have hmk:=eb hZ4 hmk;have hmk:=kb u hmk (by omega);have hZ5:=b1.trans b3;have hmk:=eb hZ5 hmk;have g9:=As (bl f) aw;have f:=eb an f;have f:=kb ao f (by omega);have f:=eb hZ4 f;have f:=kb u f (by omega);have f:=eb hZ5 f;have hm250:=hm250.keep hZ5;have i:=eb hZ5 i;refine ys (Yk.nilCheck rfl zz) (ys (Yk.fieldAt Ei rfl zz) (ys (Zu CN rfl rfl (cellAt hmk rfl) zz) (ys (Zz rfl f Wq rfl (by exact Ac hid) zz) (ys (Zz rfl i (Dt).choose_spec rfl (show(Tryz.prog.info? 215).map (·.size)=some 2 from Bo) zz) (yC (Aak (ek:=rk) (ev:=Ck) (D:=(fun id:List UInt8=>id.length=32)) (c:=((((A9 bb (AG M id).bytes).1,(kk)+(1)),t):Co)) Cm Cn CN (vr (.map (some bm)) rfl) (vr (AB id) rfl) (vr (.agg ([t,NI ((kk)+(1))]).toArray) rfl) hm250 hid fun p cf aa ha=> ?_))))));have q:=q.keep hZ5;have hP:=HOk.put hHO251 (id:=id) (x:=((((A9 bb (AG M id).bytes).1,(kk)+(1)),t):Co)) q hdp hcf;have hm315:Eh b2 bm:=(Aat hm250).noB8;have hX:BX w.heap.size (some bm) w p:=BX.put hX aa;have hmk:p.heap[gm]? =some (.cells ([.map (some be), .map (some bm)]).toArray 212 (0,0)):=kb aa hmk (by omega);have hme:=hme.keep hZ5;have hme:MapF rk BD (fun id:List UInt8=>id.length=32) p be M:=MapF.other hme aa (Ak (by omega));have hMO:MOk p M:=hMO.keepN hm315 aa;have f:p.heap[n2]? =some (.cells (AcL id).toArray 33 (0,0)):=kb aa f (by omega);have hc:=As (bl g) aw;have g:=eb an g;have g:=kb ao g (by omega);have g:=eb hZ4 g;have g:=kb u g (by omega);have g:=eb hZ5 g;have g:p.heap[am]? =some (.cells ([(AcU none 0 0),NI 0]).toArray 215 (0,0)):=kb aa g (by omega);have hd:=As (bl j) aw;have j:=eb an j;have j:=kb ao j (by omega);have j:=eb hZ4 j;have j:=kb u j (by omega);have j:=eb hZ5 j;have j:p.heap[bv]? =some (.cells ([(AcU none 0 0),NI 0]).toArray 215 (0,0)):=kb aa j (by omega);have h:=eb hZ4 h;have h:=kb u h (by omega);have h:=eb hZ5 h;have h:p.heap[bz]? =some (.cells (entC (((M (id)).getD dEnt))).toArray 208 (0,0)):=kb aa h (by omega);have hre211:=hre211.keep hZ5;have hre211:RB p (((M (id)).getD dEnt)).2 (AG M id).bytes:=hre211.keepN hm315 aa;have ag:=ag.keep hZ5;have ag:RB p a5 bb:=ag.keepN hm315 aa;clear hm250;have ab:=kb u ab (by omega);have ab:=eb hZ5 ab;have ab:p.heap[cd]? =some (.cells ([a5,NI kk]).toArray 215 (0,0)):=kb aa ab (by omega);have hre282:=hre282.keep hZ5;have hre282:RB p (((M (id)).getD dEnt)).2 (AG M id).bytes:=hre282.keepN hm315 aa;have q:RB p t (A9 bb (AG M id).bytes).1:=q.keepN hm315 aa;have i:p.heap[ba]? =some (.cells ([t,NI ((kk)+(1))]).toArray 215 (0,0)):=kb aa i (by omega);have hP:HOk p M (updM H1 (id) (some (((((A9 bb (AG M id).bytes).1,(kk)+(1)),t):Co)))):=hP.keepN hm315 aa;have he:=Ext.refl p;have hf:=hX.size;refine gS (Zz rfl i (Dt).choose_spec rfl (show(Tryz.prog.info? 215).map (·.size)=some 2 from Bo) (gS (Zy (vr (PQ am 0) rfl) (vr (.agg ([t,NI ((kk)+(1))]).toArray) rfl) g rfl (show(Tryz.prog.info? 215).map (·.size)=some 2 from Bo) (Cv (RB.one q).2) fun ay dk ap hg=> ?_)));have hnb_:Eh p am:=Kb g ⟨_,_,_,rfl⟩;have hX:BX w.heap.size (some bm) w ay:=BX.set hX ap (by omega);have hme:=MapF.other hme ap (Ak (by omega));have hMO:MOk ay M:=hMO.keepN hnb_ ap;have hre211:RB ay (((M (id)).getD dEnt)).2 (AG M id).bytes:=hre211.keepN hnb_ ap;have ag:RB ay a5 bb:=ag.keepN hnb_ ap;have hre282:RB ay (((M (id)).getD dEnt)).2 (AG M id).bytes:=hre282.keepN hnb_ ap;have q:RB ay t (A9 bb (AG M id).bytes).1:=q.keepN hnb_ ap;have hP:HOk ay M (updM H1 (id) (some (((((A9 bb (AG M id).bytes).1,(kk)+(1)),t):Co)))):=hP.keepN hnb_ ap;have cf:=MapF.other cf ap (Ak (by omega));clear g;have g:=dk;clear dk;have hh:=bl g;have hi:=Ext.refl ay;have hj:=hX.size;refine L6 rfl (ResF.row rfl g (Dt).choose_spec rfl ((show(Tryz.prog.info? 215).map (·.size)=some 2 from Bo))) ?_;exact .inl ⟨_,rfl,_,_,_,_,rfl,hcf,q,cf,hP,hX,hNa,NewM.put hNH1 id hNa⟩
 obtain⟨hxr,nb_,d2,es,dl⟩:=hHO id x hH;have hdd:=NT hdp es;rw[←hdd]at dl;have hnx:=hNH id x hH;refine D6 [0,1,2,3,4,5,6,7,8,9,10,11] [9,10] [1,2,7,8] [3,4,5] fun dm dn=> ?_;have bk:=Ext.refl dm;have hZ6:=b8.trans dn;have hE:=hE.trans hZ6;have et:=hE.size;have b4:=Ext.refl dm;have cm:=As (bl hmk) bd;have hmk:=eb a6 hmk;have cn:=As (bl hmk) aq;have hmk:=eb hZ6 hmk;have co:=As (bl f) aq;have f:=eb hZ6 f;have hmm:=hmm.keep hZ6;refine DM b4 ?_;refine yp (Yk.nilCheck rfl zz) (yp (Yk.fieldAt Ei rfl zz) (yf (fun _ ⟨hZ,_⟩=>Zu CN rfl rfl (cellAt (eb hZ hmk) rfl) zz) (yf (fun _ ⟨hZ,_⟩=>Zz rfl (eb hZ f) Wq rfl (by exact Ac hid) zz) (yf (fun _ ⟨hZ,_⟩=>Aab (ek:=rk) (ev:=Ck) (D:=(fun id:List UInt8=>id.length=32)) Cm Cn (fun _ _=>Cg) CN (z:=Ck LD) Hk rfl rfl (hmm.keep hZ) hid hH zz) (yp (Yk.extract (vs:= [.agg ([x.2,NI x.1.2]).toArray, .bool (true)]) rfl rfl zz) (yp (Yk.extract (vs:= [.agg ([x.2,NI x.1.2]).toArray, .bool (true)]) rfl rfl zz) (yE (Yk.alloc DQ fun dp eu dq dr bn hl=> ?_))))))));have hme:=hme.keep hZ6;have hm:=As hme.lt dq;have hn:=As hmm.lt dq;have bo:=dr;clear dr;have ho:dp<eu.heap.size:=by omega
 have b4:=b4.trans bn;refine⟨b4,?_⟩;have hE:=hE.trans bn;refine yD rfl (Zy (vr (PQ dp 0) rfl) (vr (.agg ([x.2,NI x.1.2]).toArray) rfl) bo rfl (show(Tryz.prog.info? 215).map (·.size)=some 2 from Bo) (Cv (RB.one (hxr.keep hE)).2) fun hp ds b5 hq=> ?_);have hme:=hme.keep bn;have hme:=MapF.other hme b5 (Ak (by omega));have hmm:=hmm.keep bn;have hmm:=MapF.other hmm b5 (Ak (by omega));clear bo;have bo:=ds;clear ds;have hr:=bl bo;have bk:=bk.trans bn;have bk:=Ab bk b5 (AcN (AcP _) (by omega));have g:=eb (dn.trans bk) g;have hE:=Ab hE b5 (AcN et (by omega));refine cT rfl (gS (Zz rfl bo (Dt).choose_spec rfl (show(Tryz.prog.info? 215).map (·.size)=some 2 from Bo) (gS (Zy (vr (PQ am 0) rfl) (vr (.agg ([x.2,NI x.1.2]).toArray) rfl) g rfl (show(Tryz.prog.info? 215).map (·.size)=some 2 from Bo) (Cv (RB.one (hxr.keep hE)).2) fun hs dt cg ht=> ?_))));have hme:=MapF.other hme cg (Ak (by omega));have hmm:=MapF.other hmm cg (Ak (by omega));clear g;have g:=dt;clear dt;have hu:=bl g;refine L6 rfl (ResF.row rfl g (Dt).choose_spec rfl ((show(Tryz.prog.info? 215).map (·.size)=some 2 from Bo))) ?_;have hE:=Ab hE cg (AcN dw (by omega));exact .inl ⟨_,rfl,_,_,_,H,rfl,dl,(hxr.keep hE),hmm,(hHO.keep hE),(hX.keep hE),hnx,hNH⟩

theorem SQ(gm be bm:Nat)(M:Bs→Option Aj):∀(d:Nat) (w:AcK) (H:Bs→Option Co) (id:Bs) (hmk:w.heap[gm]? =some (.cells ([.map (some be), .map (some bm)]).toArray 212 (0,0))) (hme:MapF rk BD (fun id:List UInt8=>id.length=32) w be M) (hmm:MapF rk Ck (fun id:List UInt8=>id.length=32) w bm H) (hMO:MOk w M) (hHO:HOk w M H) (hne:be≠bm) (hid:id.length=32) (hd50:d≤50) (a:Nat) (hdp:Ba (AG M) a (AG M id)=some d) (n0w:Nat) (hNM:NewM n0w M) (hNH:NewM n0w H) (c:n0w≤w.heap.size),Calls AcM 134 #[PQ gm 0,AB id] w fun r w' =>(∃x,r = .returned x∧∃v b k H',x = .agg ([v,NI k]).toArray∧BP (AG M) (d+1) id=some (b,k)∧RB w' v b∧MapF rk Ck (fun id:List UInt8=>id.length=32) w' bm H' ∧HOk w' M H' ∧BX w.heap.size (some bm) w w' ∧NewV n0w v∧NewM n0w H')∨∃ch,r = .panicked ch∧BP (AG M) (d+1) id=none∧ch= [CV 6]∧BX w.heap.size (some bm) w w' :=by
 intro d
 induction d using Ae0 with
 | _ d ih=>exact QX gm be bm M d ih
def OOk(w:AcK)(O:Bs→Option Co):Prop:=∀id x,O id=some x→RB w x.2 x.1.1
theorem OOk.keep{w w' :AcK}{O:Bs→Option Co}(h:OOk w O)(k:Ext w w'):OOk w' O:=fun a c hc=>(h a c hc).keep k
theorem OOk.keepN{w w' :AcK}{b:Nat}{O:Bs→Option Co}(h:OOk w O)(hm:Eh w b)(hg:w.grownBy w' (some b)):OOk w' O:=fun a c hc=>(h a c hc).keepN hm hg
theorem OOk.nil(w:AcK):OOk w (fun _=>none):=fun _ _ h=>by cases h
theorem OOk.put{w:AcK}{O:Bs→Option Co}(h:OOk w O){id:Bs}{x:Co}(h1:RB w x.2 x.1.1):OOk w (updM O id (some x)):=fun a c hc=>by
  unfold updM at hc;split at hc
  · cases hc;exact h1
  · exact h a c hc
theorem entOne_len{b:Bs}{fin pos:Nat}{e:Ent}{n:Nat}(h:entOne b fin pos=some (e,n))(hf:fin≤b.length):e.bytes.length≤b.length:=by
  unfold entOne at h;split at h
  · split at h
    · split at h
      · cases h
      · cases ht:B3 b (pos+33) fin with
        | none=>rw[ht]at h;cases h
        | some x=>rw[ht]at h;cases h;exact GL (s:=x.1) (n:=x.2) ht hf
    · cases ht:B3 b (pos+1) fin with
      | none=>rw[ht]at h;cases h
      | some x=>rw[ht]at h;cases h;exact GL (s:=x.1) (n:=x.2) ht hf
  · cases h
theorem Mj{b:Bs}{fin first:Nat}(hf:fin≤b.length):∀(n:Nat) (es:List Ent) (p:Nat),Dg b fin first n=some (es,p)→es.length=n∧∀x∈es,x.bytes.length≤b.length
  | 0,es,p,h=>by cases h;exact⟨rfl,fun x hx=>by cases hx⟩
  | n+1,es,p,h=>by
    cases h1:Dg b fin first n with
    | none=>rw[DO h1 1]at h;cases h
    | some x=>
      rw[HN (es:=x.1) (p:=x.2) h1]at h;have ih:=Mj hf n x.1 x.2 h1;cases h2:entOne b fin x.2 with
      | none=>rw[h2]at h;cases h
      | some y=>
        rw[h2]at h;cases h;refine⟨by rw[AcQ,ih.1];rfl,fun z hz=> ?_⟩;rcases Adf.1 hz with hz | hz
        · exact ih.2 z hz
        · rw[AcY.1 hz];exact entOne_len (e:=y.1) (n:=y.2) h2 hf
theorem IR{b:Bs}{n first fin:Nat}{es:List Ent}(h:CA b n first fin=some es)(hf:fin≤b.length):es.length=n∧∀x∈es,x.bytes.length≤b.length:=by
  unfold CA at h;cases h1:Dg b fin first n with
  | none=>rw[h1]at h;cases h
  | some x=>
    rw[h1]at h;have h2:(if x.2=fin then some x.1 else none)=some es:=h;split at h2
    · cases h2;exact Mj hf n x.1 x.2 h1
    · cases h2
def IxS.plain(s:IxS Aj):IxS Ent:=⟨s.ids,fun k=>(s.G k).map Adk,fun k=>(s.M k).map Adk⟩
theorem HV{α β γ:Type}[DecidableEq α](G:α→Option β)(a:α)(y:Option β)(f:β→γ):(fun k=>(updM G a y k).map f)=updM (fun k=>(G k).map f) a (y.map f):=by
  funext k
  unfold updM;split <;> rfl
theorem placeGo_map(es:List Aj):∀i,(fun k=>(DY (fun x:Aj=>x.1.pos) dEnt es i k).map Adk)=DY Ent.pos dEnt.1 (es.map Adk) i
  | 0=>rfl
  | i+1=>by
    unfold DY;rw[HV,placeGo_map es i];have e:(es.map Adk).getD i dEnt.1=(es.getD i dEnt).1:=by
      rw[AcO,AcO,Aej];cases es[i]? <;> rfl
    rw[e];rfl
theorem F5(t:Bs)(es:List Aj):∀i,DI Ent.pos dEnt.1 t (es.map Adk) i=(DI (fun x:Aj=>x.1.pos) dEnt t es i).map IxS.plain
  | 0=>by
    unfold DI;rw[Ada,←placeGo_map];rfl
  | i+1=>by
    cases h:DI (fun x:Aj=>x.1.pos) dEnt t es i with
    | none=>
      have h' :DI Ent.pos dEnt.1 t (es.map Adk) i=none:=by rw[F5 t es i,h];rfl
      rw[E0 h 1,E0 h' 1];rfl
    | some s=>
      have h' :DI Ent.pos dEnt.1 t (es.map Adk) i=some s.plain:=by rw[F5 t es i,h];rfl
      rw[FH h,FH h'];cases hG:s.G (ER t i)with
      | none=>
        have hG' :s.plain.G (ER t i)=none:=by show(s.G (ER t i)).map Adk=none;rw[hG];rfl
        unfold Ds;rw[hG,hG'];rfl
      | some c=>
        have hG' :s.plain.G (ER t i)=some c.1:=by show(s.G (ER t i)).map Adk=some c.1;rw[hG];rfl
        unfold Ds;rw[hG,hG'];by_cases hc:i=0∨Adj (s.ids.getD (i-1) []) (BU t i)<0
        · simp only[if_pos hc,if_pos (show i=0∨Adj (s.plain.ids.getD (i-1) []) (BU t i)<0 from hc)];show some (DT Ent.pos t i s.plain c.1)=some (DT _ t i s c).plain;unfold DT IxS.plain
          dsimp only
          rw[HV,HV];rfl
        · simp only[if_neg hc,if_neg (show ¬(i=0∨Adj (s.plain.ids.getD (i-1) []) (BU t i)<0)from hc)];rfl
def K5(M:Bs→Option Ent)(k:Bs):Ent:=(M k).getD dEnt.1
theorem JM(s:IxS Aj):AG s.M=K5 s.plain.M:=by
  funext k
  show((s.M k).getD dEnt).1=((s.M k).map Adk).getD dEnt.1;cases s.M k <;> rfl
structure Il where
  total:Nat
  O:Bs→Option (Bs × Nat)
def Dj(E:Bs→Ent)(id:Bs)(s:Il):Except Nat Il:=
  match Ba E 50 (E id)with
  | none=> .error 17
  | some d=>match BP E (d+1) id with
    | none=> .error 6
    | some x=>if Sha.sum x.1=id then(if s.total+x.1.length≤4194304 then .ok ⟨s.total+x.1.length,updM s.O id (some (x.1,d))⟩else .error 2)else .error 18
def DE(E:Bs→Ent)(ids:List Bs):Nat→Except Nat Il
  | 0=> .ok ⟨0,fun _=>none⟩
  | i+1=>match DE E ids i with
    | .error e=> .error e
    | .ok s=>Dj E (ids.getD i []) s
theorem K6{E:Bs→Ent}{id:Bs}{s:Il}(h:Ba E 50 (E id)=none):Dj E id s = .error 17:=by unfold Dj;rw[h]
theorem Mk{E:Bs→Ent}{id:Bs}{s:Il}{d:Nat}(h:Ba E 50 (E id)=some d)(h2:BP E (d+1) id=none):Dj E id s = .error 6:=by
  unfold Dj;rw[h]
  dsimp only
  rw[h2]
theorem Fc{E:Bs→Ent}{id:Bs}{s:Il}{d:Nat}{b:Bs}{k:Nat}(h:Ba E 50 (E id)=some d)(h2:BP E (d+1) id=some (b,k)):Dj E id s=if Sha.sum b=id then(if s.total+b.length≤4194304 then .ok ⟨s.total+b.length,updM s.O id (some (b,d))⟩else .error 2)else .error 18:=by
  unfold Dj;rw[h]
  dsimp only
  rw[h2]
theorem Fd{E:Bs→Ent}{ids:List Bs}{i:Nat}{s:Il}(h:DE E ids i = .ok s):DE E ids (i+1)=Dj E (ids.getD i []) s:=by
  show(match DE E ids i with | .error e=>_ | .ok s=>_)=_;rw[h]
theorem GM{E:Bs→Ent}{ids:List Bs}{i:Nat}{e:Nat}(h:DE E ids i = .error e):∀k,DE E ids (i+k) = .error e
  | 0=>h
  | k+1=>by
    show(match DE E ids (i+k)with | .error e=>_ | .ok s=>_)=_;rw[GM h k]
abbrev AU:=List Bs ×(Bs→Option (Bs × Nat))
def GN(E:Bs→Ent)(ids:List Bs):Except Nat AU:=
  match DE E ids ids.length with
  | .error e=> .error e
  | .ok o=> .ok (ids,o.O)
theorem NW{E:Bs→Ent}{ids:List Bs}{o:Il}(h:DE E ids ids.length = .ok o):GN E ids = .ok (ids,o.O):=by unfold GN;rw[h]
def K7(es:List Ent)(M:Bs→Option Ent):Bool:=es.all fun e=> !e.based||(M e.base).isSome
def UA(b:Bs)(f:Nat)(ids:List Bs):Bool:=(AdN 256).all fun i=>Eb (b.drop (f+4*i))==(Be ids).getD i 0
def Hl(b:Bs)(f:Nat)(es:List Ent)(s:IxS Ent):Except Nat AU:=if UA b f s.ids=true then(if K7 es s.M=true then GN (K5 s.M) s.ids else .error 6)else .error 6
def GO(b:Bs)(f:Nat)(es:List Ent):Except Nat AU:=
  match DI Ent.pos dEnt.1 ((b.drop (f+1024)).take (b.length-36-(f+1024))) es es.length with
  | none=> .error 6
  | some s=>Hl b f es s
def HW(b:Bs)(n first f:Nat):Except Nat AU:=
  match CA b n first f with
  | none=> .error 6
  | some es=>GO b f es
def Jp(b:Bs)(f n first:Nat):Except Nat AU:=
  if b.getD 0 0=80∧first≤f∧f≤b.length-36∧n≤b.length-36 then(if b.length-36-f=1024+36*n then HW b n first f else .error 6)else .error 6
def CB(b:Bs):Except Nat AU:=
  match A6 0 (b.drop 1)with
  | none=> .error 6
  | some x=>Jp b (Eb (b.drop (b.length-36))) x.1 (1+x.2)
theorem WQ{b:Bs}{f:Nat}{ids:List Bs}(h:UA b f ids=true){i:Nat}(hi:i<256):Eb (b.drop (f+4*i))=(Be ids).getD i 0:=by
  have:=Adv.1 h i (by simpa using hi);exact beq_iff_eq.1 this
theorem fanB_of{b:Bs}{f:Nat}{ids:List Bs}(h:∀i,i<256→Eb (b.drop (f+4*i))=(Be ids).getD i 0):UA b f ids=true:=
  Adv.2 fun i hi=>by rw[beq_iff_eq];exact h i (by simpa using hi)
theorem SR{es:List Aj}{M:Bs→Option Aj}(h:K7 (es.map Adk) (fun k=>(M k).map Adk)=true){q:Nat}(hq:q<es.length):(es.getD q dEnt).1.based=true→M (es.getD q dEnt).1.base≠none:=fun hb hn=>by
  have h1:=Adv.1 h (es.getD q dEnt).1 (Adx.2 ⟨_,getD_mem dEnt hq,rfl⟩)
  dsimp only at h1
  rw[hb,hn]at h1;cases h1
theorem SS{es:List Aj}{M:Bs→Option Aj}(h:∀q,q<es.length→(es.getD q dEnt).1.based=true→M (es.getD q dEnt).1.base≠none):K7 (es.map Adk) (fun k=>(M k).map Adk)=true:=
  Adv.2 fun e he=>by
    obtain⟨x,hx,rfl⟩:=Adx.1 he;obtain⟨q,hq,rfl⟩:=Aeh hx;have h1:=h q hq;rw[show es.getD q dEnt=es[q] by rw[AcO,AcS hq];rfl]at h1;cases hb:(es[q]).1.based with
    | false=>rfl
    | true=>
      cases hm:M (es[q]).1.base with
      | none=>exact absurd hm (h1 hb)
      | some c=>dsimp only;rw[hm];rfl
theorem K8{E:Bs→Ent}:∀ {n:Nat} {e:Ent} {d:Nat},Ba E n e=some d→d≤n
  | 0,e,d,h=>by
    cases hb:e.based with
    | false=>rw[Eg hb]at h;cases h;exact AcP _
    | true=>rw[Fb hb]at h;cases h
  | n+1,e,d,h=>by
    cases hb:e.based with
    | false=>rw[Eg hb]at h;cases h;exact Adm _
    | true=>
      rw[DJ hb]at h;cases h1:Ba E n (E e.base)with
      | none=>rw[h1]at h;cases h
      | some d1=>rw[h1]at h;cases h;exact Nat.succ_le_succ (K8 h1)
theorem AcG{w:AcK}{t:Bs}{es:List Aj}{s:IxS Aj}{i n:Nat}(h:EntsOk w es)(hI:Yb t es i s)(hb:∀x∈es.map Adk,x.bytes.length≤n)(hn:n≤1048576):MOk w s.M:=fun k c hc=>
  have hm:=hI.M k c hc
  ⟨(h c hm).1,(h c hm).2,AcN (hb c.1 (Adx.2 ⟨c,hm,rfl⟩)) hn⟩
theorem QY:Plain AcM 130:=fun _ _=>by kernel_rfl
theorem QZ:Plain AcM 131:=fun _ _=>by kernel_rfl
theorem K9(z0:Nat)(z1:Nat)(w:AcK):(AeH 212 #[(0, .map (some z0)),(1, .map (some z1))]).run AcM w = .ok (.agg ([.map (some z0), .map (some z1)]:List AcJ).toArray) w:=by kernel_rfl
theorem La{z0:AcJ}(h0:∃ao n c,z0 = .slice ao n c)(z1:Nat)(w:AcK):(AeH 163 #[(0,z0),(1, .map (some z1))]).run AcM w = .ok (.agg ([z0, .map (some z1)]:List AcJ).toArray) w:=by obtain⟨_,_,_,rfl⟩:=h0;kernel_rfl
theorem Q0:Plain AcM 133:=fun _ _=>by kernel_rfl
theorem ST:Tryz.prog.eqGuardType Tryz.prog.depth 33=false:=by kernel_rfl
theorem NX:AV AcM 163 1 1:=fun b o w=>by simp[go_sem]
theorem UB(w:AcK)(hG:Laid w)(v:AcJ)(b:Bs)(hr:RB w v b)(h36:36≤b.length)(hb:b.length≤1048576):
  Calls AcM 79 #[v] w fun r w' =>(∃x,r = .returned x∧∃g vi bo ids O,x=PQ g 0∧CB b = .ok (ids,fun k=>(O k).map Adk)∧w'.heap[g]? =some (.cells ([vi, .map (some bo)]).toArray 163 (0,0))∧RG 32 AcL w' vi ids∧MapF rk Ck (fun id:List UInt8=>id.length=32) w' bo O∧OOk w' O∧w.heap.size≤g∧w.heap.size≤bo∧NewV w.heap.size vi∧NewM w.heap.size O∧Ext w w')∨∃ch,r = .panicked ch∧∃c,CB b = .error c∧ch= [CV c]∧Ext w w' :=by
 obtain⟨f,hf⟩:∃f,f=Eb (b.drop (b.length-36)):=⟨_,rfl⟩;refine gG (args:= [v]) Tryz.func79 rfl 168 rfl rfl ?_;have hE:=Ext.refl w;refine gS (ZF Gj (ZB (hr.keep hE) rfl) (gS (Zw (xv:=NI b.length) (yv:=NI 36) rfl rfl rfl (BN _ _ _ (by omega) (by omega)) (gS (Z1 (xs:=b) (l:=(b.length)-(36)) Gj Qq rfl (hr.keep hE) rfl (by omega) fun v4 ey ha6=>(gS (ZA F4 rfl (((show Calls _ _ _ _ (fun e w2=>e = .returned (NI (f))∧Ext _ w2)from by rw[hf];exact DX _ v4 (b.drop ((b.length)-(36))) ey (by simp only[Ac5];omega))).mono ?_))))))));rintro e w8 ⟨rfl,ba⟩;refine⟨_,rfl,?_⟩;rcases hd:A6 0 (b.drop 1)with _ | ⟨n,k⟩
 ·have hP:CB b = .error 6:=by unfold CB;rw[hd]
  by_cases h80:(b.getD 0 0).toNat=80
  ·have hE:=hE.trans ba;refine gS (Zx CM rfl rfl (((show Calls _ _ _ _ (fun e w2=>e = .returned (.tuple #[NI 0,NI 0,NI 6])∧Ext _ w2)from(EH _ v b (hr.keep hE) 1 (by omega)).mono fun e w2 ⟨h1,h2⟩=>by subst h2;subst h1;rw[hd];exact⟨rfl,Ext.refl _⟩)).mono ?_));rintro e hp ⟨rfl,ez⟩;refine⟨_,rfl,?_⟩;have hE:=hE.trans ez;refine gS (Yk.extract (vs:= [NI 0,NI 0,NI 6]) rfl rfl (gS (Yk.extract (vs:= [NI 0,NI 0,NI 6]) rfl rfl (gS (Yk.extract (vs:= [NI 0,NI 0,NI 6]) rfl rfl (gS (ZU (l:=b) (i:=0) Gj Qq (ZB (hr.keep hE) rfl) rfl (by omega) fun ht e0=>(gS (ZL u5 rfl (ZQ e0 rfl) (gS (Zv (a:=((b.getD (0) 0).toNat:Nat)) (b:=(80:Nat)) rfl rfl (AF _ _ _ _) (kT (h80) (gS (Zv (a:=(6:Nat)) (b:=(0:Nat)) rfl rfl (AF _ _ _ _) (kF (by decide) (gS (ZE rfl rfl (gS (ZH rfl rfl (gS (ZH rfl rfl (gS (ZH rfl rfl (gP (ZN F2 rfl rfl ?_)))))))))))))))))))))))));refine Ar (AW _ (false) 6) ?_ ?_;rotate_left
   ·rintro ch hu ⟨rfl,hb,hx⟩;refine Au ?_;exact .inr ⟨_,rfl,6,hP,rfl,hE.trans hx⟩
   rintro v_ hv ⟨rfl,e1,hw⟩;cases e1
  have hE:=hE.trans ba;refine gS (Zx CM rfl rfl (((show Calls _ _ _ _ (fun e w2=>e = .returned (.tuple #[NI 0,NI 0,NI 6])∧Ext _ w2)from(EH _ v b (hr.keep hE) 1 (by omega)).mono fun e w2 ⟨h1,h2⟩=>by subst h2;subst h1;rw[hd];exact⟨rfl,Ext.refl _⟩)).mono ?_));rintro e hy ⟨rfl,e2⟩;refine⟨_,rfl,?_⟩;have hE:=hE.trans e2;refine gS (Yk.extract (vs:= [NI 0,NI 0,NI 6]) rfl rfl (gS (Yk.extract (vs:= [NI 0,NI 0,NI 6]) rfl rfl (gS (Yk.extract (vs:= [NI 0,NI 0,NI 6]) rfl rfl (gS (ZU (l:=b) (i:=0) Gj Qq (ZB (hr.keep hE) rfl) rfl (by omega) fun hz e3=>(gS (ZL u5 rfl (ZQ e3 rfl) (gS (Zv (a:=((b.getD (0) 0).toNat:Nat)) (b:=(80:Nat)) rfl rfl (AF _ _ _ _) (kF (h80) (gS (ZH rfl rfl (gS (ZH rfl rfl (gS (ZH rfl rfl (gS (ZH rfl rfl (gP (ZN F2 rfl rfl ?_))))))))))))))))))))));refine Ar (AW _ (false) 6) ?_ ?_;rotate_left
  ·rintro ch h0 ⟨rfl,hb,hx⟩;refine Au ?_;exact .inr ⟨_,rfl,6,hP,rfl,hE.trans hx⟩
  rintro v_ h3 ⟨rfl,e4,h4⟩;cases e4
 have hP0:CB b=Jp b f n (1+k):=by unfold CB;rw[hd];show Jp b (Eb _) n (1+k)=_;rw[←hf]
 by_cases h80:(b.getD 0 0).toNat=80
 ·by_cases q1:1+k≤f
  ·by_cases q2:f≤b.length-36
   ·by_cases q3:n≤b.length-36
    ·have hA:b.getD 0 0=80∧1+k≤f∧f≤b.length-36∧n≤b.length-36:=⟨Agr.1 (by rw[h80];rfl),q1,q2,q3⟩;have hE:=hE.trans ba;refine gS (Zx CM rfl rfl (((show Calls _ _ _ _ (fun e w2=>e = .returned (.tuple #[NI n,NI (1+k),NI 0])∧Ext _ w2)from(EH _ v b (hr.keep hE) 1 (by omega)).mono fun e w2 ⟨h1,h2⟩=>by subst h2;subst h1;rw[hd];exact⟨rfl,Ext.refl _⟩)).mono ?_));rintro e h5 ⟨rfl,e5⟩;refine⟨_,rfl,?_⟩;have hE:=hE.trans e5;refine gS (Yk.extract (vs:= [NI n,NI (1+k),NI 0]) rfl rfl (gS (Yk.extract (vs:= [NI n,NI (1+k),NI 0]) rfl rfl (gS (Yk.extract (vs:= [NI n,NI (1+k),NI 0]) rfl rfl (gS (ZU (l:=b) (i:=0) Gj Qq (ZB (hr.keep hE) rfl) rfl (by omega) fun h6 c8=>(gS (ZL u5 rfl (ZQ c8 rfl) (gS (Zv (a:=((b.getD (0) 0).toNat:Nat)) (b:=(80:Nat)) rfl rfl (AF _ _ _ _) (kT (h80) (gS (Zv (a:=(0:Nat)) (b:=(0:Nat)) rfl rfl (AF _ _ _ _) (kT (rfl) (gS (ZE rfl rfl (gS (Zv (a:=(f:Nat)) (b:=(1+k:Nat)) rfl rfl (EM _ _ _ _) (kT (q1) (gS (ZE rfl rfl (gS (Zv (a:=(f:Nat)) (b:=((b.length)-(36):Nat)) rfl rfl (DD _ _ _ _) (kT (q2) (gS (ZE rfl rfl (gS (Zv (a:=(n:Nat)) (b:=((b.length)-(36):Nat)) rfl rfl (DD _ _ _ _) (kT (q3) (gS (ZE rfl rfl (gP (ZN F2 rfl rfl ?_))))))))))))))))))))))))))))))))));refine Ar (AW _ (true) 6) ?_ ?_;rotate_left
     ·rintro ch h7 ⟨rfl,hb,hx⟩;refine Au ?_;cases hb
     rintro v_ h8 ⟨rfl,h9,c9⟩;clear c8;refine gS (Zw (xv:=NI ((b.length)-(36))) (yv:=NI f) rfl rfl rfl (BN _ _ _ (by omega) (by omega)) (gS (Zw (xv:=NI 36) (yv:=NI n) rfl rfl rfl (Cq _ _ _ (by omega)) (gS (Zw (xv:=NI 1024) (yv:=NI ((36)*(n))) rfl rfl rfl (Ag _ _ _ (by omega)) (gS (Zv (a:=(((b.length)-(36))-(f):Nat)) (b:=((1024)+((36)*(n)):Nat)) rfl rfl (AF _ _ _ _) (gP (ZN F2 rfl rfl ?_)))))))));refine Ar (AW _ (decide ((((b.length)-(36))-(f):Nat)=((1024)+((36)*(n))))) 6) ?_ ?_;rotate_left
     ·rintro ch ia ⟨rfl,hb,hx⟩;refine Au ?_;have hno:=of_decide_eq_false hb;have hE:=hE.trans c9;exact .inr ⟨_,rfl,6,hP0.trans ((if_pos hA).trans (if_neg hno)),rfl,hE.trans hx⟩
     rintro v_ ib ⟨rfl,e6,e7⟩;have e8:=of_decide_eq_true e6;have hq5:=e8;have hP1:CB b=HW b n (1+k) f:=hP0.trans ((if_pos hA).trans (if_pos hq5));have hE:=hE.trans (c9.trans e7);refine gP (Ab5 QY rfl rfl rfl rfl ?_);refine Ar (O7 _ v b (hr.keep hE) n (1+k) f (by omega) (by omega) (by omega) (by omega)) ?_ ?_;rotate_left
     ·rintro ch ic ⟨hno,rfl,hx⟩;refine Au ?_;exact .inr ⟨_,rfl,6,hP1.trans (by unfold HW;rw[hno]),rfl,hE.trans hx⟩
     rintro bq br ⟨es,hes,au,hok52,e9,fa⟩;have hnwE:∀x∈es,NewV w.heap.size x.2:=fun x hx k hk=>AcN (hE).size (e9 x hx k hk);have hok:=hok52;have hel:=IR hes (by omega);rw[Ada]at hel;have heln:=hel.1;have hP2:CB b=GO b f (es.map Adk):=hP1.trans (by unfold HW;rw[hes]);have hE:=hE.trans fa;refine gS (Zw (xv:=NI f) (yv:=NI 1024) rfl rfl rfl (Ag _ _ _ (by omega)) (gS (Aas (xs:=b) (l:=(f)+(1024)) (n:=(b.length)-(36)) Gj Qq rfl (hr.keep hE) rfl rfl (by omega) (by omega) fun fb fc ha60=>(gP (ZN QZ rfl rfl ?_)))));refine Ar (QS _ fb ((b.drop (f+1024)).take (b.length-36-(f+1024))) fc bq es au hok (by rw[Ac8,Ac5];omega) (by omega)) ?_ ?_;rotate_left
     ·rintro ch ie ⟨hno,rfl,hx⟩;refine Au ?_;exact .inr ⟨_,rfl,6,hP2.trans (by unfold GO;rw[Ada,F5,hno];rfl),rfl,hE.trans hx⟩
     rintro v_ bc ⟨s,ah,ab,his,rfl,bd,hm64,hNv0,da⟩;have hNvi:NewV w.heap.size ah:=fun k hk=>AcN (hE).size (hNv0 k hk);have p:=Ext.refl br;have ig:=hE.size;have hI:=Jo _ _ his;have hNM:NewM w.heap.size s.M:=fun id c hc=>hnwE c (hI.M id c hc);have p:=p.trans da;have hMO:MOk bc s.M:=AcG (hok.keep p) hI hel.2 (by omega);have t:=Ext.refl bc;have hE:=hE.trans da;have ih:=hE.size;have ii:=p.size;have hIl:=hI.len;have hlbe:=hm64.lt;have hP3:CB b=Hl b f (es.map Adk) s.plain:=hP2.trans (by unfold GO;rw[Ada,F5,his];rfl);refine gS (Yk.extract (vs:= [ah, .map (some ab)]) rfl rfl (gS (Yk.extract (vs:= [ah, .map (some ab)]) rfl rfl (gS (ZA SM rfl ((PH _ ah s.ids (bd.keep t)).mono ?_))))));rintro e ij ⟨rfl,b8⟩;refine⟨_,rfl,?_⟩;have hE:=hE.trans b8;have p:=p.trans b8;have hm64:=hm64.keep b8;have t:=t.trans b8;refine gL (fun(ρ:Ad) (wz:AcK)=>∃m:Nat,ρ 0=(v:AcJ)∧ρ 2=(.pointer none:AcJ)∧ρ 3=(NI ((b.length)-(36)):AcJ)∧ρ 4=(NI f:AcJ)∧ρ 5=(NI n:AcJ)∧ρ 6=(NI (1+k):AcJ)∧ρ 7=(NI 0:AcJ)∧ρ 8=(bq:AcJ)∧ρ 9=(ah:AcJ)∧ρ 10=(.map (some ab):AcJ)∧ρ 85=(.agg ((Be (s.ids)).map fun x=>NI x).toArray:AcJ)∧ρ 86=(NI m:AcJ)∧Ext w wz∧Ext br wz∧MapF rk BD (fun id:List UInt8=>id.length=32) wz ab s.M∧Ext bc wz∧(m≤256)∧(∀j,j<m→Eb (b.drop (f+4*j))=(Be s.ids).getD j 0)∧True) (fun ρ _=>256-(intOf (ρ 86)).toNat) ⟨0,rfl,rfl,rfl,rfl,rfl,rfl,rfl,rfl,rfl,rfl,rfl,rfl,hE,p,hm64,t,Adm _,fun j hj=>absurd hj (Aet _),trivial⟩ ?_;clear hE hm64;rintro fd ik ⟨m,T0,T2,T3,T4,T5,T6,T7,T8,T9,af,ax,ai,hE,p,hm64,t,hm,hfan,-⟩;have q86:=ai;refine gS (Zv (a:=(m:Nat)) (b:=(256:Nat)) ai rfl (AI _ _ _ _) ?_);refine cD rfl (fun fe=> ?_) fun fe=> ?_
     ·refine gS (AbD (l:=Be (s.ids)) (i:=m) Ec Uo rfl Hg ax ai (by omega) (by rw[BW]) (gS (Zw (xv:=NI 4) (yv:=NI m) rfl ai rfl (Cq _ _ _ (by omega)) (gS (Zw (xv:=NI f) (yv:=NI ((4)*(m))) T4 rfl rfl (Ag _ _ _ (by omega)) (gS (Z1 (xs:=b) (l:=(f)+((4)*(m))) Gj Qq T0 (hr.keep hE) rfl (by omega) fun ff fg ha89=>(gS (ZA F4 rfl (((show Calls _ _ _ _ (fun e w2=>e = .returned (NI (Eb (b.drop (f+4*m))))∧Ext _ w2)from by skip;exact DX _ ff (b.drop ((f)+((4)*(m)))) fg (by simp only[Ac5];omega))).mono ?_))))))))));rintro e il ⟨rfl,db⟩;refine⟨_,rfl,?_⟩;refine gS (Zv (a:=(Eb (b.drop (f+4*m)):Nat)) (b:=((Be (s.ids)).getD (m) 0:Nat)) rfl rfl (AF _ _ _ _) (gP (ZN F2 rfl rfl ?_)));refine Ar (AW _ (decide ((Eb (b.drop (f+4*m)):Nat)=((Be (s.ids)).getD (m) 0))) 6) ?_ ?_;rotate_left
      ·rintro ch im ⟨rfl,hb,hx⟩;refine Au ?_;have hno:=of_decide_eq_false hb;have hE:=hE.trans db;exact .inr ⟨_,rfl,6,hP3.trans (if_neg (fun h=>hno (WQ h (by omega)))),rfl,hE.trans hx⟩
      rintro v_ io ⟨rfl,fh,fi⟩;have fj:=of_decide_eq_true fh;have hZ1:=db.trans fi;have hE:=hE.trans hZ1;have p:=p.trans hZ1;have hm64:=hm64.keep hZ1;have t:=t.trans hZ1;refine gS (Zw (xv:=NI m) (yv:=NI 1) ai rfl rfl (Ag _ _ _ (by omega)) (gK (Adr ⟨m+1,T0,T2,T3,T4,T5,T6,T7,T8,T9,af,ax,rfl,hE,p,hm64,t,by omega,fun j hj=>by by_cases e:j=m;subst e;exact fj;exact hfan j (by omega),trivial⟩ ?_)));show 256-(intOf (NI ((m)+(1)))).toNat<256-(intOf (fd 86)).toNat;rw[q86];simp only[intOf,Ac0];omega
     have hfb:=fanB_of (fun j hj=>hfan j (by omega));have hP4:CB b=(if K7 (es.map Adk) s.plain.M=true then GN (K5 s.plain.M) s.plain.ids else .error 6):=hP3.trans (if_pos hfb);refine gS (ZI F3 (ZC (au.keep p) T8) (gL (fun(ρ:Ad) (wz:AcK)=>∃q:Nat,ρ 0=(v:AcJ)∧ρ 2=(.pointer none:AcJ)∧ρ 3=(NI ((b.length)-(36)):AcJ)∧ρ 4=(NI f:AcJ)∧ρ 5=(NI n:AcJ)∧ρ 6=(NI (1+k):AcJ)∧ρ 7=(NI 0:AcJ)∧ρ 8=(bq:AcJ)∧ρ 9=(ah:AcJ)∧ρ 10=(.map (some ab):AcJ)∧ρ 85=(.agg ((Be (s.ids)).map fun x=>NI x).toArray:AcJ)∧ρ 86=(NI m:AcJ)∧ρ 101=(bq:AcJ)∧ρ 102=(NI es.length:AcJ)∧ρ 103=(NI q:AcJ)∧Ext w wz∧Ext br wz∧MapF rk BD (fun id:List UInt8=>id.length=32) wz ab s.M∧Ext bc wz∧(q≤es.length)∧(∀j,j<q→(es.getD j dEnt).1.based=true→s.M (es.getD j dEnt).1.base≠none)∧True) (fun ρ _=>es.length-(intOf (ρ 103)).toNat) ⟨0,T0,T2,T3,T4,T5,T6,T7,T8,T9,af,ax,ai,T8,rfl,rfl,hE,p,hm64,t,Adm _,fun j hj=>absurd hj (Aet _),trivial⟩ ?_));clear hE p hm64 t;rintro cw b9 ⟨q,T0,T2,T3,T4,T5,T6,T7,T8,T9,af,ax,ai,ay,be,am,hE,p,hm64,t,hq,hbs,-⟩;have q103:=am;refine gS (Zv (a:=(q:Nat)) (b:=(es.length:Nat)) am be (AI _ _ _ _) ?_);refine cD rfl (fun dc=> ?_) fun dc=> ?_
     ·have hc2_:q<es.length:=dc;have hcl:=hok _ (getD_mem dEnt (l:=es) (i:=q) hc2_);rcases hl:s.M (es.getD (q) dEnt).1.base with _ | c
      ·rcases hbx:(es.getD (q) dEnt).1.based with _ | _
       ·have fk:(entC (es.getD (q) dEnt)).length=35:=(RG.elem (au.keep p) dEnt (by omega));refine gS (ZO F3 O8 (by decide) dEnt (ZC (au.keep p) ay) am (by omega) fun ip de=>(gS (ZS (ZT de rfl) (KZ).choose_spec rfl (by rw[fk];exact EI) (gS (Yk.alloc HT fun df fl fm dh di iq=> ?_)))));have bf:=Ext.refl b9;have ir:=hE.size;have iu:=p.size;have iv:=t.size;have iw:=As hm64.lt fm;have a5:=dh;clear dh;have ix:df<fl.heap.size:=by omega
        refine gS (Zy (vr (PQ df 0) rfl) (vr (.agg (entC (es.getD (q) dEnt)).toArray) rfl) a5 (Bx (x:=((es.getD (q) dEnt):Aj)) (y:=(dEnt:Aj)) hcl.2 (by simp[dEnt])) (Bk (x:=((es.getD (q) dEnt):Aj)) EI hcl.2) (Bz (x:=((es.getD (q) dEnt):Aj)) (RB.one hcl.1).2) fun fn dj dk iy=> ?_);have hm64:=hm64.keep di;have hm64:=MapF.other hm64 dk (Ak (by omega));clear a5;have a5:=dj;clear dj;have iz:=bl a5;clear de;refine gS (Yk.fieldAt NR rfl (gS (Z0 rfl (Ev (x:=((es.getD (q) dEnt):Aj)) a5) Wq rfl (by rw[AcZ,hcl.2];exact R4) (gS (Aah (ek:=rk) (ev:=BD) (D:=(fun id:List UInt8=>id.length=32)) Cm Cn (fun _ _=>Cg) K3 (z:=BD dEnt) Dh af rfl hm64 hcl.2 hl (gS (Yk.extract (vs:= [.agg (entC (dEnt)).toArray, .bool (false)]) rfl rfl (gS (Yk.extract (vs:= [.agg (entC (dEnt)).toArray, .bool (false)]) rfl rfl (gS (Yk.alloc HT fun dl fo fp dm bu i0=> ?_)))))))))));have bv:=Ext.refl fn;have bf:=bf.trans di;have bf:=Ab bf dk (AcN (AcP _) (by omega));have hE:=hE.trans bf;have p:=p.trans bf;have t:=t.trans bf;have fq:=hE.size;have fr:=p.size;have fs:=t.size;have i1:=As hm64.lt fp;have ca:=dm;clear dm;have i2:dl<fo.heap.size:=by omega
        refine gS (Zy (vr (PQ dl 0) rfl) (vr (.agg (entC (dEnt)).toArray) rfl) ca (Bx (x:=((dEnt):Aj)) (y:=(dEnt:Aj)) (by simp[dEnt]) (by simp[dEnt])) (Bk (x:=((dEnt):Aj)) EI (by simp[dEnt])) (Bz (x:=((dEnt):Aj)) rfl) fun i3 dn bw i4=> ?_);have hm64:=hm64.keep bu;have hm64:=MapF.other hm64 bw (Ak (by omega));clear ca;have ca:=dn;clear dn;have i5:=bl ca;have bv:=bv.trans bu;have bv:=Ab bv bw (AcN (AcP _) (by omega));have a5:=eb bv a5;refine gS (Yk.fieldAt Gn rfl (gS (Zu Ka rfl rfl (cellAt a5 ((show(entC ((es.getD (q) dEnt)))[1]? =some (.bool false:AcJ)from congrArg (fun b=>some (Adl b)) hbx))) (gS (Z9 rfl (gS (ZE rfl rfl (gP (ZN F2 rfl rfl ?_)))))))));refine Ar (AW _ (true) 6) ?_ ?_;rotate_left
        ·rintro ch i6 ⟨rfl,hb,hx⟩;refine Au ?_;cases hb
        rintro v_ i7 ⟨rfl,i8,cb⟩;have hE:=hE.trans bu;have hE:=Ab hE bw (AcN fq (by omega));have hE:=hE.trans cb;have p:=p.trans bu;have p:=Ab p bw (AcN fr (by omega));have p:=p.trans cb;have t:=t.trans bu;have t:=Ab t bw (AcN fs (by omega));have t:=t.trans cb;have hm64:=hm64.keep cb;refine gS (Zw (xv:=NI q) (yv:=NI 1) am rfl rfl (Ag _ _ _ (by omega)) (gK (Adr ⟨q+1,T0,T2,T3,T4,T5,T6,T7,T8,T9,af,ax,ai,ay,be,rfl,hE,p,hm64,t,by omega,fun j hj=>by by_cases e:j=q;subst e;exact(fun hbt=>by rw[hbx]at hbt;cases hbt);exact hbs j (by omega),trivial⟩ ?_)));show es.length-(intOf (NI ((q)+(1)))).toNat<es.length-(intOf (cw 103)).toNat;rw[q103];simp only[intOf,Ac0];omega
       have ft:(entC (es.getD (q) dEnt)).length=35:=(RG.elem (au.keep p) dEnt (by omega));refine gS (ZO F3 O8 (by decide) dEnt (ZC (au.keep p) ay) am (by omega) fun i9 dp=>(gS (ZS (ZT dp rfl) (KZ).choose_spec rfl (by rw[ft];exact EI) (gS (Yk.alloc HT fun dq fu fv dr ds ja=> ?_)))));have bg:=Ext.refl b9;have jb:=hE.size;have jc:=p.size;have jd:=t.size;have je:=As hm64.lt fv;have a6:=dr;clear dr;have jf:dq<fu.heap.size:=by omega
       refine gS (Zy (vr (PQ dq 0) rfl) (vr (.agg (entC (es.getD (q) dEnt)).toArray) rfl) a6 (Bx (x:=((es.getD (q) dEnt):Aj)) (y:=(dEnt:Aj)) hcl.2 (by simp[dEnt])) (Bk (x:=((es.getD (q) dEnt):Aj)) EI hcl.2) (Bz (x:=((es.getD (q) dEnt):Aj)) (RB.one hcl.1).2) fun fw dt du jg=> ?_);have hm64:=hm64.keep ds;have hm64:=MapF.other hm64 du (Ak (by omega));clear a6;have a6:=dt;clear dt;have jh:=bl a6;clear dp;refine gS (Yk.fieldAt NR rfl (gS (Z0 rfl (Ev (x:=((es.getD (q) dEnt):Aj)) a6) Wq rfl (by rw[AcZ,hcl.2];exact R4) (gS (Aah (ek:=rk) (ev:=BD) (D:=(fun id:List UInt8=>id.length=32)) Cm Cn (fun _ _=>Cg) K3 (z:=BD dEnt) Dh af rfl hm64 hcl.2 hl (gS (Yk.extract (vs:= [.agg (entC (dEnt)).toArray, .bool (false)]) rfl rfl (gS (Yk.extract (vs:= [.agg (entC (dEnt)).toArray, .bool (false)]) rfl rfl (gS (Yk.alloc HT fun dv fx fy dw cx ji=> ?_)))))))))));have bx:=Ext.refl fw;have bg:=bg.trans ds;have bg:=Ab bg du (AcN (AcP _) (by omega));have hE:=hE.trans bg;have p:=p.trans bg;have t:=t.trans bg;have fz:=hE.size;have jj:=p.size;have jk:=t.size;have jl:=As hm64.lt fy;have cc:=dw;clear dw;have jm:dv<fx.heap.size:=by omega
       refine gS (Zy (vr (PQ dv 0) rfl) (vr (.agg (entC (dEnt)).toArray) rfl) cc (Bx (x:=((dEnt):Aj)) (y:=(dEnt:Aj)) (by simp[dEnt]) (by simp[dEnt])) (Bk (x:=((dEnt):Aj)) EI (by simp[dEnt])) (Bz (x:=((dEnt):Aj)) rfl) fun jn dx cy jo=> ?_);have hm64:=hm64.keep cx;have hm64:=MapF.other hm64 cy (Ak (by omega));clear cc;have cc:=dx;clear dx;have jp:=bl cc;have bx:=bx.trans cx;have bx:=Ab bx cy (AcN (AcP _) (by omega));have a6:=eb bx a6;refine gS (Yk.fieldAt Gn rfl (gS (Zu Ka rfl rfl (cellAt a6 ((show(entC ((es.getD (q) dEnt)))[1]? =some (.bool true:AcJ)from congrArg (fun b=>some (Adl b)) hbx))) (gS (Z9 rfl (gS (ZH rfl rfl (gP (ZN F2 rfl rfl ?_)))))))));refine Ar (AW _ (false) 6) ?_ ?_;rotate_left
       ·rintro ch jq ⟨rfl,hb,hx⟩;refine Au ?_;have hE:=hE.trans cx;have hE:=Ab hE cy (AcN fz (by omega));exact .inr ⟨_,rfl,6,hP4.trans (if_neg (fun h=>SR h hc2_ hbx hl)),rfl,hE.trans hx⟩
       rintro v_ jr ⟨rfl,f0,js⟩;cases f0
      have hcx:=hMO _ c hl;rcases hbx:(es.getD (q) dEnt).1.based with _ | _
      ·have f1:(entC (es.getD (q) dEnt)).length=35:=(RG.elem (au.keep p) dEnt (by omega));refine gS (ZO F3 O8 (by decide) dEnt (ZC (au.keep p) ay) am (by omega) fun jt dy=>(gS (ZS (ZT dy rfl) (KZ).choose_spec rfl (by rw[f1];exact EI) (gS (Yk.alloc HT fun dz f2 f3 d0 d1 ju=> ?_)))));have bh:=Ext.refl b9;have jv:=hE.size;have jw:=p.size;have jx:=t.size;have jy:=As hm64.lt f3;have a7:=d0;clear d0;have jz:dz<f2.heap.size:=by omega
       refine gS (Zy (vr (PQ dz 0) rfl) (vr (.agg (entC (es.getD (q) dEnt)).toArray) rfl) a7 (Bx (x:=((es.getD (q) dEnt):Aj)) (y:=(dEnt:Aj)) hcl.2 (by simp[dEnt])) (Bk (x:=((es.getD (q) dEnt):Aj)) EI hcl.2) (Bz (x:=((es.getD (q) dEnt):Aj)) (RB.one hcl.1).2) fun f4 d2 d3 j0=> ?_);have hm64:=hm64.keep d1;have hm64:=MapF.other hm64 d3 (Ak (by omega));clear a7;have a7:=d2;clear d2;have j1:=bl a7;clear dy;refine gS (Yk.fieldAt NR rfl (gS (Z0 rfl (Ev (x:=((es.getD (q) dEnt):Aj)) a7) Wq rfl (by rw[AcZ,hcl.2];exact R4) (gS (Aab (ek:=rk) (ev:=BD) (D:=(fun id:List UInt8=>id.length=32)) Cm Cn (fun _ _=>Cg) K3 (z:=BD dEnt) Dh af rfl hm64 hcl.2 hl (gS (Yk.extract (vs:= [.agg (entC (c)).toArray, .bool (true)]) rfl rfl (gS (Yk.extract (vs:= [.agg (entC (c)).toArray, .bool (true)]) rfl rfl (gS (Yk.alloc HT fun d4 f5 f6 d5 bz j2=> ?_)))))))))));have b0:=Ext.refl f4;have bh:=bh.trans d1;have bh:=Ab bh d3 (AcN (AcP _) (by omega));have hE:=hE.trans bh;have p:=p.trans bh;have t:=t.trans bh;have f7:=hE.size;have f8:=p.size;have f9:=t.size;have j3:=As hm64.lt f6;have cd:=d5;clear d5;have j4:d4<f5.heap.size:=by omega
       refine gS (Zy (vr (PQ d4 0) rfl) (vr (.agg (entC (c)).toArray) rfl) cd (Bx (x:=((c):Aj)) (y:=(dEnt:Aj)) hcx.2.1 (by simp[dEnt])) (Bk (x:=((c):Aj)) EI hcx.2.1) (Bz (x:=((c):Aj)) (RB.one hcx.1).2) fun j5 d6 b1 j6=> ?_);have hm64:=hm64.keep bz;have hm64:=MapF.other hm64 b1 (Ak (by omega));clear cd;have cd:=d6;clear d6;have j7:=bl cd;have b0:=b0.trans bz;have b0:=Ab b0 b1 (AcN (AcP _) (by omega));have a7:=eb b0 a7;refine gS (Yk.fieldAt Gn rfl (gS (Zu Ka rfl rfl (cellAt a7 ((show(entC ((es.getD (q) dEnt)))[1]? =some (.bool false:AcJ)from congrArg (fun b=>some (Adl b)) hbx))) (gS (Z9 rfl (gS (ZE rfl rfl (gP (ZN F2 rfl rfl ?_)))))))));refine Ar (AW _ (true) 6) ?_ ?_;rotate_left
       ·rintro ch j8 ⟨rfl,hb,hx⟩;refine Au ?_;cases hb
       rintro v_ j9 ⟨rfl,ka,ce⟩;have hE:=hE.trans bz;have hE:=Ab hE b1 (AcN f7 (by omega));have hE:=hE.trans ce;have p:=p.trans bz;have p:=Ab p b1 (AcN f8 (by omega));have p:=p.trans ce;have t:=t.trans bz;have t:=Ab t b1 (AcN f9 (by omega));have t:=t.trans ce;have hm64:=hm64.keep ce;refine gS (Zw (xv:=NI q) (yv:=NI 1) am rfl rfl (Ag _ _ _ (by omega)) (gK (Adr ⟨q+1,T0,T2,T3,T4,T5,T6,T7,T8,T9,af,ax,ai,ay,be,rfl,hE,p,hm64,t,by omega,fun j hj=>by by_cases e:j=q;subst e;exact(fun hbt=>by rw[hbx]at hbt;cases hbt);exact hbs j (by omega),trivial⟩ ?_)));show es.length-(intOf (NI ((q)+(1)))).toNat<es.length-(intOf (cw 103)).toNat;rw[q103];simp only[intOf,Ac0];omega
      have ga:(entC (es.getD (q) dEnt)).length=35:=(RG.elem (au.keep p) dEnt (by omega));refine gS (ZO F3 O8 (by decide) dEnt (ZC (au.keep p) ay) am (by omega) fun kc d7=>(gS (ZS (ZT d7 rfl) (KZ).choose_spec rfl (by rw[ga];exact EI) (gS (Yk.alloc HT fun d8 gb gc d9 ea kd=> ?_)))));have bi:=Ext.refl b9;have ke:=hE.size;have kf:=p.size;have kg:=t.size;have kh:=As hm64.lt gc;have a8:=d9;clear d9;have ki:d8<gb.heap.size:=by omega
      refine gS (Zy (vr (PQ d8 0) rfl) (vr (.agg (entC (es.getD (q) dEnt)).toArray) rfl) a8 (Bx (x:=((es.getD (q) dEnt):Aj)) (y:=(dEnt:Aj)) hcl.2 (by simp[dEnt])) (Bk (x:=((es.getD (q) dEnt):Aj)) EI hcl.2) (Bz (x:=((es.getD (q) dEnt):Aj)) (RB.one hcl.1).2) fun gd ec ed kj=> ?_);have hm64:=hm64.keep ea;have hm64:=MapF.other hm64 ed (Ak (by omega));clear a8;have a8:=ec;clear ec;have kl:=bl a8;clear d7;refine gS (Yk.fieldAt NR rfl (gS (Z0 rfl (Ev (x:=((es.getD (q) dEnt):Aj)) a8) Wq rfl (by rw[AcZ,hcl.2];exact R4) (gS (Aab (ek:=rk) (ev:=BD) (D:=(fun id:List UInt8=>id.length=32)) Cm Cn (fun _ _=>Cg) K3 (z:=BD dEnt) Dh af rfl hm64 hcl.2 hl (gS (Yk.extract (vs:= [.agg (entC (c)).toArray, .bool (true)]) rfl rfl (gS (Yk.extract (vs:= [.agg (entC (c)).toArray, .bool (true)]) rfl rfl (gS (Yk.alloc HT fun ee ge gf ef b2 km=> ?_)))))))))));have b3:=Ext.refl gd;have bi:=bi.trans ea;have bi:=Ab bi ed (AcN (AcP _) (by omega));have hE:=hE.trans bi;have p:=p.trans bi;have t:=t.trans bi;have gg:=hE.size;have gh:=p.size;have gi:=t.size;have kn:=As hm64.lt gf;have cf:=ef;clear ef;have ko:ee<ge.heap.size:=by omega
      refine gS (Zy (vr (PQ ee 0) rfl) (vr (.agg (entC (c)).toArray) rfl) cf (Bx (x:=((c):Aj)) (y:=(dEnt:Aj)) hcx.2.1 (by simp[dEnt])) (Bk (x:=((c):Aj)) EI hcx.2.1) (Bz (x:=((c):Aj)) (RB.one hcx.1).2) fun kp eg b4 kq=> ?_);have hm64:=hm64.keep b2;have hm64:=MapF.other hm64 b4 (Ak (by omega));clear cf;have cf:=eg;clear eg;have kr:=bl cf;have b3:=b3.trans b2;have b3:=Ab b3 b4 (AcN (AcP _) (by omega));have a8:=eb b3 a8;refine gS (Yk.fieldAt Gn rfl (gS (Zu Ka rfl rfl (cellAt a8 ((show(entC ((es.getD (q) dEnt)))[1]? =some (.bool true:AcJ)from congrArg (fun b=>some (Adl b)) hbx))) (gS (Z9 rfl (gS (ZH rfl rfl (gP (ZN F2 rfl rfl ?_)))))))));refine Ar (AW _ (true) 6) ?_ ?_;rotate_left
      ·rintro ch ks ⟨rfl,hb,hx⟩;refine Au ?_;cases hb
      rintro v_ kt ⟨rfl,ku,cg⟩;have hE:=hE.trans b2;have hE:=Ab hE b4 (AcN gg (by omega));have hE:=hE.trans cg;have p:=p.trans b2;have p:=Ab p b4 (AcN gh (by omega));have p:=p.trans cg;have t:=t.trans b2;have t:=Ab t b4 (AcN gi (by omega));have t:=t.trans cg;have hm64:=hm64.keep cg;refine gS (Zw (xv:=NI q) (yv:=NI 1) am rfl rfl (Ag _ _ _ (by omega)) (gK (Adr ⟨q+1,T0,T2,T3,T4,T5,T6,T7,T8,T9,af,ax,ai,ay,be,rfl,hE,p,hm64,t,by omega,fun j hj=>by by_cases e:j=q;subst e;exact(fun _ hn=>by rw[hl]at hn;cases hn);exact hbs j (by omega),trivial⟩ ?_)));show es.length-(intOf (NI ((q)+(1)))).toNat<es.length-(intOf (cw 103)).toNat;rw[q103];simp only[intOf,Ac0];omega
     have hbb:=SS (fun j hj=>hbs j (by omega));have hP5:CB b=GN (K5 s.plain.M) s.ids:=hP4.trans (if_pos hbb);refine gS (Aan rk Ck (fun id:List UInt8=>id.length=32) fun aj gj gk aq ci kv=> ?_);have kw:=hE.size;have kx:=p.size;have ky:=t.size;have kz:=As hm64.lt gk;have k0:aj<gj.heap.size:=by omega
     refine gS (Aai af (vr (.map (some aj)) rfl) (fun w=>K9 (ab) (aj) w) (gS (Yk.box (cs:=([.map (some ab), .map (some aj)]:List AcJ).toArray) (show _=(.agg ([.map (some ab), .map (some aj)]).toArray:AcJ)from rfl) fun bj gl eh ei b5 k1=> ?_)));have hE:=hE.trans ci;have p:=p.trans ci;have t:=t.trans ci;have k2:=hE.size;have k3:=p.size;have k4:=t.size;have hm64:=hm64.keep ci;have k5:=As hm64.lt eh;have k6:=As aq.lt eh;have aa:=ei;clear ei;have k7:bj<gl.heap.size:=by omega
     refine gS (Aan rk Ck (fun id:List UInt8=>id.length=32) fun ak gm cz b6 bs k8=> ?_);have hE:=hE.trans b5;have p:=p.trans b5;have t:=t.trans b5;have k9:=hE.size;have la:=p.size;have lb:=t.size;have hm64:=hm64.keep b5;have lc:=As hm64.lt cz;have aq:=aq.keep b5;have ld:=As aq.lt cz;have le:ak<gm.heap.size:=by omega
     have hlo_bo:w.heap.size≤ak:=by omega
     have t:=t.trans bs;refine gS (Aai T9 (vr (.map (some ak)) rfl) (fun w=>La (RG.slice (bd.keep t)) (ak) w) (gS (Yk.box (cs:=([ah, .map (some ak)]:List AcJ).toArray) (show _=(.agg ([ah, .map (some ak)]).toArray:AcJ)from rfl) fun bt gn cj ej bk lf=> ?_)));have hE:=hE.trans bs;have p:=p.trans bs;have lg:=hE.size;have lh:=p.size;have li:=t.size;have hm64:=hm64.keep bs;have lj:=As hm64.lt cj;have aq:=aq.keep bs;have lk:=As aq.lt cj;have ll:=As b6.lt cj;have ag:=ej;clear ej;have lm:bt<gn.heap.size:=by omega
     have hlo_gp:w.heap.size≤bt:=by omega
     have ln:=As (bl aa) cz;have aa:=eb bs aa;have lo:=As (bl aa) cj;have aa:=eb bk aa;have hE:=hE.trans bk;have p:=p.trans bk;have hm64:=hm64.keep bk;have t:=t.trans bk;have aq:=aq.keep bk;have b6:=b6.keep bk;refine gS (ZI NB (ZC (bd.keep t) T9) (gL (fun(ρ:Ad) (wz:AcK)=>∃i:Nat,∃st:Il,∃H:Bs→Option Co,∃O:Bs→Option Co,ρ 0=(v:AcJ)∧ρ 2=(.pointer none:AcJ)∧ρ 3=(NI ((b.length)-(36)):AcJ)∧ρ 4=(NI f:AcJ)∧ρ 5=(NI n:AcJ)∧ρ 6=(NI (1+k):AcJ)∧ρ 7=(NI 0:AcJ)∧ρ 8=(bq:AcJ)∧ρ 9=(ah:AcJ)∧ρ 10=(.map (some ab):AcJ)∧ρ 17=(PQ bj 0:AcJ)∧ρ 18=(PQ bt 0:AcJ)∧ρ 85=(.agg ((Be (s.ids)).map fun x=>NI x).toArray:AcJ)∧ρ 86=(NI m:AcJ)∧ρ 101=(bq:AcJ)∧ρ 102=(NI es.length:AcJ)∧ρ 103=(NI q:AcJ)∧ρ 130=(ah:AcJ)∧ρ 131=(NI ((s.ids).length):AcJ)∧ρ 132=(NI i:AcJ)∧ρ 19=(NI st.total:AcJ)∧Ext w wz∧Ext br wz∧MapF rk BD (fun id:List UInt8=>id.length=32) wz ab s.M∧Ext bc wz∧wz.heap[bj]? =some (.cells ([.map (some ab), .map (some aj)]).toArray 212 (0,0))∧wz.heap[bt]? =some (.cells ([ah, .map (some ak)]).toArray 163 (0,0))∧HOk wz s.M H∧OOk wz O∧MapF rk Ck (fun id:List UInt8=>id.length=32) wz aj (H)∧MapF rk Ck (fun id:List UInt8=>id.length=32) wz ak (O)∧(DE (AG s.M) s.ids i = .ok st)∧(i≤s.ids.length)∧((fun k=>(O k).map Adk)=st.O)∧(st.total≤4194304)∧(NewM w.heap.size H)∧(NewM w.heap.size O)∧True) (fun ρ _=>s.ids.length-(intOf (ρ 132)).toNat) ⟨0,⟨0,fun _=>none⟩,fun _=>none,fun _=>none,T0,T2,T3,T4,T5,T6,T7,T8,T9,af,rfl,rfl,ax,ai,ay,be,am,T9,rfl,rfl,rfl,hE,p,hm64,t,aa,ag,HOk.nil,OOk.nil _,Cb aq (rfl),Cb b6 (rfl),rfl,Adm _,rfl,Adm _,NewM.none _,NewM.none _,trivial⟩ ?_));clear aq;clear b6;clear hE p hm64 t aa ag;rintro go gp ⟨i,st,H,O,T0,T2,T3,T4,T5,T6,T7,T8,T9,af,c0,c1,ax,ai,ay,be,am,el,em,ck,gq,hE,p,hm64,t,aa,ag,hHO,hOO,hb332l,hb367l,hs,hi,hO,htot,hNH,hNO,-⟩;have q132:=ck;refine gS (Zv (a:=(i:Nat)) (b:=((s.ids).length:Nat)) ck em (AI _ _ _ _) ?_);refine cD rfl (fun en=> ?_) fun en=> ?_
     ·have hc3_:i<s.ids.length:=en;have hid32:(s.ids.getD i []).length=32:=by have:=RG.elem (bd.keep t) ([]:List UInt8) hc3_;rwa [AcZ]at this
      have oerr:∀c,Dj (AG s.M) (s.ids.getD i []) st = .error c→CB b = .error c:=fun c hc=>by rw[hP5];unfold GN;rw[←JM];have h1:=GM ((Fd hs).trans hc) (s.ids.length-(i+1));rw[show i+1+(s.ids.length-(i+1))=s.ids.length by omega]at h1;show(match DE (AG s.M) s.ids s.ids.length with | .error e=>_ | .ok o=>_)=_;rw[h1]
      have a9:(AcL ((s.ids).getD (i) ([]:List UInt8))).length=32:=(RG.elem (bd.keep t) ([]:List UInt8) (by omega));refine gS (ZO NB Sj (by decide) ([]:List UInt8) (ZC (bd.keep t) el) ck (by omega) fun lp eo=>(gS (ZS (ZT eo rfl) Wq rfl (by rw[a9];exact R4) (gS (Yk.alloc Ur fun cl gr c2 ep cm lq=> ?_)))));have ad:=Ext.refl gp;have lr:=hE.size;have ls:=p.size;have lu:=t.size;have lv:=As hm64.lt c2;have lw:=As hb332l.lt c2;have lx:=As hb367l.lt c2;have ac:=ep;clear ep;have ly:cl<gr.heap.size:=by omega
      refine gS (Zy (vr (PQ cl 0) rfl) (vr (AB ((s.ids).getD (i) ([]:List UInt8))) rfl) ac (by exact Bn (AD (a9)) Ac7) (by exact Ac (AD (a9))) (Af _) fun lz eq cn l0=> ?_);have hm64:=hm64.keep cm;have hm64:=MapF.other hm64 cn (Ak (by omega));have hb332l:=hb332l.keep cm;have hb332l:=MapF.other hb332l cn (Ak (by omega));have hb367l:=hb367l.keep cm;have hb367l:=MapF.other hb367l cn (Ak (by omega));clear ac;have ac:=eq;clear eq;have l3:=bl ac;clear eo;have ad:=ad.trans cm;have ad:=Ab ad cn (AcN (AcP _) (by omega));have aa:=eb ad aa;have t:=t.trans ad;refine gS (Zz rfl ac Wq rfl (by exact Ac (AD (a9))) (gP (ZN Q0 c0 rfl ?_)));refine Ar (QU _ bj ab aj s.M aa hm64 (hMO.keep t) (s.ids.getD i []) hid32) ?_ ?_;rotate_left
      ·rintro ch l4 ⟨hno,rfl,hx⟩;refine Au ?_;have hE:=hE.trans ad;exact .inr ⟨_,rfl,17,oerr 17 (K6 hno),rfl,hE.trans hx⟩
      rintro v_ gs ⟨dd,hdp,rfl,bm⟩;have hdle:=K8 hdp;have ad:=ad.trans bm;have hE:=hE.trans ad;have hm64:=hm64.keep bm;have t:=t.trans bm;have aa:=eb bm aa;have hb332l:=hb332l.keep bm;have ac:=eb bm ac;refine gS (Zz rfl ac Wq rfl (by exact Ac (AD (a9))) (gP (ZN QV c0 rfl ?_)));refine Ar (SQ bj ab aj s.M dd _ H (s.ids.getD i []) aa hm64 hb332l (hMO.keep t) (hHO.keep ad) (by omega) hid32 hdle 50 hdp w.heap.size hNM hNH (hE).size) ?_ ?_;rotate_left
      ·rintro ch l5 ⟨hno,rfl,hx⟩;refine Au ?_;exact .inr ⟨_,rfl,6,oerr 6 (Mk hdp hno),rfl,DH hE hx hE.size (fun k hk=>by cases hk;omega)⟩
      rintro v_ ar ⟨az,bb,kk,H1,rfl,hcg,bn,hm455,hHO456,co,hNv1,hNH1⟩;have bp:=co.grown;have hm461:Eh gs aj:=(Aat hb332l).noB8;have hE:Ext w ar:=DH hE co hE.size (fun k hk=>by cases hk;omega);have p:=p.trans ad;have p:Ext br ar:=DH p co p.size (fun k hk=>by cases hk;omega);have hm64:MapF rk BD (fun id:List UInt8=>id.length=32) ar ab s.M:=MapF.other hm64 bp (Ak (by omega));have t:Ext bc ar:=DH t co t.size (fun k hk=>by cases hk;omega);have aa:ar.heap[bj]? =some (.cells ([.map (some ab), .map (some aj)]).toArray 212 (0,0)):=kb bp aa (by omega);have ag:=eb ad ag;have ag:ar.heap[bt]? =some (.cells ([ah, .map (some ak)]).toArray 163 (0,0)):=kb bp ag (by omega);have hHO:HOk ar s.M H:=(hHO.keep ad).keepN hm461 bp;have hOO:OOk ar O:=(hOO.keep ad).keepN hm461 bp;clear hb332l;have hb367l:=hb367l.keep bm;have hb367l:MapF rk Ck (fun id:List UInt8=>id.length=32) ar ak (O):=MapF.other hb367l bp (Ak (by omega));have ac:ar.heap[cl]? =some (.cells (AcL ((s.ids).getD (i) ([]:List UInt8))).toArray 33 (0,0)):=kb bp ac (by omega);have l6:=hE.size;have l7:=p.size;have l8:=t.size;have hcl:=HU hcg;refine gS (Yk.alloc DQ fun c3 gt c4 er cp l9=> ?_);have u:=Ext.refl ar;have ma:=hE.size;have mb:=p.size;have mc:=t.size;have md:=As hm64.lt c4;have me:=As hb367l.lt c4;have mf:=As hm455.lt c4;have ae:=er;clear er;have mg:c3<gt.heap.size:=by omega
      have u:=u.trans cp;refine gS (Zy (vr (PQ c3 0) rfl) (vr (.agg ([az,NI kk]).toArray) rfl) ae rfl (show(Tryz.prog.info? 215).map (·.size)=some 2 from Bo) (Cv (RB.one (bn.keep u)).2) fun mh et cq mi=> ?_);have hm64:=hm64.keep cp;have hm64:=MapF.other hm64 cq (Ak (by omega));have hb367l:=hb367l.keep cp;have hb367l:=MapF.other hb367l cq (Ak (by omega));have hm455:=hm455.keep cp;have hm455:=MapF.other hm455 cq (Ak (by omega));clear ae;have ae:=et;clear et;have mj:=bl ae;refine D6 [0,1,4,2,3,5,6] [2,3,6] [] [4] fun gu c5=> ?_;have cr:=Ext.refl gu;have u:=Ab u cq (AcN (AcP _) (by omega));have u:=u.trans c5;have ac:=eb u ac;have ae:=eb c5 ae;refine DM cr ?_;refine ys (Yk.fieldAt Gu rfl zz) (ys (Zu Gj rfl rfl (cellAt ae rfl) zz) (yf (fun _ ⟨hZ,_⟩=>Zz rfl (eb hZ ac) Wq rfl (by exact Ac (AD (a9))) zz) (yE (Aae Gm (ZB (bn.keep u) (vr az rfl)) fun gv gw eu ct=> ?_))));have cr:=cr.trans ct;refine⟨cr,?_⟩;have c6:=Ext.refl gw;have u:=u.trans ct;have hE:=hE.trans u;refine yE (ZA J8 rfl ((Gc _ (hG.keep hE) gv (bb) eu (by omega)).mono ?_));rintro e mk ⟨rfl,b7⟩;refine⟨_,rfl,?_⟩;have c6:=c6.trans b7;refine⟨c6,?_⟩;refine ys (Abl (l1:=(Sha.sum (bb))) (l2:=((s.ids).getD (i) ([]:List UInt8))) Wq u5 Qq ST rfl rfl ((Sha.sum_length _)) (hid32) zz) (Zo rfl (ZN F2 rfl rfl ?_));refine Ar (AW _ (decide ((Sha.sum (bb))=((s.ids).getD (i) ([]:List UInt8)))) 18) ?_ ?_;rotate_left
      ·rintro ch ml ⟨rfl,hb,hx⟩;refine Au ?_;have hno:=of_decide_eq_false hb;have hE:=hE.trans b7;exact .inr ⟨_,rfl,18,oerr 18 ((Fc hdp hcg).trans (if_neg hno)),rfl,hE.trans hx⟩
      rintro v_ mm ⟨rfl,gx,c7⟩;have gy:=of_decide_eq_true gx;have hsum:=gy;have hZ2:=(ct.trans b7).trans c7;have ae:=eb hZ2 ae;have hZ3:=b7.trans c7;have u:=u.trans hZ3;refine gS (Yk.fieldAt Gu rfl (gS (Zu Gj rfl rfl (cellAt ae rfl) (gS (ZF Gj (ZB (bn.keep u) rfl) (gS (Zw (xv:=NI st.total) (yv:=NI bb.length) gq rfl rfl (Ag _ _ _ (by omega)) (gS (Zv (a:=((st.total)+(bb.length):Nat)) (b:=(4194304:Nat)) rfl rfl (DD _ _ _ _) (gP (ZN F2 rfl rfl ?_)))))))))));refine Ar (AW _ (decide (((st.total)+(bb.length))≤(4194304))) 2) ?_ ?_;rotate_left
      ·rintro ch mn ⟨rfl,hb,hx⟩;refine Au ?_;have hno:=of_decide_eq_false hb;have hE:=hE.trans hZ3;exact .inr ⟨_,rfl,2,oerr 2 ((Fc hdp hcg).trans ((if_pos hsum).trans (if_neg hno))),rfl,hE.trans hx⟩
      rintro v_ mo ⟨rfl,gz,cu⟩;have ew:=of_decide_eq_true gz;refine CD [0,1,2,3,4,5,6,7,8,9] [9] [] fun g0 cv=> ?_;have hZ4:=cu.trans cv;have u:=u.trans hZ4;have ag:=eb u ag;have hZ5:=((((c5.trans ct).trans b7).trans c7).trans cu).trans cv;have hb367l:=hb367l.keep hZ5;have ac:=eb ((hZ2.trans cu).trans cv) ac;have ae:=eb hZ4 ae;refine ys (Yk.nilCheck c1 zz) (ys (Yk.fieldAt NX rfl zz) (ys (Zu CN rfl rfl (cellAt ag rfl) zz) (ys (Zz rfl ac Wq rfl (by exact Ac (AD (a9))) zz) (ys (Yk.fieldAt Gu rfl zz) (ys (Zu Gj rfl rfl (cellAt ae rfl) zz) (ys (Aai (vr az rfl) (vr (NI dd) rfl) (fun w=>K4 (RB.slice (bn.keep u)) (((dd:Nat):Int)) w) zz) (yC (Aak (ek:=rk) (ev:=Ck) (D:=(fun id:List UInt8=>id.length=32)) (c:=(((bb,dd),az):Co)) Cm Cn CN (vr (.map (some ak)) rfl) (vr (AB ((s.ids).getD (i) ([]:List UInt8))) rfl) (vr (.agg ([az,NI dd]).toArray) rfl) hb367l (AD (a9)) fun an g1 ao mp=> ?_))))))));have hOO:=OOk.put (hOO.keep u) (id:=s.ids.getD i []) (x:=(((bb,dd),az):Co)) (bn.keep u);have hm523:Eh g0 ak:=(Aat hb367l).noB8;have hZ6:=(hZ3.trans cu).trans cv;have hE:=hE.trans hZ6;have hE:Ext w an:=DH hE (Z6 ao (AcP _) (fun k hk=> .inl hk)) hE.size (fun k hk=>by cases hk;omega);have p:=p.trans u;have p:Ext br an:=DH p (Z6 ao (AcP _) (fun k hk=> .inl hk)) p.size (fun k hk=>by cases hk;omega);have hm64:=hm64.keep hZ5;have hm64:MapF rk BD (fun id:List UInt8=>id.length=32) an ab s.M:=MapF.other hm64 ao (Ak (by omega));have t:=t.trans u;have t:Ext bc an:=DH t (Z6 ao (AcP _) (fun k hk=> .inl hk)) t.size (fun k hk=>by cases hk;omega);have aa:=eb u aa;have aa:an.heap[bj]? =some (.cells ([.map (some ab), .map (some aj)]).toArray 212 (0,0)):=kb ao aa (by omega);have ag:an.heap[bt]? =some (.cells ([ah, .map (some ak)]).toArray 163 (0,0)):=kb ao ag (by omega);have hOO:OOk an (updM (O) (s.ids.getD (i) ([]:List UInt8)) (some ((((bb,dd),az):Co)))):=hOO.keepN hm523 ao;clear hb367l;have ac:an.heap[cl]? =some (.cells (AcL ((s.ids).getD (i) ([]:List UInt8))).toArray 33 (0,0)):=kb ao ac (by omega);have bn:RB an az bb:=(bn.keep u).keepN hm523 ao;have hm455:=hm455.keep hZ5;have hm455:MapF rk Ck (fun id:List UInt8=>id.length=32) an aj H1:=MapF.other hm455 ao (Ak (by omega));have hHO456:HOk an s.M H1:=(hHO456.keep u).keepN hm523 ao;have ae:an.heap[c3]? =some (.cells ([az,NI kk]).toArray 215 (0,0)):=kb ao ae (by omega);clear eu;have mq:=hE.size;have mr:=p.size;have ms:=t.size;refine gS (Zw (xv:=NI i) (yv:=NI 1) ck rfl rfl (Ag _ _ _ (by omega)) (gK (Adr ⟨i+1,⟨st.total+bb.length,updM st.O (s.ids.getD i []) (some (bb,dd))⟩,H1,updM (O) (s.ids.getD (i) ([]:List UInt8)) (some ((((bb,dd),az):Co))),T0,T2,T3,T4,T5,T6,T7,T8,T9,af,c0,c1,ax,ai,ay,be,am,el,em,rfl,rfl,hE,p,hm64,t,aa,ag,hHO456,hOO,Cb hm455 (rfl),Cb g1 (rfl),(Fd hs).trans ((Fc hdp hcg).trans ((if_pos hsum).trans (if_pos ew))),by omega,by rw[HV,hO];rfl,ew,hNH1,NewM.put hNO _ hNv1,trivial⟩ ?_)));show s.ids.length-(intOf (NI ((i)+(1)))).toNat<s.ids.length-(intOf (go 132)).toNat;rw[q132];simp only[intOf,Ac0];omega
     have hie:i=s.ids.length:=by omega
     refine Bb rfl c1 ?_;exact .inl ⟨_,rfl,_,_,_,s.ids,O,rfl,by rw[hP5,←JM,NW (by rw[←hie];exact hs),hO],ag,(bd.keep t),hb367l,hOO,hlo_gp,hlo_bo,hNvi,hNO,hE⟩
    have hP:CB b = .error 6:=hP0.trans (if_neg (fun h=>by have h1:=h.2;exact q3 h1.2.2));have hE:=hE.trans ba;refine gS (Zx CM rfl rfl (((show Calls _ _ _ _ (fun e w2=>e = .returned (.tuple #[NI n,NI (1+k),NI 0])∧Ext _ w2)from(EH _ v b (hr.keep hE) 1 (by omega)).mono fun e w2 ⟨h1,h2⟩=>by subst h2;subst h1;rw[hd];exact⟨rfl,Ext.refl _⟩)).mono ?_));rintro e mt ⟨rfl,g2⟩;refine⟨_,rfl,?_⟩;have hE:=hE.trans g2;refine gS (Yk.extract (vs:= [NI n,NI (1+k),NI 0]) rfl rfl (gS (Yk.extract (vs:= [NI n,NI (1+k),NI 0]) rfl rfl (gS (Yk.extract (vs:= [NI n,NI (1+k),NI 0]) rfl rfl (gS (ZU (l:=b) (i:=0) Gj Qq (ZB (hr.keep hE) rfl) rfl (by omega) fun mu g3=>(gS (ZL u5 rfl (ZQ g3 rfl) (gS (Zv (a:=((b.getD (0) 0).toNat:Nat)) (b:=(80:Nat)) rfl rfl (AF _ _ _ _) (kT (h80) (gS (Zv (a:=(0:Nat)) (b:=(0:Nat)) rfl rfl (AF _ _ _ _) (kT (rfl) (gS (ZE rfl rfl (gS (Zv (a:=(f:Nat)) (b:=(1+k:Nat)) rfl rfl (EM _ _ _ _) (kT (q1) (gS (ZE rfl rfl (gS (Zv (a:=(f:Nat)) (b:=((b.length)-(36):Nat)) rfl rfl (DD _ _ _ _) (kT (q2) (gS (ZE rfl rfl (gS (Zv (a:=(n:Nat)) (b:=((b.length)-(36):Nat)) rfl rfl (DD _ _ _ _) (kF (q3) (gS (ZE rfl rfl (gP (ZN F2 rfl rfl ?_))))))))))))))))))))))))))))))))));refine Ar (AW _ (false) 6) ?_ ?_;rotate_left
    ·rintro ch mv ⟨rfl,hb,hx⟩;refine Au ?_;exact .inr ⟨_,rfl,6,hP,rfl,hE.trans hx⟩
    rintro v_ mw ⟨rfl,g4,mx⟩;cases g4
   have hP:CB b = .error 6:=hP0.trans (if_neg (fun h=>by have h1:=h.2;exact q2 h1.2.1));have hE:=hE.trans ba;refine gS (Zx CM rfl rfl (((show Calls _ _ _ _ (fun e w2=>e = .returned (.tuple #[NI n,NI (1+k),NI 0])∧Ext _ w2)from(EH _ v b (hr.keep hE) 1 (by omega)).mono fun e w2 ⟨h1,h2⟩=>by subst h2;subst h1;rw[hd];exact⟨rfl,Ext.refl _⟩)).mono ?_));rintro e my ⟨rfl,g5⟩;refine⟨_,rfl,?_⟩;have hE:=hE.trans g5;refine gS (Yk.extract (vs:= [NI n,NI (1+k),NI 0]) rfl rfl (gS (Yk.extract (vs:= [NI n,NI (1+k),NI 0]) rfl rfl (gS (Yk.extract (vs:= [NI n,NI (1+k),NI 0]) rfl rfl (gS (ZU (l:=b) (i:=0) Gj Qq (ZB (hr.keep hE) rfl) rfl (by omega) fun mz g6=>(gS (ZL u5 rfl (ZQ g6 rfl) (gS (Zv (a:=((b.getD (0) 0).toNat:Nat)) (b:=(80:Nat)) rfl rfl (AF _ _ _ _) (kT (h80) (gS (Zv (a:=(0:Nat)) (b:=(0:Nat)) rfl rfl (AF _ _ _ _) (kT (rfl) (gS (ZE rfl rfl (gS (Zv (a:=(f:Nat)) (b:=(1+k:Nat)) rfl rfl (EM _ _ _ _) (kT (q1) (gS (ZE rfl rfl (gS (Zv (a:=(f:Nat)) (b:=((b.length)-(36):Nat)) rfl rfl (DD _ _ _ _) (kF (q2) (gS (ZE rfl rfl (gS (ZH rfl rfl (gP (ZN F2 rfl rfl ?_)))))))))))))))))))))))))))))));refine Ar (AW _ (false) 6) ?_ ?_;rotate_left
   ·rintro ch m0 ⟨rfl,hb,hx⟩;refine Au ?_;exact .inr ⟨_,rfl,6,hP,rfl,hE.trans hx⟩
   rintro v_ m1 ⟨rfl,g7,m3⟩;cases g7
  have hP:CB b = .error 6:=hP0.trans (if_neg (fun h=>by have h1:=h.2;exact q1 h1.1));have hE:=hE.trans ba;refine gS (Zx CM rfl rfl (((show Calls _ _ _ _ (fun e w2=>e = .returned (.tuple #[NI n,NI (1+k),NI 0])∧Ext _ w2)from(EH _ v b (hr.keep hE) 1 (by omega)).mono fun e w2 ⟨h1,h2⟩=>by subst h2;subst h1;rw[hd];exact⟨rfl,Ext.refl _⟩)).mono ?_));rintro e m4 ⟨rfl,g8⟩;refine⟨_,rfl,?_⟩;have hE:=hE.trans g8;refine gS (Yk.extract (vs:= [NI n,NI (1+k),NI 0]) rfl rfl (gS (Yk.extract (vs:= [NI n,NI (1+k),NI 0]) rfl rfl (gS (Yk.extract (vs:= [NI n,NI (1+k),NI 0]) rfl rfl (gS (ZU (l:=b) (i:=0) Gj Qq (ZB (hr.keep hE) rfl) rfl (by omega) fun m5 g9=>(gS (ZL u5 rfl (ZQ g9 rfl) (gS (Zv (a:=((b.getD (0) 0).toNat:Nat)) (b:=(80:Nat)) rfl rfl (AF _ _ _ _) (kT (h80) (gS (Zv (a:=(0:Nat)) (b:=(0:Nat)) rfl rfl (AF _ _ _ _) (kT (rfl) (gS (ZE rfl rfl (gS (Zv (a:=(f:Nat)) (b:=(1+k:Nat)) rfl rfl (EM _ _ _ _) (kF (q1) (gS (ZE rfl rfl (gS (ZH rfl rfl (gS (ZH rfl rfl (gP (ZN F2 rfl rfl ?_))))))))))))))))))))))))))));refine Ar (AW _ (false) 6) ?_ ?_;rotate_left
  ·rintro ch m6 ⟨rfl,hb,hx⟩;refine Au ?_;exact .inr ⟨_,rfl,6,hP,rfl,hE.trans hx⟩
  rintro v_ m7 ⟨rfl,ha,m8⟩;cases ha
 have hP:CB b = .error 6:=hP0.trans (if_neg (fun h=>h80 (by rw[h.1];rfl)));have hE:=hE.trans ba;refine gS (Zx CM rfl rfl (((show Calls _ _ _ _ (fun e w2=>e = .returned (.tuple #[NI n,NI (1+k),NI 0])∧Ext _ w2)from(EH _ v b (hr.keep hE) 1 (by omega)).mono fun e w2 ⟨h1,h2⟩=>by subst h2;subst h1;rw[hd];exact⟨rfl,Ext.refl _⟩)).mono ?_));rintro e m9 ⟨rfl,he⟩;refine⟨_,rfl,?_⟩;have hE:=hE.trans he;refine gS (Yk.extract (vs:= [NI n,NI (1+k),NI 0]) rfl rfl (gS (Yk.extract (vs:= [NI n,NI (1+k),NI 0]) rfl rfl (gS (Yk.extract (vs:= [NI n,NI (1+k),NI 0]) rfl rfl (gS (ZU (l:=b) (i:=0) Gj Qq (ZB (hr.keep hE) rfl) rfl (by omega) fun na hg=>(gS (ZL u5 rfl (ZQ hg rfl) (gS (Zv (a:=((b.getD (0) 0).toNat:Nat)) (b:=(80:Nat)) rfl rfl (AF _ _ _ _) (kF (h80) (gS (ZH rfl rfl (gS (ZH rfl rfl (gS (ZH rfl rfl (gS (ZH rfl rfl (gP (ZN F2 rfl rfl ?_))))))))))))))))))))));refine Ar (AW _ (false) 6) ?_ ?_;rotate_left
 ·rintro ch nb ⟨rfl,hb,hx⟩;refine Au ?_;exact .inr ⟨_,rfl,6,hP,rfl,hE.trans hx⟩
 rintro v_ nc ⟨rfl,hh,nd⟩;cases hh
structure FitsD (n : Nat) (D : List Deferred) (ρ : Ad) (a : Act) : Prop where
  size:a.tmps.size=n
  defers:a.defers=D
  get:∀t,a.tmps.getD t undef=ρ t
theorem FitsD.fits{n:Nat}{D:List Deferred}{ρ:Ad}{a:Act}(h:FitsD n D ρ a):Fits n ρ { a with defers:= [] } :=⟨h.size,rfl,h.get⟩
theorem Abr{n:Nat}{ρ:Ad}{a:Act}(h:Fits n ρ a):FitsD n [] ρ a:=⟨h.size,h.defers,h.get⟩
theorem FitsD.toFits{n:Nat}{ρ:Ad}{a:Act}(h:FitsD n [] ρ a):Fits n ρ a:=⟨h.size,h.defers,h.get⟩
theorem FitsD.eval{n:Nat}{D:List Deferred}{ρ:Ad}{a:Act}(h:FitsD n D ρ a):a.eval=Aa ρ:=by
  funext x
  cases x with
  | tmp t=>exact h.get t
  | _=>rfl
theorem FitsD.put{n:Nat}{D:List Deferred}{ρ:Ad}{a:Act}(h:FitsD n D ρ a)(d:Option Tmp)(hd:∀t,d=some t→t<n)(v:AcJ):FitsD n D (updO ρ d v) (a.put d v):=by
  have hf:=h.fits.put d hd v;cases d with
  | none=>exact h
  | some d=>exact⟨hf.size,h.defers,hf.get⟩
def NY(P:Adg)(n:Nat)(D:List Deferred)(c:Ae5)(QQ:Afj→Act→AcK→Prop)(ρ:Ad)(w:AcK):Prop:=∀a,FitsD n D ρ a→c.wp P QQ a w
def IS(P:Adg)(ops:Array Adb)(n:Nat)(D:List Deferred)(QQ:Afj→Act→AcK→Prop)(l:List Adb)(ρ:Ad)(w:AcK):Prop:=∀a,FitsD n D ρ a→wpList P ops QQ l a w
section
variable {P : Adg} {n : Nat} {D : List Deferred} {QQ : Afj → Act → AcK → Prop} {ρ : Ad} {w : AcK}
theorem CE{x y:Ae5}(QR:BE)(hq:∀e ρ a w,e ≠ .normal→Fits n ρ a→QR e ρ w→QQ e a w)(h:∀K:Ad→AcK→Prop,(∀ρ w,NY P n [] y QQ ρ w→K ρ w)→B1 P n x (GD K QR) ρ w):NY P n [] (.seq x y) QQ ρ w:=fun a ha=>
  wp_seq (wp_mono (h (fun ρ w=>NY P n [] y QQ ρ w) (fun _ _ h=>h) a ha.toFits) fun e a' w' ⟨ρ',hf,hQ⟩=>by
    cases e with
    | normal=>exact hQ a' (Abr hf)
    | exit _=>exact hq _ ρ' a' w' (by simp) hf hQ
    | goto _=>exact hq _ ρ' a' w' (by simp) hf hQ
    | ret=>exact hq _ ρ' a' w' (by simp) hf hQ
    | panic _=>exact hq _ ρ' a' w' (by simp) hf hQ
    | outgrown=>exact hq _ ρ' a' w' (by simp) hf hQ)
theorem IT{id:Nat}{l:List Adb}{y:Ae5}(h:IS P l.toArray n D (Exit.then (y.wp P QQ) QQ) l ρ w):NY P n D (.seq (.region id l.toArray false) y) QQ ρ w:=fun a ha=>wp_seq (wp_region_lit (h a ha))
theorem WR(h:∀a,FitsD n D ρ a→QQ .ret a w):NY P n D .ret QQ ρ w:=fun a ha=>wp_ret (h a ha)
theorem NZ{ops:Array Adb}{y:Ae5}(I:Ad→Prop)(hI:I ρ)(h:∀ρ',I ρ' →NY P n D y QQ ρ' w):IS P ops n D (Exit.then (y.wp P QQ) QQ) [] ρ w:=fun a ha=>h ρ hI a ha
theorem Lb{ops:Array Adb}{rest:List Adb}{dst:Option Tmp}{op:Op}{ty:AcR}{pos:String}{af:Array AdL}(hd:(match dst with | some d=>AeC d n | none=>true)=true) 
    (h:Yp P (fun v w' =>IS P ops n D QQ rest (updO ρ dst v) w') (fun ch w' =>∀a,FitsD n D ρ a→QQ (.panic ch) a w') ((execOp (Aa ρ) ⟨dst,op,ty,pos,af,none⟩).run P w)):IS P ops n D QQ (⟨dst,op,ty,pos,af,none⟩ :: rest) ρ w:=by
  intro a ha;have hdn:∀t,dst=some t→t<n:=fun t ht=>by subst ht;exact Ac2 hd
  refine wpList_plain rfl fun K hK=> ?_;unfold Afn AfQ;rw[ha.eval];have hput:=fun v=>ha.put dst hdn v
  revert h
  generalize (execOp (Aa ρ) ⟨dst,op,ty,pos,af,none⟩).run P w=r
  intro h
  match r,h with
  | .ok (.value v) w',h=>exact hK _ _ (h _ (hput v))
  | .ok .skip w',h=>exact hK _ _ (h _ (hput undef))
  | .halt (.panic v) w',h=>exact h a ha
  | .ok (.enter f args) w',h=>
    refine AfS h ?_;intro e w'' hx
    match e,hx with
    | .returned v,hx=>exact hK _ _ (hx _ (hput v))
    | .panicked ch,hx=>exact hx a ha
theorem GP{ops:Array Adb}{rest:List Adb}{dst:Option Tmp}{op:Op}{ty:AcR}{pos:String}{af:Array AdL}(hd:(match dst with | some d=>AeC d n | none=>true)=true) 
    (h:Yk P (fun v w' =>IS P ops n D QQ rest (updO ρ dst v) w') ((execOp (Aa ρ) ⟨dst,op,ty,pos,af,none⟩).run P w)):IS P ops n D QQ (⟨dst,op,ty,pos,af,none⟩ :: rest) ρ w:=
  Lb hd (Yp.ofK h)
theorem Q1{ops:Array Adb}{rest:List Adb}{x:AcW}{ty:AcR}{pos:String}{af:Array AdL}{fv:Fn}{first cap:Array AcJ}(hx:Aa ρ x = .func fv first cap) 
    (hr:(execOp (Aa ρ) ⟨none, .defer ⟨.value x,#[],#[]⟩,ty,pos,af,none⟩).run P w = .ok (.defer ⟨.fn fv cap,first⟩) w)
    (h:IS P ops n (⟨.fn fv cap,first⟩ :: D) QQ rest ρ w):IS P ops n D QQ (⟨none, .defer ⟨.value x,#[],#[]⟩,ty,pos,af,none⟩ :: rest) ρ w:=by
  intro a ha;refine wpList_plain rfl fun K hK=> ?_;unfold Afn AfQ;rw[ha.eval,hr];refine hK _ _ (h _ ⟨ha.size,?_,ha.get⟩);show _ :: a.defers=_;rw[ha.defers]
theorem B7{fn:AfB}{R:Afa→AcK→Prop}:∀e ρ a w,e ≠ .normal→Fits n ρ a→CF P fn R e ρ w→bodyPostD P fn R e a w:=fun e ρ a w he ha h=>by
  cases e with
  | normal=>exact absurd rfl he
  | ret=>
    show Leaves P fn a.tmps R a.defers .returning w;rw[ha.defers];exact h a.tmps ha.get
  | panic ch=>
    show Leaves P fn a.tmps R a.defers (.panicking ch) w;rw[ha.defers];exact h
  | exit _=>exact h.elim
  | goto _=>exact h.elim
  | outgrown=>exact h.elim
theorem N0{f:AeB}{fn:AfB}{c:Ae5}{args:List AcJ}{R:Afa→AcK→Prop}(hf:P.funcs[f]? =some fn)(hb:fn.body=some c)(m:Nat)(hm:fn.ntmps=m)(hn:args.length≤m) 
    (h:∀ρ,Begun args ρ→NY P m [] c (bodyPostD P fn R) ρ w):Calls P f args.toArray w R:=by
  subst hm;refine calls_of_wp_defers hf hb ?_;have hget:∀t,(args.toArray++Aeq (fn.ntmps-args.toArray.size) undef).getD t undef=args.getD t undef:=fun t=>by
    simp only[Ady,AcO,AgZ,Ac6,AdG];by_cases ht:t<args.length
    · rw[if_pos ht]
    · rw[if_neg ht,AdY (by omega),Aea];split <;> rfl
  refine h (fun t=>args.getD t undef) ⟨fun _=>rfl⟩ _ ⟨?_,rfl,hget⟩;simp;omega
end
section
variable {P : Adg} {n : Nat}
theorem SU{c:Ae5}{QF:BE}{Q:Afj→Act→AcK→Prop}{ρ:Ad}{a:Act}{w:AcK}(h:B1 P n c QF ρ w)(ha:Fits n ρ a)(hq:∀e ρ' a' w',Fits n ρ' a' →QF e ρ' w' →Q e a' w'):c.wp P Q a w:=
  wp_mono (h a ha) fun e a' w' ⟨ρ',hf,hQ⟩=>hq e ρ' a' w' hf hQ
def Cc:FrameMode→AcJ × FrameMode
  | .panicking ({ v,recovered:=false,goexit:=false } :: older)=>(v, .panicking ({ v,recovered:=true } :: older))
  | u=>(.nilIface,u)
theorem O9(c₀:Frame)(cs:List Frame)(u:FrameMode)(hu:c₀.mode=u)(K:AcJ→List Frame→Prop)(h:K (Cc u).1 ({ c₀ with mode:=(Cc u).2 } :: cs)):
    match recoverD (c₀ :: cs)with
    | some (v,cs')=>K v cs'
    | none=>K .nilIface (c₀ :: cs):=by
  subst hu;obtain⟨cf,ct,ctodo,cd,cm,ck,cr⟩:=c₀
  match cm,h with
  | .run,h=>exact h
  | .returning,h=>exact h
  | .panicking [],h=>exact h
  | .panicking ({ v,recovered:=true,goexit:=g } :: older),h=>exact h
  | .panicking ({ v,recovered:=false,goexit:=true } :: older),h=>exact h
  | .panicking ({ v,recovered:=false,goexit:=false } :: older),h=>exact h
theorem Hm{f:AeB}{fn:AfB}{c:Ae5}{args:List AcJ}{u:FrameMode}{w:AcK}{R:Afa→AcK→Prop}{id:Nat}{d0 d1:Tmp}{ty0 ty1:AcR}{p0 p1:String}{af0 af1:Array AdL} 
    (hf:P.funcs[f]? =some fn) (hb:fn.body=some (.seq (.region id #[⟨some d0, .call ⟨.builtin .recover,#[],#[]⟩,ty0,p0,af0,none⟩,⟨some d1, .assign (.tmp d0),ty1,p1,af1,none⟩] false) c)) (m:Nat) (hm:fn.ntmps=m) (hn:args.length≤m) (h0:AeC d0 m=true) (h1:AeC d1 m=true)
    (h:∀b,Begun args b→B1 P m c (CF P fn R) (updO (updO b (some d0) (Cc u).1) (some d1) (Cc u).1) w):
    CallsD P f args.toArray u w fun e u' w' =>u' =(Cc u).2∧R e w' :=by
  subst hm;refine callsD_of_wpS hf hb fun c₀ cs hu=> ?_;have hget:∀t,(args.toArray++Aeq (fn.ntmps-args.toArray.size) undef).getD t undef=args.getD t undef:=fun t=>by
    simp only[Ady,AcO,AgZ,Ac6,AdG];by_cases ht:t<args.length
    · rw[if_pos ht]
    · rw[if_neg ht,AdY (by omega),Aea];split <;> rfl
  have hF:Fits fn.ntmps (fun t=>args.getD t undef) { tmps:=args.toArray++Aeq (fn.ntmps-args.toArray.size) undef,defers:= [] } :=⟨by simp;omega,rfl,hget⟩
  generalize ({ tmps:=args.toArray++Aeq (fn.ntmps-args.toArray.size) undef,defers:= [] } :Act)=a at hF ⊢
  have hd0:∀t,some d0=some t→t<fn.ntmps:=fun t ht=>by cases ht;exact Ac2 h0
  have hd1:∀t,some d1=some t→t<fn.ntmps:=fun t ht=>by cases ht;exact Ac2 h1
  have hF1:=hF.put (some d0) hd0 (Cc u).1;have hF2:=hF1.put (some d1) hd1 (Cc u).1
  apply wpS_seq
  apply wpS_region
  have g:(execOp a.eval (⟨some d0, .call ⟨.builtin .recover,#[],#[]⟩,ty0,p0,af0,none⟩:Adb)).run P w = .ok .recover w:=by
    simp[go_sem]
  have hkey:∀(v:AcJ) (cs' :List Frame),v=(Cc u).1→cs' = { c₀ with mode:=(Cc u).2 } :: cs→wpOpsS P #[⟨some d0, .call ⟨.builtin .recover,#[],#[]⟩,ty0,p0,af0,none⟩,⟨some d1, .assign (.tmp d0),ty1,p1,af1,none⟩] (Exit.thenS (c.wpS P (bodyPostS P fn c₀ cs fun e u' w' =>u' =(Cc u).2∧R e w')) (bodyPostS P fn c₀ cs fun e u' w' =>u' =(Cc u).2∧R e w')) [1] (a.put (some d0) v) cs' w:=by
    rintro v cs' rfl rfl;have hv:(a.put (some d0) (Cc u).1).eval (.tmp d0)=(Cc u).1:=by
      rw[hF1.eval];show(bif Ae9 d0 d0 then _ else _)=_;rw[AgE];rfl
    have i:(execOp (a.put (some d0) (Cc u).1).eval (⟨some d1, .assign (.tmp d0),ty1,p1,af1,none⟩:Adb)).run P w = .ok (.value (Cc u).1) w:=by
      simp[execOp,hv]
    simp only[wpOpsS,AdG,Aem,Afe,Ad8,i,AfQ,if_true];refine wpS_of_wp (SU (h _ ⟨fun _=>rfl⟩) hF2 fun e ρ' a' w' hf' hQ=> ?_);cases e with
    | normal=>obtain⟨v,hv,hR⟩:=hQ a'.tmps hf'.get;exact⟨hf'.defers,_,rfl,v,hv,rfl,hR⟩
    | ret=>obtain⟨v,hv,hR⟩:=hQ a'.tmps hf'.get;exact⟨hf'.defers,_,rfl,v,hv,rfl,hR⟩
    | panic ch=>exact⟨hf'.defers,_,rfl,rfl,hQ⟩
    | exit _=>exact hQ.elim
    | goto _=>exact hQ.elim
    | outgrown=>exact hQ.elim
  show wpOpsS P _ _ [0,1] a (c₀ :: cs) w;unfold wpOpsS;simp only[AdG,Afe,Ad8,if_true,g];exact O9 c₀ cs u hu (fun v cs' =>wpOpsS P _ _ [1] (a.put (some d0) v) cs' w) (hkey _ _ rfl rfl)
end
section
variable {P : Adg} {K : AcJ → AcK → Prop} {ρ : Ad} {w : AcK} {d : Option Tmp} {ty : AcR} {pos : String} {af : Array AdL} {gd : Option (Nat × Bool)} {t ty2 : AcR}
theorem Abz{x:AcW}{u:AcR}{v:AcJ}{fs}(hu:P.underlying u=some (.struct fs))(hx:Aa ρ x = .iface u v)(hk:K (.tuple #[v, .bool true]) w):Yk P K ((execOp (Aa ρ) ⟨d, .typeAssert x t u true,ty,pos,af,gd⟩).run P w):=by
  refine Yk.value (v:= .tuple #[v, .bool true]) (w' :=w) ?_ hk;unfold execOp;simp[Instr.typeAssert,hx,run_underlying hu,AdH]
theorem AbO{x:AcW}(he:(Agy t .nilIface .nilIface).run P w = .ok true w)(hx:Aa ρ x = .nilIface)(hk:K (.bool false) w):Yk P K ((execOp (Aa ρ) ⟨d, .binOp .neq t x (.const .nilIface) ty2,ty,pos,af,gd⟩).run P w):=by
  have hy:Aa ρ (.const .nilIface) = .nilIface:=rfl;refine Yk.value (v:= .bool false) (w' :=w) ?_ hk;unfold execOp;simp only[hx,hy];simp[eqGuard,Adq,he,AdH]
theorem AbP{x:AcW}{u:AcR}{v:AcJ}(he:(Agy t (.iface u v) .nilIface).run P w = .ok false w)(hx:Aa ρ x = .iface u v)(hk:K (.bool true) w):Yk P K ((execOp (Aa ρ) ⟨d, .binOp .neq t x (.const .nilIface) ty2,ty,pos,af,gd⟩).run P w):=by
  have hy:Aa ρ (.const .nilIface) = .nilIface:=rfl;refine Yk.value (v:= .bool true) (w' :=w) ?_ hk;unfold execOp;simp only[hx,hy];simp[eqGuard,Adq,he,AdH]
theorem WS{x:AcW}{fv:Fn}{first cap:Array AcJ}(hx:Aa ρ x = .func fv first cap):(execOp (Aa ρ) ⟨none, .defer ⟨.value x,#[],#[]⟩,ty,pos,af,none⟩).run P w = .ok (.defer ⟨.fn fv cap,first⟩) w:=by
  unfold execOp;simp[resolve,hx,AfA]
theorem Z7{p:Tmp}{ty:AcR}{g:Nat}{t:AcR}{v:AcJ}{fr:Nat × Nat}{d:TypeDesc}(hp:ρ p = .pointer (some ⟨g,0,none⟩))(hg:w.heap[g]? =some (.cells ([v]).toArray t fr)) 
    (hu:P.underlying ty=some d) (hd:(match d with | .struct _ | .array _ _=>false | _=>true)=true):ResF P ρ w (.cell p ty) v:=by
  refine⟨_,hp,?_⟩;have hc:w.cell? ⟨g,0,none⟩=some v:=cellAt hg rfl;have hagg:(isAgg ty).run P w = .ok false w:=by
    unfold isAgg;cases d <;> first | (simp at hd;done) | simp[run_underlying hu,AdH]
  simp[loadVar,hagg,hc]
theorem Lc{fn:AfB}{tmps:Array AcJ}{R:Afa→AcK→Prop}(rs:List ResultVar)(hrs:fn.results=rs.toArray)(vs:List AcJ)(v:AcJ)(hv:G9 vs=v)(ht:∀t,tmps.getD t undef=ρ t)(h:Gh P ρ w rs vs)(hR:R (.returned v) w):Leaves P fn tmps R [] .returning w:=
  ⟨_,Hw hrs ht h,by rw[hv];exact hR⟩
end
section
variable {P : Adg} {n : Nat} {ρ : Ad} {w : AcK} {Q : BE}
theorem N1{l r:List Adb}(kS k0:Nat)(S:AcK→AcK→Prop)(Φs:List Bm){id:Nat}(hm:P.follows .mixedOrders=true)(ds:List Tmp)(hg:Cw l n=true)(hn:Na l k0=true)(c:AgI Φs.length k0=true)(hds:slotsW l=ds)(hr:(l.drop k0)=r)(hlt:AeC k0 l.length=true) 
    (f:AeC kS k0=true) (hgS:(l[kS]?.bind (·.guard))=none) (hst:AllStab (fun a b=>a=b∨S w.drew b) Φs)
    (hs:StepsFC P l k0 (fun m w1=>bif Ae9 m kS then w1=w.drew else(w1=w.drew∨S w.drew w1)) (fun m a b=>bif Ae9 m kS then S w.drew b else a=b) (AQ Φs) ρ 0 l)
    (hQ:∀(ρ' :Ad) w1,S w.drew w1→EndF ds ρ ρ' →Bd l (fun _=> []) (AQ Φs) ρ' w1 ds→Cf P l.toArray n Q r ρ' w1):B1 P n (.region id l.toArray true) Q ρ w:=by
  have bf:∀ {a b:Nat},a≠b→Ae9 a b=false:=fun h=>by rw[←AgU,Nat.beq_eq];exact h
  refine M0 k0 (fun _=> []) _ _ (fun listed w1=>On listed kS→S w.drew w1) Φs hm ds hg hn c (by unfold CJ;simp) hds hr (fun i m _ _ hne' hbit a b hc hr=> ?_) (fun i j _ _ _ _ _ v a b h hr=> ?_) (fun i listed a b _ hsz hno hcl he hr=> ?_) (fun h=> ?_) (fun i o a ho hgo=> ?_) (fun m _=> ?_) hs hlt (fun ρ' w1 listed hon he hc h2 h3=> ?_)
  · by_cases hmS:m=kS
    · subst hmS;rw[AgE]at hc ⊢;rw[bf hne']at hr;simp only[cond_true,cond_false]at hc hr ⊢;rw[←hr];exact hc
    · rw[bf hmS]at hc ⊢;simp only[cond_false]at hc ⊢;by_cases hiS:i=kS
      · subst hiS;rw[AgE]at hr;exact .inr hr
      · rw[bf hiS]at hr;simp only[cond_false]at hr;rw[←hr];exact hc
  · refine hst.get Φs j v a b h ?_;by_cases hiS:i=kS
    · subst hiS;rw[AgE]at hr;exact .inr hr
    · rw[bf hiS]at hr;exact .inl hr
  · intro hon;by_cases hiS:i=kS
    · subst hiS;rw[AgE]at hr;exact hr
    · have hon' :On listed kS:=by
        rcases(on_set (by omega)).1 hon with h1 | h1
        · exact absurd h1.symm hiS
        · exact h1
      rw[bf hiS]at hr;simp only[cond_false]at hr;rw[←hr];exact he hon'
  · exact absurd h Aal
  · have hiS:i≠kS:=fun e=>by rw[e]at ho;rw[ho]at hgS;simp only[Ae4]at hgS;rw[hgS]at hgo;cases hgo
    rw[bf hiS];rfl
  · by_cases hmS:m=kS
    · subst hmS;rw[AgE];rfl
    · rw[bf hmS];exact .inl rfl
  · exact hQ ρ' w1 (he ((hon kS).2 (Ac2 f))) h2 h3
end
theorem WT(w:AcK):(Agy 20 .nilIface .nilIface).run AcM w = .ok true w:=by kernel_rfl
theorem WU(u:AcR)(v:AcJ)(w:AcK):(Agy 20 (.iface u v) .nilIface).run AcM w = .ok false w:=by kernel_rfl
theorem Pa:(Tryz.prog.info? 143).map (·.size)=some 1:=by kernel_rfl
theorem Q2{d:Option Tmp}{ty:AcR}{pos:String}{af:Array AdL}{gd:Option (Nat × Bool)}(σ:AcW→AcJ)(w:AcK):(execOp σ ⟨d, .alloc 143,ty,pos,af,gd⟩).run AcM w = .ok (.value (PQ w.heap.size 0)) (w.alloc (.cells ([NI 0]).toArray 143)):=by kernel_rfl
theorem N2:AV AcM 143 0 0:=fun b o w=>by simp[go_sem]
theorem SV:Tryz.prog.underlying 29=some (.int .i64):=by kernel_rfl
theorem Q3:(Tryz.prog.info? 89).map (·.size)=some 1:=by kernel_rfl
theorem Q4:(Tryz.prog.info? 29).map (·.size)=some 1:=by kernel_rfl
theorem Q5(b2 b3:Nat)(w:AcK):CallsD AcM 78 #[PQ b2 0,PQ b3 0] (.returning) w fun e u' w' =>u' =(Cc (.returning)).2∧(e = .returned (.tuple #[])∧Ext w w'):=by
 have hE:=Ext.refl w;refine Hm (u:= .returning) (args:= [PQ b2 0,PQ b3 0]) Tryz.func78 rfl 18 rfl (Ac2 rfl) rfl rfl (R:=fun e w' =>e = .returned (.tuple #[])∧Ext w w') ?_;intro ρz hb;have b:(updO (updO ρz (some 5) (Cc (.returning)).1) (some 2) (Cc (.returning)).1) 0=(PQ b2 0:AcJ):=hb.get 0;have c:(updO (updO ρz (some 5) (Cc (.returning)).1) (some 2) (Cc (.returning)).1) 1=(PQ b3 0:AcJ):=hb.get 1;have a:(updO (updO ρz (some 5) (Cc (.returning)).1) (some 2) (Cc (.returning)).1) 2=(.nilIface:AcJ):=rfl
 generalize updO (updO ρz (some 5) (Cc (.returning)).1) (some 2) (Cc (.returning)).1=g at b c a ⊢
 clear hb;refine sk fun h f=>(wt (oM rfl (oS rfl (AbO (WT _) a (oZ (tN (f _ _ (CP (vr (.bool (false)) rfl) (DL (L1 (fn:=Tryz.f78) [] rfl [] (.tuple #[]) rfl trivial ?_))))))))));exact⟨rfl,hE⟩

theorem Q6(w0:AcK)(b2 b3 c:Nat)(v2 v3:AcJ)(w:AcK)(h0:Ext w0 w)(l2:w0.heap.size≤b2)(l3:w0.heap.size≤b3)(hne:b2≠b3)(h2:w.heap[b2]? =some (.cells ([v2]).toArray 89 (0,0)))(h3:w.heap[b3]? =some (.cells ([v3]).toArray 29 (0,0))):CallsD AcM 78 #[PQ b2 0,PQ b3 0] (.panicking [CV c]) w fun e u' w' =>u' =(Cc (.panicking [CV c])).2∧(e = .returned (.tuple #[])∧w'.heap[b2]? =some (.cells ([.pointer none]).toArray 89 (0,0))∧w'.heap[b3]? =some (.cells ([NI c]).toArray 29 (0,0))∧Ext w0 w'):=by
 have hl2_:=(bl h2);have hl3_:=(bl h3);refine Hm (u:= .panicking [CV c]) (args:= [PQ b2 0,PQ b3 0]) Tryz.func78 rfl 18 rfl (Ac2 rfl) rfl rfl (R:=fun e w' =>e = .returned (.tuple #[])∧w'.heap[b2]? =some (.cells ([.pointer none]).toArray 89 (0,0))∧w'.heap[b3]? =some (.cells ([NI c]).toArray 29 (0,0))∧Ext w0 w') ?_;intro ρz hb;have m:(updO (updO ρz (some 5) (Cc (.panicking [CV c])).1) (some 2) (Cc (.panicking [CV c])).1) 0=(PQ b2 0:AcJ):=hb.get 0;have n:(updO (updO ρz (some 5) (Cc (.panicking [CV c])).1) (some 2) (Cc (.panicking [CV c])).1) 1=(PQ b3 0:AcJ):=hb.get 1;have g:(updO (updO ρz (some 5) (Cc (.panicking [CV c])).1) (some 2) (Cc (.panicking [CV c])).1) 2=((.iface 143 (.agg ([NI c]).toArray)):AcJ):=rfl
 generalize updO (updO ρz (some 5) (Cc (.panicking [CV c])).1) (some 2) (Cc (.panicking [CV c])).1=ap at m n g ⊢
 clear hb;refine sk fun K1 ac=>(wt (oM rfl (oS rfl (AbP (WU _ _ _) g (oZ (tN (ac _ _ (EU (vr (.bool (true)) rfl) (sk fun K2 ad=>(wt (oM rfl (oS rfl (Abz (Sg).choose_spec g (oM rfl (oS rfl (Yk.extract (vs:= [.agg ([NI c]:List AcJ).toArray, .bool (true)]) (vr (.tuple #[.agg ([NI c]:List AcJ).toArray, .bool (true)]) rfl) (show _=some (.agg ([NI c]:List AcJ).toArray:AcJ)from rfl) (oS rfl (Yk.extract (vs:= [.agg ([NI c]:List AcJ).toArray, .bool (true)]) (vr (.tuple #[.agg ([NI c]:List AcJ).toArray, .bool (true)]) rfl) (show _=some (.bool (true):AcJ)from rfl) (oS rfl (Yk.alloc (cs:=([NI 0]).toArray) Q2 fun j w4 s t o au=> ?_))))))))))))))))))));have f:=Ext.refl w;have av:=h0;have af:=h0.size;have aw:=As (bl h2) s;have ax:=As (bl h3) s;have h0:=h0.trans o;have h2:=eb o h2;have h3:=eb o h3;have f:=f.trans o;have b:=t;clear t;have ay:j<w4.heap.size:=by omega
 refine oS rfl (Zy (vr (PQ j 0) rfl) (vr (.agg ([NI c]:List AcJ).toArray) rfl) b (rfl) ((show(Tryz.prog.info? 143).map (·.size)=some 1 from Pa)) ((by intro u hu;simp only[Adz,Aeu,or_false]at hu;subst hu;rfl)) fun a x p az=> ?_);have h0:=Ab h0 p (AcN af (by omega));have h2:=kb p h2 (by omega);have h3:=kb p h3 (by omega);have f:=Ab f p (AcN (AcP _) (by omega));clear b;have b:=x;clear x;have a0:=bl b;refine oA rfl (oZ (tN (ad _ _ (sk fun a1 ag=>(sk fun a2 ah=>(wt (oM rfl (oS rfl (Z9 (vr (.bool (true)) rfl) (oZ (tN (ah _ _ (CP (vr (.bool (false)) rfl) (DL (tN (ag _ _ ?_))))))))))))))));refine N1 2 3 (fun(a_ b_:AcK)=>b_.heap[b2]? =some (.cells ([.pointer none]).toArray 89 (0,0))∧a_.grownBy b_ (some b2)∧b_.heap.size=a_.heap.size) [Is (PQ j 0),Is (NI c),(fun _ _=>True)] (by kernel_rfl) [16,17] (by kernel_rfl) (by kernel_rfl) (by kernel_rfl) (by kernel_rfl) rfl rfl rfl rfl (L0 ⟨Stab.any,trivial⟩) ?ai ?hQ1005
 case ai=>
  refine⟨?_,?_,?_,?_,trivial⟩
  ·refine Bv (Ah rfl fun σ w1 hC h=> ?_);have hq:w1=AgJ a∨(fun(a_ b_:AcK)=>b_.heap[b2]? =some (.cells ([.pointer none]).toArray 89 (0,0))∧a_.grownBy b_ (some b2)∧b_.heap.size=a_.heap.size) (AgJ a) w1:=hC;have hC:BX a.heap.size (some b2) a w1:=by rcases hq with hq | hq;(rw[hq];exact Z5 ((AdC _ _).drew) (AcP _));exact(Z5 ((AdC _ _).drew) (AcP _)).trans (Z6 hq.2.1 (AcP _) (fun k hk=> .inl hk))
   have e3:σ 3=PQ j 0:=(Az (h 3 (by decide))).trans rfl;exact Yk.fieldAt N2 e3 ⟨rfl,rfl⟩
  ·refine Bv (Ah rfl fun σ w1 hC h=> ?_);have hq:w1=AgJ a∨(fun(a_ b_:AcK)=>b_.heap[b2]? =some (.cells ([.pointer none]).toArray 89 (0,0))∧a_.grownBy b_ (some b2)∧b_.heap.size=a_.heap.size) (AgJ a) w1:=hC;have hC:BX a.heap.size (some b2) a w1:=by rcases hq with hq | hq;(rw[hq];exact Z5 ((AdC _ _).drew) (AcP _));exact(Z5 ((AdC _ _).drew) (AcP _)).trans (Z6 hq.2.1 (AcP _) (fun k hk=> .inl hk))
   have ak:=Az (h 16 (by decide));exact Zu SV rfl ak (cellAt (BX.blk hC b (Ak (by omega))) (show _=some (NI c:AcJ)from rfl)) ⟨rfl,rfl⟩
  ·refine Bv (Ah rfl fun σ w1 hC h=> ?_);have hq:w1=AgJ a:=hC;subst hq;have hC:BX a.heap.size (some b2) a (AgJ a):=Z5 ((AdC _ _).drew) (AcP _);have e0:=(Az (h 0 (by decide))).trans m;exact ZK (i:=0) (v:= .pointer none) e0 (vr (.pointer none) rfl) (eb ((AdC _ _).drew) h2) (Ac2 rfl) Q3 rfl rfl fun w2 h1 h2 h3=>⟨⟨h1,h2,h3⟩,trivial⟩
  ·exact trivial
 intro am a3 an he hf;obtain⟨-,k17,-⟩:=hf;obtain⟨m,n,g,T3,T4,T7,a7,-⟩:=he.hold [(0,_),(1,_),(2,_),(3,PQ j 0),(4, .bool (true)),(7, .bool (true)),(14, .bool (false))] ⟨m,n,g,rfl,rfl,rfl,rfl,trivial⟩ rfl;clear he;have l:Ext a (AgJ a):=(AdC _ _).drew;obtain⟨y,q,a8⟩:=an;have h0:=h0.trans l;have h2:=eb l h2;have h3:=eb l h3;have f:=f.trans l;have b:=eb l b;have h0:=Ab h0 q (AcN (AcP _) (by omega));have h3:=kb q h3 (by omega);clear f;have b:=kb q b (by omega);clear h2;have h2:=y;clear y;have ao:am 17=NI c:=k17;clear k17;refine oS rfl (ZK (i:=0) (v:=NI c) n ao h3 (Ac2 rfl) Q4 rfl rfl fun a9 z r ba=> ?_);have h0:=Ab h0 r (AcN (AcP _) (by omega));have b:=kb r b (by omega);have h2:=kb r h2 (by omega);clear h3;have h3:=z;clear z;have bb:=bl h3;refine oZ (L1 (fn:=Tryz.f78) [] rfl [] (.tuple #[]) rfl trivial ?_);exact⟨rfl,h2,h3,h0⟩
theorem Reads.keepN{w w' :AcK}{b z n:Nat}{v:AcJ}{xs:List AcJ}(h:Reads w z v n xs)(hb:∀u∈xs,∃x,u=B8 x)(hm:Eh w b)(hg:w.grownBy w' (some b)):Reads w' z v n xs:=by
  obtain⟨h1,ao,cap,rfl,h2,h3,h4,h5⟩:=h;refine⟨h1,ao,cap,rfl,h2,h3,h4,fun a ha j u hu=> ?_⟩;have hc:=h5 a ha j u hu;have hlt:=Ad7 w _ hc;have hsp:=AfC hc
  generalize a.add j=q at hc hlt hsp ⊢
  obtain⟨q1,q2,q3⟩:=q;simp only at hsp hlt;subst hsp;by_cases e:q1=b
  · exfalso;obtain⟨x,rfl⟩:=hb u (AdX hu);rw[e]at hc;exact hm _ _ hc
  · have:=hg.block q1 hlt (fun e' =>e (Adu e'));unfold Afc at hc ⊢;rw[this];exact hc
theorem RG.keepN{w w' :AcK}{b:Nat}{v:AcJ}{l:List Bs}(h:RG 32 AcL w v l)(hm:Eh w b)(hg:w.grownBy w' (some b)):RG 32 AcL w' v l:=
  ⟨h.1,h.2.keepN (fun u hu=>by
    obtain⟨x,-,hx⟩:=AhP.1 hu;obtain⟨c,-,rfl⟩:=Adx.1 hx;exact⟨c,rfl⟩) hm hg⟩
theorem UC{w:AcK}{g:Nat}{v:AcJ}{T:AcR}{fr:Nat × Nat}(hb:w.heap[g]? =some (.cells ([v]).toArray T fr))(hv:∀x,v≠B8 x):Eh w g:=fun j x hc=>by
  unfold Afc at hc;rw[hb]at hc
  match j,hc with
  | 0,hc=>simp at hc;exact hv x hc
  | j+1,hc=>simp at hc
end Go.Proofs.YtfpekahfdalfkaaGreatDoor
