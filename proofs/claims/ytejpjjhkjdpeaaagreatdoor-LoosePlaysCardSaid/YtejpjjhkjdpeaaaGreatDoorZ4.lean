/- Part 4 of what stands behind these statements: laws and walks of the functions that are reached. Conditions: those that each theorem names. -/
import Derived.Test.YtejpjjhkjdpeaaaGreatDoorZ3
set_option linter.unusedVariables false
set_option linter.unusedSimpArgs false
namespace Go.Proofs.YtejpjjhkjdpeaaaGreatDoor
open Go.RowKit
section
variable {P : Program} {l : List Oper} {kill : Nat → List Nat} {C : Nat → World → Prop} {R : Nat → World → World → Prop} {Φ : Nat → BB} {a0 : Act}
theorem NM{z:Nat}(g:G0 l z){k:Nat}(ht:∀i,k≤i→i<l.length→∀m,k≤m→m<i→((A4 l []).getD i 0).testBit m=true){Q:Exit→Act→World→Prop}:
    ∀(fuel m:Nat) (listed:Array Bool) (a:Act) (w:World),listed.size=l.length→(∀i,On listed i↔i<m)→k≤m→m≤l.length→l.length≤m+fuel→wpList P l.toArray Q (l.drop m) a w→wpAny P .any l.toArray Q fuel listed a w:=by
  have noReady:∀(m:Nat) (listed:Array Bool),listed.size=l.length→(∀i,On listed i↔i<m)→l.length≤m→Region.ready .any l.toArray listed= []:=by
    intro m listed hsz hon hm
    cases hr:Region.ready .any l.toArray listed with
    | nil=>rfl
    | cons x xs=>
      exfalso
      have hmem:x∈Region.ready .any l.toArray listed:=by rw[hr];simp
      obtain⟨h1,o,ho,_⟩:=mem_ready.1 hmem
      have hx:x<l.length:=by simpa using (Array.getElem?_eq_some_iff.1 ho).1
      have h2:=(hon x).2 (by omega)
      have hx' :x<listed.size:=h2.lt
      unfold On at h2
      simp[hx']at h1 h2
      rw[h1]at h2
      cases h2
  intro fuel
  induction fuel with
  | zero=>
    intro m listed a w hsz hon hk hm hf hw
    rw[List.drop_of_length_le (by omega)]at hw
    exact⟨noReady m listed hsz hon (by omega),hw⟩
  | succ fuel ih=>
    intro m listed a w hsz hon hk hm hf hw
    by_cases hml:m=l.length
    · have hr:=noReady m listed hsz hon (by omega)
      rw[List.drop_of_length_le (by omega)]at hw
      exact⟨fun _=>hw,fun i hi=>by rw[hr]at hi;cases hi⟩
    · have hlt:m<l.length:=by omega
      have hoff:¬On listed m:=fun x=>by have:=(hon m).1 x;omega
      have hI:Inv l (fun _=> []) (fun _ _=>True) (fun _ _=>True) (fun _ _ _=>True) a listed a w:=
        ⟨hsz,fun i o ho hi e he hb=>(hon _).2 (by have:=g.back i o ho e he hb;have:=(hon i).1 hi;omega),rfl,rfl,fun _ _ _=>trivial,trivial,fun _ _=>rfl,fun _ _ _ _ _ _ _ _=>trivial⟩
      refine⟨fun hr=> ?_,fun i hi=> ?_⟩
      · exfalso
        have ho:l[m]? =some l[m]:=List.getElem?_eq_getElem hlt
        have:m∈Region.ready .any l.toArray listed:=by
          refine mem_ready.2 ⟨?_,l[m],by rw[List.getElem?_toArray];exact ho,fun e he hb=>(hon _).2 (g.back m _ ho e he hb)⟩
          have hm' :m<listed.size:=by omega
          unfold On at hoff
          simp[hm']at hoff ⊢
          exact hoff
        rw[hr]at this
        cases this
      · obtain⟨h1,o,ho,hall⟩:=mem_ready.1 hi
        have ho' :l[i]? =some o:=by simpa using ho
        have hil:i<l.length:=(List.getElem?_eq_some_iff.1 ho').1
        have hno:¬On listed i:=fun x=>by
          have hx:i<listed.size:=by omega
          unfold On at x
          simp[hx]at h1 x
          rw[h1]at x
          cases x
        have him:i=m:=by
          by_cases h2:i<m
          · exact absurd ((hon i).2 h2) hno
          · by_cases h3:i=m
            · exact h3
            · exact absurd (hI.maskReady ho' (fun e he hb=>hall e he hb) (ht i (by omega) hil m hk (by omega))) hoff
        subst him
        rw[List.drop_eq_getElem_cons hlt]at hw
        obtain rfl:l[i]=o:=by rw[List.getElem?_eq_getElem hlt]at ho';exact Option.some.inj ho'
        have nxt:∀a' w',wpList P l.toArray Q (l.drop (i+1)) a' w' →wpAny P .any l.toArray Q fuel (listed.setIfInBounds i true) a' w' :=fun a' w' hw' =>
          ih (i+1) _ a' w' (by simpa using hsz) (fun j=>by rw[on_set (by omega),hon j];omega) (by omega) (by omega) (by omega) hw'
        unfold wpOp
        simp only[List.getElem?_toArray,ho']
        unfold wpList at hw
        split at hw
        · rename_i hwt
          rw[if_pos hwt]
          exact hw.imp (fun h=>Oper.wp_mono nxt h) (fun h=>h)
        · rename_i hwt
          rw[if_neg hwt]
          exact nxt _ _ hw
end
def Mx(l:List Oper)(oe:Oper)(e:Nat):Bool:=
  (List.range l.length).all fun j=>match l[j]? with
    | some o=>Nat.beq j e||(o.after.any (fun x=>Region.binds .any x&&x.on==e)||(oe.apart l.toArray o||((A4 l []).getD e 0).testBit j))
    | none=>true
def HV(l:List Oper)(k e:Nat):Bool:=Nat.blt e k&&(List.range l.length).all fun i=>Nat.blt i k||(List.range i).all fun m=>Nat.beq m e||((A4 l []).getD i 0).testBit m
theorem NN{l:List Oper}{k e:Nat}(h:HV l k e=true):e<k∧∀i,k≤i→i<l.length→∀m,m<i→m≠e→((A4 l []).getD i 0).testBit m=true:=by
  unfold HV at h
  rw[Bool.and_eq_true]at h
  refine⟨Nat.le_of_ble_eq_true h.1,fun i hi hl m hm hne=> ?_⟩
  have h1:=List.all_eq_true.1 h.2 i (by simpa using hl)
  rcases Bool.or_eq_true _ _▸h1 with h2 | h2
  · have:=Nat.le_of_ble_eq_true h2
    omega
  · have h3:=List.all_eq_true.1 h2 m (by simpa using hm)
    rcases Bool.or_eq_true _ _▸h3 with h4 | h4
    · exact absurd (Nat.eq_of_beq_eq_true h4) hne
    · exact h4
section
variable {P : Program} {l : List Oper} {Φ : Nat → BB} {a0 : Act} {w0 : World} {Q : Exit → Act → World → Prop} {e k : Nat} {oe : Oper}
def GK(P:Program)(op:Op):Prop:=∀(ev:Operand→Value) dst ty pos af,(∃x,∀w:World,(execOp ev ⟨dst,op,ty,pos,af,none⟩).run P w = .ok (.value x) w)∨∀w:World,∃s,(execOp ev ⟨dst,op,ty,pos,af,none⟩).run P w = .halt (.stuck s) w
theorem My(c a b:Operand):GK P (.pick c a b):=by
  intro ev dst ty pos af
  cases hc:ev c with
  | bool x=>exact .inl ⟨if x then ev a else ev b,fun w=>by
      unfold execOp
      simp only[hc,asBool]
      rfl⟩
  | _=>exact .inr fun w=>⟨_,by
      unfold execOp
      simp only[hc,asBool]
      rfl⟩
theorem Kf{dst:Option Tmp}{op:Op}(hst:GK P op){ty:TypeId}{pos:String}{af:Array Edge}(he:l[e]? =some ⟨dst,op,ty,pos,af,none⟩){K:Act→World→Prop}{a:Act}{w:World} 
    (h:wpOp P l.toArray (fun _ _ _=>False) e K a w):∃x,Yields P l.toArray ⟨dst,op,ty,pos,af,none⟩ x a∧K (a.put dst x) w:=by
  unfold wpOp at h
  simp only[List.getElem?_toArray,he,Region.wanted,if_true]at h
  rcases h with h | ⟨-,-,-,h⟩
  · unfold Oper.wp at h
    rcases hst a.eval dst ty pos af with ⟨x,hx⟩ | hx
    · rw[hx]at h
      exact⟨x, .inl ⟨rfl,hx⟩,h⟩
    · obtain⟨s,hs⟩:=hx w
      rw[hs]at h
      exact h.elim
  · exact h.elim
theorem Rx(g:G0 l a0.tmps.size)(hsel:Region.noSelect l.toArray=true){d:Tmp}{op:Op}(hso:GK P op){ty:TypeId}{pos:String}{af:Array Edge}(he:l[e]? =some ⟨some d,op,ty,pos,af,none⟩) 
    (hte:HV l k e=true) (hfr:Mx l ⟨some d,op,ty,pos,af,none⟩ e=true) (hk:k≤l.length) (hst:∀i,Stab Ext (Φ i))
    (hs:∀i o,l[i]? =some o→i<k→Ht P l (fun _=>Ext w0) (fun _=>Ext) Φ a0.tmps i o) (hQp:∀v c a w,Q (.panic c) (a.put (some d) v) w→Q (.panic c) a w)
    (hQ:∀listed a' w',(∀i,On listed i↔i<k)→Inv l (fun _=> []) (fun _=>Ext w0) (fun _ _=>True) Φ a0 listed a' w' →wpList P l.toArray Q (l.drop k) a' w'):
    ∀(fuel:Nat) (listed:Array Bool) (a:Act) (w:World),(listed.toList.filter (!·)).length=fuel→(∀i,On listed i→i<k)→e∉Region.ready .any l.toArray listed→Inv l (fun _=> []) (fun _=>Ext w0) (fun _ _=>True) Φ a0 listed a w→wpAny P .any l.toArray Q fuel listed a w:=by
  obtain⟨hek,hte⟩:=NN hte
  have ht:∀i,k≤i→i<l.length→∀m,k≤m→m<i→((A4 l []).getD i 0).testBit m=true:=fun i hi hl m hkm hm=>hte i hi hl m hm (by omega)
  have hkl:Dg l (fun _=> [])=true:=by unfold Dg;simp
  have hC:∀n m,n<l.length→m<l.length→n≠m→((A4 l []).getD n 0).testBit m=false→∀w w',Ext w0 w→Ext w w' →Ext w0 w' :=fun _ _ _ _ _ _ _ _ hc hr=>hc.trans hr
  have hE:∀n listed (w w' :World),n<l.length→listed.size=l.length→¬On listed n→(∀i k,On listed i∨i=n→((A4 l []).getD i 0).testBit k=true→On listed k)→True→Ext w w' →True:=fun _ _ _ _ _ _ _ _ _ _=>trivial
  have hΦ:∀n i,n<l.length→i<l.length→i∉([]:List Nat)→i≠n→((A4 l []).getD i 0).testBit n=false→∀v w w',Φ i v w→Ext w w' →Φ i v w' :=fun _ i _ _ _ _ _ v w w' =>hst i v w w'
  have hRr:∀(n:Nat) o (w:World),l[n]? =some o→o.guard.isSome=true→Ext w w:=fun _ _ w _ _=>Ext.refl w
  intro fuel
  induction fuel using Nat.strongRecOn with
  | _ fuel ih=>
  intro listed a w hf hoff hre h
  by_cases hfull:∀i,i<k→On listed i
  · have hon:∀i,On listed i↔i<k:=fun i=>⟨hoff i,hfull i⟩
    refine NM g ht fuel k listed a w h.size hon (Nat.le_refl _) hk ?_ (hQ listed a w hon h)
    have f:=List.take_append_drop k listed.toList
    rw[←f,List.filter_append,List.length_append]at hf
    have p:(listed.toList.drop k).filter (!·)=listed.toList.drop k:=List.filter_eq_self.2 fun b hb=>by
      obtain⟨j,hj,rfl⟩:=List.getElem_of_mem hb
      rw[List.getElem_drop]
      have hno:¬On listed (k+j):=fun x=>by have:=hoff _ x;omega
      rw[List.length_drop]at hj
      have hlt:k+j<listed.size:=by rw[←Array.length_toList];omega
      unfold On at hno
      simp[hlt]at hno
      simp[hno]
    rw[p,List.length_drop]at hf
    have hz:listed.toList.length=l.length:=by rw[Array.length_toList];exact h.size
    omega
  · have hunl:∀i,i<l.length→¬On listed i→listed.getD i true=false:=fun i hi hno=>by
      have hi' :i<listed.size:=by rw[h.size];exact hi
      unfold On at hno
      simp[hi']at hno ⊢
      exact hno
    have hlow:∃j,j<k∧j≠e∧¬On listed j:=by
      refine Classical.byContradiction fun hn=>hfull fun i hi=>Classical.byContradiction fun hx=> ?_
      have hall:∀j,j<k→j≠e→On listed j:=fun j hj hje=>Classical.byContradiction fun hx=>hn ⟨j,hj,hje,hx⟩
      have hie:i=e:=Classical.byContradiction fun hne=>hx (hall i hi hne)
      subst hie
      refine hre (mem_ready.2 ⟨hunl i (by omega) hx,_,by rw[List.getElem?_toArray];exact he,fun x hxm hb=> ?_⟩)
      have:=g.back i _ he x hxm hb
      exact hall x.on (by omega) (by omega)
    obtain⟨j0,hj0,hj0e,hoff0⟩:=hlow
    have hpos:∀(L:Array Bool) i,L.size=l.length→i<l.length→L.getD i true=false→∃m,(L.toList.filter (!·)).length=m+1∧((L.setIfInBounds i true).toList.filter (!·)).length=m:=fun L i hL hi hx=>by
      have hi' :i<L.size:=by omega
      have:=Ep L.toList i (by simp[hi']at hx;simp[hi',hx])
      exact⟨_,this.symm,by rw[Array.toList_setIfInBounds]⟩
    obtain⟨f0,hf0,-⟩:=hpos listed j0 h.size (by omega) (hunl j0 (by omega) hoff0)
    obtain rfl:fuel=f0+1:=by omega
    refine⟨fun hr=> ?_,fun i hi=> ?_⟩
    · exfalso
      have full:∀i,i<l.length→On listed i:=by
        intro i
        induction i using Nat.strongRecOn with
        | _ i ih2=>
          intro hi
          refine Classical.byContradiction fun hno=> ?_
          have ho:l[i]? =some l[i]:=List.getElem?_eq_getElem hi
          have:i∈Region.ready .any l.toArray listed:=mem_ready.2 ⟨hunl i hi hno,l[i],by rw[List.getElem?_toArray];exact ho,fun x hx hb=>by
            have hlt:=g.back i _ ho x hx hb
            exact ih2 x.on hlt (by omega)⟩
          rw[hr]at this
          cases this
      exact hoff0 (full j0 (by omega))
    · have hie:i≠e:=fun x=>hre (x▸hi)
      obtain⟨h1,o,ho,hall0⟩:=mem_ready.1 hi
      have ho' :l[i]? =some o:=by simpa using ho
      have hilt:i<l.length:=(List.getElem?_eq_some_iff.1 ho').1
      have hil:i<listed.size:=by rw[h.size];exact hilt
      have hno:¬On listed i:=by
        unfold On
        simp[hil]at h1 ⊢
        exact h1
      have hall:∀x∈o.after,Region.binds .any x=true→On listed x.on:=fun x hx hb=>hall0 x hx hb
      have hik:i<k:=by
        by_cases h2:i<k
        · exact h2
        · exact absurd (h.maskReady ho' hall (hte i (by omega) hilt j0 (by omega) hj0e)) hoff0
      obtain⟨f1,hf1,hcnt⟩:=hpos listed i h.size hilt h1
      obtain rfl:f1=f0:=by omega
      refine h.step g hkl hC hE hΦ hRr ho' hno hall (hs i o ho' hik) fun a' w' h' => ?_
      have hoff' :∀j,On (listed.setIfInBounds i true) j→j<k:=fun j hx=>by
        rcases(on_set hil).1 hx with rfl | h3
        · exact hik
        · exact hoff j h3
      by_cases hre' :e∈Region.ready .any l.toArray (listed.setIfInBounds i true)
      · obtain⟨q1,oe',hoe,hq⟩:=mem_ready.1 hre'
        have hoe' :l[e]? =some oe' :=by simpa using hoe
        obtain rfl:=Option.some.inj (he.symm.trans hoe')
        have helt:e<l.length:=by omega
        have hel:e<(listed.setIfInBounds i true).size:=by rw[h'.size];exact helt
        have hnoe:¬On (listed.setIfInBounds i true) e:=by
          unfold On
          rw[Array.getD_eq_getD_getElem?]at q1 ⊢
          rw[Array.getElem?_eq_getElem hel]at q1 ⊢
          simp only[Option.getD_some]at q1 ⊢
          rw[q1]
          decide
        have hw:=h'.step g hkl hC hE hΦ hRr he hnoe (fun x hx hb=>hq x hx hb) (hs e _ he hek) (K:=fun a2 q=>Inv l (fun _=> []) (fun _=>Ext w0) (fun _ _=>True) Φ a0 ((listed.setIfInBounds i true).setIfInBounds e true) a2 q) (Q:=fun _ _ _=>False) (fun _ _ hx=>hx)
        obtain⟨x,hy,hK⟩:=Kf hso he hw
        obtain⟨f2,hf2,hcnt2⟩:=hpos _ e h'.size helt q1
        obtain rfl:f1=f2+1:=by omega
        refine wpAny_first hoe (Region.noSelect_spec hsel) (hQp x) f2 _ a' w' (fun j oj hoj hje hjun hjno=> ?_) hre' hy (ih f2 (by omega) _ _ _ hcnt2 (fun j hx=> ?_) (fun hx=> ?_) hK)
        · have hoj' :l[j]? =some oj:=by simpa using hoj
          have hjl:j<l.length:=(List.getElem?_eq_some_iff.1 hoj').1
          have hfj:=List.all_eq_true.1 hfr j (by simpa using hjl)
          rw[hoj']at hfj
          simp only[Bool.or_eq_true]at hfj
          rcases hfj with h3 | h3 | h3 | h3
          · exact absurd (Nat.eq_of_beq_eq_true h3) hje
          · obtain⟨y,hy1,hy2⟩:=Array.any_eq_true'.1 h3
            simp only[Bool.and_eq_true,beq_iff_eq]at hy2
            exact absurd hy2.2 (hjno y hy1 hy2.1)
          · exact h3
          · have hon:=h'.maskReady he (fun x hx hb=>hq x hx hb) h3
            have hjl' :=hon.lt
            unfold On at hon
            rw[Array.getD_eq_getD_getElem?,Array.getElem?_eq_getElem hjl']at hon hjun
            simp only[Option.getD_some]at hon hjun
            rw[hon]at hjun
            cases hjun
        · rcases(on_set hel).1 hx with rfl | h3
          · exact hek
          · exact hoff' j h3
        · have:=(mem_ready.1 hx).1
          simp[hel]at this
      · exact ih f1 (by omega) _ _ _ hcnt hoff' hre' h'
end
section
variable {P : Program} {n : Nat} {ρ : Ai} {w : World} {Q : BP}
theorem Iz{l r:List Oper}(e k0:Nat)(Φs:List BB){id:Nat}(hm:P.follows .mixedOrders=true)(ds:List Tmp)(hg:Cp l n=true){d:Tmp}{op:Op}(hso:GK P op){ty:TypeId}{pos:String}{af:Array Edge}(he:l[e]? =some ⟨some d,op,ty,pos,af,none⟩)(hsel:Region.noSelect l.toArray=true) 
    (hn:HV l k0 e=true) (hfr:Mx l ⟨some d,op,ty,pos,af,none⟩ e=true) (haf:af.any (fun x=>Region.binds .any x)=true) (f:Nat.ble Φs.length k0=true) (hds:slotsW l=ds) (hr:(l.drop k0)=r) (hlt:Nat.blt k0 l.length=true) (hst:AllStab Ext Φs)
    (hQp:∀c ρ ρ' w,Q (.panic c) ρ w→Q (.panic c) ρ' w)
    (hs:StepsFC P l k0 (fun _=>Ext w) (fun _=>Ext) (Br Φs) ρ 0 l)
    (hQ:∀(ρ' :Ai) w1,Ext w w1→EndF ds ρ ρ' →Bv l (fun _=> []) (Br Φs) ρ' w1 ds→CH P l.toArray n Q r ρ' w1):Ch P n (.region id l.toArray true) Q ρ w:=by
  intro a ha
  obtain⟨T,df⟩:=a
  have hz:T.size=n:=ha.size
  subst hz
  have b:k0<l.length:=Nat.le_of_ble_eq_true hlt
  have g:=Fa hg
  have hno0:∀i,¬On (Array.replicate l.toArray.size false) i:=fun i h=>by
    unfold On at h
    rw[Array.getD_eq_getD_getElem?,Array.getElem?_replicate]at h
    split at h <;> simp at h
  refine wp_region_any hm (Rx (a0:= { tmps:=T,defers:=df }) (w0:=w) (Φ:=Br Φs) g hsel hso he hn hfr (Nat.le_of_lt b) (fun i=>hst.get Φs i) (fun i o ho hi=> ?_) (fun v c a' w' hx=> ?_) (fun listed a' w' hon h=> ?_) _ _ _ _ (by simp) (fun i h=>absurd h (hno0 i)) ?_ ?_)
  · have hst:=StepsFC.get l 0 hs i o ho (by omega)
    rw[Nat.zero_add]at hst
    have h2:=StepsF.ok (P:=P) (l:=l) (C:=fun _=>Ext w) (R:=fun _=>Ext) (Φ:=Br Φs) (T:=T) ha.get [o] i ⟨hst,trivial⟩
    exact h2.1
  · obtain⟨ρ',hf,hq⟩:=hx
    exact⟨fun t=>a'.tmps.getD t undef,⟨by have:=hf.size;simpa [Act.put] using this,by have:=hf.defers;simpa [Act.put] using this,fun _=>rfl⟩,hQp _ _ _ _ hq⟩
  · have hw:∀d k,CZ l d l.length=some k→(List.range l.length).all (fun n=> !([]:List Nat).contains k)=true→Br Φs k (a'.tmps.getD d undef) w' :=fun d k hk hall=>by
      obtain⟨h1,⟨o,ho,hd'⟩,h3⟩:=El _ hk
      by_cases hkL:k0≤k
      · have e:Br Φs k=fun _ _=>True:=by
          have:=Nat.le_of_ble_eq_true f
          unfold Br
          rw[List.getD_eq_getElem?_getD,List.getElem?_eq_none (by omega)]
          rfl
        rw[e]
        trivial
      exact h.new d k o ho hd' ((hon k).2 (by omega)) (fun k' o' hkk ho' hd'' _=>h3 k' o' hkk (List.getElem?_eq_some_iff.1 ho').1 ho' hd'') (fun n hn=>by simp)
    have hget:∀t,a'.tmps.getD t undef=if t∈ds then a'.tmps.getD t undef else ρ t:=fun t=>by
      by_cases hn:t∈ds
      · rw[if_pos hn]
      · rw[if_neg hn,←ha.get]
        exact h.old t fun k o ho hd _=>hn (by
          rw[←hds]
          unfold slotsW
          rw[List.mem_eraseDups,List.mem_filterMap]
          exact⟨o,List.mem_of_getElem? ho,hd⟩)
    have hcl:=h.cls k0 b (fun x=>by have:=(hon k0).1 x;omega)
    have hend:EndF ds ρ (fun t=>a'.tmps.getD t undef):=⟨fun t ht=>by rw[hget t,if_neg (by simpa using ht)]⟩
    have:=hQ (fun t=>a'.tmps.getD t undef) w' hcl hend (E3 hw ds)
    rw[hr]
    exact this a' ⟨h.tmps,h.defers.trans ha.defers,fun t=>rfl⟩
  · intro hx
    obtain⟨-,o,ho,hall⟩:=mem_ready.1 hx
    obtain rfl:=Option.some.inj (he.symm.trans (by simpa using ho))
    obtain⟨x,j,m⟩:=Array.any_eq_true'.1 haf
    exact hno0 _ (hall x j m)
  · exact⟨Array.size_replicate,fun i o _ h=>absurd h (hno0 i),rfl,rfl,fun n hn _=>(Below.refl _ _).drew,trivial,fun t _=>rfl,fun t k o _ _ h=>absurd h (hno0 k)⟩
theorem Ei{l r:List Oper}(e k0:Nat)(Φs:List BB){id:Nat}(hm:P.follows .mixedOrders=true)(ds:List Tmp)(hg:Cp l n=true){d:Tmp}{o1 o2 o3:Operand}{ty:TypeId}{pos:String}{af:Array Edge}(he:l[e]? =some ⟨some d, .pick o1 o2 o3,ty,pos,af,none⟩)(hsel:Region.noSelect l.toArray=true) 
    (hn:HV l k0 e=true) (hfr:Mx l ⟨some d, .pick o1 o2 o3,ty,pos,af,none⟩ e=true) (haf:af.any (fun x=>Region.binds .any x)=true) (a:Nat.ble Φs.length k0=true) (hds:slotsW l=ds) (hr:(l.drop k0)=r) (hlt:Nat.blt k0 l.length=true) (hst:AllStab Ext Φs)
    (hQp:∀c ρ ρ' w,Q (.panic c) ρ w→Q (.panic c) ρ' w)
    (hs:StepsFC P l k0 (fun _=>Ext w) (fun _=>Ext) (Br Φs) ρ 0 l)
    (hQ:∀(ρ' :Ai) w1,Ext w w1→EndF ds ρ ρ' →Bv l (fun _=> []) (Br Φs) ρ' w1 ds→CH P l.toArray n Q r ρ' w1):Ch P n (.region id l.toArray true) Q ρ w:=
  Iz e k0 Φs hm ds hg (My _ _ _) he hsel hn hfr haf a hds hr hlt hst hQp hs hQ
end
open Go.Shelf Go.RowKit
def NO:Go.Shelf.Ren:=⟨fun | 137=>74 | 217=>94 | 266=>112 | n=>n,fun | 9=>9 | 5=>5 | 3=>3 | n=>n,fun | n=>n⟩
theorem SV:Go.Proofs.Lays.n137 Tryz.prog NO:= {
  mixed:=by kernel_rfl
  f137:=Tryz.func74.trans (congrArg some (by kernel_rfl))
  f217:=Tryz.func94.trans (congrArg some (by kernel_rfl))
  f266:=Tryz.func112.trans (congrArg some (by kernel_rfl))
  t3:=Tryz.underlying3
  a3:=Tryz.isAgg3
  z3:=Tryz.sizeOf3
  v3:=Tryz.zeroValue3
  t5:=Tryz.underlying5
  a5:=Tryz.isAgg5
  z5:=Tryz.sizeOf5
  v5:=Tryz.zeroValue5
  t9:=Tryz.underlying9
  a9:=Tryz.isAgg9
  z9:=Tryz.sizeOf9
  v9:=Tryz.zeroValue9 }
theorem HW(s:ByteArray)(c:Int)(w:World):
    Calls Tryz.prog 74 #[.string s, .int .u8 c] w fun e w' =>e = .returned (.int .i64 (Lib.indexByte s.data.toList c.toNat.toUInt8))∧w' =w:=Any.strings_IndexByte SV s c w
open Go.RowKit
set_option maxRecDepth 100000
theorem NP(w:World)(c:UInt8):Calls Tryz.prog 74 #[St ([48,49,50,51,52,53,54,55,56,57,97,98,99,100,101,102]:List UInt8),B8 c] w fun e w' =>e = .returned (.int .i64 (B9 c))∧w' =w:=by
 have h:=HW (⟨([48,49,50,51,52,53,54,55,56,57,97,98,99,100,101,102]:List UInt8).toArray⟩:ByteArray) (c.toNat:Int) w
 have e:Lib.indexByte (⟨([48,49,50,51,52,53,54,55,56,57,97,98,99,100,101,102]:List UInt8).toArray⟩:ByteArray).data.toList ((c.toNat:Int).toNat.toUInt8)=B9 c:=by
  rw[←Px c]
  simp[digs]
 rw[e]at h
 exact h
theorem I1{s:List UInt8}{i k1 k2:Nat}(h1:dg (s.getD (2*i) 0)=some k1)(h2:dg (s.getD (2*i+1) 0)=some k2)(_:k2<16):D8 s i=UInt8.ofNat (16*k1+k2):=by
 unfold D8
 rw[h1,h2]
 rfl
theorem NQ{s:List UInt8}{i k1 k2:Nat}(h1:dg (s.getD (2*i) 0)=some k1)(h2:dg (s.getD (2*i+1) 0)=some k2)(hn:k2<16):D8 s i=UInt8.ofNat (k1*2^4|||k2):=by
 rw[I1 h1 h2 hn,R2 _ _ _ hn,Nat.mul_comm]
theorem LH{s:List UInt8}{i k1 k2:Nat}(h:∀j,j<i→Dv s j=true)(h1:dg (s.getD (2*i) 0)=some k1)(h2:dg (s.getD (2*i+1) 0)=some k2):∀j,j<i+1→Dv s j=true:=fun j hj=>by
 by_cases he:j=i
 ·subst he
  unfold Dv
  rw[h1,h2]
  rfl
 ·exact h j (by omega)
theorem NR:Plain Tryz.prog 74:=fun _ _=>by kernel_rfl
theorem I2:Plain Tryz.prog 73:=fun _ _=>by kernel_rfl
theorem I3:Plain Tryz.prog 76:=fun _ _=>by kernel_rfl
set_option maxHeartbeats 1600000
theorem I4(w:World)(b:Nat)(s:List UInt8)(hb:w.heap[b]? =some (.cells ([St s]:List Value).toArray 9 (0,0)))(i:Nat)(hi:i<s.length):
  Calls Tryz.prog 73 #[NI i,PQ b 0] w fun e w' =>e = .returned (.int .i64 (B9 (s.getD i 0)))∧Ext w w' :=by
 refine gG (args:= [NI i,PQ b 0]) Tryz.func73 rfl 8 rfl rfl ?_
 have hE:=Ext.refl w
 refine gS (Yk.cell1 Io rfl rfl (cellAt hb rfl) (gS (Yk.idxSt (l:=s) (i:=i) Io rfl rfl (hi) (gS (Yk.callA2 NR rfl rfl ((NP _ (s.getD (i) 0)).mono ?_))))))
 rintro e a ⟨rfl,hq⟩
 refine⟨_,rfl,?_⟩
 refine AX rfl (vr (.int .i64 (B9 (s.getD (i) 0):Int)) rfl) ?_
 have hE:=hE.trans (show Ext w a from by rw[hq];exact Ext.refl _)
 exact⟨rfl,hE⟩

theorem Mz(w:World)(c:UInt8)(h1:48≤c.toNat)(h2:c.toNat≤57):
  Calls Tryz.prog 76 #[B8 c] w fun e w' =>e = .returned (.int .i64 (B9 c))∧Ext w w' :=by
 have hlt:=c.toNat_lt
 refine gG (args:= [B8 (c)]) Tryz.func76 rfl 22 rfl rfl ?_
 have hE:=Ext.refl w
 refine gS (Yk.eqI (a:=((c).toNat:Nat)) (b:=(48:Nat)) rfl rfl (CX _ _ _ _) (kT (h1) (gS (Yk.eqI (a:=((c).toNat:Nat)) (b:=(57:Nat)) rfl rfl (Ey _ _ _ _) (kT (h2) (gS (Yk.pickT rfl rfl (cT rfl (gS (Yk.convI Ds Pb rfl (HB .i64 (c) (fun n hn=>CK n (by omega))) (gS (Yk.bin (xv:=NI ((c).toNat)) (yv:=NI 48) rfl rfl rfl (BL _ _ _ (by omega) (by omega)) (AX rfl (vr (NI (((c).toNat)-(48))) rfl) ?_)))))))))))))
 exact⟨by simp[B9,dg,h1,h2],hE⟩

theorem MA(w:World)(c:UInt8)(h1:97≤c.toNat)(h2:c.toNat≤102):
  Calls Tryz.prog 76 #[B8 c] w fun e w' =>e = .returned (.int .i64 (B9 c))∧Ext w w' :=by
 have hlt:=c.toNat_lt
 refine gG (args:= [B8 (c)]) Tryz.func76 rfl 22 rfl rfl ?_
 have hE:=Ext.refl w
 refine gS (Yk.eqI (a:=((c).toNat:Nat)) (b:=(48:Nat)) rfl rfl (CX _ _ _ _) (kT (by omega) (gS (Yk.eqI (a:=((c).toNat:Nat)) (b:=(57:Nat)) rfl rfl (Ey _ _ _ _) (kF (by omega) (gS (Yk.pickT rfl rfl (cF rfl (gS (Yk.eqI (a:=((c).toNat:Nat)) (b:=(97:Nat)) rfl rfl (CX _ _ _ _) (kT (h1) (gS (Yk.eqI (a:=((c).toNat:Nat)) (b:=(102:Nat)) rfl rfl (Ey _ _ _ _) (kT (h2) (gS (Yk.pickT rfl rfl (cT rfl (gS (Yk.convI Ds Pb rfl (HB .i64 (c) (fun n hn=>CK n (by omega))) (gS (Yk.bin (xv:=NI ((c).toNat)) (yv:=NI 97) rfl rfl rfl (BL _ _ _ (by omega) (by omega)) (gS (Yk.bin (xv:=NI (((c).toNat)-(97))) (yv:=NI 10) rfl rfl rfl (Ap _ _ _ (by omega)) (AX rfl (vr (NI ((((c).toNat)-(97))+(10))) rfl) ?_))))))))))))))))))))))))
 exact⟨by unfold B9;rw[show dg c=some (c.toNat-87) by unfold dg;rw[if_neg (by omega),if_pos ⟨h1,h2⟩]] <;> (show _=Ending.returned (NI (c.toNat-87));rw[show(c.toNat)-(97)+(10)=c.toNat-87 by omega]),hE⟩

theorem MB(w:World)(c:UInt8)(h:c.toNat<48):
  Calls Tryz.prog 76 #[B8 c] w fun e w' =>e = .returned (.int .i64 (B9 c))∧Ext w w' :=by
 have hlt:=c.toNat_lt
 refine gG (args:= [B8 (c)]) Tryz.func76 rfl 22 rfl rfl ?_
 have hE:=Ext.refl w
 refine gS (Yk.eqI (a:=((c).toNat:Nat)) (b:=(48:Nat)) rfl rfl (CX _ _ _ _) (kF (by omega) (gS (Yk.pickF rfl rfl (cF rfl (gS (Yk.eqI (a:=((c).toNat:Nat)) (b:=(97:Nat)) rfl rfl (CX _ _ _ _) (kF (by omega) (gS (Yk.pickF rfl rfl (cF rfl (AX rfl (vr (.int .i64 (-1:Int)) rfl) ?_))))))))))))
 exact⟨by unfold B9;rw[show dg c=none by unfold dg;rw[if_neg (by omega),if_neg (by omega)]],hE⟩

theorem MC(w:World)(c:UInt8)(h1:57<c.toNat)(h2:c.toNat<97):
  Calls Tryz.prog 76 #[B8 c] w fun e w' =>e = .returned (.int .i64 (B9 c))∧Ext w w' :=by
 have hlt:=c.toNat_lt
 refine gG (args:= [B8 (c)]) Tryz.func76 rfl 22 rfl rfl ?_
 have hE:=Ext.refl w
 refine gS (Yk.eqI (a:=((c).toNat:Nat)) (b:=(48:Nat)) rfl rfl (CX _ _ _ _) (kT (by omega) (gS (Yk.eqI (a:=((c).toNat:Nat)) (b:=(57:Nat)) rfl rfl (Ey _ _ _ _) (kF (by omega) (gS (Yk.pickT rfl rfl (cF rfl (gS (Yk.eqI (a:=((c).toNat:Nat)) (b:=(97:Nat)) rfl rfl (CX _ _ _ _) (kF (by omega) (gS (Yk.pickF rfl rfl (cF rfl (AX rfl (vr (.int .i64 (-1:Int)) rfl) ?_)))))))))))))))
 exact⟨by unfold B9;rw[show dg c=none by unfold dg;rw[if_neg (by omega),if_neg (by omega)]],hE⟩

theorem MD(w:World)(c:UInt8)(h:102<c.toNat):
  Calls Tryz.prog 76 #[B8 c] w fun e w' =>e = .returned (.int .i64 (B9 c))∧Ext w w' :=by
 have hlt:=c.toNat_lt
 refine gG (args:= [B8 (c)]) Tryz.func76 rfl 22 rfl rfl ?_
 have hE:=Ext.refl w
 refine gS (Yk.eqI (a:=((c).toNat:Nat)) (b:=(48:Nat)) rfl rfl (CX _ _ _ _) (kT (by omega) (gS (Yk.eqI (a:=((c).toNat:Nat)) (b:=(57:Nat)) rfl rfl (Ey _ _ _ _) (kF (by omega) (gS (Yk.pickT rfl rfl (cF rfl (gS (Yk.eqI (a:=((c).toNat:Nat)) (b:=(97:Nat)) rfl rfl (CX _ _ _ _) (kT (by omega) (gS (Yk.eqI (a:=((c).toNat:Nat)) (b:=(102:Nat)) rfl rfl (Ey _ _ _ _) (kF (by omega) (gS (Yk.pickT rfl rfl (cF rfl (AX rfl (vr (.int .i64 (-1:Int)) rfl) ?_))))))))))))))))))
 exact⟨by unfold B9;rw[show dg c=none by unfold dg;rw[if_neg (by omega),if_neg (by omega)]],hE⟩

theorem Gl(w:World)(c:UInt8):Calls Tryz.prog 76 #[B8 c] w fun e w' =>e = .returned (.int .i64 (B9 c))∧Ext w w' :=by
 by_cases h1:c.toNat<48
 ·exact MB w c h1
 ·by_cases h2:c.toNat≤57
  ·exact Mz w c (by omega) h2
  ·by_cases h3:c.toNat<97
   ·exact MC w c (by omega) h3
   ·by_cases h4:c.toNat≤102
    ·exact MA w c (by omega) h4
    ·exact MD w c (by omega)

theorem NS(w:World)(s:List UInt8)(hs:s.length≤9223372036854775807):
  Calls Tryz.prog 36 #[St s] w fun e w' =>e = .returned (.tuple #[AB ((AQ s).1), .bool (AQ s).2])∧Ext w w' :=by
 refine gG (args:= [St (s)]) Tryz.func36 rfl 42 rfl rfl ?_
 have hE:=Ext.refl w
 refine gS (Yk.box1 (vr (St (s)) rfl) rfl fun m w3 ba ao az bb=> ?_)
 have f:=ao;clear ao
 have bc:m<w3.heap.size:=by omega
 refine gS (Yk.alloc (cs:=(Lib.byteCells (List.replicate 32 0)).toArray) IX fun u aj a0 ap ak bd=> ?_)
 have g:=Ext.refl w3
 have hE:=hE.trans az
 have y:=hE.size
 have be:=AE (bl f) a0
 have c:=ap;clear ap
 have bf:u<aj.heap.size:=by omega
 refine gS (Yk.alloc (cs:=(Lib.byteCells (List.replicate 32 0)).toArray) IX fun al a1 aq ar n bg=> ?_)
 have k:=Ext.refl aj
 have hE:=hE.trans ak
 have a2:=hE.size
 have g:=g.trans ak
 have a3:=g.size
 have f:=eb ak f
 have bh:=AE (bl f) aq
 have bi:=AE (bl c) aq
 have z:=ar;clear ar
 have bj:al<a1.heap.size:=by omega
 have f:=eb n f
 refine gS (Yk.cell1 Io rfl rfl (cellAt f rfl) (gS (Yk.lenSt (l:=s) Io rfl (gS (Yk.eqI (a:=(s.length:Nat)) (b:=(64:Nat)) rfl rfl (AZ _ _ _ _) ?_)))))
 refine cD rfl (fun h64=> ?_) fun h64=> ?_
 ·have hun:=DT (s:=s) (fun h=>h64 h.1)
  have c:=eb n c
  refine gS (Yk.run (v:=AB (List.replicate 32 0)) (by kernel_rfl) (gS (Yk.storeAll (vr (PQ u 0) rfl) (vr (AB (List.replicate 32 0)) rfl) c (by first | rfl | (rw[List.size_toArray,Lib.byteCells_length,List.length_replicate];rfl)) (by rw[List.size_toArray,Lib.byteCells_length,List.length_replicate];exact R5) (Ah _) fun bk au aa bm=> ?_)))
  have hE:=hE.trans n
  have hE:=Aa hE aa (Nat.le_trans y (by omega))
  have f:=kb aa f (by omega)
  have g:=g.trans n
  have g:=Aa g aa (Nat.le_trans (Nat.le_refl _) (by omega))
  clear k
  have z:=kb aa z (by omega)
  clear c
  have c:=au;clear au
  have bn:=bl c
  refine B2 rfl (ResF.row rfl c IU rfl (by rw[List.size_toArray,Lib.byteCells_length];first | (rw[List.length_replicate];exact R5) | (rw[BG _ _ (by omega)];exact R5))) (vr (.bool (false)) rfl) ?_
  refine⟨?_,hE⟩
  rw[hun]
 have a4:s.length=64:=by omega
 have hE:=hE.trans n
 have g:=g.trans n
 have c:=eb n c
 have k:=k.trans n
 refine gS (Yk.mkFunc (vs:= #[PQ m 0]) (by simp only[List.map_toArray,List.map_cons,List.map_nil];exact congrArg List.toArray (HC (vr (PQ m 0) rfl))) (gL (fun(ρ:Ai) (wz:World)=>∃i:Nat,ρ 0=(St (s):Value)∧ρ 1=(PQ m 0:Value)∧ρ 2=(PQ u 0:Value)∧ρ 4=(PQ al 0:Value)∧ρ 5=(.func (.func 73) #[] #[PQ m 0]:Value)∧ρ 14=(NI i:Value)∧Ext w wz∧wz.heap[m]? =some (.cells (([St (s)]:List Value)).toArray 9 (0,0))∧Ext w3 wz∧wz.heap[u]? =some (.cells (Lib.byteCells (List.replicate 32 0)).toArray 54 (0,0))∧Ext aj wz∧wz.heap[al]? =some (.cells (Lib.byteCells (pre s i)).toArray 54 (0,0))∧(i≤32)∧(∀j,j<i→Dv s j=true)∧True) (fun ρ _=>32-(intOf (ρ 14)).toNat) ⟨0,rfl,rfl,rfl,rfl,rfl,rfl,hE,f,g,c,k,AF z (rfl),Nat.zero_le _,fun j hj=>by omega,trivial⟩ ?_))
 clear z
 clear hE f g c k
 rintro a5 bo ⟨i,T0,T1,o,T4,T5,p,hE,f,g,c,k,hb36l,hi,hall,-⟩
 have q14:=p
 have hpl:=BG s i hi
 refine gS (Yk.eqI (a:=(i:Nat)) (b:=(32:Nat)) p rfl (AO _ _ _ _) ?_)
 refine cD rfl (fun a8=> ?_) fun a8=> ?_
 ·refine gS (Yk.bin (xv:=NI 2) (yv:=NI i) rfl p rfl (BH _ _ _ (by omega)) (gS (Yk.clo I2 (caps:= #[PQ m 0]) T5 #[NI ((2)*(i)),PQ m 0] (by simp only[List.map_toArray,List.map_cons,List.map_nil,List.append_toArray,List.cons_append,List.nil_append];exact congrArg List.toArray (D4 rfl rfl)) ((I4 _ m s f ((2)*(i)) (by omega)).mono ?_))))
  rintro e bp ⟨rfl,ab⟩
  refine⟨_,rfl,?_⟩
  have f:=eb ab f
  refine gS (Yk.bin (xv:=NI 2) (yv:=NI i) rfl p rfl (BH _ _ _ (by omega)) (gS (Yk.bin (xv:=NI ((2)*(i))) (yv:=NI 1) rfl rfl rfl (Ap _ _ _ (by omega)) (gS (Yk.clo I2 (caps:= #[PQ m 0]) T5 #[NI (((2)*(i))+(1)),PQ m 0] (by simp only[List.map_toArray,List.map_cons,List.map_nil,List.append_toArray,List.cons_append,List.nil_append];exact congrArg List.toArray (D4 rfl rfl)) ((I4 _ m s f (((2)*(i))+(1)) (by omega)).mono ?_))))))
  rintro e bq ⟨rfl,q⟩
  refine⟨_,rfl,?_⟩
  obtain⟨x1,ac⟩:∃x,x=dg (s.getD (2*i) 0):=⟨_,rfl⟩
  obtain⟨x2,ad⟩:∃x,x=dg (s.getD (2*i+1) 0):=⟨_,rfl⟩
  rcases x1 with _ | k1
  ·have hno:Dv s i=false:=by unfold Dv;rw[←ac];rfl
   have r:=(vr (.int .i64 (B9 (s.getD (2*i) 0):Int)) rfl).trans (show Value.int .i64 (B9 (s.getD (2*i) 0)) = .int .i64 (-1) by unfold B9;rw[←ac])
   have hZ1:=ab.trans q
   have c:=eb hZ1 c
   refine gS (Yk.eqI r rfl (D3 _ .i64 (-1:Int) ((0:Nat):Int)) (kT (by decide) (gS (Yk.pickT rfl rfl (cT rfl (gS (Yk.run (v:=AB (List.replicate 32 0)) (by kernel_rfl) (gS (Yk.storeAll o (vr (AB (List.replicate 32 0)) rfl) c (by first | rfl | (rw[List.size_toArray,Lib.byteCells_length,List.length_replicate];rfl)) (by rw[List.size_toArray,Lib.byteCells_length,List.length_replicate];exact R5) (Ah _) fun br av ae bs=> ?_)))))))))
   have hE:=hE.trans hZ1
   have hE:=Aa hE ae (Nat.le_trans y (by omega))
   have f:=eb q f
   have f:=kb ae f (by omega)
   have g:=g.trans hZ1
   have g:=Aa g ae (Nat.le_trans (Nat.le_refl _) (by omega))
   clear k
   have hb36l:=eb hZ1 hb36l
   have hb36l:=kb ae hb36l (by omega)
   clear c
   have c:=av;clear av
   have bt:=bl c
   have hun:=DT (s:=s) (fun h=>by have:=List.all_eq_true.1 h.2 i (by simp;omega);rw[hno]at this;cases this)
   refine B2 rfl (ResF.row o c IU rfl (by rw[List.size_toArray,Lib.byteCells_length];first | (rw[List.length_replicate];exact R5) | (rw[BG _ _ (by omega)];exact R5))) (vr (.bool (false)) rfl) ?_
   refine⟨?_,hE⟩
   rw[hun]
  have hd1:=ac.symm
  have bu:=JC hd1
  have r:=(vr (.int .i64 (B9 (s.getD (2*i) 0):Int)) rfl).trans (show Value.int .i64 (B9 (s.getD (2*i) 0))=NI k1 by unfold B9;rw[←ac])
  rcases x2 with _ | k2
  ·have hno:Dv s i=false:=by unfold Dv;rw[←ad];simp
   have T8:=(vr (.int .i64 (B9 (s.getD (2*i+1) 0):Int)) rfl).trans (show Value.int .i64 (B9 (s.getD (2*i+1) 0)) = .int .i64 (-1) by unfold B9;rw[←ad])
   have hZ2:=ab.trans q
   have c:=eb hZ2 c
   refine gS (Yk.eqI (a:=(k1:Nat)) (b:=(0:Nat)) r rfl (AO _ _ _ _) (kF (by omega) (gS (Yk.eqI T8 rfl (D3 _ .i64 (-1:Int) ((0:Nat):Int)) (kT (by decide) (gS (Yk.pickF rfl rfl (cT rfl (gS (Yk.run (v:=AB (List.replicate 32 0)) (by kernel_rfl) (gS (Yk.storeAll o (vr (AB (List.replicate 32 0)) rfl) c (by first | rfl | (rw[List.size_toArray,Lib.byteCells_length,List.length_replicate];rfl)) (by rw[List.size_toArray,Lib.byteCells_length,List.length_replicate];exact R5) (Ah _) fun bv aw ag bw=> ?_))))))))))))
   have hE:=hE.trans hZ2
   have hE:=Aa hE ag (Nat.le_trans y (by omega))
   have f:=eb q f
   have f:=kb ag f (by omega)
   have g:=g.trans hZ2
   have g:=Aa g ag (Nat.le_trans (Nat.le_refl _) (by omega))
   clear k
   have hb36l:=eb hZ2 hb36l
   have hb36l:=kb ag hb36l (by omega)
   clear c
   have c:=aw;clear aw
   have bx:=bl c
   have hun:=DT (s:=s) (fun h=>by have:=List.all_eq_true.1 h.2 i (by simp;omega);rw[hno]at this;cases this)
   refine B2 rfl (ResF.row o c IU rfl (by rw[List.size_toArray,Lib.byteCells_length];first | (rw[List.length_replicate];exact R5) | (rw[BG _ _ (by omega)];exact R5))) (vr (.bool (false)) rfl) ?_
   refine⟨?_,hE⟩
   rw[hun]
  have hd2:=ad.symm
  have a9:=JC hd2
  have T8:=(vr (.int .i64 (B9 (s.getD (2*i+1) 0):Int)) rfl).trans (show Value.int .i64 (B9 (s.getD (2*i+1) 0))=NI k2 by unfold B9;rw[←ad])
  have hZ3:=ab.trans q
  have hb36l:=eb hZ3 hb36l
  refine gS (Yk.eqI (a:=(k1:Nat)) (b:=(0:Nat)) r rfl (AO _ _ _ _) (kF (by omega) (gS (Yk.eqI (a:=(k2:Nat)) (b:=(0:Nat)) T8 rfl (AO _ _ _ _) (kF (by omega) (gS (Yk.pickF rfl rfl (cF rfl (gS (Yk.bin (xv:=NI k1) (yv:= .int .u64 ((4:Nat):Int)) r rfl rfl (QW _ _ _ _ (by omega) (by omega)) (gS (Yk.bin (xv:=NI ((k1)*2^(4))) (yv:=NI k2) rfl T8 rfl (RZ _ _ _ (by omega) (by omega)) (gS (Yk.convI Pb Ds rfl (HA (((k1)*2^(4))|||(k2))) (gS (Yk.atArr0 (i:=i) IU Fy T4 p (by omega) (gS (Yk.storeB8 (i:=i) (v:=UInt8.ofNat (((k1)*2^(4))|||(k2))) rfl rfl hb36l (by rw[hpl];omega) NA fun bz ax t b0=> ?_))))))))))))))))))
  have hE:=hE.trans hZ3
  have hE:=Aa hE t (Nat.le_trans a2 (by omega))
  have f:=eb q f
  have f:=kb t f (by omega)
  have g:=g.trans hZ3
  have g:=Aa g t (Nat.le_trans a3 (by omega))
  have c:=eb hZ3 c
  have c:=kb t c (by omega)
  have k:=k.trans hZ3
  have k:=Aa k t (Nat.le_trans (Nat.le_refl _) (by omega))
  clear hb36l
  have hb36l:=ax;clear ax
  have b1:=bl hb36l
  refine gS (Yk.bin (xv:=NI i) (yv:=NI 1) p rfl rfl (Ap _ _ _ (by omega)) (gK (And.intro ⟨i+1,T0,T1,o,T4,T5,rfl,hE,f,g,c,k,AF hb36l (congrArg Lib.byteCells (by rw[←Kd s i (by omega),NQ hd1 hd2 a9])),by omega,LH hall hd1 hd2,trivial⟩ ?_)))
  show 32-(intOf (NI ((i)+(1)))).toNat<32-(intOf (a5 14)).toNat
  rw[q14]
  simp only[intOf,Int.toNat_natCast];omega
 have hi32:i=32:=by omega
 have hun:AQ s=(pre s i,true):=by rw[hi32,LE];exact Gg a4 (fun j hj=>hall j (by omega))
 refine gS (Yk.loadAll T4 hb36l IU rfl (by rw[List.size_toArray,Lib.byteCells_length,BG _ _ (by omega)];exact R5) (gS (Yk.storeAll o (vr (AB (pre s i)) rfl) c (by first | rfl | (rw[List.size_toArray,Lib.byteCells_length,BG _ _ (by omega)];rfl)) (by rw[List.size_toArray,Lib.byteCells_length,BG _ _ (by omega)];exact R5) (Ah _) fun b2 ay ah b3=> ?_)))
 have hE:=Aa hE ah (Nat.le_trans y (by omega))
 have f:=kb ah f (by omega)
 have g:=Aa g ah (Nat.le_trans (Nat.le_refl _) (by omega))
 clear k
 have hb36l:=kb ah hb36l (by omega)
 clear c
 have c:=ay;clear ay
 have b4:=bl c
 refine B2 rfl (ResF.row o c IU rfl (by rw[List.size_toArray,Lib.byteCells_length];first | (rw[List.length_replicate];exact R5) | (rw[BG _ _ (by omega)];exact R5))) (vr (.bool (true)) rfl) ?_
 refine⟨?_,hE⟩
 rw[hun]

theorem Kg(w:World)(s:List UInt8)(hs:s.length≤9223372036854775807):
  Calls Tryz.prog 38 #[St s] w fun e w' =>e = .returned (.tuple #[AB ((AQ s).1), .bool (AQ s).2])∧Ext w w' :=by
 refine gG (args:= [St (s)]) Tryz.func38 rfl 42 rfl rfl ?_
 have hE:=Ext.refl w
 refine gS (Yk.alloc (cs:=(Lib.byteCells (List.replicate 32 0)).toArray) IX fun p u a0 af aq a1=> ?_)
 have c:=af;clear af
 have a2:p<u.heap.size:=by omega
 refine gS (Yk.alloc (cs:=(Lib.byteCells (List.replicate 32 0)).toArray) IX fun y ar au ag m a3=> ?_)
 have f:=Ext.refl u
 have hE:=hE.trans aq
 have av:=hE.size
 have a4:=AE (bl c) au
 have n:=ag;clear ag
 have a5:y<ar.heap.size:=by omega
 refine gS (Yk.lenSt (l:=s) Io rfl (gS (Yk.eqI (a:=(s.length:Nat)) (b:=(64:Nat)) rfl rfl (AZ _ _ _ _) ?_)))
 refine cD rfl (fun h64=> ?_) fun h64=> ?_
 ·have hun:=DT (s:=s) (fun h=>h64 h.1)
  have c:=eb m c
  refine gS (Yk.loadAll rfl n IU rfl (by rw[List.size_toArray,Lib.byteCells_length,List.length_replicate];exact R5) (gS (Yk.storeAll (vr (PQ p 0) rfl) (vr (AB (List.replicate 32 0)) rfl) c (by first | rfl | (rw[List.size_toArray,Lib.byteCells_length,List.length_replicate];rfl)) (by rw[List.size_toArray,Lib.byteCells_length,List.length_replicate];exact R5) (Ah _) fun a6 ah ai a7=> ?_)))
  have hE:=hE.trans m
  have hE:=Aa hE ai (Nat.le_trans (Nat.le_refl _) (by omega))
  clear f
  have n:=kb ai n (by omega)
  clear c
  have c:=ah;clear ah
  have a8:=bl c
  refine B2 rfl (ResF.row rfl c IU rfl (by rw[List.size_toArray,Lib.byteCells_length];first | (rw[List.length_replicate];exact R5) | (rw[BG _ _ (by omega)];exact R5))) (vr (.bool (false)) rfl) ?_
  refine⟨?_,hE⟩
  rw[hun]
 have aw:s.length=64:=by omega
 have hE:=hE.trans m
 have c:=eb m c
 have f:=f.trans m
 refine gL (fun(ρ:Ai) (wz:World)=>∃i:Nat,ρ 0=(St (s):Value)∧ρ 2=(PQ p 0:Value)∧ρ 4=(PQ y 0:Value)∧ρ 5=(NI i:Value)∧Ext w wz∧wz.heap[p]? =some (.cells (Lib.byteCells (List.replicate 32 0)).toArray 54 (0,0))∧Ext u wz∧wz.heap[y]? =some (.cells (Lib.byteCells (pre s i)).toArray 54 (0,0))∧(i≤32)∧(∀j,j<i→Dv s j=true)∧True) (fun ρ _=>32-(intOf (ρ 5)).toNat) ⟨0,rfl,rfl,rfl,rfl,hE,c,f,AF n (rfl),Nat.zero_le _,fun j hj=>by omega,trivial⟩ ?_
 clear n
 clear hE c f
 rintro ax a9 ⟨i,z,g,T4,k,hE,c,f,hb21l,hi,hall,-⟩
 have q5:=k
 have hpl:=BG s i hi
 refine gS (Yk.eqI (a:=(i:Nat)) (b:=(32:Nat)) k rfl (AO _ _ _ _) ?_)
 refine cD rfl (fun ay=> ?_) fun ay=> ?_
 ·refine B5 [0,1,2,3,5,6,7,8,9,4,10,11,12] [4,10] [7,8,9] fun ba ab=>(ys (Yk.bin (xv:=NI 2) (yv:=NI i) rfl k rfl (BH _ _ _ (by omega)) zz) (ys (Yk.idxSt (l:=s) (i:=(2)*(i)) Io z rfl (by omega) zz) (yp (Yk.bin (xv:=NI 2) (yv:=NI i) rfl k rfl (BH _ _ _ (by omega)) zz) (yp (Yk.bin (xv:=NI ((2)*(i))) (yv:=NI 1) rfl rfl rfl (Ap _ _ _ (by omega)) zz) (yp (Yk.idxSt (l:=s) (i:=((2)*(i))+(1)) Io z rfl (by omega) zz) (yC (Yk.callA1 I3 rfl ((Gl _ (s.getD ((2)*(i)) 0)).mono ?_))))))))
  rintro e bb ⟨rfl,ac⟩
  refine⟨_,rfl,?_⟩
  refine yC (Yk.callA1 I3 rfl ((Gl _ (s.getD (((2)*(i))+(1)) 0)).mono ?_))
  rintro e bc ⟨rfl,ad⟩
  refine⟨_,rfl,?_⟩
  obtain⟨x1,q⟩:∃x,x=dg (s.getD (2*i) 0):=⟨_,rfl⟩
  obtain⟨x2,r⟩:∃x,x=dg (s.getD (2*i+1) 0):=⟨_,rfl⟩
  rcases x1 with _ | k1
  ·have hno:Dv s i=false:=by unfold Dv;rw[←q];rfl
   have o:=(vr (.int .i64 (B9 (s.getD (2*i) 0):Int)) rfl).trans (show Value.int .i64 (B9 (s.getD (2*i) 0)) = .int .i64 (-1) by unfold B9;rw[←q])
   have hZ1:=(ab.trans ac).trans ad
   have c:=eb hZ1 c
   refine gS (Yk.eqI o rfl (D3 _ .i64 (-1:Int) ((0:Nat):Int)) (kT (by decide) (gS (Yk.pickT rfl rfl (cT rfl (gS (Yk.run (v:=AB (List.replicate 32 0)) (by kernel_rfl) (gS (Yk.storeAll g (vr (AB (List.replicate 32 0)) rfl) c (by first | rfl | (rw[List.size_toArray,Lib.byteCells_length,List.length_replicate];rfl)) (by rw[List.size_toArray,Lib.byteCells_length,List.length_replicate];exact R5) (Ah _) fun bd aj ak be=> ?_)))))))))
   have hE:=hE.trans hZ1
   have hE:=Aa hE ak (Nat.le_trans (Nat.le_refl _) (by omega))
   clear f
   have hb21l:=eb hZ1 hb21l
   have hb21l:=kb ak hb21l (by omega)
   clear c
   have c:=aj;clear aj
   have bf:=bl c
   have hun:=DT (s:=s) (fun h=>by have:=List.all_eq_true.1 h.2 i (by simp;omega);rw[hno]at this;cases this)
   refine B2 rfl (ResF.row g c IU rfl (by rw[List.size_toArray,Lib.byteCells_length];first | (rw[List.length_replicate];exact R5) | (rw[BG _ _ (by omega)];exact R5))) (vr (.bool (false)) rfl) ?_
   refine⟨?_,hE⟩
   rw[hun]
  have hd1:=q.symm
  have bg:=JC hd1
  have o:=(vr (.int .i64 (B9 (s.getD (2*i) 0):Int)) rfl).trans (show Value.int .i64 (B9 (s.getD (2*i) 0))=NI k1 by unfold B9;rw[←q])
  rcases x2 with _ | k2
  ·have hno:Dv s i=false:=by unfold Dv;rw[←r];simp
   have t:=(vr (.int .i64 (B9 (s.getD (2*i+1) 0):Int)) rfl).trans (show Value.int .i64 (B9 (s.getD (2*i+1) 0)) = .int .i64 (-1) by unfold B9;rw[←r])
   have hZ2:=(ab.trans ac).trans ad
   have c:=eb hZ2 c
   refine gS (Yk.eqI (a:=(k1:Nat)) (b:=(0:Nat)) o rfl (AO _ _ _ _) (kF (by omega) (gS (Yk.eqI t rfl (D3 _ .i64 (-1:Int) ((0:Nat):Int)) (kT (by decide) (gS (Yk.pickF rfl rfl (cT rfl (gS (Yk.run (v:=AB (List.replicate 32 0)) (by kernel_rfl) (gS (Yk.storeAll g (vr (AB (List.replicate 32 0)) rfl) c (by first | rfl | (rw[List.size_toArray,Lib.byteCells_length,List.length_replicate];rfl)) (by rw[List.size_toArray,Lib.byteCells_length,List.length_replicate];exact R5) (Ah _) fun bh al am bi=> ?_))))))))))))
   have hE:=hE.trans hZ2
   have hE:=Aa hE am (Nat.le_trans (Nat.le_refl _) (by omega))
   clear f
   have hb21l:=eb hZ2 hb21l
   have hb21l:=kb am hb21l (by omega)
   clear c
   have c:=al;clear al
   have bj:=bl c
   have hun:=DT (s:=s) (fun h=>by have:=List.all_eq_true.1 h.2 i (by simp;omega);rw[hno]at this;cases this)
   refine B2 rfl (ResF.row g c IU rfl (by rw[List.size_toArray,Lib.byteCells_length];first | (rw[List.length_replicate];exact R5) | (rw[BG _ _ (by omega)];exact R5))) (vr (.bool (false)) rfl) ?_
   refine⟨?_,hE⟩
   rw[hun]
  have hd2:=r.symm
  have az:=JC hd2
  have t:=(vr (.int .i64 (B9 (s.getD (2*i+1) 0):Int)) rfl).trans (show Value.int .i64 (B9 (s.getD (2*i+1) 0))=NI k2 by unfold B9;rw[←r])
  have hZ3:=(ab.trans ac).trans ad
  have hb21l:=eb hZ3 hb21l
  refine gS (Yk.eqI (a:=(k1:Nat)) (b:=(0:Nat)) o rfl (AO _ _ _ _) (kF (by omega) (gS (Yk.eqI (a:=(k2:Nat)) (b:=(0:Nat)) t rfl (AO _ _ _ _) (kF (by omega) (gS (Yk.pickF rfl rfl (cF rfl (gS (Yk.bin (xv:=NI 16) (yv:=NI k1) rfl o rfl (BH _ _ _ (by omega)) (gS (Yk.bin (xv:=NI ((16)*(k1))) (yv:=NI k2) rfl t rfl (Ap _ _ _ (by omega)) (gS (Yk.convI Pb Ds rfl (HA (((16)*(k1))+(k2))) (gS (Yk.atArr0 (i:=i) IU Fy T4 k (by omega) (gS (Yk.storeB8 (i:=i) (v:=UInt8.ofNat (((16)*(k1))+(k2))) rfl rfl hb21l (by rw[hpl];omega) NA fun bk an ae bm=> ?_))))))))))))))))))
  have hE:=hE.trans hZ3
  have hE:=Aa hE ae (Nat.le_trans av (by omega))
  have c:=eb hZ3 c
  have c:=kb ae c (by omega)
  have f:=f.trans hZ3
  have f:=Aa f ae (Nat.le_trans (Nat.le_refl _) (by omega))
  clear hb21l
  have hb21l:=an;clear an
  have bn:=bl hb21l
  refine gS (Yk.bin (xv:=NI i) (yv:=NI 1) k rfl rfl (Ap _ _ _ (by omega)) (gK (And.intro ⟨i+1,z,g,T4,rfl,hE,c,f,AF hb21l (congrArg Lib.byteCells (by rw[←Kd s i (by omega),I1 hd1 hd2 az])),by omega,LH hall hd1 hd2,trivial⟩ ?_)))
  show 32-(intOf (NI ((i)+(1)))).toNat<32-(intOf (ax 5)).toNat
  rw[q5]
  simp only[intOf,Int.toNat_natCast];omega
 have hi32:i=32:=by omega
 have hun:AQ s=(pre s i,true):=by rw[hi32,LE];exact Gg aw (fun j hj=>hall j (by omega))
 refine gS (Yk.loadAll T4 hb21l IU rfl (by rw[List.size_toArray,Lib.byteCells_length,BG _ _ (by omega)];exact R5) (gS (Yk.storeAll g (vr (AB (pre s i)) rfl) c (by first | rfl | (rw[List.size_toArray,Lib.byteCells_length,BG _ _ (by omega)];rfl)) (by rw[List.size_toArray,Lib.byteCells_length,BG _ _ (by omega)];exact R5) (Ah _) fun bo ao ap bp=> ?_)))
 have hE:=Aa hE ap (Nat.le_trans (Nat.le_refl _) (by omega))
 clear f
 have hb21l:=kb ap hb21l (by omega)
 clear c
 have c:=ao;clear ao
 have bq:=bl c
 refine B2 rfl (ResF.row g c IU rfl (by rw[List.size_toArray,Lib.byteCells_length];first | (rw[List.length_replicate];exact R5) | (rw[BG _ _ (by omega)];exact R5))) (vr (.bool (true)) rfl) ?_
 refine⟨?_,hE⟩
 rw[hun]
open Go.RowKit
set_option maxRecDepth 100000
theorem S7{vx vy:Value}{x y:Bs}{w:World}(hx:RB w vx x)(hy:RB w vy y):(callFunc 123 #[vx,vy]).run Tryz.prog w = .ok (.value (.int .i64 (Lib.compareBytes x y))) w:=by
 rw[run_callFunc_extern (e:=Extern.BytealgCompare.compare) Tryz.func123 (by kernel_rfl) (by kernel_rfl) (by kernel_rfl) (by kernel_rfl),Jt hx hy]
 rfl
theorem NT:Plain Tryz.prog 113:=fun _ _=>by kernel_rfl
theorem Hf(w:World)(vx vy:Value)(x y:Bs)(hx:RB w vx x)(hy:RB w vy y):
  Calls Tryz.prog 113 #[vx,vy] w fun e w' =>e = .returned (.int .i64 (Lib.compareBytes x y))∧Ext w w' :=by
 refine gG (args:= [vx,vy]) Tryz.func113 rfl 8 rfl rfl ?_
 have hE:=Ext.refl w
 refine gS (Yk.extern2 rfl rfl (S7 (hx.keep hE) (hy.keep hE)) (AX rfl (vr (.int .i64 (Lib.compareBytes x y:Int)) rfl) ?_))
 exact⟨rfl,hE⟩

theorem Lf(w:World)(x y:Bs)(hxl:x.length=32)(hyl:y.length=32):
  Calls Tryz.prog 96 #[AB x,AB y] w fun e w' =>e = .returned (.int .i64 (Lib.compareBytes x y))∧Ext w w' :=by
 refine gG (args:= [AB x,AB y]) Tryz.func96 rfl 8 rfl rfl ?_
 have hE:=Ext.refl w
 refine gS (Yk.box (cs:=(Lib.byteCells x:List Value).toArray) (vr (AB x) rfl) fun h i q c j r=> ?_)
 have a:=c;clear c
 have s:h<i.heap.size:=by omega
 refine gS (Yk.box (cs:=(Lib.byteCells y:List Value).toArray) (vr (AB y) rfl) fun k l m f n t=> ?_)
 have hE:=hE.trans j
 have u:=hE.size
 have v:=AE (bl a) m
 have b:=f;clear f
 have z:k<l.heap.size:=by omega
 refine B5 [0,1,2,3] [2] [] fun o g=>(ys (Yk.sliceArr IU Fy rfl zz) (ys (Yk.sliceArr IU Fy rfl zz) ?_))
 have hC:=Ext.refl o
 have hZ1:=n.trans g
 have a:=eb hZ1 a
 have b:=eb g b
 refine yC (Yk.callA2 NT rfl rfl ((Hf _ _ _ x y (RB.ofBlkN (eb hC a) hxl (by decide)) (RB.ofBlkN (eb hC b) hyl (by decide))).mono ?_))
 rintro e aa ⟨rfl,p⟩
 refine⟨_,rfl,?_⟩
 refine AX rfl (vr (.int .i64 (Lib.compareBytes x y:Int)) rfl) ?_
 have hE:=hE.trans (hZ1.trans p)
 exact⟨rfl,hE⟩
open Go.RowKit
set_option maxRecDepth 100000
theorem Bc:Tryz.prog.underlying 43=some (.slice 54):=by kernel_rfl
theorem pk6_ig54:∃z,(Tryz.prog.info? 54).map (fun i=>(i.zero,i.size,i.bytes))=some (some z,32,32)∧z.cells.size=32:=Eg (by kernel_rfl)
theorem C4:∀w' :World,(sizeOf 54).run Tryz.prog w' = .ok 32 w' :=fun _=>by kernel_rfl
theorem Hg:Plain Tryz.prog 95:=fun _ _=>by kernel_rfl
theorem PN:Plain Tryz.prog 96:=fun _ _=>by kernel_rfl
theorem PO(c0 c1 c2 c3 c4 c5 c6 c7 c8 c9 c10 c11 c12 c13 c14 c15 c16 c17 c18 c19 c20 c21 c22 c23 c24 c25 c26 c27 c28 c29 c30 c31:Value)(w:World):(Instr.buildSlice 43 1 #[(0, .agg #[c0,c1,c2,c3,c4,c5,c6,c7,c8,c9,c10,c11,c12,c13,c14,c15,c16,c17,c18,c19,c20,c21,c22,c23,c24,c25,c26,c27,c28,c29,c30,c31])]).run Tryz.prog w = .ok (.slice (some ⟨w.heap.size,0,none⟩) 1 1) (w.alloc (.cells #[c0,c1,c2,c3,c4,c5,c6,c7,c8,c9,c10,c11,c12,c13,c14,c15,c16,c17,c18,c19,c20,c21,c22,c23,c24,c25,c26,c27,c28,c29,c30,c31] 54)):=by kernel_rfl
theorem Kh:∀(cs:Array Value),cs.size=32→∀w:World,(Instr.buildSlice 43 1 #[(0, .agg cs)]).run Tryz.prog w = .ok (.slice (some ⟨w.heap.size,0,none⟩) 1 1) (w.alloc (.cells cs 54))
 | ⟨[c0,c1,c2,c3,c4,c5,c6,c7,c8,c9,c10,c11,c12,c13,c14,c15,c16,c17,c18,c19,c20,c21,c22,c23,c24,c25,c26,c27,c28,c29,c30,c31]⟩,_,w=>PO c0 c1 c2 c3 c4 c5 c6 c7 c8 c9 c10 c11 c12 c13 c14 c15 c16 c17 c18 c19 c20 c21 c22 c23 c24 c25 c26 c27 c28 c29 c30 c31 w
theorem ME(n:Nat)(ih:∀l:List Bs,l.length<n→∀(w:World) (v:Value),RG 32 Lib.byteCells w v l→Calls Tryz.prog 95 #[v, .func (.func 96) #[] #[]] w fun e w' =>∃v' m,e = .returned v' ∧OG w.heap.size 54 32 Lib.byteCells w' v' m∧m.Perm l∧Cb m∧Ext w w')(l:List Bs)(hn:l.length=n)(hlim:l.length≤1048576)(w:World)(v:Value)(hr:RG 32 Lib.byteCells w v l):
  Calls Tryz.prog 95 #[v, .func (.func 96) #[] #[]] w fun e w' =>∃v' m,e = .returned v' ∧OG w.heap.size 54 32 Lib.byteCells w' v' m∧m.Perm l∧Cb m∧Ext w w' :=by
 refine gG (args:= [v, .func (.func 96) #[] #[]]) Tryz.func95 rfl 68 rfl rfl ?_
 have hE:=Ext.refl w
 refine gS (Yk.lenRG Bc (RG.of hr rfl) (gS (Yk.eqI (a:=(l.length:Nat)) (b:=(2:Nat)) rfl rfl (AO _ _ _ _) ?_)))
 refine cD rfl (fun a2=> ?_) fun a2=> ?_
 ·refine gS (Yk.appendRG _ _ w.heap.size _ 32 Bc pk6_ig54.choose_spec.1 pk6_ig54.choose_spec.2 Bc ([]) (l) (RG.nilOwn _ _ _) (RG.of hr (vr v rfl)) (fun _ _=>Ah _) (by simp only[List.length_nil];omega) (by simp only[List.length_nil];omega) hE.size fun v5 w6 bm al=> ?_)
  have al:Grew w w6 (.slice none 0 0) v5:=al
  have hx_:Ext w w6:=Ext.of (by have:=al.by_;exact this)
  refine AX rfl (vr v5 rfl) ?_
  have hE:=hE.trans hx_
  exact⟨_,l,rfl,OG.base (Bk bm (List.nil_append l)) (by omega),List.Perm.refl _,Ni a2,hE⟩
 refine gR ?_
 refine OZ [Is (v),Is (v),Is (NI l.length),Is (NI ((l.length)/(2))),fun x _=>RG 32 (Lib.byteCells) w x (l.take ((l.length)/(2))),Is (.func (.func 96) #[] #[]),fun x w' =>∃m,RG 32 Lib.byteCells w' x m∧m.Perm (l.take ((l.length)/(2)))∧Cb m,Is (v),Is (v),Is (NI l.length),Is (NI ((l.length)/(2))),fun x _=>RG 32 (Lib.byteCells) w x (l.drop ((l.length)/(2))),Is (.func (.func 96) #[] #[]),fun x w' =>∃m,RG 32 Lib.byteCells w' x m∧m.Perm (l.drop ((l.length)/(2)))∧Cb m,fun x w' =>∃m,RG 32 Lib.byteCells w' x m∧m.Perm (l.take ((l.length)/(2)))∧Cb m,fun x w' =>∃m,RG 32 Lib.byteCells w' x m∧m.Perm (l.drop ((l.length)/(2)))∧Cb m] (by kernel_rfl) [13,14,15,16,17,18,19,20,21,22,23,24,25,26,5,6] (by kernel_rfl) (by kernel_rfl) (RX ⟨(fun _ _ _ h _=>h),Stab.is _,(fun _ _ _ ⟨m,h1,h2⟩ k=>⟨m,h1.keep k,h2⟩),(RX ⟨(fun _ _ _ h _=>h),Stab.is _,(fun _ _ _ ⟨m,h1,h2⟩ k=>⟨m,h1.keep k,h2⟩),(fun _ _ _ ⟨m,h1,h2⟩ k=>⟨m,h1.keep k,h2⟩),(fun _ _ _ ⟨m,h1,h2⟩ k=>⟨m,h1.keep k,h2⟩),trivial⟩)⟩) ?bn ?hQ1003
 case bn=>
  refine⟨?_,?_,?_,?_,?_,?_,?_,?_,?_,?_,?_,?_,?_,?_,?_,?_,trivial⟩
  ·refine AC rfl fun σ w1 hC h=> ?_
   have s:σ 0=v:=(AR (h 0 (by decide))).trans rfl
   exact Yk.move s ⟨Ext.refl _,rfl⟩
  ·refine AC rfl fun σ w1 hC h=> ?_
   have s:σ 0=v:=(AR (h 0 (by decide))).trans rfl
   exact Yk.move s ⟨Ext.refl _,rfl⟩
  ·refine AC rfl fun σ w1 hC h=> ?_
   have bo:=AR (h 14 (by decide))
   exact Yk.lenRG Bc (RG.of (hr.keep hC) bo) ⟨Ext.refl _,rfl⟩
  ·refine AC rfl fun σ w1 hC h=> ?_
   have bp:=AR (h 15 (by decide))
   exact Yk.bin (xv:=NI l.length) (yv:=NI 2) bp rfl rfl (Ij _ _ _ (by omega) (by omega)) ⟨Ext.refl _,rfl⟩
  ·refine AC rfl fun σ w1 hC h=> ?_
   have bq:=AR (h 13 (by decide))
   have br:=AR (h 16 (by decide))
   exact Yk.sliceHiW Bc C4 bq hr br (by omega) fun v h _=>⟨Ext.refl _,h⟩
  ·refine AC rfl fun σ w1 hC h=> ?_
   have e1:σ 1 = .func (.func 96) #[] #[]:=(AR (h 1 (by decide))).trans rfl
   exact Yk.move e1 ⟨Ext.refl _,rfl⟩
  ·refine AC rfl fun σ w1 hC h=> ?_
   have bs:(fun x _=>RG 32 (Lib.byteCells) w x (l.take ((l.length)/(2)))) (σ 17) w1:=h 17 (by decide)
   have bt:=AR (h 18 (by decide))
   refine Yk.callA2 Hg rfl bt ((ih (l.take ((l.length)/(2))) (by have hlen_:=List.length_take_le (l.length/2) l;first | (simp only[List.length_take];omega) | (simp only[List.length_drop];omega)) _ _ (RG.keep bs hC)).mono ?_)
   rintro e w2 ⟨_,m,rfl,h1,h2,h3,h4⟩
   exact⟨_,rfl,h4,m,RG.ofOwn h1,h2,h3⟩
  ·refine AC rfl fun σ w1 hC h=> ?_
   have s:σ 0=v:=(AR (h 0 (by decide))).trans rfl
   exact Yk.move s ⟨Ext.refl _,rfl⟩
  ·refine AC rfl fun σ w1 hC h=> ?_
   have s:σ 0=v:=(AR (h 0 (by decide))).trans rfl
   exact Yk.move s ⟨Ext.refl _,rfl⟩
  ·refine AC rfl fun σ w1 hC h=> ?_
   have bu:=AR (h 21 (by decide))
   exact Yk.lenRG Bc (RG.of (hr.keep hC) bu) ⟨Ext.refl _,rfl⟩
  ·refine AC rfl fun σ w1 hC h=> ?_
   have bv:=AR (h 22 (by decide))
   exact Yk.bin (xv:=NI l.length) (yv:=NI 2) bv rfl rfl (Ij _ _ _ (by omega) (by omega)) ⟨Ext.refl _,rfl⟩
  ·refine AC rfl fun σ w1 hC h=> ?_
   have bw:=AR (h 20 (by decide))
   have bx:=AR (h 23 (by decide))
   exact Yk.sliceLoW Bc C4 bw hr bx (by omega) fun v h _=>⟨Ext.refl _,h⟩
  ·refine AC rfl fun σ w1 hC h=> ?_
   have e1:σ 1 = .func (.func 96) #[] #[]:=(AR (h 1 (by decide))).trans rfl
   exact Yk.move e1 ⟨Ext.refl _,rfl⟩
  ·refine AC rfl fun σ w1 hC h=> ?_
   have bz:(fun x _=>RG 32 (Lib.byteCells) w x (l.drop ((l.length)/(2)))) (σ 24) w1:=h 24 (by decide)
   have b0:=AR (h 25 (by decide))
   refine Yk.callA2 Hg rfl b0 ((ih (l.drop ((l.length)/(2))) (by have hlen_:=List.length_take_le (l.length/2) l;first | (simp only[List.length_take];omega) | (simp only[List.length_drop];omega)) _ _ (RG.keep bz hC)).mono ?_)
   rintro e w2 ⟨_,m,rfl,h1,h2,h3,h4⟩
   exact⟨_,rfl,h4,m,RG.ofOwn h1,h2,h3⟩
  ·refine AC rfl fun σ w1 hC h=> ?_
   have b1:(fun x w' =>∃m,RG 32 Lib.byteCells w' x m∧m.Perm (l.take ((l.length)/(2)))∧Cb m) (σ 19) w1:=h 19 (by decide)
   exact Yk.assign rfl ⟨Ext.refl _,b1⟩
  ·refine AC rfl fun σ w1 hC h=> ?_
   have b2:(fun x w' =>∃m,RG 32 Lib.byteCells w' x m∧m.Perm (l.drop ((l.length)/(2)))∧Cb m) (σ 26) w1:=h 26 (by decide)
   exact Yk.assign rfl ⟨Ext.refl _,b2⟩
 intro ab g a5 he hf
 obtain⟨-,-,-,-,-,-,-,-,-,-,-,-,-,-,k5,k6,-⟩:=hf
 obtain⟨p,q,r,-⟩:=he.hold [(0,v),(1, .func (.func 96) #[] #[]),(4,(Value.slice none 0 0))] ⟨rfl,rfl,rfl,trivial⟩ rfl
 clear he
 have k5:(fun x w' =>∃m,RG 32 Lib.byteCells w' x m∧m.Perm (l.take ((l.length)/(2)))∧Cb m) (ab 5) g:=k5
 obtain⟨b3,i⟩:∃v,ab 5=v:=⟨_,rfl⟩
 rw[i]at k5
 have b4:=k5;clear k5
 obtain⟨A,b5,b6,ha17⟩:=b4
 have k6:(fun x w' =>∃m,RG 32 Lib.byteCells w' x m∧m.Perm (l.drop ((l.length)/(2)))∧Cb m) (ab 6) g:=k6
 obtain⟨b7,j⟩:∃v,ab 6=v:=⟨_,rfl⟩
 rw[j]at k6
 have b8:=k6;clear k6
 obtain⟨B,b9,ca,ha22⟩:=b8
 have hr:=hr.keep a5
 refine gX (gS (Yk.lenRG Bc (RG.of hr p) ?_))
 have f:=Ext.refl g
 have hE:=hE.trans a5
 have t:=hE.size
 refine gS (Yk.makeG (enc:=Lib.byteCells) g.heap.size _ 32 Bc pk6_ig54.choose_spec.1 rfl rfl (by omega) (by omega) (Nat.le_refl _) fun cb c5 a6 a7=> ?_)
 have hE:=hE.trans a7
 have f:=f.trans a7
 refine gL (fun(ρ:Ai) (wz:World)=>∃va:Value,∃vb:Value,∃Al:List Bs,∃Bl:List Bs,∃Ol:List Bs,∃vo:Value,ρ 0=(v:Value)∧ρ 1=(.func (.func 96) #[] #[]:Value)∧ρ 4=((Value.slice none 0 0):Value)∧ρ 5=(va:Value)∧ρ 6=(vb:Value)∧ρ 7=(vo:Value)∧Ext w wz∧Ext g wz∧RG 32 Lib.byteCells g va Al∧RG 32 Lib.byteCells g vb Bl∧OG g.heap.size 54 32 (Lib.byteCells) wz vo Ol∧(MI l Ol Al Bl)∧True) (fun ρ _=>Bx (ρ 5)+Bx (ρ 6)) ⟨b3,b7,A,B,[],cb,p,q,r,i,j,rfl,hE,f,b5,b9,a6,MI.start b6 ca ha17 ha22,trivial⟩ ?_
 clear a6
 clear hE f
 rintro ac a8 ⟨va,vb,Al,Bl,Ol,vo,p,q,r,i,j,o,hE,f,hfa,hfb,hfo,hMI,-⟩
 have q5:=i
 have q6:=j
 have qa:=hfa.sliceLen
 have qb:=hfb.sliceLen
 have hla:=hMI.perm.length_eq
 simp only[List.length_append]at hla
 by_cases hga:0<Al.length
 ·by_cases hgb:0<Bl.length
  ·refine gS (Yk.lenRG Bc (RG.of (hfa.keep f) i) (gS (Yk.eqI (a:=(Al.length:Nat)) (b:=(0:Nat)) rfl rfl (Ca _ _ _ _) (kT (hga) (gS (Yk.lenRG Bc (RG.of (hfb.keep f) j) (gS (Yk.eqI (a:=(Bl.length:Nat)) (b:=(0:Nat)) rfl rfl (Ca _ _ _ _) (kT (hgb) (gS (Yk.pickT rfl rfl (cT rfl (B5 [0,1,2,3,4,5,6,7,8] [7] [] fun c6 an=> ?_)))))))))))))
   have f:=f.trans an
   have a9:(Lib.byteCells (Al.getD (0) ([]:List UInt8))).length=32:=(RG.elem (hfa.keep f) ([]:List UInt8) (by omega))
   refine yA (Yk.atRG Bc C4 (by decide) ([]:List UInt8) (RG.of (hfa.keep f) i) rfl (by omega) fun c7 ad=>(ys (Yk.loadPR (PR.of ad rfl) IU rfl (by rw[a9];exact R5) zz) ?_))
   have ba:(Lib.byteCells (Bl.getD (0) ([]:List UInt8))).length=32:=(RG.elem (hfb.keep f) ([]:List UInt8) (by omega))
   refine yA (Yk.atRG Bc C4 (by decide) ([]:List UInt8) (RG.of (hfb.keep f) j) rfl (by omega) fun c8 ae=>(ys (Yk.loadPR (PR.of ae rfl) IU rfl (by rw[ba];exact R5) zz) (yC (Yk.clo PN (caps:= #[]) q #[AB (Al.getD (0) ([]:List UInt8)),AB (Bl.getD (0) ([]:List UInt8))] (by simp only[List.map_toArray,List.map_cons,List.map_nil,List.append_toArray,List.cons_append,List.nil_append];exact congrArg List.toArray (D4 rfl rfl)) ((Lf _ (Al.getD (0) ([]:List UInt8)) (Bl.getD (0) ([]:List UInt8)) ((Bf (a9))) ((Bf (ba)))).mono ?_)))))
   rintro e c ⟨rfl,u⟩
   refine⟨_,rfl,?_⟩
   have ad:=PR.keep ad u
   have ae:=PR.keep ae u
   refine ys (Yk.eqI rfl rfl (QH _ .i64 (Lib.compareBytes (Al.getD (0) ([]:List UInt8)) (Bl.getD (0) ([]:List UInt8)):Int) ((0:Nat):Int)) zz) ?_
   clear ad
   clear ae
   refine cD rfl (fun ao=> ?_) fun ao=> ?_
   ·refine gR ?_
    have hZ1:=an.trans u
    have hfo:=hfo.keep hZ1
    have cc:∀k,Value.ownBlock vo=some k→g.heap.size≤k:=fun k hk=>(hfo.2.lt k hk).1
    have f:=f.trans u
    have hsz_:g.heap.size≤c.heap.size:=f.size
    refine Fe (Value.ownBlock vo) [5] [0] (fun m=>if m=5 then [0,2,4]else []) (fun m=>if m=5 then [0,2,4,5,8]else []) [fun x w' =>Ev g.heap.size c.heap.size 54 32 (Lib.byteCells) (Value.ownBlock vo) (Ol) x w',Is (va),fun x w' =>PR (Lib.byteCells (Al.getD (0) ([]:List UInt8))) x w',Is (AB (Al.getD (0) ([]:List UInt8))),fun x w' =>RG 32 (Lib.byteCells) w' x ([(Al.getD (0) ([]:List UInt8))]),fun x w' =>Ev g.heap.size c.heap.size 54 32 (Lib.byteCells) (Value.ownBlock vo) ((Ol)++ [(Al.getD (0) ([]:List UInt8))]) x w',Is (va),fun x _=>RG 32 (Lib.byteCells) g x (Al.drop (1)),fun x w' =>Ev g.heap.size c.heap.size 54 32 (Lib.byteCells) (Value.ownBlock vo) ((Ol)++ [(Al.getD (0) ([]:List UInt8))]) x w',fun x _=>RG 32 (Lib.byteCells) g x (Al.drop (1))] (by kernel_rfl) [47,48,49,50,51,52,53,54,7,5] (by kernel_rfl) (by kernel_rfl) (by kernel_rfl) (by kernel_rfl) (by kernel_rfl) rfl ⟨(fun _ _ _ h k=>⟨OG.keep h.1 k,h.2⟩),Stab.is _,(fun _ _ _ h k=>PR.keep h k),Stab.is _,(fun _ _ _ h k=>RG.keep h k),(fun _ _ _ h k=>⟨OG.keep h.1 k,h.2⟩),Stab.is _,(fun _ _ _ h _=>h),(fun _ _ _ h k=>⟨OG.keep h.1 k,h.2⟩),(fun _ _ _ h _=>h),trivial⟩ ⟨⟨.inl rfl, .inr (Stab.is _), .inl rfl, .inr (Stab.is _), .inl rfl, .inl rfl, .inr (Stab.is _), .inr ((fun _ _ _ h _=>h)), .inl rfl, .inr ((fun _ _ _ h _=>h)),trivial⟩,trivial⟩ ?cd ?hQ2007
    case cd=>
     refine⟨?_,?_,?_,?_,?_,?_,?_,?_,?_,?_,trivial⟩
     ·refine AC rfl fun σ w1 hC h=> ?_
      have hX:Ext c w1:=hC
      have hC:BX c.heap.size (Value.ownBlock vo) c w1:=BX.ofExt hX (Nat.le_refl _)
      have e7:=(AR (h 7 (by decide))).trans o
      exact Yk.move e7 ⟨Ext.refl _,OG.keep hfo hX,fun k hk=> .inl hk⟩
     ·refine AC rfl fun σ w1 hC h=> ?_
      have hC:BX c.heap.size (Value.ownBlock vo) c w1:=hC
      have e5:=(AR (h 5 (by decide))).trans i
      exact Yk.move e5 ⟨Ext.refl _,rfl⟩
     ·refine AC rfl fun σ w1 hC h=> ?_
      have hC:BX c.heap.size (Value.ownBlock vo) c w1:=hC
      have ce:=AR (h 48 (by decide))
      exact Yk.atRG Bc C4 (by decide) ([]:List UInt8) (RG.of (hfa.keep (Nb f hC (by omega) (fun k hk=>by have:=cc k hk;omega))) ce) (vr (NI 0) rfl) (by omega) fun v h=>⟨Ext.refl _,h⟩
     ·refine AC rfl fun σ w1 hC h=> ?_
      have hC:BX c.heap.size (Value.ownBlock vo) c w1:=hC
      have cf:(fun x w' =>PR (Lib.byteCells (Al.getD (0) ([]:List UInt8))) x w') (σ 49) w1:=h 49 (by decide)
      exact Yk.loadPR cf IU rfl (by rw[RG.elem hfa ([]:List UInt8) (by omega)];exact R5) ⟨Ext.refl _,rfl⟩
     ·refine AC rfl fun σ w1 hC h=> ?_
      have hC:BX c.heap.size (Value.ownBlock vo) c w1:=hC
      have cg:=AR (h 50 (by decide))
      exact Yk.lit1G (a:=(Al.getD (0) ([]:List UInt8))) (enc:=Lib.byteCells) cg (by rw[Lib.byteCells_length];exact(Bf (RG.elem hfa ([]:List UInt8) (by omega)))) Kh fun v w2 h hx=>⟨hx,h⟩
     ·refine AC rfl fun σ w1 hC h=> ?_
      have hC:BX c.heap.size (Value.ownBlock vo) c w1:=hC
      have ar:(fun x w' =>Ev g.heap.size c.heap.size 54 32 (Lib.byteCells) (Value.ownBlock vo) (Ol) x w') (σ 47) w1:=h 47 (by decide)
      have ch:(fun x w' =>RG 32 (Lib.byteCells) w' x ([(Al.getD (0) ([]:List UInt8))])) (σ 51) w1:=h 51 (by decide)
      exact Yk.appendRG _ _ g.heap.size _ 32 Bc pk6_ig54.choose_spec.1 pk6_ig54.choose_spec.2 Bc (Ol) ([(Al.getD (0) ([]:List UInt8))]) ar.1 ch (fun _ _=>Ah _) (by simp only[List.length_cons,List.length_nil];omega) (by simp only[List.length_cons,List.length_nil];omega) (Nat.le_trans hsz_ hC.size) fun v w2 ho hg=>⟨BX.ofGrown hg.by_ hC.size ar.2,ho,fun k hk=>(hg.fresh k hk).elim (ar.2 k) (fun x=> .inr (Nat.le_trans hC.size x))⟩
     ·refine AC rfl fun σ w1 hC h=> ?_
      have hC:BX c.heap.size (Value.ownBlock vo) c w1:=hC
      have e5:=(AR (h 5 (by decide))).trans i
      exact Yk.move e5 ⟨Ext.refl _,rfl⟩
     ·refine AC rfl fun σ w1 hC h=> ?_
      have hC:BX c.heap.size (Value.ownBlock vo) c w1:=hC
      have ci:=AR (h 53 (by decide))
      exact Yk.sliceLoW Bc C4 ci hfa (vr (NI 1) rfl) (by omega) fun v h _=>⟨Ext.refl _,h⟩
     ·refine AC rfl fun σ w1 hC h=> ?_
      have hC:BX c.heap.size (Value.ownBlock vo) c w1:=hC
      have cj:(fun x w' =>Ev g.heap.size c.heap.size 54 32 (Lib.byteCells) (Value.ownBlock vo) ((Ol)++ [(Al.getD (0) ([]:List UInt8))]) x w') (σ 52) w1:=h 52 (by decide)
      exact Yk.assign rfl ⟨Ext.refl _,cj⟩
     ·refine AC rfl fun σ w1 hC h=> ?_
      have hC:BX c.heap.size (Value.ownBlock vo) c w1:=hC
      have ck:(fun x _=>RG 32 (Lib.byteCells) g x (Al.drop (1))) (σ 54) w1:=h 54 (by decide)
      exact Yk.assign rfl ⟨Ext.refl _,ck⟩
    intro y au cl he hf
    obtain⟨-,-,-,-,-,-,-,-,k7,k5,-⟩:=hf
    obtain⟨p,q,r,j,cm,-⟩:=he.hold [(0,_),(1,_),(4,_),(6,_),(37, .bool (true))] ⟨p,q,r,j,rfl,trivial⟩ rfl
    clear he
    have k7:(fun x w' =>Ev g.heap.size c.heap.size 54 32 (Lib.byteCells) (Value.ownBlock vo) ((Ol)++ [(Al.getD (0) ([]:List UInt8))]) x w') (y 7) au:=k7
    obtain⟨bb,o⟩:∃v,y 7=v:=⟨_,rfl⟩
    rw[o]at k7
    have bc:Grew c au vo bb:=⟨cl.grown,k7.2⟩
    have cn:=k7.1;clear k7
    have hE:=hE.trans hZ1
    have hE:=Ag hE bc hfo.2 t
    have f:=Ag f bc hfo.2 (Nat.le_refl _)
    clear hfo
    have k5:(fun x _=>RG 32 (Lib.byteCells) g x (Al.drop (1))) (y 5) au:=k5
    obtain⟨co,i⟩:∃v,y 5=v:=⟨_,rfl⟩
    rw[i]at k5
    have bd:=k5;clear k5
    refine gX (gK (And.intro ⟨co,vb,Al.drop (1),Bl,(Ol)++ [(Al.getD (0) ([]:List UInt8))],bb,p,q,r,i,j,o,hE,f,bd,hfb,cn,hMI.left (by omega) (by omega) ao,trivial⟩ ?_))
    show Bx (y 5)+Bx (y 6)<Bx (ac 5)+Bx (ac 6)
    rw[i,j,q5,q6]
    have n5:=bd.sliceLen
    have n6:=hfb.sliceLen
    try rw[n5]
    try rw[n6]
    try rw[qa]
    try rw[qb]
    simp only[List.length_drop]
    omega
   refine gR ?_
   have hZ2:=an.trans u
   have hfo:=hfo.keep hZ2
   have cp:∀k,Value.ownBlock vo=some k→g.heap.size≤k:=fun k hk=>(hfo.2.lt k hk).1
   have f:=f.trans u
   have hsz_:g.heap.size≤c.heap.size:=f.size
   refine Fe (Value.ownBlock vo) [5] [0] (fun m=>if m=5 then [0,2,4]else []) (fun m=>if m=5 then [0,2,4,5,8]else []) [fun x w' =>Ev g.heap.size c.heap.size 54 32 (Lib.byteCells) (Value.ownBlock vo) (Ol) x w',Is (vb),fun x w' =>PR (Lib.byteCells (Bl.getD (0) ([]:List UInt8))) x w',Is (AB (Bl.getD (0) ([]:List UInt8))),fun x w' =>RG 32 (Lib.byteCells) w' x ([(Bl.getD (0) ([]:List UInt8))]),fun x w' =>Ev g.heap.size c.heap.size 54 32 (Lib.byteCells) (Value.ownBlock vo) ((Ol)++ [(Bl.getD (0) ([]:List UInt8))]) x w',Is (vb),fun x _=>RG 32 (Lib.byteCells) g x (Bl.drop (1)),fun x w' =>Ev g.heap.size c.heap.size 54 32 (Lib.byteCells) (Value.ownBlock vo) ((Ol)++ [(Bl.getD (0) ([]:List UInt8))]) x w',fun x _=>RG 32 (Lib.byteCells) g x (Bl.drop (1))] (by kernel_rfl) [55,56,57,58,59,60,61,62,7,6] (by kernel_rfl) (by kernel_rfl) (by kernel_rfl) (by kernel_rfl) (by kernel_rfl) rfl ⟨(fun _ _ _ h k=>⟨OG.keep h.1 k,h.2⟩),Stab.is _,(fun _ _ _ h k=>PR.keep h k),Stab.is _,(fun _ _ _ h k=>RG.keep h k),(fun _ _ _ h k=>⟨OG.keep h.1 k,h.2⟩),Stab.is _,(fun _ _ _ h _=>h),(fun _ _ _ h k=>⟨OG.keep h.1 k,h.2⟩),(fun _ _ _ h _=>h),trivial⟩ ⟨⟨.inl rfl, .inr (Stab.is _), .inl rfl, .inr (Stab.is _), .inl rfl, .inl rfl, .inr (Stab.is _), .inr ((fun _ _ _ h _=>h)), .inl rfl, .inr ((fun _ _ _ h _=>h)),trivial⟩,trivial⟩ ?cq ?hQ3008
   case cq=>
    refine⟨?_,?_,?_,?_,?_,?_,?_,?_,?_,?_,trivial⟩
    ·refine AC rfl fun σ w1 hC h=> ?_
     have hX:Ext c w1:=hC
     have hC:BX c.heap.size (Value.ownBlock vo) c w1:=BX.ofExt hX (Nat.le_refl _)
     have e7:=(AR (h 7 (by decide))).trans o
     exact Yk.move e7 ⟨Ext.refl _,OG.keep hfo hX,fun k hk=> .inl hk⟩
    ·refine AC rfl fun σ w1 hC h=> ?_
     have hC:BX c.heap.size (Value.ownBlock vo) c w1:=hC
     have e6:=(AR (h 6 (by decide))).trans j
     exact Yk.move e6 ⟨Ext.refl _,rfl⟩
    ·refine AC rfl fun σ w1 hC h=> ?_
     have hC:BX c.heap.size (Value.ownBlock vo) c w1:=hC
     have cr:=AR (h 56 (by decide))
     exact Yk.atRG Bc C4 (by decide) ([]:List UInt8) (RG.of (hfb.keep (Nb f hC (by omega) (fun k hk=>by have:=cp k hk;omega))) cr) (vr (NI 0) rfl) (by omega) fun v h=>⟨Ext.refl _,h⟩
    ·refine AC rfl fun σ w1 hC h=> ?_
     have hC:BX c.heap.size (Value.ownBlock vo) c w1:=hC
     have cs:(fun x w' =>PR (Lib.byteCells (Bl.getD (0) ([]:List UInt8))) x w') (σ 57) w1:=h 57 (by decide)
     exact Yk.loadPR cs IU rfl (by rw[RG.elem hfb ([]:List UInt8) (by omega)];exact R5) ⟨Ext.refl _,rfl⟩
    ·refine AC rfl fun σ w1 hC h=> ?_
     have hC:BX c.heap.size (Value.ownBlock vo) c w1:=hC
     have ct:=AR (h 58 (by decide))
     exact Yk.lit1G (a:=(Bl.getD (0) ([]:List UInt8))) (enc:=Lib.byteCells) ct (by rw[Lib.byteCells_length];exact(Bf (RG.elem hfb ([]:List UInt8) (by omega)))) Kh fun v w2 h hx=>⟨hx,h⟩
    ·refine AC rfl fun σ w1 hC h=> ?_
     have hC:BX c.heap.size (Value.ownBlock vo) c w1:=hC
     have ay:(fun x w' =>Ev g.heap.size c.heap.size 54 32 (Lib.byteCells) (Value.ownBlock vo) (Ol) x w') (σ 55) w1:=h 55 (by decide)
     have cu:(fun x w' =>RG 32 (Lib.byteCells) w' x ([(Bl.getD (0) ([]:List UInt8))])) (σ 59) w1:=h 59 (by decide)
     exact Yk.appendRG _ _ g.heap.size _ 32 Bc pk6_ig54.choose_spec.1 pk6_ig54.choose_spec.2 Bc (Ol) ([(Bl.getD (0) ([]:List UInt8))]) ay.1 cu (fun _ _=>Ah _) (by simp only[List.length_cons,List.length_nil];omega) (by simp only[List.length_cons,List.length_nil];omega) (Nat.le_trans hsz_ hC.size) fun v w2 ho hg=>⟨BX.ofGrown hg.by_ hC.size ay.2,ho,fun k hk=>(hg.fresh k hk).elim (ay.2 k) (fun x=> .inr (Nat.le_trans hC.size x))⟩
    ·refine AC rfl fun σ w1 hC h=> ?_
     have hC:BX c.heap.size (Value.ownBlock vo) c w1:=hC
     have e6:=(AR (h 6 (by decide))).trans j
     exact Yk.move e6 ⟨Ext.refl _,rfl⟩
    ·refine AC rfl fun σ w1 hC h=> ?_
     have hC:BX c.heap.size (Value.ownBlock vo) c w1:=hC
     have cv:=AR (h 61 (by decide))
     exact Yk.sliceLoW Bc C4 cv hfb (vr (NI 1) rfl) (by omega) fun v h _=>⟨Ext.refl _,h⟩
    ·refine AC rfl fun σ w1 hC h=> ?_
     have hC:BX c.heap.size (Value.ownBlock vo) c w1:=hC
     have cw:(fun x w' =>Ev g.heap.size c.heap.size 54 32 (Lib.byteCells) (Value.ownBlock vo) ((Ol)++ [(Bl.getD (0) ([]:List UInt8))]) x w') (σ 60) w1:=h 60 (by decide)
     exact Yk.assign rfl ⟨Ext.refl _,cw⟩
    ·refine AC rfl fun σ w1 hC h=> ?_
     have hC:BX c.heap.size (Value.ownBlock vo) c w1:=hC
     have cx:(fun x _=>RG 32 (Lib.byteCells) g x (Bl.drop (1))) (σ 62) w1:=h 62 (by decide)
     exact Yk.assign rfl ⟨Ext.refl _,cx⟩
   intro z az cy he hf
   obtain⟨-,-,-,-,-,-,-,-,k7,k6,-⟩:=hf
   obtain⟨p,q,r,i,cm,-⟩:=he.hold [(0,_),(1,_),(4,_),(5,_),(37, .bool (true))] ⟨p,q,r,i,rfl,trivial⟩ rfl
   clear he
   have k7:(fun x w' =>Ev g.heap.size c.heap.size 54 32 (Lib.byteCells) (Value.ownBlock vo) ((Ol)++ [(Bl.getD (0) ([]:List UInt8))]) x w') (z 7) az:=k7
   obtain⟨be,o⟩:∃v,z 7=v:=⟨_,rfl⟩
   rw[o]at k7
   have bf:Grew c az vo be:=⟨cy.grown,k7.2⟩
   have cz:=k7.1;clear k7
   have hE:=hE.trans hZ2
   have hE:=Ag hE bf hfo.2 t
   have f:=Ag f bf hfo.2 (Nat.le_refl _)
   clear hfo
   have k6:(fun x _=>RG 32 (Lib.byteCells) g x (Bl.drop (1))) (z 6) az:=k6
   obtain⟨c0,j⟩:∃v,z 6=v:=⟨_,rfl⟩
   rw[j]at k6
   have bg:=k6;clear k6
   refine gX (gK (And.intro ⟨va,c0,Al,Bl.drop (1),(Ol)++ [(Bl.getD (0) ([]:List UInt8))],be,p,q,r,i,j,o,hE,f,hfa,bg,cz,hMI.right (by omega) (by omega) ao,trivial⟩ ?_))
   show Bx (z 5)+Bx (z 6)<Bx (ac 5)+Bx (ac 6)
   rw[i,j,q5,q6]
   have n5:=hfa.sliceLen
   have n6:=bg.sliceLen
   try rw[n5]
   try rw[n6]
   try rw[qa]
   try rw[qb]
   simp only[List.length_drop]
   omega
  refine gS (Yk.lenRG Bc (RG.of (hfa.keep f) i) (gS (Yk.eqI (a:=(Al.length:Nat)) (b:=(0:Nat)) rfl rfl (Ca _ _ _ _) (kT (hga) (gS (Yk.lenRG Bc (RG.of (hfb.keep f) j) (gS (Yk.eqI (a:=(Bl.length:Nat)) (b:=(0:Nat)) rfl rfl (Ca _ _ _ _) (kF (hgb) (gS (Yk.pickT rfl rfl (cF rfl (gS (Yk.appendRG _ _ g.heap.size _ 32 Bc pk6_ig54.choose_spec.1 pk6_ig54.choose_spec.2 Bc (Ol) (Al) (OG.of hfo o) (RG.of (hfa.keep f) i) (fun _ _=>Ah _) (by omega) (by omega) f.size fun a0 bh af ag=> ?_))))))))))))))
  have ag:Grew a8 bh vo a0:= .eqv o ag
  have hE:=Ag hE ag hfo.2 t
  have f:=Ag f ag hfo.2 (Nat.le_refl _)
  clear hfo
  refine gS (Yk.appendRG _ _ g.heap.size _ 32 Bc pk6_ig54.choose_spec.1 pk6_ig54.choose_spec.2 Bc ((Ol)++Al) (Bl) (OG.of af (vr a0 rfl)) (RG.of (hfb.keep f) j) (fun _ _=>Ah _) (by simp only[List.length_append];omega) (by simp only[List.length_append];omega) f.size fun bi c1 c2 ah=> ?_)
  have ah:Grew bh c1 a0 bi:=ah
  have hE:=Ag hE ah af.2 t
  have f:=Ag f ah af.2 (Nat.le_refl _)
  clear af
  refine AX rfl (vr bi rfl) ?_
  obtain⟨hpm,hasc⟩:=hMI.done (by omega)
  exact⟨_,_,rfl,OG.base c2 (by omega),hpm,hasc,hE⟩
 refine gS (Yk.lenRG Bc (RG.of (hfa.keep f) i) (gS (Yk.eqI (a:=(Al.length:Nat)) (b:=(0:Nat)) rfl rfl (Ca _ _ _ _) (kF (hga) (gS (Yk.pickF rfl rfl (cF rfl (gS (Yk.appendRG _ _ g.heap.size _ 32 Bc pk6_ig54.choose_spec.1 pk6_ig54.choose_spec.2 Bc (Ol) (Al) (OG.of hfo o) (RG.of (hfa.keep f) i) (fun _ _=>Ah _) (by omega) (by omega) f.size fun a1 bj ai aj=> ?_)))))))))
 have aj:Grew a8 bj vo a1:= .eqv o aj
 have hE:=Ag hE aj hfo.2 t
 have f:=Ag f aj hfo.2 (Nat.le_refl _)
 clear hfo
 refine gS (Yk.appendRG _ _ g.heap.size _ 32 Bc pk6_ig54.choose_spec.1 pk6_ig54.choose_spec.2 Bc ((Ol)++Al) (Bl) (OG.of ai (vr a1 rfl)) (RG.of (hfb.keep f) j) (fun _ _=>Ah _) (by simp only[List.length_append];omega) (by simp only[List.length_append];omega) f.size fun bk c3 c4 ak=> ?_)
 have ak:Grew bj c3 a1 bk:=ak
 have hE:=Ag hE ak ai.2 t
 have f:=Ag f ak ai.2 (Nat.le_refl _)
 clear ai
 refine AX rfl (vr bk rfl) ?_
 obtain⟨hpm,hasc⟩:=hMI.done (by omega)
 exact⟨_,_,rfl,OG.base c4 (by omega),hpm,hasc,hE⟩

theorem NU:∀(n:Nat) (l:List Bs),l.length=n→l.length≤1048576→∀(w:World) (v:Value),RG 32 Lib.byteCells w v l→Calls Tryz.prog 95 #[v, .func (.func 96) #[] #[]] w fun e w' =>∃v' m,e = .returned v' ∧OG w.heap.size 54 32 Lib.byteCells w' v' m∧m.Perm l∧Cb m∧Ext w w' :=by
 intro n
 induction n using Nat.strongRecOn with
 | _ n ih=>exact fun l hn hlim w v hr=>ME n (fun l' hl w v hr=>ih l'.length hl l' rfl (by omega) w v hr) l hn hlim w v hr

theorem PP(w:World)(v:Value)(l:List Bs)(hlim:l.length≤1048576)(hr:RG 32 Lib.byteCells w v l):
  Calls Tryz.prog 75 #[v] w fun e w' =>∃v',e = .returned v' ∧OG w.heap.size 54 32 Lib.byteCells w' v' (EX l)∧Ext w w' :=by
 refine gG (args:= [v]) Tryz.func75 rfl 5 rfl rfl ?_
 have hE:=Ext.refl w
 refine gS (Yk.callA2 Hg rfl rfl ((NU _ l rfl hlim _ v hr).mono ?_))
 rintro e g ⟨a,m4,rfl,b,c,ha7,f⟩
 refine⟨_,rfl,?_⟩
 have hms:=IO ha7 c
 subst hms
 refine AX rfl (vr a rfl) ?_
 have hE:=hE.trans f
 exact⟨_,rfl,b,hE⟩
open Go.RowKit
def Ew(l:List Bs):Prop:=l.Pairwise fun a b=>Lib.compareBytes a b<0
theorem Sk{a:Int}(h:a≤0)(h2:a≠0):a<0:=by omega
theorem getD_mem'{l:List Bs}{i:Nat}(hi:i<l.length):l.getD i []∈l:=DR [] hi
theorem Dx{l:List Bs}{i:Nat}(hi:i<l.length):l.getD i []=l[i]:=by rw[List.getD_eq_getElem?_getD,List.getElem?_eq_getElem hi];rfl
theorem Sl{l:List Bs}(h:Cb l){i j:Nat}(hij:i<j)(hj:j<l.length):Lib.compareBytes (l.getD i []) (l.getD j [])≤0:=by
  rw[Dx (by omega),Dx hj]
  exact List.pairwise_iff_getElem.1 h i j (by omega) hj hij
theorem Ry{l:List Bs}(h:Ew l){i j:Nat}(hij:i<j)(hj:j<l.length):Lib.compareBytes (l.getD i []) (l.getD j [])<0:=by
  rw[Dx (by omega),Dx hj]
  exact List.pairwise_iff_getElem.1 h i j (by omega) hj hij
theorem NV{l:List Bs}{i:Nat}{x:Bs}(h:x∈l.take i):∃j,j<i∧j<l.length∧x=l.getD j []:=by
  obtain⟨j,hj,rfl⟩:=List.mem_iff_getElem.1 h
  rw[List.length_take]at hj
  exact⟨j,by omega,by omega,by rw[List.getElem_take,Dx]⟩
theorem EZ{l:List Bs}{i:Nat}{x:Bs}(hi:i<l.length):x∈l.take (i+1)↔x∈l.take i∨x=l.getD i []:=by
  rw[List.take_succ_eq_append_getElem hi,List.mem_append,List.mem_singleton,Dx hi]
section
variable {m o : List Bs} {i : Nat}
theorem Ki(hm:Cb m)(hi:i<m.length)(hS:Ew o)(hmem:∀x,x∈o↔x∈m.take i)(h:o.length=0∨o.getD (o.length-1) []≠m.getD i []):Ew (o++ [m.getD i []]):=by
  refine List.pairwise_append.2 ⟨hS,by simp,fun a ha b hb=> ?_⟩
  rw[List.mem_singleton.1 hb]
  have hle:∀c∈o,Lib.compareBytes c (m.getD i [])≤0:=fun c hc=>by
    obtain⟨j,h1,h2,rfl⟩:=NV ((hmem c).1 hc)
    exact Sl hm h1 hi
  refine Sk (hle a ha) fun e=> ?_
  have e:=G6 e
  obtain⟨k,hk,hka⟩:=List.mem_iff_getElem.1 ha
  rcases h with h | h
  · omega
  · by_cases hkl:k=o.length-1
    · refine h ?_
      rw[Dx (by omega),←e,←hka]
      congr 1
      omega
    · have h1:=Ry hS (i:=k) (j:=o.length-1) (by omega) (by omega)
      rw[Dx hk,hka,e]at h1
      have h2:=hle _ (getD_mem' (l:=o) (i:=o.length-1) (by omega))
      have h3:=EA (m.getD i []) (o.getD (o.length-1) [])
      omega
theorem I5(hi:i<m.length)(hmem:∀x,x∈o↔x∈m.take i):∀x,x∈o++ [m.getD i []]↔x∈m.take (i+1):=fun x=>by
  rw[EZ hi,List.mem_append,List.mem_singleton,hmem]
theorem NW(hi:i<m.length)(hmem:∀x,x∈o↔x∈m.take i)(h0:¬o.length=0)(h:¬o.getD (o.length-1) []≠m.getD i []):∀x,x∈o↔x∈m.take (i+1):=fun x=>by
  rw[EZ hi,←hmem]
  constructor
  · exact .inl
  · rintro(h1 | rfl)
    · exact h1
    · rw[←Classical.not_not.1 h];exact getD_mem' (by omega)
end
open Go.RowKit
theorem getD_memO{α:Type}{l:List α}{i:Nat}(d:α)(h:i<l.length):l.getD i d∈l:=by rw[List.getD_eq_getElem?_getD,List.getElem?_eq_getElem h];exact List.getElem_mem h
theorem CV{α:Type}{enc:α→List Value}{k:Nat}:∀(l:List α) (_:∀x∈l,(enc x).length=k),(l.flatMap enc).length=l.length*k
  | [],_=>by simp
  | a :: l,h=>by rw[List.flatMap_cons,List.length_append,h a (by simp),CV l (fun x hx=>h x (by simp[hx])),List.length_cons,Nat.succ_mul,Nat.add_comm]
theorem Eo{α:Type}{enc:α→List Value}{k:Nat}(d:α):∀(l:List α) (i:Nat) (x:α) (_:∀y∈l,(enc y).length=k) (_:i<l.length),
    l.flatMap enc=(l.take i).flatMap enc++enc (l.getD i d)++(l.drop (i+1)).flatMap enc∧(l.set i x).flatMap enc=(l.take i).flatMap enc++enc x++(l.drop (i+1)).flatMap enc
  | [],_,_,_,h=>by simp at h
  | a :: l,0,x,_,_=>by simp
  | a :: l,i+1,x,h,hi=>by
    obtain⟨h1,h2⟩:=Eo d l i x (fun y hy=>h y (by simp[hy])) (by simpa using hi)
    constructor
    · rw[List.flatMap_cons,h1];simp
    · rw[List.set_cons_succ,List.flatMap_cons,h2];simp
theorem OG.block{α:Type}{b k:Nat}{t:TypeId}{enc:α→List Value}{w:World}{v:Value}{l:List α}(h:OG b t k enc w v l){i:Nat}(hi:i<l.length):∃g,v.ownBlock=some g:=by
  obtain⟨-,-,⟨-,h⟩ | ⟨g,cap,cur,rfl,-⟩⟩:=h
  · omega
  · exact⟨g,rfl⟩
theorem S3{b:Nat}{t:TypeId}{w:World}{v:Value}{n z:Nat}{xs:List Value}(h:w.ownsRow b t z v n xs){i:Nat}(hi:i<n):∃g,v.ownBlock=some g:=by
  obtain⟨-,⟨-,h⟩ | ⟨g,cap,cur,rfl,-⟩⟩:=h
  · omega
  · exact⟨g,rfl⟩
section
variable {P : Program} {K : Value → World → Prop} {ρ : Ai} {w : World} {d : Option Tmp} {ty : TypeId} {pos : String} {af : Array Edge} {gd : Option (Nat × Bool)}
theorem Yk.atOwnK{k:Nat}{t e:TypeId}(ht:P.underlying t=some (.slice e))(he:∀w' :World,(sizeOf e).run P w' = .ok k w'){b n g:Nat}{xs:List Value}{e' :TypeId}{v:Value}{x y:Operand}(hx:Ab ρ x=v)(h:w.ownsRow b e' k v n xs)(hg:v.ownBlock=some g){kd:IntKind}{i:Nat}(hy:Ab ρ y = .int kd (i:Int))(hi:i<n) 
    (hk:K (PQ g (i*k)) w):Yk P K ((execOp (Ab ρ) ⟨d, .indexAddr t x y,ty,pos,af,gd⟩).run P w):=by
  obtain⟨-,⟨-,h0⟩ | ⟨g',cap,cur,rfl,-⟩⟩:=h
  · omega
  · obtain rfl:g' =g:=by simpa [Value.ownBlock] using hg
    refine Yk.value (v:=PQ g' (i*k)) (w' :=w) ?_ hk
    have hE:P.elem t=e:=by simp[Program.elem,ht]
    have hr:=run_indexAt_slice (P:=P) w t ⟨g',0,none⟩ n cap kd (i:Int) (by rw[hE];exact ht)
    rw[if_pos (by omega),hE,he]at hr
    unfold execOp
    simp only[hx,hy,Sem.run_bind,hr,Result.andThen_ok,Sem.run_pure]
    simp[Addr.add_lit]
theorem Yk.storeOG{α:Type}{b k:Nat}{t t' :TypeId}{enc:α→List Value}{v:Value}{l:List α}{g i:Nat}{a:α}{x y:Operand}(dd:α)(hx:Ab ρ x=PQ g (i*k))(hy:Ab ρ y = .agg (enc a).toArray)(h:OG b t k enc w v l)(hg:v.ownBlock=some g)(hi:i<l.length)(hl:(enc a).length=k)(h1:∀u∈enc a,u.oneCell' =true)(hinfo:(P.info? t').map (·.size)=some k) 
    (hk:∀w',OG b t k enc w' v (l.set i a)→Grew w w' v v→K undef w'):Yk P K ((execOp (Ab ρ) ⟨d, .store t' x y,ty,pos,af,gd⟩).run P w):=by
  obtain⟨hen,hxl,⟨-,h0⟩ | ⟨g',cap,cur,rfl,hb,hc,hn,hm,hs,ht⟩⟩:=h
  · omega
  · obtain rfl:g' =g:=by simpa [Value.ownBlock] using hg
    obtain⟨c1,c2⟩:=Eo dd l i a hen hi
    have hpre:=CV (l.take i) (fun y hy=>hen y (List.mem_of_mem_take hy))
    rw[List.length_take,Nat.min_eq_left (Nat.le_of_lt hi)]at hpre
    obtain⟨T,hcur⟩:∃T,cur=((l.take i).flatMap enc++enc (l.getD i dd)++((l.drop (i+1)).flatMap enc++T)).toArray:=by
      refine⟨cur.toList.drop (l.length*k),?_⟩
      apply Array.toList_inj.1
      rw[List.toList_toArray,←List.append_assoc,←c1,←ht,List.take_append_drop]
    rw[hcur]at hc
    refine Yk.storeMid hx hy hc hpre (by rw[hl];exact hen _ (getD_memO dd hi)) (by rw[hl];exact hinfo) h1 fun w' c e f=>hk w' ⟨fun y hy=> ?_,?_, .inr ⟨g',cap,_,by rw[List.length_set],hb,c,by rw[List.length_set];exact hn,hm,?_,?_⟩⟩ ⟨e,fun k hk=> .inl hk⟩
    · rcases List.mem_or_eq_of_mem_set hy with hy | rfl
      · exact hen y hy
      · exact hl
    · rw[CV _ (fun y hy=>by rcases List.mem_or_eq_of_mem_set hy with hy | rfl;exact hen y hy;exact hl)]
    · rw[←hs,hcur]
      simp only[List.size_toArray,List.length_append,hl,hen _ (getD_memO dd hi)]
    · have hlen:((l.set i a).flatMap enc).length=(l.set i a).length*k:=CV _ (fun y hy=>by rcases List.mem_or_eq_of_mem_set hy with hy | rfl;exact hen y hy;exact hl)
      rw[List.toList_toArray,←List.append_assoc,←c2,←hlen,List.take_left]
end
open Go.RowKit
set_option maxRecDepth 100000
set_option linter.unusedVariables false
set_option linter.unusedSimpArgs false
theorem NX:Plain Tryz.prog 75:=fun _ _=>by kernel_rfl
theorem I6:∀(cs:Array Value),cs.size=32→∀w:World,(Instr.buildSlice 43 1 #[(0, .agg cs)]).run Tryz.prog w = .ok (.slice (some ⟨w.heap.size,0,none⟩) 1 1) (w.alloc (.cells cs 54))
 | ⟨[c0,c1,c2,c3,c4,c5,c6,c7,c8,c9,c10,c11,c12,c13,c14,c15,c16,c17,c18,c19,c20,c21,c22,c23,c24,c25,c26,c27,c28,c29,c30,c31]⟩,_,w=>PO c0 c1 c2 c3 c4 c5 c6 c7 c8 c9 c10 c11 c12 c13 c14 c15 c16 c17 c18 c19 c20 c21 c22 c23 c24 c25 c26 c27 c28 c29 c30 c31 w
set_option maxHeartbeats 1600000
theorem LI(w:World)(v:Value)(l:List Bs)(hr:RG 32 Lib.byteCells w v l)(hl:l.length≤100000):
  Calls Tryz.prog 37 #[v] w fun e w' =>∃v' o,e = .returned v' ∧OG w.heap.size 54 32 Lib.byteCells w' v' o∧Ew o∧(∀x,x∈o↔x∈l)∧o.length≤l.length∧Ext w w' :=by
 refine gG (args:= [v]) Tryz.func37 rfl 32 rfl rfl ?_
 have hE:=Ext.refl w
 refine gS (Yk.callA1 NX rfl ((PP _ v l (by omega) hr).mono ?_))
 rintro e j ⟨v5,rfl,k,av⟩
 refine⟨_,rfl,?_⟩
 have k:=RG.ofOwn k
 obtain⟨m,hm⟩:∃m,m=EX l:=⟨_,rfl⟩
 rw[←hm]at k
 have hml:m.length=l.length:=by rw[hm,Nh]
 have hma:Cb m:=by rw[hm];exact EY l
 have hmm:∀x,x∈m↔x∈l:=fun x=>by rw[hm];exact(DB l).mem_iff
 refine gS (Yk.lenRG Bc (RG.of k rfl) ?_)
 have c:=Ext.refl j
 have hE:=hE.trans av
 have u:=hE.size
 have hrow0:OG j.heap.size 54 32 Lib.byteCells j (Value.slice none 0 0) ([]:List Bs):=OG.nil _ _ _ _ _
 refine gL (fun(ρ:Ai) (wz:World)=>∃i:Nat,∃o:List Bs,∃vo:Value,ρ 0=(v:Value)∧ρ 2=((Value.slice none 0 0):Value)∧ρ 7=(v5:Value)∧ρ 8=(NI m.length:Value)∧ρ 9=(NI i:Value)∧ρ 3=(vo:Value)∧Ext w wz∧Ext j wz∧OG j.heap.size 54 32 (Lib.byteCells) wz vo (o)∧(i≤m.length)∧(Ew o)∧(∀x,x∈o↔x∈m.take i)∧(o.length≤i)∧True) (fun ρ _=>m.length-(intOf (ρ 9)).toNat) ⟨0,[],(Value.slice none 0 0),rfl,rfl,rfl,rfl,rfl,rfl,hE,c,Bk hrow0 (rfl),Nat.zero_le _,List.Pairwise.nil,(fun x=>by simp),Nat.le_refl _,trivial⟩ ?_
 clear hrow0
 clear hE c
 rintro y a8 ⟨i,o,vo,z,T2,s,t,n,g,hE,c,hr_vo,hi,hS,hmem,hol,-⟩
 have q9:=n
 refine gS (Yk.eqI (a:=(i:Nat)) (b:=(m.length:Nat)) n t (AO _ _ _ _) ?_)
 refine cD rfl (fun aj=> ?_) fun aj=> ?_
 ·have hlt:i<m.length:=aj
  have h:(Lib.byteCells (m.getD (i) ([]:List UInt8))).length=32:=(RG.elem (k.keep c) ([]:List UInt8) (by omega))
  refine gS (Yk.atRG Bc C4 (by decide) ([]:List UInt8) (RG.of (k.keep c) s) n (by omega) fun a9 ak=>(gS (Yk.loadPR (PR.of ak rfl) IU rfl (by rw[h];exact R5) (gS (Yk.alloc (cs:=(Lib.byteCells (List.replicate 32 0)).toArray) IX fun ab aw ba al ac bb=> ?_)))))
  have ax:=hE.size
  have ay:=c.size
  have ad:OB vo ab:=By hr_vo.2 (by omega)
  have f:=al;clear al
  have bc:ab<aw.heap.size:=by omega
  refine gS (Yk.storeAll (vr (PQ ab 0) rfl) (vr (AB (m.getD (i) ([]:List UInt8))) rfl) f (by exact Bg (Bf (h)) List.length_replicate) (by exact Ae (Bf (h))) (Ah _) fun bd am ae be=> ?_)
  have hE:=hE.trans ac
  have hE:=Aa hE ae (Nat.le_trans ax (by omega))
  have c:=c.trans ac
  have c:=Aa c ae (Nat.le_trans ay (by omega))
  have hr_vo:=hr_vo.keep ac
  have hr_vo:=OG.kept hr_vo ae ad
  clear f
  have f:=am;clear am
  have bf:=bl f
  clear ak
  have hxl:(m.getD i []).length=32:=Bf ((k.keep c).1 _ (DR [] hlt))
  by_cases h0:o.length=0
  ·refine B5 [0,1,2,3,4,5,6,7,8,9,10,11,12] [] [] fun bg af=> ?_
   have hr_vo:=hr_vo.keep af
   have f:=eb af f
   refine ys (Yk.lenRG Bc (RG.of (RG.ofOwn hr_vo) g) zz) (ys (Yk.eqI (a:=(o.length:Nat)) (b:=(0:Nat)) rfl rfl (AY _ _ _ _) zz) (kT (h0) (ys (Yk.pickT rfl rfl zz) (cT rfl (gS (Yk.loadAll rfl f IU rfl (by exact Ae (Bf (h))) (gS (Yk.lit1G (a:=(m.getD (i) ([]:List UInt8))) (enc:=Lib.byteCells) (vr (AB (m.getD (i) ([]:List UInt8))) rfl) (by rw[Lib.byteCells_length];exact(Bf (h))) I6 fun az a0 an ag=> ?_))))))))
   have hZ1:=af.trans ag
   have c:=c.trans hZ1
   have hr_vo:=hr_vo.keep ag
   refine gS (Yk.appendRG _ _ j.heap.size _ 32 Bc pk6_ig54.choose_spec.1 pk6_ig54.choose_spec.2 Bc (o) ([(m.getD (i) ([]:List UInt8))]) (OG.of hr_vo g) (RG.of an (vr az rfl)) (fun _ _=>Ah _) (by simp only[List.length_cons,List.length_nil];omega) (by simp only[List.length_cons,List.length_nil];omega) c.size fun ao a1 a2 p=> ?_)
   have p:Grew a0 a1 vo ao:= .eqv g p
   have hE:=hE.trans hZ1
   have hE:=Ag hE p hr_vo.2 u
   have c:=Ag c p hr_vo.2 (Nat.le_refl _)
   have f:=eb ag f
   have f:=Am f p ad
   clear an
   clear hr_vo
   have hq:o.length=0∨o.getD (o.length-1) []≠m.getD i []:= .inl h0
   refine gS (Yk.bin (xv:=NI i) (yv:=NI 1) n rfl rfl (Ap _ _ _ (by omega)) (gK (And.intro ⟨i+1,o++ [m.getD i []],ao,z,T2,s,t,rfl,rfl,hE,c,Bk a2 (rfl),by omega,Ki hma hlt hS hmem hq,I5 hlt hmem,(by simp only[List.length_append,List.length_cons,List.length_nil];omega),trivial⟩ ?_)))
   show m.length-(intOf (NI ((i)+(1)))).toNat<m.length-(intOf (y 9)).toNat
   rw[q9]
   simp only[intOf,Int.toNat_natCast];omega
  have hyl:(o.getD (o.length-1) []).length=32:=Bf (hr_vo.1 _ (DR [] (by omega)))
  refine B5 [0,1,2,3,4,5,6,7,8,9,10,11,12] [] [] fun bh q=> ?_
  have hr_vo:=hr_vo.keep q
  refine ys (Yk.lenRG Bc (RG.of (RG.ofOwn hr_vo) g) zz) (ys (Yk.eqI (a:=(o.length:Nat)) (b:=(0:Nat)) rfl rfl (AY _ _ _ _) zz) (kF (h0) (ys (Yk.lenRG Bc (RG.of (RG.ofOwn hr_vo) g) zz) (ys (Yk.bin (xv:=NI o.length) (yv:=NI 1) rfl rfl rfl (BL _ _ _ (by omega) (by omega)) zz) ?_))))
  have a3:(Lib.byteCells (o.getD ((o.length)-(1)) ([]:List UInt8))).length=32:=(RG.elem (RG.ofOwn hr_vo) ([]:List UInt8) (by omega))
  have f:=eb q f
  refine yA (Yk.atRG Bc C4 (by decide) ([]:List UInt8) (RG.of (RG.ofOwn hr_vo) g) rfl (by omega) fun bi ap=>(ys (Yk.loadPR (PR.of ap rfl) IU rfl (by rw[a3];exact R5) zz) (ys (Yk.loadAll rfl f IU rfl (by exact Ae (Bf (h))) zz) (ys (Yk.neArr (l1:=(o.getD ((o.length)-(1)) ([]:List UInt8))) (l2:=(m.getD (i) ([]:List UInt8))) IU Ds Fy PJ rfl rfl (hyl) (hxl) zz) (ys (Yk.pickF rfl rfl zz) ?_)))))
  clear ap
  refine cD rfl (fun ah=> ?_) fun ah=> ?_
  ·have hq:o.length=0∨o.getD (o.length-1) []≠m.getD i []:= .inr ah
   refine gS (Yk.loadAll rfl f IU rfl (by exact Ae (Bf (h))) (gS (Yk.lit1G (a:=(m.getD (i) ([]:List UInt8))) (enc:=Lib.byteCells) (vr (AB (m.getD (i) ([]:List UInt8))) rfl) (by rw[Lib.byteCells_length];exact(Bf (h))) I6 fun a4 a5 aq ai=> ?_)))
   have hZ2:=q.trans ai
   have c:=c.trans hZ2
   have hr_vo:=hr_vo.keep ai
   refine gS (Yk.appendRG _ _ j.heap.size _ 32 Bc pk6_ig54.choose_spec.1 pk6_ig54.choose_spec.2 Bc (o) ([(m.getD (i) ([]:List UInt8))]) (OG.of hr_vo g) (RG.of aq (vr a4 rfl)) (fun _ _=>Ah _) (by simp only[List.length_cons,List.length_nil];omega) (by simp only[List.length_cons,List.length_nil];omega) c.size fun ar a6 a7 r=> ?_)
   have r:Grew a5 a6 vo ar:= .eqv g r
   have hE:=hE.trans hZ2
   have hE:=Ag hE r hr_vo.2 u
   have c:=Ag c r hr_vo.2 (Nat.le_refl _)
   have f:=eb ai f
   have f:=Am f r ad
   clear aq
   clear hr_vo
   refine gS (Yk.bin (xv:=NI i) (yv:=NI 1) n rfl rfl (Ap _ _ _ (by omega)) (gK (And.intro ⟨i+1,o++ [m.getD i []],ar,z,T2,s,t,rfl,rfl,hE,c,Bk a7 (rfl),by omega,Ki hma hlt hS hmem hq,I5 hlt hmem,(by simp only[List.length_append,List.length_cons,List.length_nil];omega),trivial⟩ ?_)))
   show m.length-(intOf (NI ((i)+(1)))).toNat<m.length-(intOf (y 9)).toNat
   rw[q9]
   simp only[intOf,Int.toNat_natCast];omega
  have hq:¬o.getD (o.length-1) []≠m.getD i []:=ah
  have hE:=hE.trans q
  have c:=c.trans q
  refine gS (Yk.bin (xv:=NI i) (yv:=NI 1) n rfl rfl (Ap _ _ _ (by omega)) (gK (And.intro ⟨i+1,o,vo,z,T2,s,t,rfl,g,hE,c,Bk hr_vo (rfl),by omega,hS,NW hlt hmem h0 hq,by omega,trivial⟩ ?_)))
  show m.length-(intOf (NI ((i)+(1)))).toNat<m.length-(intOf (y 9)).toNat
  rw[q9]
  simp only[intOf,Int.toNat_natCast];omega
 refine AX rfl g ?_
 rw[show i=m.length by omega,List.take_length]at hmem
 exact⟨_,o,rfl,OG.low hr_vo (by have:=u;omega),hS,fun x=>(hmem x).trans (hmm x),by omega,hE⟩
open Go.RowKit
set_option maxRecDepth 100000
set_option linter.unusedVariables false
set_option linter.unusedSimpArgs false
theorem Sm(p s:List UInt8):(AP p s).1.length≤s.length:=by
 unfold AP
 split
 ·show(s.drop p.length).length≤_;rw[List.length_drop];omega
 ·exact Nat.le_refl _
section
variable {D : An} {s : List UInt8}
theorem Rz(h:(AP [111,45] s).2=false):(BK D s).isSome=false:=by unfold BK;rw[if_neg (fun q=>by rw[h]at q;cases q.1)];rfl
theorem MF(h:(AQ (AP [111,45] s).1).2=false):(BK D s).isSome=false:=by unfold BK;rw[if_neg (fun q=>by rw[h]at q;cases q.2.1)];rfl
theorem PS(h:(AP [111,45] s).2=true)(h2:(AQ (AP [111,45] s).1).2=true):(BK D s).isSome=decide ((A8 D (AQ (AP [111,45] s).1).1).2=0):=by
 unfold BK
 by_cases q:(A8 D (AQ (AP [111,45] s).1).1).2=0
 ·rw[if_pos ⟨h,h2,q⟩,decide_eq_true q];rfl
 ·rw[if_neg (fun x=>q x.2.2),decide_eq_false q];rfl
theorem NY(h:(BK D s).isSome=true):BK D s=some (AQ (AP [111,45] s).1).1:=by
 unfold BK at h ⊢
 split
 ·rfl
 ·rename_i q;rw[if_neg q]at h;cases h
theorem LJ{l:List (List UInt8)}{i:Nat}{x:List UInt8}(h:i<l.length)(hx:BK D (l.getD i [])=some x):(l.take i).filterMap (BK D)++ [x]=(l.take (i+1)).filterMap (BK D):=by
 rw[List.take_succ_eq_append_getElem h,List.filterMap_append]
 rw[List.getD_eq_getElem?_getD,List.getElem?_eq_getElem h,Option.getD_some]at hx
 rw[List.filterMap_cons_some hx]
 rfl
theorem Gm{l:List (List UInt8)}{i:Nat}(h:i<l.length)(hx:BK D (l.getD i [])=none):(l.take i).filterMap (BK D)=(l.take (i+1)).filterMap (BK D):=by
 rw[List.take_succ_eq_append_getElem h,List.filterMap_append]
 rw[List.getD_eq_getElem?_getD,List.getElem?_eq_getElem h,Option.getD_some]at hx
 rw[List.filterMap_cons_none hx]
 simp
theorem I7(h:DOk D){i:Nat}(hi:i<(As D).length):((As D).getD i []).length≤80:=by
 unfold As at hi ⊢
 split
 ·rename_i q;rw[if_pos q]at hi;cases hi
 ·rename_i q
  rw[if_neg q,List.length_map]at hi
  rw[List.getD_eq_getElem?_getD,List.getElem?_map,List.getElem?_eq_getElem hi]
  exact(B0 (h.now.may _ (List.getElem_mem hi))).2
theorem IA(h:(As D).length≤100000):(E7 D).length≤100000:=Nat.le_trans (List.length_filterMap_le _ _) h
end
theorem PT:Plain Tryz.prog 35:=fun _ _=>by kernel_rfl
theorem PU:Plain Tryz.prog 36:=fun _ _=>by kernel_rfl
theorem PV:Plain Tryz.prog 21:=fun _ _=>by kernel_rfl
theorem RA:Plain Tryz.prog 9:=fun _ _=>by kernel_rfl
theorem PW:Plain Tryz.prog 34:=fun _ _=>by kernel_rfl
theorem PX:∀(cs:Array Value),cs.size=32→∀w:World,(Instr.buildSlice 43 1 #[(0, .agg cs)]).run Tryz.prog w = .ok (.slice (some ⟨w.heap.size,0,none⟩) 1 1) (w.alloc (.cells cs 54))
 | ⟨[c0,c1,c2,c3,c4,c5,c6,c7,c8,c9,c10,c11,c12,c13,c14,c15,c16,c17,c18,c19,c20,c21,c22,c23,c24,c25,c26,c27,c28,c29,c30,c31]⟩,_,w=>PO c0 c1 c2 c3 c4 c5 c6 c7 c8 c9 c10 c11 c12 c13 c14 c15 c16 c17 c18 c19 c20 c21 c22 c23 c24 c25 c26 c27 c28 c29 c30 c31 w
theorem PY:Plain Tryz.prog 37:=fun _ _=>by kernel_rfl
set_option maxHeartbeats 1600000
theorem NZ(wb w:World)(g:Nat)(H:Dk)(D:An)(hD:DkG wb w g H D)(hG:Laid wb)(hL:Co D)(s:List UInt8)(hs:s.length≤9223372036854775807)(bd:Nat)(hbd:w.heap[bd]? =some (.cells ([PQ g 0]).toArray 24 (0,0))):
  Calls Tryz.prog 34 #[St s,PQ bd 0] w fun e w' =>e = .returned (.tuple #[AB ((AQ (AP [111,45] s).1).1), .bool (BK D s).isSome])∧Ext w w' :=by
 refine gG (args:= [St (s),PQ bd 0]) Tryz.func34 rfl 29 rfl rfl ?_
 have hE:=Ext.refl w
 refine gS (Yk.alloc (cs:=(Lib.byteCells (List.replicate 32 0)).toArray) IX fun q w3 az ae a0 ba=> ?_)
 have bb:=AE (bl hbd) az
 have a:=ae;clear ae
 have bc:q<w3.heap.size:=by omega
 refine gS (Yk.callA2 PT rfl rfl ((Jv _ s [111,45] hs).mono ?_))
 rintro e be ⟨rfl,af⟩
 refine⟨_,rfl,?_⟩
 refine gS (Yk.extract (vs:= [St ((AP [111,45] s).1), .bool ((AP [111,45] s).2)]) rfl rfl (gS (Yk.extract (vs:= [St ((AP [111,45] s).1), .bool ((AP [111,45] s).2)]) rfl rfl (gS (Yk.callA1 PU rfl ((NS _ (AP [111,45] s).1 (Nat.le_trans (Sm _ _) hs)).mono ?_))))))
 rintro e bf ⟨rfl,ag⟩
 refine⟨_,rfl,?_⟩
 refine gS (Yk.extract (vs:= [AB ((AQ (AP [111,45] s).1).1), .bool ((AQ (AP [111,45] s).1).2)]) rfl rfl (gS (Yk.extract (vs:= [AB ((AQ (AP [111,45] s).1).1), .bool ((AQ (AP [111,45] s).1).2)]) rfl rfl (gS (Yk.alloc (cs:=(Lib.byteCells (List.replicate 32 0)).toArray) IX fun c a1 ah ai v bg=> ?_)))))
 have hZ1:=(a0.trans af).trans ag
 have hE:=hE.trans hZ1
 have a2:=hE.size
 have hbd:=eb hZ1 hbd
 have bh:=AE (bl hbd) ah
 have a:=eb (af.trans ag) a
 have bi:=AE (bl a) ah
 have b:=ai;clear ai
 have bj:c<a1.heap.size:=by omega
 refine gS (Yk.storeAll (vr (PQ c 0) rfl) (vr (AB ((AQ (AP [111,45] s).1).1)) rfl) b (by exact Bg (Bb _) List.length_replicate) (by exact Ae (Bb _)) (Ah _) fun bk aj y bm=> ?_)
 have hbd:=eb v hbd
 have hbd:=kb y hbd (by omega)
 have hE:=hE.trans v
 have hE:=Aa hE y (Nat.le_trans a2 (by omega))
 have a:=eb v a
 have a:=kb y a (by omega)
 clear b
 have b:=aj;clear aj
 have bn:=bl b
 rcases Bool.eq_false_or_eq_true (AP [111,45] s).2 with hc | hc
 ·rcases Bool.eq_false_or_eq_true (AQ (AP [111,45] s).1).2 with hu | hu
  ·refine gR ?_
   refine Ei 9 10 [Is (AB ((AQ (AP [111,45] s).1).1)),Is (.bool (true)),Is (.bool (true)),Is (.bool (true)),Is (.bool (true)),Is (.bool (true)),Is (PQ g 0),Is (AB ((AQ (AP [111,45] s).1).1)),Is (.bool (decide ((A8 D (AQ (AP [111,45] s).1).1).2=0))),Is (.bool (decide ((A8 D (AQ (AP [111,45] s).1).1).2=0)))] (by kernel_rfl) [19,20,21,22,23,24,25,26,27,28,4] (by kernel_rfl) rfl (by kernel_rfl) (by kernel_rfl) (by kernel_rfl) (by kernel_rfl) (by kernel_rfl) (by kernel_rfl) rfl rfl (OQ trivial) (fun _ _ _ _ h=>h) ?a3 ?hQ1003
   case a3=>
    refine⟨?_,?_,?_,?_,?_,?_,?_,?_,?_,?_,?_,?_,trivial⟩
    ·refine BA (AC rfl fun σ w1 hC h=> ?_)
     have i:σ 7=PQ c 0:=(AR (h 7 (by decide))).trans rfl
     exact Yk.loadAll i (eb hC b) IU rfl (by exact Ae (Bb _)) ⟨Ext.refl _,rfl⟩
    ·refine BA (AC rfl fun σ w1 hC h=> ?_)
     have j:σ 6 = .bool (true):=(AR (h 6 (by decide))).trans ((show _=Value.bool (AP [111,45] s).2 from rfl).trans (congrArg Value.bool hc))
     exact Yk.move j ⟨Ext.refl _,rfl⟩
    ·refine BA (AC rfl fun σ w1 hC h=> ?_)
     have k:=AR (h 20 (by decide))
     exact Yk.move k ⟨Ext.refl _,rfl⟩
    ·refine BA (Cq 2 true 21 rfl rfl (fun _ _ h=>h) fun σ w1 hC h=> ?_)
     have z:σ 8 = .bool (true):=(AR (h 8 (by decide))).trans ((show _=Value.bool (AQ (AP [111,45] s).1).2 from rfl).trans (congrArg Value.bool hu))
     exact Yk.move z ⟨Ext.refl _,rfl⟩
    ·refine BA (AC rfl fun σ w1 hC h=> ?_)
     have l:=AR (h 21 (by decide))
     have aa:=AR (h 22 (by decide))
     exact Yk.pickT l aa ⟨Ext.refl _,rfl⟩
    ·refine BA (AC rfl fun σ w1 hC h=> ?_)
     have m:=AR (h 23 (by decide))
     exact Yk.move m ⟨Ext.refl _,rfl⟩
    ·refine BA (Cq 5 true 24 rfl rfl (fun _ _ h=>h) fun σ w1 hC h=> ?_)
     have e1:σ 1=PQ bd 0:=(AR (h 1 (by decide))).trans rfl
     exact Yk.cell1 JU rfl e1 (cellAt (eb hC hbd) (show _=some (PQ g 0:Value)from rfl)) ⟨Ext.refl _,rfl⟩
    ·refine BA (Cq 5 true 24 rfl rfl (fun _ _ h=>h) fun σ w1 hC h=> ?_)
     have i:σ 7=PQ c 0:=(AR (h 7 (by decide))).trans rfl
     exact Yk.loadAll i (eb hC b) IU rfl (by exact Ae (Bb _)) ⟨Ext.refl _,rfl⟩
    ·refine BA (Cq 5 true 24 rfl rfl (fun _ _ h=>h) fun σ w1 hC h=> ?_)
     have a5:=AR (h 25 (by decide))
     have a6:=AR (h 26 (by decide))
     refine Yk.callA2 PV a5 a6 ((LG wb _ g H D (hD.keep (hE.trans hC)) hG hL (AQ (AP [111,45] s).1).1 (Bb _)).mono ?_)
     rintro e w2 ⟨rfl,hx⟩
     exact⟨_,rfl,hx,rfl⟩
    ·refine BA (AC rfl fun σ w1 hC h=> ?_)
     have n:=AR (h 24 (by decide))
     have a7:=AR (h 27 (by decide))
     exact Yk.pickT n a7 ⟨Ext.refl _,rfl⟩
    ·exact trivial
    ·exact trivial
   intro ak bp r he hf
   obtain⟨k19,-,-,-,-,-,-,-,-,k28,-⟩:=hf
   obtain⟨T0,T1,f,T5,T6,T7,T8,-⟩:=he.hold [(0,St (s)),(1,PQ bd 0),(3,PQ q 0),(5,St ((AP [111,45] s).1)),(6,_),(7,PQ c 0),(8,_)] ⟨rfl,rfl,rfl,rfl,((show _=Value.bool (AP [111,45] s).2 from rfl).trans (congrArg Value.bool hc)),rfl,((show _=Value.bool (AQ (AP [111,45] s).1).2 from rfl).trans (congrArg Value.bool hu)),trivial⟩ rfl
   clear he
   have o:ak 19=AB ((AQ (AP [111,45] s).1).1):=k19
   have p:ak 28 = .bool (decide ((A8 D (AQ (AP [111,45] s).1).1).2=0)):=k28
   clear k19 k28
   have a:=eb r a
   refine gZ (gS (Yk.storeAll f o a (by exact Bg (Bb _) List.length_replicate) (by exact Ae (Bb _)) (Ah _) fun bq ar ab br=> ?_))
   have hbd:=eb r hbd
   have hbd:=kb ab hbd (by omega)
   have hE:=hE.trans r
   have hE:=Aa hE ab (Nat.le_trans (Nat.le_refl _) (by omega))
   have b:=eb r b
   have b:=kb ab b (by omega)
   clear a
   have a:=ar;clear ar
   have bs:=bl a
   refine B2 rfl (ResF.row f a IU rfl (by exact Ae (Bb _))) p ?_
   exact⟨by rw[PS hc hu],hE⟩
  refine gR ?_
  refine Ei 9 10 [Is (AB ((AQ (AP [111,45] s).1).1)),Is (.bool (true)),Is (.bool (true)),Is (.bool (false)),Is (.bool (false)),Is (.bool (false)),Is undef,Is undef,Is undef,Is (.bool (false))] (by kernel_rfl) [19,20,21,22,23,24,25,26,27,28,4] (by kernel_rfl) rfl (by kernel_rfl) (by kernel_rfl) (by kernel_rfl) (by kernel_rfl) (by kernel_rfl) (by kernel_rfl) rfl rfl (OQ trivial) (fun _ _ _ _ h=>h) ?a8 ?hQ2003
  case a8=>
   refine⟨?_,?_,?_,?_,?_,?_,?_,?_,?_,?_,?_,?_,trivial⟩
   ·refine BA (AC rfl fun σ w1 hC h=> ?_)
    have i:σ 7=PQ c 0:=(AR (h 7 (by decide))).trans rfl
    exact Yk.loadAll i (eb hC b) IU rfl (by exact Ae (Bb _)) ⟨Ext.refl _,rfl⟩
   ·refine BA (AC rfl fun σ w1 hC h=> ?_)
    have j:σ 6 = .bool (true):=(AR (h 6 (by decide))).trans ((show _=Value.bool (AP [111,45] s).2 from rfl).trans (congrArg Value.bool hc))
    exact Yk.move j ⟨Ext.refl _,rfl⟩
   ·refine BA (AC rfl fun σ w1 hC h=> ?_)
    have k:=AR (h 20 (by decide))
    exact Yk.move k ⟨Ext.refl _,rfl⟩
   ·refine BA (Cq 2 true 21 rfl rfl (fun _ _ h=>h) fun σ w1 hC h=> ?_)
    have z:σ 8 = .bool (false):=(AR (h 8 (by decide))).trans ((show _=Value.bool (AQ (AP [111,45] s).1).2 from rfl).trans (congrArg Value.bool hu))
    exact Yk.move z ⟨Ext.refl _,rfl⟩
   ·refine BA (AC rfl fun σ w1 hC h=> ?_)
    have l:=AR (h 21 (by decide))
    have aa:=AR (h 22 (by decide))
    exact Yk.pickT l aa ⟨Ext.refl _,rfl⟩
   ·refine BA (AC rfl fun σ w1 hC h=> ?_)
    have m:=AR (h 23 (by decide))
    exact Yk.move m ⟨Ext.refl _,rfl⟩
   ·refine BA (Fm 5 true 24 rfl rfl (fun x _ (h:x = .bool false)=>by rw[h];intro h;cases h) fun _=>rfl)
   ·refine BA (Fm 5 true 24 rfl rfl (fun x _ (h:x = .bool false)=>by rw[h];intro h;cases h) fun _=>rfl)
   ·refine BA (Fm 5 true 24 rfl rfl (fun x _ (h:x = .bool false)=>by rw[h];intro h;cases h) fun _=>rfl)
   ·refine BA (AC rfl fun σ w1 hC h=> ?_)
    have n:=AR (h 24 (by decide))
    exact Yk.pickF n (vr (.bool (false)) rfl) ⟨Ext.refl _,rfl⟩
   ·exact trivial
   ·exact trivial
  intro au bt t he hf
  obtain⟨k19,-,-,-,-,-,-,-,-,k28,-⟩:=hf
  obtain⟨T0,T1,f,T5,T6,T7,T8,-⟩:=he.hold [(0,St (s)),(1,PQ bd 0),(3,PQ q 0),(5,St ((AP [111,45] s).1)),(6,_),(7,PQ c 0),(8,_)] ⟨rfl,rfl,rfl,rfl,((show _=Value.bool (AP [111,45] s).2 from rfl).trans (congrArg Value.bool hc)),rfl,((show _=Value.bool (AQ (AP [111,45] s).1).2 from rfl).trans (congrArg Value.bool hu)),trivial⟩ rfl
  clear he
  have o:au 19=AB ((AQ (AP [111,45] s).1).1):=k19
  have p:au 28 = .bool (false):=k28
  clear k19 k28
  have a:=eb t a
  refine gZ (gS (Yk.storeAll f o a (by exact Bg (Bb _) List.length_replicate) (by exact Ae (Bb _)) (Ah _) fun bu av ac bv=> ?_))
  have hbd:=eb t hbd
  have hbd:=kb ac hbd (by omega)
  have hE:=hE.trans t
  have hE:=Aa hE ac (Nat.le_trans (Nat.le_refl _) (by omega))
  have b:=eb t b
  have b:=kb ac b (by omega)
  clear a
  have a:=av;clear av
  have bw:=bl a
  refine B2 rfl (ResF.row f a IU rfl (by exact Ae (Bb _))) p ?_
  exact⟨by rw[MF hu],hE⟩
 refine gR ?_
 refine Ei 9 10 [Is (AB ((AQ (AP [111,45] s).1).1)),Is (.bool (false)),Is (.bool (false)),Is undef,Is (.bool (false)),Is (.bool (false)),Is undef,Is undef,Is undef,Is (.bool (false))] (by kernel_rfl) [19,20,21,22,23,24,25,26,27,28,4] (by kernel_rfl) rfl (by kernel_rfl) (by kernel_rfl) (by kernel_rfl) (by kernel_rfl) (by kernel_rfl) (by kernel_rfl) rfl rfl (OQ trivial) (fun _ _ _ _ h=>h) ?a9 ?hQ3003
 case a9=>
  refine⟨?_,?_,?_,?_,?_,?_,?_,?_,?_,?_,?_,?_,trivial⟩
  ·refine BA (AC rfl fun σ w1 hC h=> ?_)
   have i:σ 7=PQ c 0:=(AR (h 7 (by decide))).trans rfl
   exact Yk.loadAll i (eb hC b) IU rfl (by exact Ae (Bb _)) ⟨Ext.refl _,rfl⟩
  ·refine BA (AC rfl fun σ w1 hC h=> ?_)
   have j:σ 6 = .bool (false):=(AR (h 6 (by decide))).trans ((show _=Value.bool (AP [111,45] s).2 from rfl).trans (congrArg Value.bool hc))
   exact Yk.move j ⟨Ext.refl _,rfl⟩
  ·refine BA (AC rfl fun σ w1 hC h=> ?_)
   have k:=AR (h 20 (by decide))
   exact Yk.move k ⟨Ext.refl _,rfl⟩
  ·refine BA (Fm 2 true 21 rfl rfl (fun x _ (h:x = .bool false)=>by rw[h];intro h;cases h) fun _=>rfl)
  ·refine BA (AC rfl fun σ w1 hC h=> ?_)
   have l:=AR (h 21 (by decide))
   exact Yk.pickF l (vr (.bool (false)) rfl) ⟨Ext.refl _,rfl⟩
  ·refine BA (AC rfl fun σ w1 hC h=> ?_)
   have m:=AR (h 23 (by decide))
   exact Yk.move m ⟨Ext.refl _,rfl⟩
  ·refine BA (Fm 5 true 24 rfl rfl (fun x _ (h:x = .bool false)=>by rw[h];intro h;cases h) fun _=>rfl)
  ·refine BA (Fm 5 true 24 rfl rfl (fun x _ (h:x = .bool false)=>by rw[h];intro h;cases h) fun _=>rfl)
  ·refine BA (Fm 5 true 24 rfl rfl (fun x _ (h:x = .bool false)=>by rw[h];intro h;cases h) fun _=>rfl)
  ·refine BA (AC rfl fun σ w1 hC h=> ?_)
   have n:=AR (h 24 (by decide))
   exact Yk.pickF n (vr (.bool (false)) rfl) ⟨Ext.refl _,rfl⟩
  ·exact trivial
  ·exact trivial
 intro aw bx u he hf
 obtain⟨k19,-,-,-,-,-,-,-,-,k28,-⟩:=hf
 obtain⟨T0,T1,f,T5,T6,T7,T8,-⟩:=he.hold [(0,St (s)),(1,PQ bd 0),(3,PQ q 0),(5,St ((AP [111,45] s).1)),(6,_),(7,PQ c 0),(8, .bool ((AQ (AP [111,45] s).1).2))] ⟨rfl,rfl,rfl,rfl,((show _=Value.bool (AP [111,45] s).2 from rfl).trans (congrArg Value.bool hc)),rfl,rfl,trivial⟩ rfl
 clear he
 have o:aw 19=AB ((AQ (AP [111,45] s).1).1):=k19
 have p:aw 28 = .bool (false):=k28
 clear k19 k28
 have a:=eb u a
 refine gZ (gS (Yk.storeAll f o a (by exact Bg (Bb _) List.length_replicate) (by exact Ae (Bb _)) (Ah _) fun bz ax ad b0=> ?_))
 have hbd:=eb u hbd
 have hbd:=kb ad hbd (by omega)
 have hE:=hE.trans u
 have hE:=Aa hE ad (Nat.le_trans (Nat.le_refl _) (by omega))
 have b:=eb u b
 have b:=kb ad b (by omega)
 clear a
 have a:=ax;clear ax
 have b1:=bl a
 refine B2 rfl (ResF.row f a IU rfl (by exact Ae (Bb _))) p ?_
 exact⟨by rw[Rz hc],hE⟩

theorem Kj(wb w:World)(g:Nat)(H:Dk)(D:An)(hD:DkG wb w g H D)(hG:Laid wb)(hL:Co D)(hnm:(As D).length≤100000):
  Calls Tryz.prog 12 #[PQ g 0] w fun e w' =>∃v o,e = .returned v∧OG w.heap.size 54 32 (Lib.byteCells) w' v o∧Ew o∧(∀x,x∈o↔x∈E7 D)∧o.length≤(E7 D).length∧Ext w w' :=by
 refine gG (args:= [PQ g 0]) Tryz.func12 rfl 31 rfl rfl ?_
 have hE:=Ext.refl w
 refine gS (Yk.box1 (vr (PQ g 0) rfl) rfl fun j w3 be ah aw bf=> ?_)
 have c:=ah;clear ah
 have bg:j<w3.heap.size:=by omega
 refine gS (Yk.mkFunc (vs:= #[PQ j 0]) (by simp only[List.map_toArray,List.map_cons,List.map_nil];exact congrArg List.toArray (HC (vr (PQ j 0) rfl))) (gS (Yk.cell1 JU rfl rfl (cellAt c rfl) ?_)))
 have hE:=hE.trans aw
 have bh:=hE.size
 refine gS (Yk.callA1 RA rfl (((hD.keep hE).list hL).mono ?_))
 rintro e m ⟨ax,rfl,ay,ai⟩
 refine⟨_,rfl,?_⟩
 have z:=RG.ofOwn ay
 refine gS (Yk.lenRG JV (RG.of z rfl) ?_)
 have f:=Ext.refl m
 have hE:=hE.trans ai
 have az:=hE.size
 have hrow0:OG m.heap.size 54 32 (Lib.byteCells) m (Value.slice none 0 0) ([]:List (List UInt8)):=OG.nil _ _ _ _ _
 have a0:Value.ownBlock (Value.slice none 0 0)≠some j:=fun e_=>by cases e_
 have hDk:=hD
 have hL100:=hnm
 have c:=eb ai c
 refine gL (fun(ρ:Ai) (wz:World)=>∃i:Nat,∃r:Value,ρ 0=(PQ g 0:Value)∧ρ 1=(PQ j 0:Value)∧ρ 2=((Value.slice none 0 0):Value)∧ρ 3=(.func (.func 34) #[] #[PQ j 0]:Value)∧ρ 11=(ax:Value)∧ρ 12=(NI (((As D)).length):Value)∧ρ 13=(NI i:Value)∧ρ 4=(r:Value)∧Ext w wz∧wz.heap[j]? =some (.cells (([PQ g 0]:List Value)).toArray 24 (0,0))∧Ext m wz∧OG m.heap.size 54 32 (Lib.byteCells) wz r (((As D).take i).filterMap (BK D))∧(i≤(As D).length)∧(OB r j)∧True) (fun ρ _=>(As D).length-(intOf (ρ 13)).toNat) ⟨0,(Value.slice none 0 0),rfl,rfl,rfl,rfl,rfl,rfl,rfl,rfl,hE,c,f,Bk hrow0 (rfl),Nat.zero_le _,a0,trivial⟩ ?_
 clear hrow0
 clear hE c f
 rintro aj ak ⟨i,r,T0,T1,T2,T3,ab,ac,n,q,hE,c,f,hr_r,hi,hap_r_n2,-⟩
 have q13:=n
 refine gS (Yk.eqI (a:=(i:Nat)) (b:=(((As D)).length:Nat)) n ac (AO _ _ _ _) ?_)
 refine cD rfl (fun ad=> ?_) fun ad=> ?_
 ·have hlt:i<(As D).length:=ad
  have hel:=I7 hDk.st.ok hlt
  have hfl:(((As D).take i).filterMap (BK D)).length≤i:=Nat.le_trans (List.length_filterMap_le _ _) (by rw[List.length_take];exact Nat.min_le_left _ _)
  have bi:(B1 (((As D)).getD (i) ([]:List UInt8))).length=1:=(RG.elem (z.keep f) ([]:List UInt8) (by omega))
  refine gS (Yk.atRG JV O8 (by decide) ([]:List UInt8) (RG.of (z.keep f) ab) n (by omega) fun bj ao=>(gS (Yk.loadC Io rfl (PR.cell (PR.of ao rfl) rfl) ?_)))
  clear ao
  refine gS (Yk.clo PW (caps:= #[PQ j 0]) T3 #[St (((As D)).getD (i) ([]:List UInt8)),PQ j 0] (by simp only[List.map_toArray,List.map_cons,List.map_nil,List.append_toArray,List.cons_append,List.nil_append];exact congrArg List.toArray (D4 rfl rfl)) ((NZ wb _ g H D (hD.keep hE) hG hL ((As D).getD (i) ([]:List UInt8)) (by omega) j c).mono ?_))
  rintro e bk ⟨rfl,s⟩
  refine⟨_,rfl,?_⟩
  refine gS (Yk.extract (vs:= [AB ((AQ (AP [111,45] ((As D).getD (i) ([]:List UInt8))).1).1), .bool ((BK D ((As D).getD (i) ([]:List UInt8))).isSome)]) rfl rfl (gS (Yk.extract (vs:= [AB ((AQ (AP [111,45] ((As D).getD (i) ([]:List UInt8))).1).1), .bool ((BK D ((As D).getD (i) ([]:List UInt8))).isSome)]) rfl rfl (gS (Yk.alloc (cs:=(Lib.byteCells (List.replicate 32 0)).toArray) IX fun ae a1 a2 ap t bm=> ?_)))))
  have hE:=hE.trans s
  have a3:=hE.size
  have f:=f.trans s
  have a4:=f.size
  have c:=eb s c
  have bn:=AE (bl c) a2
  have hr_r:=hr_r.keep s
  have aq:OB r ae:=By hr_r.2 (by omega)
  have k:=ap;clear ap
  have bo:ae<a1.heap.size:=by omega
  refine gS (Yk.storeAll (vr (PQ ae 0) rfl) (vr (AB ((AQ (AP [111,45] ((As D).getD (i) ([]:List UInt8))).1).1)) rfl) k (by exact Bg (Bb _) List.length_replicate) (by exact Ae (Bb _)) (Ah _) fun bp ar u bq=> ?_)
  have hE:=hE.trans t
  have hE:=Aa hE u (Nat.le_trans a3 (by omega))
  have c:=eb t c
  have c:=kb u c (by omega)
  have f:=f.trans t
  have f:=Aa f u (Nat.le_trans a4 (by omega))
  have hr_r:=hr_r.keep t
  have hr_r:=OG.kept hr_r u aq
  clear k
  have k:=ar;clear ar
  have br:=bl k
  refine cB ((BK D ((As D).getD (i) ([]:List UInt8))).isSome) rfl (fun af=> ?_) fun af=> ?_
  ·have hi1:BK D ((As D).getD (i) ([]:List UInt8))=some (AQ (AP [111,45] ((As D).getD (i) ([]:List UInt8))).1).1:=NY af
   refine gS (Yk.loadAll rfl k IU rfl (by exact Ae (Bb _)) (gS (Yk.lit1G (a:=(AQ (AP [111,45] ((As D).getD (i) ([]:List UInt8))).1).1) (enc:=Lib.byteCells) (vr (AB ((AQ (AP [111,45] ((As D).getD (i) ([]:List UInt8))).1).1)) rfl) ((by rw[Lib.byteCells_length,(Bb _)])) PX fun a5 a6 au p=> ?_)))
   have f:=f.trans p
   have hr_r:=hr_r.keep p
   refine gS (Yk.appendRG _ _ m.heap.size _ 32 Bc pk6_ig54.choose_spec.1 pk6_ig54.choose_spec.2 Bc (((As D).take i).filterMap (BK D)) ([(AQ (AP [111,45] ((As D).getD (i) ([]:List UInt8))).1).1]) (OG.of hr_r q) (RG.of au (vr a5 rfl)) (fun y _=>Ah y) (by simp only[List.length_singleton];omega) (by simp only[List.length_singleton];omega) f.size fun ag a7 a8 l=> ?_)
   have l:Grew a6 a7 r ag:= .eqv q l
   have c:=eb p c
   have a9:OB ag j:=Ax l hap_r_n2 (bl c)
   have hE:=hE.trans p
   have hE:=Ag hE l hr_r.2 az
   have c:=Am c l hap_r_n2
   have f:=Ag f l hr_r.2 (Nat.le_refl _)
   have k:=eb p k
   have k:=Am k l aq
   clear au
   clear hr_r
   refine gS (Yk.bin (xv:=NI i) (yv:=NI 1) n rfl rfl (Ap _ _ _ (by omega)) (gK (And.intro ⟨i+1,ag,T0,T1,T2,T3,ab,ac,rfl,rfl,hE,c,f,Bk a8 ((LJ hlt hi1)),by omega,a9,trivial⟩ ?_)))
   show(As D).length-(intOf (NI ((i)+(1)))).toNat<(As D).length-(intOf (aj 13)).toNat
   rw[q13]
   simp only[intOf,Int.toNat_natCast];omega
  have hi0:BK D ((As D).getD (i) ([]:List UInt8))=none:=by simpa using af
  refine gS (Yk.bin (xv:=NI i) (yv:=NI 1) n rfl rfl (Ap _ _ _ (by omega)) (gK (And.intro ⟨i+1,r,T0,T1,T2,T3,ab,ac,rfl,q,hE,c,f,Bk hr_r ((Gm hlt hi0)),by omega,hap_r_n2,trivial⟩ ?_)))
  show(As D).length-(intOf (NI ((i)+(1)))).toNat<(As D).length-(intOf (aj 13)).toNat
  rw[q13]
  simp only[intOf,Int.toNat_natCast];omega
 have hie:i=(As D).length:=by have h:=ad;omega
 have hrl:RG 32 (Lib.byteCells) ak r (E7 D):=HI (RG.ofOwn hr_r) (by rw[hie,List.take_length];rfl)
 have hsz9:w.heap.size≤ak.heap.size:=hE.size
 refine gS (Yk.callA1 PY q ((LI _ _ (E7 D) hrl (IA hL100)).mono ?_))
 rintro e bs ⟨ba,o,rfl,bb,hS,hM,hN,bc⟩
 refine⟨_,rfl,?_⟩
 have bd:=bb
 refine AX rfl (vr ba rfl) ?_
 have hE:=hE.trans bc
 exact⟨_,o,rfl,OG.low bd hsz9,hS,hM,hN,hE⟩
open Go.RowKit
set_option linter.unusedVariables false
theorem RC{D:An}{s:List UInt8}{k:Nat}(hd:D.down=false)(hm:Bu s=true)(h:AD D.now s=some k):Az D s=((AJ D k).1,0):=by
  have h0:A6 D s s=0:=by
    unfold A6
    rw[if_neg (by rw[hd];decide),if_pos ⟨hm,hm⟩]
  unfold Az C8
  rw[if_neg (by rw[h0];exact fun q=>q rfl),h]
open Go.RowKit
set_option linter.unusedVariables false
def InjD(l:Ba):Prop:=l.Pairwise fun a b=>a.2≠b.2
theorem InjD.wo{l:Ba}(h:InjD l)(s:List UInt8):InjD (woD l s):=List.Pairwise.sublist List.filter_sublist h
theorem InjD.ins{l:Ba}(h:InjD l)(s:List UInt8){k:Nat}(hk:∀e∈l,e.2≠k):InjD (DQ l s k):=by
  unfold DQ InjD
  rw[List.pairwise_append]
  refine⟨h.sublist (List.takeWhile_sublist _),List.pairwise_cons.2 ⟨fun e he=>(hk e ((List.dropWhile_sublist _).subset he)).symm,h.sublist (List.dropWhile_sublist _)⟩,fun a ha b hb=> ?_⟩
  rcases List.mem_cons.1 hb with rfl | hb
  · exact hk a ((List.takeWhile_sublist _).subset ha)
  · have h2:(l.takeWhile (fun e=>Op.bytesLess e.1 s)++l.dropWhile (fun e=>Op.bytesLess e.1 s)).Pairwise fun a b=>a.2≠b.2:=by rw[List.takeWhile_append_dropWhile];exact h
    exact(List.pairwise_append.1 h2).2.2 a ha b hb
theorem InjD.turn{l:Ba}(h:InjD l)(a:AM)(hk:a.to.length≠0→∀e∈l,e.2=a.file→e.1=a.frm):InjD (turnD l a):=by
  unfold turnD
  split
  · exact h.wo _
  · rename_i hn
    refine((h.wo _).wo _).ins _ fun e he q=> ?_
    have h1:=F7 he
    have h2:=hk hn e (F7 h1) q
    have h3:=(List.mem_filter.1 h1).2
    simp[h2]at h3
theorem InjD.add{D:An}(h:InjD D.now)(hok:DOk D)(s b:List UInt8):InjD (BN D s b).now:=by
  unfold BN
  split
  · exact h
  · exact h.turn _ fun _ e he q=>absurd (hok.now.num e he) (by rw[q];exact Nat.lt_irrefl _)
open Go.RowKit
set_option linter.unusedVariables false
theorem Gn{D:An}{s t:List UInt8}(hd:D.down=false)(hs:Bu s=true)(ht:Bu t=true):A6 D s t=0:=by
  unfold A6
  rw[if_neg (by rw[hd];decide),if_pos ⟨hs,ht⟩]
theorem N0{D:An}(ha:D.arm=0):Bh D=(D,false):=by
  unfold Bh
  exact if_pos ha
theorem N1{D:An}{s b:List UInt8}(hd:D.down=false)(ha:D.arm=0)(hm:Bu s=true)(hq:usedD D+b.length≤D.quota):Af D s b=(BN D s b,0):=by
  unfold Af
  rw[if_neg (by rw[Gn hd hm hm];exact fun q=>q rfl),if_neg (by omega),N0 ha]
  rfl
theorem LK{D:An}{s:List UInt8}{k:Nat}(hd:D.down=false)(ha:D.arm=0)(hm:Bu s=true)(hk:AD D.now s=some k):
    Aw D s=({ D with files:=D.files.set k ((AJ D k).1,(AJ D k).1.length),kept:=D.now,acts:= [] },0):=by
  have h:C8 D s s = .ok k:=by
    unfold C8
    rw[if_neg (by rw[Gn hd hm hm];exact fun q=>q rfl),hk]
  unfold Aw
  rw[h]
  show CR D _=_
  unfold CR
  rw[N0 ha]
  rfl
theorem Lg{l:List (List UInt8 × Nat)}{k:Nat}{x:List UInt8 × Nat}(h:k<l.length):(l.set k x).getD k ([],0)=x:=by
  rw[List.getD_eq_getElem?_getD,List.getElem?_set_self h]
  rfl
structure Sy (D : An) (s : List UInt8) (k n0 : Nat) (al : List UInt8) : Prop where
  down:D.down=false
  arm:D.arm=0
  ok:DOk D
  may:Bu s=true
  inj:InjD D.now
  now:AD D.now s=some k
  kept:AD D.kept s=some k
  acts:∀a∈D.acts,a.to≠s∧a.frm≠s
  file:AJ D k=(al,n0)
theorem LL(D:An)(s b:List UInt8):(BN D s b).arm=D.arm∧(BN D s b).down=D.down:=by
  unfold BN
  split <;> exact⟨rfl,rfl⟩
open Go.RowKit
set_option linter.unusedVariables false
set_option linter.unusedSimpArgs false
structure ReadyL (D : An) : Prop where
  down:D.down=false
  arm:D.arm=0
  ok:DOk D
  inj:InjD D.now
theorem LM{b:List UInt8}(h:b.length=32):Bu (Ad b)=true:=by
  unfold Bu
  rw[Rq h]
  rfl
section
variable {D : An} {s b : List UInt8} {k : Nat}
theorem Sy.sync(h:ReadyL D)(hm:Bu s=true)(hk:AD D.now s=some k):(Aw D s).2=0∧Sy (Aw D s).1 s k (AJ D k).1.length (AJ D k).1:=by
  have e:=LK h.down h.arm hm hk
  have hkl:=(h.ok.now.look hk).1
  rw[e]
  exact⟨rfl,h.down,h.arm,h.ok.synced k,hm,h.inj,hk,hk,(fun a h=>by cases h),Lg hkl⟩
theorem Kk(hl:AD D.now s=none):BN D s b = { turnedD D ⟨[],s,D.files.length⟩with files:=D.files++ [(b,0)] } :=by
  unfold BN
  rw[hl]
theorem PZ(hm:Bu s=true)(hl:AD D.now s=none):AD (BN D s b).now s=some D.files.length∧AJ (BN D s b) D.files.length=(b,0):=by
  have h0:=(B0 hm).1
  rw[Kk hl]
  refine⟨?_,?_⟩
  · show AD (turnD D.now ⟨[],s,D.files.length⟩) s=_
    rw[look_turn,if_neg (show ¬s.length=0 by omega),if_pos (show s=s from rfl)]
  · show(D.files++ [(b,0)]).getD D.files.length ([],0)=_
    rw[List.getD_eq_getElem?_getD,List.getElem?_append_right (Nat.le_refl _),Nat.sub_self]
    rfl
theorem ReadyL.add(h:ReadyL D)(hm:Bu s=true)(b:List UInt8):ReadyL (BN D s b):=
  ⟨(LL D s b).2.trans h.down,(LL D s b).1.trans h.arm,h.ok.add b hm,h.inj.add h.ok s b⟩
theorem I8{a:Stp}{r:List Stp}(h:(Ce D s a).2=0):AS D s (a :: r)=AS (Ce D s a).1 s r:=by
  rw[DC,if_neg (by rw[h];exact fun q=>q rfl)]
theorem I9(hd:D.down=false)(hm:Bu s=true)(h:AD D.now s=none):Az D s=([],4):=by
  unfold Az C8
  rw[if_neg (by rw[Gn hd hm hm];exact fun q=>q rfl),h]
theorem Sn(D:An)(id:List UInt8):Cm (D,0) id=(D,id,[],0):=if_neg fun q=>q rfl
end
open Go.RowKit
set_option maxRecDepth 100000
namespace Sha
theorem tail_length(n:Nat):(tail n).length=9+(119-n%64)%64:=by
 simp[tail,be64]
 omega
theorem be4_of(P B:List UInt8)(a:Nat)(h:∀i,i<64→B.getD i 0=P.getD (a+i) 0)(t:Nat)(ht:t<16):
  (P.getD (a+4*t) 0).toUInt32<<<24|||(P.getD (a+4*t+1) 0).toUInt32<<<16|||(P.getD (a+4*t+2) 0).toUInt32<<<8|||(P.getD (a+4*t+3) 0).toUInt32=be4 B t:=by
 unfold be4
 rw[h _ (by omega),h _ (by omega),h _ (by omega),h _ (by omega)]
 simp only[Nat.add_assoc]
theorem added_comm:∀(v s:List UInt32),added v s=added s v
 | [],[]=>rfl
 | [],_ :: _=>rfl
 | _ :: _,[]=>rfl
 | a :: v,b :: s=>by
  have:=added_comm v s
  unfold added at this ⊢
  rw[List.zipWith_cons_cons,List.zipWith_cons_cons,this,UInt32.add_comm]
theorem add8{S T:List UInt32}(hS:S.length=8)(hT:T.length=8):adding S T 8=added T S:=by
 have:=adding_all S T (by omega)
 rw[hS]at this
 rw[this,added_comm]
end Sha
theorem N2:Plain Tryz.prog 40:=fun _ _=>by kernel_rfl
theorem CE:Plain Tryz.prog 41:=fun _ _=>by kernel_rfl
theorem N3:Plain Tryz.prog 42:=fun _ _=>by kernel_rfl
set_option maxRecDepth 4000 in
set_option maxHeartbeats 1000000 in
theorem Da(w:World)(v:Value)(l:List UInt8)(hr:RB w v l)(hl:l.length≤70368744177664):
  Calls Tryz.prog 15 #[v] w fun e w' =>e = .returned (AB (Sha.sum l))∧Ext w w' :=by
 refine gG (args:= [v]) Tryz.func15 rfl 275 rfl rfl ?_
 have hE:=Ext.refl w
 refine gS (Yk.alloc (cs:=(Lib.byteCells (List.replicate 32 0)).toArray) IX fun n2 w3 d8 b6 db d9=> ?_)
 have c:=b6;clear b6
 have ea:n2<w3.heap.size:=by omega
 refine gS (Yk.run (v:= .agg (Sha.first.map fun x=>U x).toArray) (by kernel_rfl) (gS (Yk.alloc (cs:=((List.replicate 8 0).map fun x=>U x).toArray) IN fun m dc dd b7 bm ec=> ?_)))
 have g:=Ext.refl w3
 have hE:=hE.trans db
 have ae:=hE.size
 have ed:=AE (bl c) dd
 have af:=b7;clear b7
 have ee:m<dc.heap.size:=by omega
 refine gS (Yk.storeAll (vr (PQ m 0) rfl) (vr (.agg (Sha.first.map fun x=>U x).toArray) rfl) af (rfl) (DA) (C9 _) fun a0 b8 bn ef=> ?_)
 have hE:=hE.trans bm
 have hE:=Aa hE bn (Nat.le_trans ae (by omega))
 have c:=eb bm c
 have c:=kb bn c (by omega)
 have g:=g.trans bm
 have g:=Aa g bn (Nat.le_trans (Nat.le_refl _) (by omega))
 clear af
 have af:=b8;clear b8
 have eg:=bl af
 refine gS (Yk.callA1 N2 rfl ((Mu _ v l (hr.keep hE) (by omega)).mono ?_))
 rintro e de ⟨u,rfl,ak⟩
 refine⟨_,rfl,?_⟩
 have eh:=hE.size
 have ei:=g.size
 have df:OB u n2:=Ao ak.own (bl c)
 have ah:OB u m:=Ao ak.own (bl af)
 have f:=ak.own
 obtain⟨P,hP⟩:∃P,P=l++Sha.tail l.length:=⟨_,rfl⟩
 have f:de.ownsRow a0.heap.size 5 1 u (P:List UInt8).length (Lib.byteCells (P)):=(hP.symm:l++Sha.tail l.length=P)▸f
 have hPl:P.length=l.length+(Sha.tail l.length).length:=by rw[hP,List.length_append]
 obtain⟨K,hK⟩:∃K,P.length=64*K:=⟨P.length/64,by rw[hPl,Sha.tail_length];omega⟩
 have hPb:P.length<72057594037927936:=by rw[hPl,Sha.tail_length];omega
 have hE:=hE.trans ak.ext
 have c:=eb ak.ext c
 have g:=g.trans ak.ext
 have af:=eb ak.ext af
 refine gL (fun(ρ:Ai) (wz:World)=>∃j:Nat,ρ 0=(v:Value)∧ρ 2=(PQ n2 0:Value)∧ρ 3=(PQ m 0:Value)∧ρ 4=(u:Value)∧ρ 5=(NI (64*j):Value)∧Ext w wz∧wz.heap[n2]? =some (.cells (Lib.byteCells (List.replicate 32 0)).toArray 54 (0,0))∧Ext w3 wz∧wz.ownsRow a0.heap.size 5 1 u (P:List UInt8).length (Lib.byteCells (P))∧wz.heap[m]? =some (.cells ((Sha.blocks Sha.first P j).map fun x=>U x).toArray 90 (0,0))∧(j≤K)∧True) (fun ρ _=>P.length-(intOf (ρ 5)).toNat) ⟨0,rfl,rfl,rfl,rfl,rfl,hE,c,g,f,AF af (rfl),Nat.zero_le _,trivial⟩ ?_
 clear af
 clear hE c g f
 rintro dh al ⟨j,T0,y,h,p,o,hE,c,g,f,hb21l,hj,-⟩
 have q5:=o
 refine gS (Yk.lenRB S2 (RB.of (RB.ofOwn f) p) (gS (Yk.eqI (a:=(64*j:Nat)) (b:=(P.length:Nat)) o rfl (AO _ _ _ _) ?_)))
 refine cD rfl (fun di=> ?_) fun di=> ?_
 ·obtain⟨Sj,hSj⟩:∃Sj,Sj=Sha.blocks Sha.first P j:=⟨_,rfl⟩
  have hb21l:al.heap[m]? =some (.cells (Sj.map fun x=>U x).toArray 90 (0,0)):=AF hb21l (by rw[hSj])
  have hSl:Sj.length=8:=by rw[hSj,Sha.blocks_length _ _ _ rfl]
  obtain⟨B,hB⟩:∃B,B=(P.drop (64*j)).take 64:=⟨_,rfl⟩
  have hBget:∀i,i<64→B.getD i 0=P.getD (64*j+i) 0:=fun i hi=>by rw[hB];simp[hi]
  refine gS (Yk.alloc (cs:=((List.replicate 64 0).map fun x=>U x).toArray) IM fun ag dj b9 ca ap ej=> ?_)
  have k:=Ext.refl al
  have cb:=hE.size
  have cc:=g.size
  have el:=AE (bl c) b9
  have em:=AE (bl hb21l) b9
  have cd:OB u ag:=By f (by omega)
  have ce:=ca;clear ca
  have en:ag<dj.heap.size:=by omega
  have hE:=hE.trans ap
  have c:=eb ap c
  have g:=g.trans ap
  have f:=Stab.own _ _ _ _ _ _ _ _ f ap
  have hb21l:=eb ap hb21l
  have k:=k.trans ap
  refine gL (fun(ρ:Ai) (wz:World)=>∃t:Nat,ρ 0=(v:Value)∧ρ 2=(PQ n2 0:Value)∧ρ 3=(PQ m 0:Value)∧ρ 4=(u:Value)∧ρ 5=(NI (64*j):Value)∧ρ 6=(PQ ag 0:Value)∧ρ 7=(NI t:Value)∧Ext w wz∧wz.heap[n2]? =some (.cells (Lib.byteCells (List.replicate 32 0)).toArray 54 (0,0))∧Ext w3 wz∧wz.ownsRow a0.heap.size 5 1 u (P:List UInt8).length (Lib.byteCells (P))∧wz.heap[m]? =some (.cells (Sj.map fun x=>U x).toArray 90 (0,0))∧Ext al wz∧wz.heap[ag]? =some (.cells ((Sha.pad64 (Sha.sched B t)).map fun x=>U x).toArray 91 (0,0))∧(t≤64)∧True) (fun ρ _=>64-(intOf (ρ 7)).toNat) ⟨0,T0,y,h,p,o,rfl,rfl,hE,c,g,f,hb21l,k,AF ce (rfl),Nat.zero_le _,trivial⟩ ?_
  clear ce
  clear hE c g f hb21l k
  rintro cf dk ⟨t,T0,y,h,p,o,T6,n,hE,c,g,f,hb21l,k,hb62l,ht,-⟩
  have q7:=n
  have hpl:(Sha.pad64 (Sha.sched B t)).length=64:=Sha.pad64_length _ (by rw[Sha.sched_length];exact ht)
  refine gS (Yk.eqI (a:=(t:Nat)) (b:=(64:Nat)) n rfl (AO _ _ _ _) ?_)
  refine cD rfl (fun cg=> ?_) fun cg=> ?_
  ·refine gS (Yk.eqI (a:=(t:Nat)) (b:=(16:Nat)) n rfl (AO _ _ _ _) ?_)
   refine cD rfl (fun bo=> ?_) fun bo=> ?_
   ·refine B5 [0,1,2,3,4,5,6,7,8,9,10,11,12,13,14,15,16,17,18,19,20,21,22,23,24,25,26,27,28,29,30,31,32,33,34,35,36,37,38,39,40,41,42,43] [43] [] fun eo am=> ?_
    have f:=Stab.own _ _ _ _ _ _ _ _ f am
    have hb62l:=eb am hb62l
    refine ys (Yk.bin (xv:=NI 4) (yv:=NI t) rfl n rfl (BH _ _ _ (by omega)) zz) (ys (Yk.bin (xv:=NI (64*j)) (yv:=NI ((4)*(t))) o rfl rfl (Ap _ _ _ (by omega)) zz) (yA (Yk.atRB (l:=P) (i:=(64*j)+((4)*(t))) S2 Fy (RB.of (RB.ofOwn f) p) rfl (by omega) fun ep ch=>(ys (Yk.loadC Ds rfl (PCell.of ch rfl) zz) (ys (Yk.wide Ds AV rfl zz) (ys (Yk.bin rfl rfl rfl (EU _ _ _ 24 (by decide)) zz) (ys (Yk.bin (xv:=NI 4) (yv:=NI t) rfl n rfl (BH _ _ _ (by omega)) zz) (ys (Yk.bin (xv:=NI (64*j)) (yv:=NI ((4)*(t))) o rfl rfl (Ap _ _ _ (by omega)) zz) (ys (Yk.bin (xv:=NI ((64*j)+((4)*(t)))) (yv:=NI 1) rfl rfl rfl (Ap _ _ _ (by omega)) zz) (yA (Yk.atRB (l:=P) (i:=((64*j)+((4)*(t)))+(1)) S2 Fy (RB.of (RB.ofOwn f) p) rfl (by omega) fun eq ci=>(ys (Yk.loadC Ds rfl (PCell.of ci rfl) zz) (ys (Yk.wide Ds AV rfl zz) (ys (Yk.bin rfl rfl rfl (EU _ _ _ 16 (by decide)) zz) (ys (Yk.bin rfl rfl rfl (FZ _ _ _) zz) (ys (Yk.bin (xv:=NI 4) (yv:=NI t) rfl n rfl (BH _ _ _ (by omega)) zz) (ys (Yk.bin (xv:=NI (64*j)) (yv:=NI ((4)*(t))) o rfl rfl (Ap _ _ _ (by omega)) zz) ?_)))))))))))))))))
    refine ys (Yk.bin (xv:=NI ((64*j)+((4)*(t)))) (yv:=NI 2) rfl rfl rfl (Ap _ _ _ (by omega)) zz) (yA (Yk.atRB (l:=P) (i:=((64*j)+((4)*(t)))+(2)) S2 Fy (RB.of (RB.ofOwn f) p) rfl (by omega) fun er cj=>(ys (Yk.loadC Ds rfl (PCell.of cj rfl) zz) (ys (Yk.wide Ds AV rfl zz) (ys (Yk.bin rfl rfl rfl (EU _ _ _ 8 (by decide)) zz) (ys (Yk.bin rfl rfl rfl (FZ _ _ _) zz) (ys (Yk.bin (xv:=NI 4) (yv:=NI t) rfl n rfl (BH _ _ _ (by omega)) zz) (ys (Yk.bin (xv:=NI (64*j)) (yv:=NI ((4)*(t))) o rfl rfl (Ap _ _ _ (by omega)) zz) (ys (Yk.bin (xv:=NI ((64*j)+((4)*(t)))) (yv:=NI 3) rfl rfl rfl (Ap _ _ _ (by omega)) zz) (yA (Yk.atRB (l:=P) (i:=((64*j)+((4)*(t)))+(3)) S2 Fy (RB.of (RB.ofOwn f) p) rfl (by omega) fun es ck=>(ys (Yk.loadC Ds rfl (PCell.of ck rfl) zz) (ys (Yk.wide Ds AV rfl zz) (ys (Yk.bin rfl rfl rfl (FZ _ _ _) zz) (ys (Yk.atArr0 (i:=t) CD A0 T6 n (by omega) zz) (yC (Yk.storeU32 (i:=t) (v:=(((((P.getD ((64*j)+((4)*(t))) 0).toUInt32)<<<24)|||(((P.getD (((64*j)+((4)*(t)))+(1)) 0).toUInt32)<<<16))|||(((P.getD (((64*j)+((4)*(t)))+(2)) 0).toUInt32)<<<8))|||((P.getD (((64*j)+((4)*(t)))+(3)) 0).toUInt32)) rfl rfl hb62l (by rw[hpl];omega) Fz fun dl cl aq et=> ?_)))))))))))))))))
    have hE:=hE.trans am
    have hE:=Aa hE aq (Nat.le_trans cb (by omega))
    have c:=eb am c
    have c:=kb aq c (by omega)
    have g:=g.trans am
    have g:=Aa g aq (Nat.le_trans cc (by omega))
    have f:=A5 f aq cd
    have hb21l:=eb am hb21l
    have hb21l:=kb aq hb21l (by omega)
    have k:=k.trans am
    have k:=Aa k aq (Nat.le_trans (Nat.le_refl _) (by omega))
    clear ch
    clear ci
    clear cj
    clear ck
    clear hb62l
    have hb62l:=cl;clear cl
    have eu:=bl hb62l
    have hb62l:dl.heap[ag]? =some (.cells ((Sha.pad64 (Sha.sched B (t+1))).map fun x=>U x).toArray 91 (0,0)):=AF hb62l (congrArg (List.map fun x=>U x) ((congrArg (fun z=>(Sha.pad64 (Sha.sched B t)).set t z) (Sha.be4_of P B (64*j) hBget t bo)).trans (Sha.sched_step1 B t bo)))
    refine gS (Yk.bin (xv:=NI t) (yv:=NI 1) n rfl rfl (Ap _ _ _ (by omega)) (gK (And.intro ⟨t+1,T0,y,h,p,o,T6,rfl,hE,c,g,f,hb21l,k,AF hb62l (rfl),by omega,trivial⟩ ?_)))
    show 64-(intOf (NI ((t)+(1)))).toNat<64-(intOf (cf 7)).toNat
    rw[q7]
    simp only[intOf,Int.toNat_natCast];omega
   refine B5 [0,1,2,3,4,5,6,7,8,9] [] [] fun ew cm=> ?_
   have hb62l:=eb cm hb62l
   refine ys (Yk.bin (xv:=NI t) (yv:=NI 15) n rfl rfl (BL _ _ _ (by omega) (by omega)) zz) (ys (Yk.atArr0 (i:=(t)-(15)) CD A0 T6 rfl (by omega) zz) (ys (Yk.cell1 AV rfl rfl (cellAt hb62l (AI (i:=(t)-(15)) (by rw[hpl];omega))) zz) (ys (Yk.bin (xv:=NI t) (yv:=NI 2) n rfl rfl (BL _ _ _ (by omega) (by omega)) zz) (ys (Yk.atArr0 (i:=(t)-(2)) CD A0 T6 rfl (by omega) zz) (ys (Yk.cell1 AV rfl rfl (cellAt hb62l (AI (i:=(t)-(2)) (by rw[hpl];omega))) zz) (BV [0,1,3,6,7,9,10,11,12,14,16,19,20,23,24,25,26,2,4,5,8,13,15,17,18,21,22,27,28,29] [2,4,15,17,29] [5,7,8,10,11,13,20,24,25] [12,26] fun dm cn=> ?_))))))
   have bc:=Ext.refl dm
   have hb62l:=eb cn hb62l
   refine BM bc ?_
   refine yp (Yk.bin rfl rfl rfl (DM _ _ _ 10 (by decide)) zz) (yp (Yk.bin (xv:=NI t) (yv:=NI 7) n rfl rfl (BL _ _ _ (by omega) (by omega)) zz) (yp (Yk.atArr0 (i:=(t)-(7)) CD A0 T6 rfl (by omega) zz) (yf (fun _ ⟨hZ,_⟩=>Yk.cell1 AV rfl rfl (cellAt (eb hZ hb62l) (AI (i:=(t)-(7)) (by rw[hpl];omega))) zz) (yp (Yk.bin rfl rfl rfl (DM _ _ _ 3 (by decide)) zz) (yp (Yk.bin (xv:=NI t) (yv:=NI 16) n rfl rfl (BL _ _ _ (by omega) (by omega)) zz) (yp (Yk.atArr0 (i:=(t)-(16)) CD A0 T6 rfl (by omega) zz) (yf (fun _ ⟨hZ,_⟩=>Yk.cell1 AV rfl rfl (cellAt (eb hZ hb62l) (AI (i:=(t)-(16)) (by rw[hpl];omega))) zz) (yE (Yk.callA2 CE rfl rfl ((Df _ ((Sha.pad64 (Sha.sched B t)).getD ((t)-(2)) 0) 17 (by decide) (by decide)).mono ?_))))))))))
   rintro e dn ⟨rfl,bp⟩
   refine⟨_,rfl,?_⟩
   have bc:=bc.trans bp
   refine⟨bc,?_⟩
   have bq:=Ext.refl dn
   refine yE (Yk.callA2 CE rfl rfl ((Df _ ((Sha.pad64 (Sha.sched B t)).getD ((t)-(2)) 0) 19 (by decide) (by decide)).mono ?_))
   rintro e dp ⟨rfl,br⟩
   refine⟨_,rfl,?_⟩
   have bq:=bq.trans br
   refine⟨bq,?_⟩
   have bs:=Ext.refl dp
   refine yp (Yk.bin rfl rfl rfl (Ci _ _ _) zz) (yp (Yk.bin rfl rfl rfl (Ci _ _ _) zz) (yp (Yk.bin rfl rfl rfl (BR _ _ _) zz) (yE (Yk.callA2 CE rfl rfl ((Df _ ((Sha.pad64 (Sha.sched B t)).getD ((t)-(15)) 0) 7 (by decide) (by decide)).mono ?_)))))
   rintro e dq ⟨rfl,bt⟩
   refine⟨_,rfl,?_⟩
   have bs:=bs.trans bt
   refine⟨bs,?_⟩
   have bu:=Ext.refl dq
   refine yE (Yk.callA2 CE rfl rfl ((Df _ ((Sha.pad64 (Sha.sched B t)).getD ((t)-(15)) 0) 18 (by decide) (by decide)).mono ?_))
   rintro e ex ⟨rfl,bv⟩
   refine⟨_,rfl,?_⟩
   have hb62l:=eb (((bp.trans br).trans bt).trans bv) hb62l
   have bu:=bu.trans bv
   refine⟨bu,?_⟩
   refine ys (Yk.bin rfl rfl rfl (Ci _ _ _) zz) (ys (Yk.bin rfl rfl rfl (Ci _ _ _) zz) (ys (Yk.bin rfl rfl rfl (BR _ _ _) zz) (ys (Yk.bin rfl rfl rfl (BR _ _ _) zz) (ys (Yk.atArr0 (i:=t) CD A0 T6 n (by omega) zz) (yD rfl (Yk.storeU32 (i:=t) (v:=(((((Sha.rotr ((Sha.pad64 (Sha.sched B t)).getD ((t)-(2)) 0) 17)^^^(Sha.rotr ((Sha.pad64 (Sha.sched B t)).getD ((t)-(2)) 0) 19))^^^(((Sha.pad64 (Sha.sched B t)).getD ((t)-(2)) 0)>>>10))+((Sha.pad64 (Sha.sched B t)).getD ((t)-(7)) 0))+(((Sha.rotr ((Sha.pad64 (Sha.sched B t)).getD ((t)-(15)) 0) 7)^^^(Sha.rotr ((Sha.pad64 (Sha.sched B t)).getD ((t)-(15)) 0) 18))^^^(((Sha.pad64 (Sha.sched B t)).getD ((t)-(15)) 0)>>>3)))+((Sha.pad64 (Sha.sched B t)).getD ((t)-(16)) 0)) rfl rfl hb62l (by rw[hpl];omega) Fz fun dr co ar ey=> ?_))))))
   have hZ1:=((((cm.trans cn).trans bp).trans br).trans bt).trans bv
   have hE:=hE.trans hZ1
   have hE:=Aa hE ar (Nat.le_trans cb (by omega))
   have c:=eb hZ1 c
   have c:=kb ar c (by omega)
   have g:=g.trans hZ1
   have g:=Aa g ar (Nat.le_trans cc (by omega))
   have f:=Stab.own _ _ _ _ _ _ _ _ f hZ1
   have f:=A5 f ar cd
   have hb21l:=eb hZ1 hb21l
   have hb21l:=kb ar hb21l (by omega)
   have k:=k.trans hZ1
   have k:=Aa k ar (Nat.le_trans (Nat.le_refl _) (by omega))
   clear hb62l
   have hb62l:=co;clear co
   have ez:=bl hb62l
   have hb62l:dr.heap[ag]? =some (.cells ((Sha.pad64 (Sha.sched B (t+1))).map fun x=>U x).toArray 91 (0,0)):=AF hb62l (congrArg (List.map fun x=>U x) (Sha.sched_step2 B t (by omega) cg))
   refine gS (Yk.bin (xv:=NI t) (yv:=NI 1) n rfl rfl (Ap _ _ _ (by omega)) (gK (And.intro ⟨t+1,T0,y,h,p,o,T6,rfl,hE,c,g,f,hb21l,k,AF hb62l (rfl),by omega,trivial⟩ ?_)))
   show 64-(intOf (NI ((t)+(1)))).toNat<64-(intOf (cf 7)).toNat
   rw[q7]
   simp only[intOf,Int.toNat_natCast];omega
  obtain⟨F,hF⟩:∃F,F=Sha.sched B 64:=⟨_,rfl⟩
  have hb62l:dk.heap[ag]? =some (.cells (F.map fun x=>U x).toArray 91 (0,0)):=AF hb62l (by rw[show t=64 by omega,←hF,Sha.pad64_full _ (by rw[hF,Sha.sched_length])])
  have hFl:F.length=64:=by rw[hF,Sha.sched_length]
  refine B5 [0,1,2,3,4,5,6,7,8,9,10,11,12,13,14,15,16,17,18,19,20,21,22,23] [] [] fun e0 an=> ?_
  have hE:=hE.trans an
  have c:=eb an c
  have g:=g.trans an
  have f:=Stab.own _ _ _ _ _ _ _ _ f an
  have hb21l:=eb an hb21l
  have k:=k.trans an
  have hb62l:=eb an hb62l
  refine ys (Yk.atArr0 (i:=0) A9 A0 h rfl (by omega) zz) (ys (Yk.cell1 AV rfl rfl (cellAt hb21l (AI (i:=0) (by rw[hSl];omega))) zz) (ys (Yk.atArr0 (i:=1) A9 A0 h rfl (by omega) zz) (ys (Yk.cell1 AV rfl rfl (cellAt hb21l (AI (i:=1) (by rw[hSl];omega))) zz) (ys (Yk.atArr0 (i:=2) A9 A0 h rfl (by omega) zz) (ys (Yk.cell1 AV rfl rfl (cellAt hb21l (AI (i:=2) (by rw[hSl];omega))) zz) (ys (Yk.atArr0 (i:=3) A9 A0 h rfl (by omega) zz) (ys (Yk.cell1 AV rfl rfl (cellAt hb21l (AI (i:=3) (by rw[hSl];omega))) zz) (ys (Yk.atArr0 (i:=4) A9 A0 h rfl (by omega) zz) (ys (Yk.cell1 AV rfl rfl (cellAt hb21l (AI (i:=4) (by rw[hSl];omega))) zz) (ys (Yk.atArr0 (i:=5) A9 A0 h rfl (by omega) zz) (ys (Yk.cell1 AV rfl rfl (cellAt hb21l (AI (i:=5) (by rw[hSl];omega))) zz) (ys (Yk.atArr0 (i:=6) A9 A0 h rfl (by omega) zz) (ys (Yk.cell1 AV rfl rfl (cellAt hb21l (AI (i:=6) (by rw[hSl];omega))) zz) (ys (Yk.atArr0 (i:=7) A9 A0 h rfl (by omega) zz) (ys (Yk.cell1 AV rfl rfl (cellAt hb21l (AI (i:=7) (by rw[hSl];omega))) zz) ?_)))))))))))))))
  refine gL (fun(ρ:Ai) (wz:World)=>∃r:Nat,ρ 0=(v:Value)∧ρ 2=(PQ n2 0:Value)∧ρ 3=(PQ m 0:Value)∧ρ 4=(u:Value)∧ρ 5=(NI (64*j):Value)∧ρ 6=(PQ ag 0:Value)∧ρ 7=(NI t:Value)∧ρ 18=(NI r:Value)∧ρ 10=(U ((Sha.turned Sj F r).getD 0 0):Value)∧ρ 11=(U ((Sha.turned Sj F r).getD 1 0):Value)∧ρ 12=(U ((Sha.turned Sj F r).getD 2 0):Value)∧ρ 13=(U ((Sha.turned Sj F r).getD 3 0):Value)∧ρ 14=(U ((Sha.turned Sj F r).getD 4 0):Value)∧ρ 15=(U ((Sha.turned Sj F r).getD 5 0):Value)∧ρ 16=(U ((Sha.turned Sj F r).getD 6 0):Value)∧ρ 17=(U ((Sha.turned Sj F r).getD 7 0):Value)∧Ext w wz∧wz.heap[n2]? =some (.cells (Lib.byteCells (List.replicate 32 0)).toArray 54 (0,0))∧Ext w3 wz∧wz.ownsRow a0.heap.size 5 1 u (P:List UInt8).length (Lib.byteCells (P))∧wz.heap[m]? =some (.cells (Sj.map fun x=>U x).toArray 90 (0,0))∧Ext al wz∧wz.heap[ag]? =some (.cells (F.map fun x=>U x).toArray 91 (0,0))∧(r≤64)∧True) (fun ρ _=>64-(intOf (ρ 18)).toNat) ⟨0,T0,y,h,p,o,T6,n,rfl,rfl,rfl,rfl,rfl,rfl,rfl,rfl,rfl,hE,c,g,f,hb21l,k,hb62l,Nat.zero_le _,trivial⟩ ?_
  clear hE c g f hb21l k hb62l
  rintro ds e1 ⟨r,T0,y,h,p,o,T6,n,a1,ai,a2,a3,bw,aj,bd,be,bx,hE,c,g,f,hb21l,k,hb62l,e2,-⟩
  have q18:=a1
  refine gS (Yk.eqI (a:=(r:Nat)) (b:=(64:Nat)) a1 rfl (AO _ _ _ _) ?_)
  refine cD rfl (fun dt=> ?_) fun dt=> ?_
  ·refine BV [0,1,3,6,10,11,12,13,14,15,16,17,19,22,23,24,2,4,5,7,8,9,18,20,21,25,26] [2,4,7,20] [5,8,9,12,14,16,17,18,23] [24] fun du cp=> ?_
   have bf:=Ext.refl du
   have hb62l:=eb cp hb62l
   refine BM bf ?_
   refine yp (Yk.bin aj bd rfl (Em _ _ _) zz) (yp (Yk.not32 aj zz) (yp (Yk.bin rfl be rfl (Em _ _ _) zz) (yp (Yk.bin rfl rfl rfl (Ci _ _ _) zz) (yp (Yk.atArr0 (i:=r) CD A0 T6 a1 (by omega) zz) (yf (fun _ ⟨hZ,_⟩=>Yk.cell1 AV rfl rfl (cellAt (eb hZ hb62l) (AI (i:=r) (by rw[hFl];omega))) zz) (yE (Yk.callA2 CE aj rfl ((Df _ ((Sha.turned Sj F r).getD 4 0) 6 (by decide) (by decide)).mono ?_))))))))
   rintro e dv ⟨rfl,bz⟩
   refine⟨_,rfl,?_⟩
   have bf:=bf.trans bz
   refine⟨bf,?_⟩
   have b0:=Ext.refl dv
   refine yE (Yk.callA2 CE aj rfl ((Df _ ((Sha.turned Sj F r).getD 4 0) 11 (by decide) (by decide)).mono ?_))
   rintro e dw ⟨rfl,b1⟩
   refine⟨_,rfl,?_⟩
   have b0:=b0.trans b1
   refine⟨b0,?_⟩
   have b2:=Ext.refl dw
   refine yp (Yk.bin rfl rfl rfl (Ci _ _ _) zz) (yE (Yk.callA2 CE aj rfl ((Df _ ((Sha.turned Sj F r).getD 4 0) 25 (by decide) (by decide)).mono ?_)))
   rintro e dx ⟨rfl,b3⟩
   refine⟨_,rfl,?_⟩
   have b2:=b2.trans b3
   refine⟨b2,?_⟩
   have b4:=Ext.refl dx
   refine yp (Yk.bin rfl rfl rfl (Ci _ _ _) zz) (yp (Yk.bin bx rfl rfl (BR _ _ _) zz) (yp (Yk.bin rfl rfl rfl (BR _ _ _) zz) (yE (Yk.callA1 N3 a1 ((Rr _ (r) (by omega)).mono ?_)))))
   rintro e e3 ⟨rfl,b5⟩
   refine⟨_,rfl,?_⟩
   have b4:=b4.trans b5
   refine⟨b4,?_⟩
   refine ys (Yk.bin rfl rfl rfl (BR _ _ _) zz) (ys (Yk.bin rfl rfl rfl (BR _ _ _) zz) (gS (Yk.callA2 CE ai rfl ((Df _ ((Sha.turned Sj F r).getD 0 0) 2 (by decide) (by decide)).mono ?_))))
   rintro e e4 ⟨rfl,cq⟩
   refine⟨_,rfl,?_⟩
   refine gS (Yk.callA2 CE ai rfl ((Df _ ((Sha.turned Sj F r).getD 0 0) 13 (by decide) (by decide)).mono ?_))
   rintro e e5 ⟨rfl,cr⟩
   refine⟨_,rfl,?_⟩
   refine gS (Yk.bin rfl rfl rfl (Ci _ _ _) (gS (Yk.callA2 CE ai rfl ((Df _ ((Sha.turned Sj F r).getD 0 0) 22 (by decide) (by decide)).mono ?_))))
   rintro e e6 ⟨rfl,ct⟩
   refine⟨_,rfl,?_⟩
   have hZ2:=((((((cp.trans bz).trans b1).trans b3).trans b5).trans cq).trans cr).trans ct
   have hE:=hE.trans hZ2
   have c:=eb hZ2 c
   have g:=g.trans hZ2
   have f:=Stab.own _ _ _ _ _ _ _ _ f hZ2
   have hb21l:=eb hZ2 hb21l
   have k:=k.trans hZ2
   have hb62l:=eb ((((((bz.trans b1).trans b3).trans b5).trans cq).trans cr).trans ct) hb62l
   refine gS (Yk.bin rfl rfl rfl (Ci _ _ _) (gS (Yk.bin ai a2 rfl (Em _ _ _) (gS (Yk.bin ai a3 rfl (Em _ _ _) (gS (Yk.bin rfl rfl rfl (Ci _ _ _) (gS (Yk.bin a2 a3 rfl (Em _ _ _) (gS (Yk.bin rfl rfl rfl (Ci _ _ _) (gS (Yk.bin rfl rfl rfl (BR _ _ _) (gS (Yk.bin bw rfl rfl (BR _ _ _) (gS (Yk.bin rfl rfl rfl (BR _ _ _) (gS (Yk.bin (xv:=NI r) (yv:=NI 1) a1 rfl rfl (Ap _ _ _ (by omega)) (gK (And.intro ⟨r+1,T0,y,h,p,o,T6,n,rfl,rfl.trans (congrArg (fun z=>U z) (UInt32.add_assoc _ _ _).symm),ai,a2,a3,rfl,aj,bd,be,hE,c,g,f,hb21l,k,hb62l,by omega,trivial⟩ ?_)))))))))))))))))))))
   show 64-(intOf (NI ((r)+(1)))).toNat<64-(intOf (ds 18)).toNat
   rw[q18]
   simp only[intOf,Int.toNat_natCast];omega
  obtain⟨T,hT⟩:∃T,T=Sha.turned Sj F 64:=⟨_,rfl⟩
  have hTl:T.length=8:=by rw[hT,Sha.turned_length _ _ hSl]
  have hr64e:r=64:=by omega
  rw[hr64e,←hT]at ai a2 a3 bw aj bd be bx
  refine gS (Yk.atArr0 (i:=0) A9 A0 h rfl (by omega) (gS (Yk.cell1 AV rfl rfl (cellAt hb21l (AI (i:=0) (by rw[hSl];omega))) (gS (Yk.bin rfl ai rfl (BR _ _ _) (gS (Yk.atArr0 (i:=0) A9 A0 h rfl (by omega) (gS (Yk.storeU32 (i:=0) (v:=((Sj).getD (0) 0)+(T.getD 0 0)) rfl rfl hb21l (by rw[hSl];omega) Fz fun dy cu a4 e7=> ?_)))))))))
  have hE:=Aa hE a4 (Nat.le_trans ae (by omega))
  have c:=kb a4 c (by omega)
  have g:=Aa g a4 (Nat.le_trans (Nat.le_refl _) (by omega))
  have f:=A5 f a4 ah
  clear k
  have hb62l:=kb a4 hb62l (by omega)
  clear hb21l
  have hb21l:=cu;clear cu
  have e8:=bl hb21l
  have hb21l:dy.heap[m]? =some (.cells ((Sha.adding Sj T 1).map fun x=>U x).toArray 90 (0,0)):=AF hb21l (rfl)
  refine gS (Yk.atArr0 (i:=1) A9 A0 h rfl (by omega) (gS (Yk.cell1 AV rfl rfl (cellAt hb21l (AI (i:=1) (by rw[Sha.adding_length,hSl];omega))) (gS (Yk.bin rfl a2 rfl (BR _ _ _) (gS (Yk.atArr0 (i:=1) A9 A0 h rfl (by omega) (gS (Yk.storeU32 (i:=1) (v:=((Sha.adding Sj T 1).getD (1) 0)+(T.getD 1 0)) rfl rfl hb21l (by rw[Sha.adding_length,hSl];omega) Fz fun dz cv a5 e9=> ?_)))))))))
  have hE:=Aa hE a5 (Nat.le_trans ae (by omega))
  have c:=kb a5 c (by omega)
  have g:=Aa g a5 (Nat.le_trans (Nat.le_refl _) (by omega))
  have f:=A5 f a5 ah
  have hb62l:=kb a5 hb62l (by omega)
  clear hb21l
  have hb21l:=cv;clear cv
  have fa:=bl hb21l
  have hb21l:dz.heap[m]? =some (.cells ((Sha.adding Sj T 2).map fun x=>U x).toArray 90 (0,0)):=AF hb21l (rfl)
  refine gS (Yk.atArr0 (i:=2) A9 A0 h rfl (by omega) (gS (Yk.cell1 AV rfl rfl (cellAt hb21l (AI (i:=2) (by rw[Sha.adding_length,hSl];omega))) (gS (Yk.bin rfl a3 rfl (BR _ _ _) (gS (Yk.atArr0 (i:=2) A9 A0 h rfl (by omega) (gS (Yk.storeU32 (i:=2) (v:=((Sha.adding Sj T 2).getD (2) 0)+(T.getD 2 0)) rfl rfl hb21l (by rw[Sha.adding_length,hSl];omega) Fz fun d0 cw a6 fb=> ?_)))))))))
  have hE:=Aa hE a6 (Nat.le_trans ae (by omega))
  have c:=kb a6 c (by omega)
  have g:=Aa g a6 (Nat.le_trans (Nat.le_refl _) (by omega))
  have f:=A5 f a6 ah
  have hb62l:=kb a6 hb62l (by omega)
  clear hb21l
  have hb21l:=cw;clear cw
  have fc:=bl hb21l
  have hb21l:d0.heap[m]? =some (.cells ((Sha.adding Sj T 3).map fun x=>U x).toArray 90 (0,0)):=AF hb21l (rfl)
  refine gS (Yk.atArr0 (i:=3) A9 A0 h rfl (by omega) (gS (Yk.cell1 AV rfl rfl (cellAt hb21l (AI (i:=3) (by rw[Sha.adding_length,hSl];omega))) (gS (Yk.bin rfl bw rfl (BR _ _ _) (gS (Yk.atArr0 (i:=3) A9 A0 h rfl (by omega) (gS (Yk.storeU32 (i:=3) (v:=((Sha.adding Sj T 3).getD (3) 0)+(T.getD 3 0)) rfl rfl hb21l (by rw[Sha.adding_length,hSl];omega) Fz fun d1 cx a7 fd=> ?_)))))))))
  have hE:=Aa hE a7 (Nat.le_trans ae (by omega))
  have c:=kb a7 c (by omega)
  have g:=Aa g a7 (Nat.le_trans (Nat.le_refl _) (by omega))
  have f:=A5 f a7 ah
  have hb62l:=kb a7 hb62l (by omega)
  clear hb21l
  have hb21l:=cx;clear cx
  have fe:=bl hb21l
  have hb21l:d1.heap[m]? =some (.cells ((Sha.adding Sj T 4).map fun x=>U x).toArray 90 (0,0)):=AF hb21l (rfl)
  refine gS (Yk.atArr0 (i:=4) A9 A0 h rfl (by omega) (gS (Yk.cell1 AV rfl rfl (cellAt hb21l (AI (i:=4) (by rw[Sha.adding_length,hSl];omega))) (gS (Yk.bin rfl aj rfl (BR _ _ _) (gS (Yk.atArr0 (i:=4) A9 A0 h rfl (by omega) (gS (Yk.storeU32 (i:=4) (v:=((Sha.adding Sj T 4).getD (4) 0)+(T.getD 4 0)) rfl rfl hb21l (by rw[Sha.adding_length,hSl];omega) Fz fun d2 cy a8 ff=> ?_)))))))))
  have hE:=Aa hE a8 (Nat.le_trans ae (by omega))
  have c:=kb a8 c (by omega)
  have g:=Aa g a8 (Nat.le_trans (Nat.le_refl _) (by omega))
  have f:=A5 f a8 ah
  have hb62l:=kb a8 hb62l (by omega)
  clear hb21l
  have hb21l:=cy;clear cy
  have fg:=bl hb21l
  have hb21l:d2.heap[m]? =some (.cells ((Sha.adding Sj T 5).map fun x=>U x).toArray 90 (0,0)):=AF hb21l (rfl)
  refine gS (Yk.atArr0 (i:=5) A9 A0 h rfl (by omega) (gS (Yk.cell1 AV rfl rfl (cellAt hb21l (AI (i:=5) (by rw[Sha.adding_length,hSl];omega))) (gS (Yk.bin rfl bd rfl (BR _ _ _) (gS (Yk.atArr0 (i:=5) A9 A0 h rfl (by omega) (gS (Yk.storeU32 (i:=5) (v:=((Sha.adding Sj T 5).getD (5) 0)+(T.getD 5 0)) rfl rfl hb21l (by rw[Sha.adding_length,hSl];omega) Fz fun d3 cz a9 fh=> ?_)))))))))
  have hE:=Aa hE a9 (Nat.le_trans ae (by omega))
  have c:=kb a9 c (by omega)
  have g:=Aa g a9 (Nat.le_trans (Nat.le_refl _) (by omega))
  have f:=A5 f a9 ah
  have hb62l:=kb a9 hb62l (by omega)
  clear hb21l
  have hb21l:=cz;clear cz
  have fi:=bl hb21l
  have hb21l:d3.heap[m]? =some (.cells ((Sha.adding Sj T 6).map fun x=>U x).toArray 90 (0,0)):=AF hb21l (rfl)
  refine gS (Yk.atArr0 (i:=6) A9 A0 h rfl (by omega) (gS (Yk.cell1 AV rfl rfl (cellAt hb21l (AI (i:=6) (by rw[Sha.adding_length,hSl];omega))) (gS (Yk.bin rfl be rfl (BR _ _ _) (gS (Yk.atArr0 (i:=6) A9 A0 h rfl (by omega) (gS (Yk.storeU32 (i:=6) (v:=((Sha.adding Sj T 6).getD (6) 0)+(T.getD 6 0)) rfl rfl hb21l (by rw[Sha.adding_length,hSl];omega) Fz fun d4 c0 ba fj=> ?_)))))))))
  have hE:=Aa hE ba (Nat.le_trans ae (by omega))
  have c:=kb ba c (by omega)
  have g:=Aa g ba (Nat.le_trans (Nat.le_refl _) (by omega))
  have f:=A5 f ba ah
  have hb62l:=kb ba hb62l (by omega)
  clear hb21l
  have hb21l:=c0;clear c0
  have fk:=bl hb21l
  have hb21l:d4.heap[m]? =some (.cells ((Sha.adding Sj T 7).map fun x=>U x).toArray 90 (0,0)):=AF hb21l (rfl)
  refine gS (Yk.atArr0 (i:=7) A9 A0 h rfl (by omega) (gS (Yk.cell1 AV rfl rfl (cellAt hb21l (AI (i:=7) (by rw[Sha.adding_length,hSl];omega))) (gS (Yk.bin rfl bx rfl (BR _ _ _) (gS (Yk.atArr0 (i:=7) A9 A0 h rfl (by omega) (gS (Yk.storeU32 (i:=7) (v:=((Sha.adding Sj T 7).getD (7) 0)+(T.getD 7 0)) rfl rfl hb21l (by rw[Sha.adding_length,hSl];omega) Fz fun d5 c1 bb fl=> ?_)))))))))
  have hE:=Aa hE bb (Nat.le_trans ae (by omega))
  have c:=kb bb c (by omega)
  have g:=Aa g bb (Nat.le_trans (Nat.le_refl _) (by omega))
  have f:=A5 f bb ah
  have hb62l:=kb bb hb62l (by omega)
  clear hb21l
  have hb21l:=c1;clear c1
  have fm:=bl hb21l
  have hb21l:d5.heap[m]? =some (.cells ((Sha.adding Sj T 8).map fun x=>U x).toArray 90 (0,0)):=AF hb21l (rfl)
  refine gS (Yk.bin (xv:=NI (64*j)) (yv:=NI 64) o rfl rfl (Ap _ _ _ (by omega)) (gK (And.intro ⟨j+1,T0,y,h,p,rfl,hE,c,g,f,AF hb21l (congrArg (List.map fun x=>U x) (by rw[Sha.add8 hSl hTl,hT,hF,Sha.blocks_snoc,←hSj,←hB];rfl)),by omega,trivial⟩ ?_)))
  show P.length-(intOf (NI ((64*j)+(64)))).toNat<P.length-(intOf (dh 5)).toNat
  rw[q5]
  simp only[intOf,Int.toNat_natCast];omega
 obtain⟨Sf,hSe⟩:∃Sf,Sf=Sha.blocks Sha.first P j:=⟨_,rfl⟩
 have hb21l:al.heap[m]? =some (.cells (Sf.map fun x=>U x).toArray 90 (0,0)):=AF hb21l (by rw[hSe])
 have hSf:Sf.length=8:=by rw[hSe,Sha.blocks_length _ _ _ rfl]
 have hjK:j=P.length/64:=by omega
 refine gS (Yk.alloc (cs:=(Lib.byteCells (List.replicate 32 0)).toArray) IX fun bg d6 c2 c3 au fn=> ?_)
 have s:=Ext.refl al
 have bh:=hE.size
 have bi:=g.size
 have fo:=AE (bl c) c2
 have fp:=AE (bl hb21l) c2
 have bj:OB u bg:=By f (by omega)
 have c4:=c3;clear c3
 have fq:bg<d6.heap.size:=by omega
 have hE:=hE.trans au
 have c:=eb au c
 have g:=g.trans au
 have f:=Stab.own _ _ _ _ _ _ _ _ f au
 have hb21l:=eb au hb21l
 have s:=s.trans au
 refine gL (fun(ρ:Ai) (wz:World)=>∃q:Nat,ρ 0=(v:Value)∧ρ 2=(PQ n2 0:Value)∧ρ 3=(PQ m 0:Value)∧ρ 4=(u:Value)∧ρ 5=(NI (64*j):Value)∧ρ 21=(PQ bg 0:Value)∧ρ 22=(NI q:Value)∧Ext w wz∧wz.heap[n2]? =some (.cells (Lib.byteCells (List.replicate 32 0)).toArray 54 (0,0))∧Ext w3 wz∧wz.ownsRow a0.heap.size 5 1 u (P:List UInt8).length (Lib.byteCells (P))∧wz.heap[m]? =some (.cells (Sf.map fun x=>U x).toArray 90 (0,0))∧Ext al wz∧wz.heap[bg]? =some (.cells (Lib.byteCells (Sha.outs Sf q)).toArray 54 (0,0))∧(q≤8)∧True) (fun ρ _=>8-(intOf (ρ 22)).toNat) ⟨0,T0,y,h,p,o,rfl,rfl,hE,c,g,f,hb21l,s,AF c4 (rfl),Nat.zero_le _,trivial⟩ ?_
 clear c4
 clear hE c g f hb21l s
 rintro d7 fr ⟨q,T0,y,h,p,o,av,ac,hE,c,g,f,hb21l,s,hb205l,hq,-⟩
 have q22:=ac
 refine gS (Yk.eqI (a:=(q:Nat)) (b:=(8:Nat)) ac rfl (AO _ _ _ _) ?_)
 refine cD rfl (fun c5=> ?_) fun c5=> ?_
 ·refine gS (Yk.bin (xv:=NI 4) (yv:=NI q) rfl ac rfl (BH _ _ _ (by omega)) (gS (Yk.atArr0 (i:=q) A9 A0 h ac (by omega) (gS (Yk.cell1 AV rfl rfl (cellAt hb21l (AI (i:=q) (by rw[hSf];omega))) (gS (Yk.bin rfl rfl rfl (DM _ _ _ 24 (by decide)) (gS (Yk.narrow AV Ds rfl (gS (Yk.atArr0 (i:=(4)*(q)) IU Fy av rfl (by omega) (gS (Yk.storeB8 (i:=(4)*(q)) (v:=(((Sf).getD (q) 0)>>>24).toUInt8) rfl rfl hb205l (by rw[Sha.outs_length _ hSf _ (by omega)];omega) NA fun fs c6 aw ft=> ?_)))))))))))))
  have hE:=Aa hE aw (Nat.le_trans bh (by omega))
  have c:=kb aw c (by omega)
  have g:=Aa g aw (Nat.le_trans bi (by omega))
  have f:=A5 f aw bj
  have hb21l:=kb aw hb21l (by omega)
  have s:=Aa s aw (Nat.le_trans (Nat.le_refl _) (by omega))
  clear hb205l
  have hb205l:=c6;clear c6
  have fu:=bl hb205l
  refine gS (Yk.bin (xv:=NI 4) (yv:=NI q) rfl ac rfl (BH _ _ _ (by omega)) (gS (Yk.bin (xv:=NI ((4)*(q))) (yv:=NI 1) rfl rfl rfl (Ap _ _ _ (by omega)) (gS (Yk.atArr0 (i:=q) A9 A0 h ac (by omega) (gS (Yk.cell1 AV rfl rfl (cellAt hb21l (AI (i:=q) (by rw[hSf];omega))) (gS (Yk.bin rfl rfl rfl (DM _ _ _ 16 (by decide)) (gS (Yk.narrow AV Ds rfl (gS (Yk.atArr0 (i:=((4)*(q))+(1)) IU Fy av rfl (by omega) (gS (Yk.storeB8 (i:=((4)*(q))+(1)) (v:=(((Sf).getD (q) 0)>>>16).toUInt8) rfl rfl hb205l (by rw[List.length_set,Sha.outs_length _ hSf _ (by omega)];omega) NA fun fv c7 ax fw=> ?_)))))))))))))))
  have hE:=Aa hE ax (Nat.le_trans bh (by omega))
  have c:=kb ax c (by omega)
  have g:=Aa g ax (Nat.le_trans bi (by omega))
  have f:=A5 f ax bj
  have hb21l:=kb ax hb21l (by omega)
  have s:=Aa s ax (Nat.le_trans (Nat.le_refl _) (by omega))
  clear hb205l
  have hb205l:=c7;clear c7
  have fx:=bl hb205l
  refine gS (Yk.bin (xv:=NI 4) (yv:=NI q) rfl ac rfl (BH _ _ _ (by omega)) (gS (Yk.bin (xv:=NI ((4)*(q))) (yv:=NI 2) rfl rfl rfl (Ap _ _ _ (by omega)) (gS (Yk.atArr0 (i:=q) A9 A0 h ac (by omega) (gS (Yk.cell1 AV rfl rfl (cellAt hb21l (AI (i:=q) (by rw[hSf];omega))) (gS (Yk.bin rfl rfl rfl (DM _ _ _ 8 (by decide)) (gS (Yk.narrow AV Ds rfl (gS (Yk.atArr0 (i:=((4)*(q))+(2)) IU Fy av rfl (by omega) (gS (Yk.storeB8 (i:=((4)*(q))+(2)) (v:=(((Sf).getD (q) 0)>>>8).toUInt8) rfl rfl hb205l (by rw[List.length_set,List.length_set,Sha.outs_length _ hSf _ (by omega)];omega) NA fun fy c8 ay fz=> ?_)))))))))))))))
  have hE:=Aa hE ay (Nat.le_trans bh (by omega))
  have c:=kb ay c (by omega)
  have g:=Aa g ay (Nat.le_trans bi (by omega))
  have f:=A5 f ay bj
  have hb21l:=kb ay hb21l (by omega)
  have s:=Aa s ay (Nat.le_trans (Nat.le_refl _) (by omega))
  clear hb205l
  have hb205l:=c8;clear c8
  have f0:=bl hb205l
  refine gS (Yk.bin (xv:=NI 4) (yv:=NI q) rfl ac rfl (BH _ _ _ (by omega)) (gS (Yk.bin (xv:=NI ((4)*(q))) (yv:=NI 3) rfl rfl rfl (Ap _ _ _ (by omega)) (gS (Yk.atArr0 (i:=q) A9 A0 h ac (by omega) (gS (Yk.cell1 AV rfl rfl (cellAt hb21l (AI (i:=q) (by rw[hSf];omega))) (gS (Yk.narrow AV Ds rfl (gS (Yk.atArr0 (i:=((4)*(q))+(3)) IU Fy av rfl (by omega) (gS (Yk.storeB8 (i:=((4)*(q))+(3)) (v:=((Sf).getD (q) 0).toUInt8) rfl rfl hb205l (by rw[List.length_set,List.length_set,List.length_set,Sha.outs_length _ hSf _ (by omega)];omega) NA fun f1 c9 az f2=> ?_)))))))))))))
  have hE:=Aa hE az (Nat.le_trans bh (by omega))
  have c:=kb az c (by omega)
  have g:=Aa g az (Nat.le_trans bi (by omega))
  have f:=A5 f az bj
  have hb21l:=kb az hb21l (by omega)
  have s:=Aa s az (Nat.le_trans (Nat.le_refl _) (by omega))
  clear hb205l
  have hb205l:=c9;clear c9
  have f3:=bl hb205l
  refine gS (Yk.bin (xv:=NI q) (yv:=NI 1) ac rfl rfl (Ap _ _ _ (by omega)) (gK (And.intro ⟨q+1,T0,y,h,p,o,av,rfl,hE,c,g,f,hb21l,s,AF hb205l (congrArg Lib.byteCells (Sha.outs_step Sf hSf q c5)),by omega,trivial⟩ ?_)))
  show 8-(intOf (NI ((q)+(1)))).toNat<8-(intOf (d7 22)).toNat
  rw[q22]
  simp only[intOf,Int.toNat_natCast];omega
 refine gS (Yk.loadAll av hb205l IU rfl (by rw[List.size_toArray,Lib.byteCells_length,Sha.outs_length _ hSf _ (by omega)];exact R5) (gS (Yk.storeAll y (vr (AB (Sha.outs Sf q)) rfl) c (by rw[List.size_toArray,Lib.byteCells_length,Sha.outs_length _ hSf _ (by omega)];rfl) (by rw[List.size_toArray,Lib.byteCells_length,Sha.outs_length _ hSf _ (by omega)];exact R5) (Ah _) fun f4 da bk f5=> ?_)))
 have hE:=Aa hE bk (Nat.le_trans (Nat.le_refl _) (by omega))
 clear g
 have f:=A5 f bk df
 have hb21l:=kb bk hb21l (by omega)
 clear s
 have hb205l:=kb bk hb205l (by omega)
 clear c
 have c:=da;clear da
 have f6:=bl c
 refine F6 rfl (ResF.row y c IU rfl (by rw[List.size_toArray,Lib.byteCells_length,Sha.outs_length _ hSf _ (by omega)];exact R5)) ?_
 refine⟨?_,hE⟩
 have e:Sha.outs Sf q=Sha.sum l:=by rw[show q=8 by omega,Sha.outs_all Sf hSf,hSe,hjK,hP];rfl
 rw[e]
open Go.RowKit
set_option maxRecDepth 100000
set_option linter.unusedVariables false
set_option linter.unusedSimpArgs false
theorem Cu{D:An}{b:List UInt8}{r:An × List UInt8 × List UInt8 × Nat}(h:A2 D b=r):r.2.1.length=32:=by
 have hf:∀x:An × Nat,(Cm x (Sha.sum b)).2.1.length=32:=fun x=>by
  unfold Cm
  split
  ·rfl
  ·exact Sha.sum_length b
 subst h
 unfold A2
 split
 ·exact hf _
 split
 ·rfl
 split
 ·exact hf _
 split
 ·exact Sha.sum_length b
 ·exact hf _
section
variable (wb w : World) (g : Nat) (H : Dk) (D : An) (hD : DkG wb w g H D) (hG : Laid wb)
include hD hG
theorem So(vb:Value)(b:List UInt8)(hr:RB w vb b)(hoff:b= []∨∀i,vb.ownBlock=some i→¬A1 H D.files.length i)(hbl:b.length≤300)(n:Nat)(hB:DBd n D)(hn:n≤99000)(r:An × List UInt8 × List UInt8 × Nat)(hrr:A2 D b=r):
  Calls Tryz.prog 16 #[PQ g 0,vb] w fun e w' =>∃H' vo,e = .returned (.tuple #[AB r.2.1,vo,NI r.2.2.2])∧RB w' vo r.2.2.1∧DkW wb w g H D w' H' r.1:=by
 subst hrr
 exact NL wb w g H D hD hG vb b hr hoff hbl n hB hn
theorem N4(hL:Co D)(id:List UInt8)(hid:id.length=32)(r:List UInt8 × Nat)(hrr:A8 D id=r):
  Calls Tryz.prog 19 #[PQ g 0,AB id] w fun e w' =>∃v,e = .returned (.tuple #[v,NI r.2])∧RB w' v r.1∧Ext w w' :=by
 subst hrr
 exact HU wb w g H D hD hG hL id hid
end
theorem P0{a b:List (List UInt8)}{m:List (List UInt8)}(ha:Ew a)(hb:Ew b)(h1:∀x,x∈a↔x∈m)(h2:∀x,x∈b↔x∈m):a.length=b.length:=by
 have hn:∀ {l:List (List UInt8)},Ew l→l.Nodup:=fun h=>h.imp fun hab e=>by rw[e,G5]at hab;omega
 exact((List.perm_ext_iff_of_nodup (hn ha) (hn hb)).2 fun x=>(h1 x).trans (h2 x).symm).length_eq
theorem P1{a:List (List UInt8)}{m:List (List UInt8)}{x:List UInt8}(ha:Ew a)(h1:∀y,y∈a↔y∈m)(hm:m= [x]):a= [x]:=by
 subst hm
 have h2:=P0 ha (List.pairwise_singleton _ x) h1 (fun _=>Iff.rfl)
 match a,h2 with
 | [y],_=>rw[List.mem_singleton.1 ((h1 y).1 (List.mem_singleton.2 rfl))]
def aid1:List UInt8:=1 :: List.replicate 31 0
theorem RD:(Sha.sum [97,98,99]).getD 0 0=186:=by decide+kernel
theorem Ta{r:An × List UInt8 × List UInt8 × Nat}(h:A2 (AT 1000) [97,98,99]=r):
  Co r.1∧(As r.1).length≤100000∧r.2.2.2=0∧r.2.1=Sha.sum [97,98,99]∧A8 r.1 r.2.1=([97,98,99],0)∧(A8 r.1 aid1).2=12∧E7 r.1= [r.2.1]:=by
 have hm:Bu (Ad (Sha.sum [97,98,99]))=true:=LM (Sha.sum_length _)
 have r0:ReadyL (AT 1000):=⟨rfl,rfl,⟨DirOk.nil _,DirOk.nil _,(fun _ h=>by cases h),(fun _ h=>by cases h)⟩,List.Pairwise.nil⟩
 have hb:DBd 0 (AT 1000):=DBd.new (by decide)
 have c:Af (AT 1000) (Ad (Sha.sum [97,98,99])) [97,98,99]=(BN (AT 1000) (Ad (Sha.sum [97,98,99])) [97,98,99],0):=N1 rfl rfl hm (by decide)
 have hbD:=(DBd.append hb (Ad (Sha.sum [97,98,99])) (b:= [97,98,99]) (by decide)).sync (Ad (Sha.sum [97,98,99]))
 rw[c]at hbD
 have hnow:(BN (AT 1000) (Ad (Sha.sum [97,98,99])) [97,98,99]).now= [(Ad (Sha.sum [97,98,99]),0)]:=by
  rw[Kk rfl]
  show turnD [] ⟨[],Ad (Sha.sum [97,98,99]),0⟩=_
  unfold turnD
  rw[if_neg (by have:=(B0 hm).1;show ¬(Ad (Sha.sum [97,98,99])).length=0;omega)]
  rfl
 obtain⟨l1,l2⟩:=PZ (D:=AT 1000) (b:= [97,98,99]) hm rfl
 have e:=LK (r0.add hm [97,98,99]).down (r0.add hm [97,98,99]).arm hm l1
 obtain⟨-,hSy⟩:=Sy.sync (r0.add hm [97,98,99]) hm l1
 rw[l2]at hSy
 have hp:A2 (AT 1000) [97,98,99]=((Aw (BN (AT 1000) (Ad (Sha.sum [97,98,99])) [97,98,99]) (Ad (Sha.sum [97,98,99]))).1,Sha.sum [97,98,99],[],0):=by
  unfold A2
  rw[I9 rfl hm rfl,if_pos rfl,I8 (a:= .add _) (by show(Af _ _ _).2=0;rw[c])]
  show Cm (AS (Af _ _ _).1 _ _) _=_
  rw[c,I8 (a:= .sync) (by show(Aw _ _).2=0;rw[e])]
  show Cm ((Aw _ _).1,0) _=_
  exact Sn _ _
 rw[hp]at h
 subst h
 have hnow2:(Aw (BN (AT 1000) (Ad (Sha.sum [97,98,99])) [97,98,99]) (Ad (Sha.sum [97,98,99]))).1.now= [(Ad (Sha.sum [97,98,99]),0)]:=by rw[e];exact hnow
 generalize (Aw (BN (AT 1000) (Ad (Sha.sum [97,98,99])) [97,98,99]) (Ad (Sha.sum [97,98,99]))).1=E at *
 have hr:Az E (Ad (Sha.sum [97,98,99]))=([97,98,99],0):=by rw[RC hSy.down hm hSy.now,hSy.file]
 have hg:A8 E (Sha.sum [97,98,99])=([97,98,99],0):=by
  unfold A8
  rw[hr,if_neg (fun q=>q.elim (by decide) fun q=>q.2 rfl)]
 have hl:As E= [Ad (Sha.sum [97,98,99])]:=by
  unfold As
  rw[if_neg (by rw[hSy.down];decide),hnow2]
  rfl
 have hc:AP [111,45] (Ad (Sha.sum [97,98,99]))=(hexOf (Sha.sum [97,98,99]),true):=rfl
 refine⟨hbD.lt (by decide),by rw[hl];decide,rfl,rfl,hg,?_,?_⟩
 ·have hne:Ad aid1≠Ad (Sha.sum [97,98,99]):=fun q=>by
   have q1:hexOf aid1=hexOf (Sha.sum [97,98,99]):=List.append_cancel_left q
   have q2:=E6 aid1 rfl
   rw[q1,E6 _ (Sha.sum_length _)]at q2
   have q3:=congrArg (fun x:List UInt8 × Bool=>x.1.getD 0 0) q2
   have q4:(Sha.sum [97,98,99]).getD 0 0=1:=q3
   rw[RD]at q4
   cases q4
  have hn:AD E.now (Ad aid1)=none:=by
   rw[hnow2,B7,if_neg (fun q=>hne q.symm)]
   rfl
  unfold A8
  rw[I9 hSy.down (LM rfl) hn,if_pos (.inl rfl)]
 ·unfold E7
  rw[hl]
  have:BK E (Ad (Sha.sum [97,98,99]))=some (Sha.sum [97,98,99]):=by
   unfold BK
   rw[hc,E6 _ (Sha.sum_length _)]
   show(if true=true∧true=true∧(A8 E (Sha.sum [97,98,99])).2=0 then some _ else none)=_
   rw[hg,if_pos ⟨rfl,rfl,rfl⟩]
  rw[List.filterMap_cons_some this]
  rfl
theorem RE:Plain Tryz.prog 5:=fun _ _=>by kernel_rfl
theorem P2:Plain Tryz.prog 16:=fun _ _=>by kernel_rfl
theorem RF(w:World):(Instr.build 54 #[(0, .int .u8 1)]).run Tryz.prog w = .ok (AB aid1) w:=by kernel_rfl
theorem P3:Plain Tryz.prog 12:=fun _ _=>by kernel_rfl
theorem P4:Plain Tryz.prog 15:=fun _ _=>by kernel_rfl
set_option maxHeartbeats 1600000
theorem LN(w:World)(hG:Laid w):
  Calls Tryz.prog 14 #[] w fun e w' =>e = .returned (.bool true)∧Ext w w' :=by
 refine gG (args:= []) Tryz.func14 rfl 58 rfl rfl ?_
 have hE:=Ext.refl w
 refine gS (Yk.callA1 RE rfl ((QP w _ hE 1000 (by decide)).mono ?_))
 rintro e w4 ⟨g1,H1,rfl,hD,au⟩
 refine⟨_,rfl,?_⟩
 have hDb0:=hD
 refine gS (Yk.litN (e:=5) ([97,98,99]:List UInt8) (by decide) (fun _ _=>by kernel_rfl) fun v6 w7 y=> ?_)
 have p:=Ext.refl w4
 have hE:=hE.trans au
 have av:=hE.size
 have s:=y.own
 have hoff0:∀i,v6.ownBlock=some i→¬A1 H1 (AT 1000).files.length i:=fun i hi q=>by have h1:=(hDb0.st.foot q).2.1;have h2:=(s.lt i hi).1;omega
 refine gS (Yk.convMark S2 Ds rfl s (by decide) fun b3 af ag=> ?_)
 have hE:=hE.trans y.ext
 have hE:=Ag hE ag s av
 have p:=p.trans y.ext
 have p:=Ag p ag s (Nat.le_refl _)
 clear s
 have hDb:=(hD.keep p)
 obtain⟨r1,n⟩:∃r,A2 (AT 1000) ([97,98,99]:List UInt8)=r:=⟨_,rfl⟩
 have hDc:=(hD.keep p)
 have hDb2:=hDc
 refine gS (Yk.callA2 P2 rfl rfl ((So _ _ _ _ _ hDc hG v6 ([97,98,99]:List UInt8) af (.inr hoff0) (by decide) 0 (DBd.new (by decide)) (by omega) r1 n).mono ?_))
 rintro e ah ⟨H16,z,rfl,b4,hW19⟩
 refine⟨_,rfl,?_⟩
 have hD20:=hW19.g
 have hC21:=hW19.chg
 have haw:=Ta n
 have hE:Ext w ah:=hD20.ext
 clear p
 clear af
 have hD:=hD20
 refine gS (Yk.extract (vs:= [AB r1.2.1,z,NI r1.2.2.2]) rfl rfl (gS (Yk.extract (vs:= [AB r1.2.1,z,NI r1.2.2.2]) rfl rfl (gS (Yk.extract (vs:= [AB r1.2.1,z,NI r1.2.2.2]) rfl rfl (gS (Yk.alloc (cs:=(Lib.byteCells (List.replicate 32 0)).toArray) IX fun t aw b5 ai aj b6=> ?_)))))))
 have f:=Ext.refl ah
 have ax:=hE.size
 have j:=ai;clear ai
 have b7:t<aw.heap.size:=by omega
 refine gS (Yk.storeAll (vr (PQ t 0) rfl) (vr (AB r1.2.1) rfl) j (by exact Bg (Cu n) List.length_replicate) (by exact Ae (Cu n)) (Ah _) fun b8 ak al b9=> ?_)
 have hE:=hE.trans aj
 have hE:=Aa hE al (Nat.le_trans ax (by omega))
 have f:=f.trans aj
 have f:=Aa f al (Nat.le_trans (Nat.le_refl _) (by omega))
 clear j
 have j:=ak;clear ak
 have ca:=bl j
 refine gS (Yk.loadAll rfl j IU rfl (by exact Ae (Cu n)) ?_)
 have hDc:=(hD.keep f)
 obtain⟨r2,am⟩:∃r,A8 (r1.1) r1.2.1=r:=⟨_,rfl⟩
 refine gS (Yk.callA2 PK rfl rfl ((N4 _ _ _ _ _ hDc hG haw.1 r1.2.1 (Cu n) r2 am).mono ?_))
 rintro e cb ⟨u,rfl,aa,an⟩
 refine⟨_,rfl,?_⟩
 refine gS (Yk.extract (vs:= [u,NI r2.2]) rfl rfl (gS (Yk.extract (vs:= [u,NI r2.2]) rfl rfl (gS (Yk.build1 rfl (fun w=>RF w) ?_)))))
 have f:=f.trans an
 have hDc:=(hD.keep f)
 obtain⟨r3,ao⟩:∃r,A8 (r1.1) aid1=r:=⟨_,rfl⟩
 refine gS (Yk.callA2 PK rfl rfl ((N4 _ _ _ _ _ hDc hG haw.1 aid1 rfl r3 ao).mono ?_))
 rintro e c ⟨ap,rfl,cc,ab⟩
 refine⟨_,rfl,?_⟩
 refine gS (Yk.extract (vs:= [ap,NI r3.2]) rfl rfl (gS (Yk.extract (vs:= [ap,NI r3.2]) rfl rfl ?_)))
 have h2:r2=([97,98,99],0):=am.symm.trans haw.2.2.2.2.1
 have h3:r3.2=12:=by rw[←ao];exact haw.2.2.2.2.2.1
 refine gR ?_
 have ay:=Ext.refl c
 have hZ1:=an.trans ab
 have hE:=hE.trans hZ1
 have cd:=hE.size
 have f:=f.trans ab
 have ce:=f.size
 have j:=eb hZ1 j
 have cf:t<c.heap.size:=(bl j)
 refine Ip c.heap.size (Nat.le_refl _) [24] (fun m=>if m=24 then [17,23]else []) (fun m=>if m=24 then [17,23,24]else []) [Is (NI r1.2.2.2),Is (.bool (true)),Is (.bool (true)),Is (NI r2.2),Is (.bool (true)),Is (.bool (true)),Is (.bool (true)),Is (u),Is (St (r2.1)),Is (.bool (true)),Is (.bool (true)),Is (.bool (true)),Is (NI r3.2),Is (.bool (true)),Is (.bool (true)),Is (.bool (true)),Is (PQ g1 0),fun x w' =>RG 32 (Lib.byteCells) w' x ([r1.2.1]),Is (NI (([r1.2.1]).length)),Is (.bool (true)),Is (.bool (true)),Is (.bool (true)),Is (AB r1.2.1),fun x w' =>w'.ownsRow c.heap.size 5 1 x ([97,98,99]:List UInt8).length (Lib.byteCells (([97,98,99]:List UInt8))),fun x w' =>RB w' x (([97,98,99]:List UInt8)),Is (AB (Sha.sum ([97,98,99]:List UInt8))),Is (.bool (true)),Is (.bool (true)),Is (.bool (true))] (by kernel_rfl) [30,31,32,33,34,35,36,37,38,39,40,41,42,43,44,45,46,47,48,49,50,51,52,53,54,55,56,57,0] (by kernel_rfl) (by kernel_rfl) (by kernel_rfl) (by kernel_rfl) (SY (OR ⟨(fun _ _ _ h k=>RG.keep h k),(SY ⟨(Stab.own _ _ _ _ _),(fun _ _ _ h k=>RB.keep h k),(RX trivial)⟩)⟩)) ⟨⟨.inr (Stab.is _), .inr (Stab.is _), .inr (Stab.is _), .inr (Stab.is _), .inr (Stab.is _), .inr (Stab.is _), .inr (Stab.is _), .inr (Stab.is _), .inr (Stab.is _), .inr (Stab.is _), .inr (Stab.is _), .inr (Stab.is _), .inr (Stab.is _), .inr (Stab.is _), .inr (Stab.is _), .inr (Stab.is _), .inr (Stab.is _), .inl rfl, .inr (Stab.is _), .inr (Stab.is _), .inr (Stab.is _), .inr (Stab.is _), .inr (Stab.is _), .inl rfl, .inl rfl, .inr (Stab.is _), .inr (Stab.is _), .inr (Stab.is _), .inr (Stab.is _),trivial⟩,trivial⟩ ?az ?hQ1005
 have aa:=aa.keep ab
 case az=>
  refine⟨?_,?_,?_,?_,?_,?_,?_,?_,?_,?_,?_,?_,?_,?_,?_,?_,?_,?_,?_,?_,?_,?_,?_,?_,?_,?_,?_,?_,?_,trivial⟩
  ·refine AC rfl fun σ w1 hC h=> ?_
   have hC:Ext c w1:=hC
   have e4:σ 4=NI r1.2.2.2:=(AR (h 4 (by decide))).trans rfl
   exact Yk.move e4 ⟨Ext.refl _,rfl⟩
  ·refine AC rfl fun σ w1 hC h=> ?_
   have hC:Ext c w1:=hC
   have a1:=AR (h 30 (by decide))
   exact Yk.eqI (a:=(r1.2.2.2:Nat)) (b:=(0:Nat)) a1 rfl (AY _ _ _ _) ⟨Ext.refl _,(congrArg Value.bool (decide_eq_true (haw.2.2.1)))⟩
  ·refine AC rfl fun σ w1 hC h=> ?_
   have hC:Ext c w1:=hC
   have a2:=AR (h 31 (by decide))
   exact Yk.move a2 ⟨Ext.refl _,rfl⟩
  ·refine Cq 2 true 32 rfl rfl (fun _ _ h=>h) fun σ w1 hC h=> ?_
   have hC:Ext c w1:=hC
   have e6:σ 6=NI r2.2:=(AR (h 6 (by decide))).trans rfl
   exact Yk.move e6 ⟨Ext.refl _,rfl⟩
  ·refine Cq 2 true 32 rfl rfl (fun _ _ h=>h) fun σ w1 hC h=> ?_
   have hC:Ext c w1:=hC
   have a4:=AR (h 33 (by decide))
   exact Yk.eqI (a:=(r2.2:Nat)) (b:=(0:Nat)) a4 rfl (AY _ _ _ _) ⟨Ext.refl _,(congrArg Value.bool (decide_eq_true (congrArg Prod.snd h2)))⟩
  ·refine AC rfl fun σ w1 hC h=> ?_
   have hC:Ext c w1:=hC
   have a5:=AR (h 32 (by decide))
   have a6:=AR (h 34 (by decide))
   exact Yk.pickT a5 a6 ⟨Ext.refl _,rfl⟩
  ·refine AC rfl fun σ w1 hC h=> ?_
   have hC:Ext c w1:=hC
   have a7:=AR (h 35 (by decide))
   exact Yk.move a7 ⟨Ext.refl _,rfl⟩
  ·refine Cq 6 true 36 rfl rfl (fun _ _ h=>h) fun σ w1 hC h=> ?_
   have hC:Ext c w1:=hC
   have e5:σ 5=u:=(AR (h 5 (by decide))).trans rfl
   exact Yk.move e5 ⟨Ext.refl _,rfl⟩
  ·refine Cq 6 true 36 rfl rfl (fun _ _ h=>h) fun σ w1 hC h=> ?_
   have hC:Ext c w1:=hC
   have a9:=AR (h 37 (by decide))
   exact Yk.convRB S2 Ds Io (RB.of (aa.keep (ay.trans hC)) a9) ⟨Ext.refl _,rfl⟩
  ·refine Cq 6 true 36 rfl rfl (fun _ _ h=>h) fun σ w1 hC h=> ?_
   have hC:Ext c w1:=hC
   have ba:=AR (h 38 (by decide))
   exact Yk.eqSt (l:=r2.1) (m:=([97,98,99]:List UInt8)) (.inl rfl) ba (vr (St (([97,98,99]:List UInt8))) rfl) (decide ((r2.1:List UInt8)=(([97,98,99]:List UInt8):List UInt8))) rfl ⟨Ext.refl _,(congrArg Value.bool (decide_eq_true (congrArg Prod.fst h2)))⟩
  ·refine AC rfl fun σ w1 hC h=> ?_
   have hC:Ext c w1:=hC
   have bb:=AR (h 36 (by decide))
   have bc:=AR (h 39 (by decide))
   exact Yk.pickT bb bc ⟨Ext.refl _,rfl⟩
  ·refine AC rfl fun σ w1 hC h=> ?_
   have hC:Ext c w1:=hC
   have bd:=AR (h 40 (by decide))
   exact Yk.move bd ⟨Ext.refl _,rfl⟩
  ·refine Cq 11 true 41 rfl rfl (fun _ _ h=>h) fun σ w1 hC h=> ?_
   have hC:Ext c w1:=hC
   have e8:σ 8=NI r3.2:=(AR (h 8 (by decide))).trans rfl
   exact Yk.move e8 ⟨Ext.refl _,rfl⟩
  ·refine Cq 11 true 41 rfl rfl (fun _ _ h=>h) fun σ w1 hC h=> ?_
   have hC:Ext c w1:=hC
   have bf:=AR (h 42 (by decide))
   exact Yk.eqI (a:=(r3.2:Nat)) (b:=(12:Nat)) bf rfl (AY _ _ _ _) ⟨Ext.refl _,(congrArg Value.bool (decide_eq_true (h3)))⟩
  ·refine AC rfl fun σ w1 hC h=> ?_
   have hC:Ext c w1:=hC
   have bg:=AR (h 41 (by decide))
   have bh:=AR (h 43 (by decide))
   exact Yk.pickT bg bh ⟨Ext.refl _,rfl⟩
  ·refine AC rfl fun σ w1 hC h=> ?_
   have hC:Ext c w1:=hC
   have bi:=AR (h 44 (by decide))
   exact Yk.move bi ⟨Ext.refl _,rfl⟩
  ·refine Cq 15 true 45 rfl rfl (fun _ _ h=>h) fun σ w1 hC h=> ?_
   have hC:Ext c w1:=hC
   have e1:σ 1=PQ g1 0:=(AR (h 1 (by decide))).trans rfl
   exact Yk.move e1 ⟨Ext.refl _,rfl⟩
  ·refine Cq 15 true 45 rfl rfl (fun _ _ h=>h) fun σ w1 hC h=> ?_
   have hC:Ext c w1:=hC
   have bk:=AR (h 46 (by decide))
   refine Yk.callA1 P3 bk ((Kj _ _ _ _ _ (hD.keep (f.trans hC)) hG haw.1 haw.2.1).mono ?_)
   rintro e w2 ⟨v,o,rfl,ho,hS,hM,hN,hx⟩
   exact⟨_,rfl,hx,HI (RG.ofOwn ho) (P1 hS hM haw.2.2.2.2.2.2)⟩
  ·refine Cq 15 true 45 rfl rfl (fun _ _ h=>h) fun σ w1 hC h=> ?_
   have hC:Ext c w1:=hC
   have bm:(fun x w' =>RG 32 (Lib.byteCells) w' x ([r1.2.1])) (σ 47) w1:=h 47 (by decide)
   exact Yk.lenRG Bc bm ⟨Ext.refl _,rfl⟩
  ·refine Cq 15 true 45 rfl rfl (fun _ _ h=>h) fun σ w1 hC h=> ?_
   have hC:Ext c w1:=hC
   have bn:=AR (h 48 (by decide))
   exact Yk.eqI (a:=(([r1.2.1]).length:Nat)) (b:=(1:Nat)) bn rfl (AY _ _ _ _) ⟨Ext.refl _,(congrArg Value.bool (decide_eq_true (rfl)))⟩
  ·refine AC rfl fun σ w1 hC h=> ?_
   have hC:Ext c w1:=hC
   have bo:=AR (h 45 (by decide))
   have bp:=AR (h 49 (by decide))
   exact Yk.pickT bo bp ⟨Ext.refl _,rfl⟩
  ·refine AC rfl fun σ w1 hC h=> ?_
   have hC:Ext c w1:=hC
   have bq:=AR (h 50 (by decide))
   exact Yk.move bq ⟨Ext.refl _,rfl⟩
  ·refine Cq 21 true 51 rfl rfl (fun _ _ h=>h) fun σ w1 hC h=> ?_
   have hC:Ext c w1:=hC
   have e2:σ 2=PQ t 0:=(AR (h 2 (by decide))).trans rfl
   exact Yk.loadAll e2 (eb hC j) IU rfl (by exact Ae (Cu n)) ⟨Ext.refl _,rfl⟩
  ·refine Cq 21 true 51 rfl rfl (fun _ _ h=>h) fun σ w1 hC h=> ?_
   have hC:Ext c w1:=hC
   exact Yk.litN (e:=5) ([97,98,99]:List UInt8) (by decide) (fun _ _=>by kernel_rfl) fun v w2 hN=>⟨hN.ext,BZ hN.own hC.size⟩
  ·refine Cq 21 true 51 rfl rfl (fun _ _ h=>h) fun σ w1 hC h=> ?_
   have hC:Ext c w1:=hC
   have aq:(fun x w' =>w'.ownsRow c.heap.size 5 1 x ([97,98,99]:List UInt8).length (Lib.byteCells (([97,98,99]:List UInt8)))) (σ 53) w1:=h 53 (by decide)
   exact Yk.convMark S2 Ds rfl aq (by decide) fun w2 hr hg=>⟨hg.below hC.size (fun k hk=>(aq.lt k hk).1),hr⟩
  ·refine Cq 21 true 51 rfl rfl (fun _ _ h=>h) fun σ w1 hC h=> ?_
   have hC:Ext c w1:=hC
   have bs:(fun x w' =>RB w' x (([97,98,99]:List UInt8))) (σ 54) w1:=h 54 (by decide)
   refine Yk.callA1 P4 rfl ((Da _ (σ 54) ([97,98,99]:List UInt8) bs (by decide)).mono ?_)
   rintro e w2 ⟨rfl,hx⟩
   exact⟨_,rfl,hx,rfl⟩
  ·refine Cq 21 true 51 rfl rfl (fun _ _ h=>h) fun σ w1 hC h=> ?_
   have hC:Ext c w1:=hC
   have bt:=AR (h 52 (by decide))
   have bu:=AR (h 55 (by decide))
   exact Yk.eqArr (l1:=r1.2.1) (l2:=(Sha.sum ([97,98,99]:List UInt8))) IU Ds Fy PJ bt bu ((Cu n)) ((Sha.sum_length _)) ⟨Ext.refl _,(congrArg Value.bool (decide_eq_true (haw.2.2.2.1)))⟩
  ·refine AC rfl fun σ w1 hC h=> ?_
   have hC:Ext c w1:=hC
   have bv:=AR (h 51 (by decide))
   have bw:=AR (h 56 (by decide))
   exact Yk.pickT bv bw ⟨Ext.refl _,rfl⟩
  ·refine AC rfl fun σ w1 hC h=> ?_
   have hC:Ext c w1:=hC
   have bx:=AR (h 57 (by decide))
   exact Yk.assign bx ⟨Ext.refl _,rfl⟩
 intro bz b0 ad he hf
 obtain⟨-,-,-,-,-,-,-,-,-,-,-,-,-,-,-,-,-,-,-,-,-,-,-,-,-,-,-,-,k0,-⟩:=hf
 obtain⟨T1,T2,T4,T5,T6,T8,-⟩:=he.hold [(1,PQ g1 0),(2,PQ t 0),(4,NI r1.2.2.2),(5,u),(6,NI r2.2),(8,NI r3.2)] ⟨rfl,rfl,rfl,rfl,rfl,rfl,trivial⟩ rfl
 clear he
 have ad:Ext c b0:=ad
 have T0:bz 0 = .bool (true):=k0
 clear k0
 refine gX (AX rfl T0 ?_)
 have hE:=hE.trans ad
 exact⟨rfl,hE⟩
open Go.ChangeShapes Go.WideShapes Go.ChangeAt Go.RowKit
theorem LO:Tryz.prog.globalNamed "variorum/sha.first" = some 0:=by kernel_rfl
theorem P5:(Tryz.prog.globals[0]?).map (·.type)=some 90:=by kernel_rfl
theorem P6:Tryz.prog.cellsOf 90=8:=by kernel_rfl
def zs_first:List Int:= [1779033703,3144134277,1013904242,2773480762,1359893119,2600822924,528734635,1541459225]
theorem Lh:(zs_first.map fun z=>Value.int .u32 z).toArray=cellsU Sha.first:=by kernel_rfl
theorem LP:Tryz.prog.globalNamed "variorum/sha.words" = some 1:=by kernel_rfl
theorem P7:(Tryz.prog.globals[1]?).map (·.type)=some 91:=by kernel_rfl
theorem P8:Tryz.prog.cellsOf 91=64:=by kernel_rfl
def zs_words:List Int:= [1116352408,1899447441,3049323471,3921009573,961987163,1508970993,2453635748,2870763221,3624381080,310598401,607225278,1426881987,1925078388,2162078206,2614888103,3248222580,3835390401,4022224774,264347078,604807628,770255983,1249150122,1555081692,1996064986,2554220882,2821834349,2952996808,3210313671,3336571891,3584528711,113926993,338241895,666307205,773529912,1294757372,1396182291,1695183700,1986661051,2177026350,2456956037,2730485921,2820302411,3259730800,3345764771,3516065817,3600352804,4094571909,275423344,430227734,506948616,659060556,883997877,958139571,1322822218,1537002063,1747873779,1955562222,2024104815,2227730452,2361852424,2428436474,2756734187,3204031479,3329325298]
theorem Li:(zs_words.map fun z=>Value.int .u32 z).toArray=cellsU Sha.words:=by kernel_rfl
theorem Sp:Tryz.prog.cellsOf 89=1:=by kernel_rfl
theorem Ja{P:Program}{W:World}{name:String}{g:Nat}{cs:Array Value}(hg:P.globalNamed name=some g)(h:W.var? P name=some cs):∃t fr,W.heap[g]? =some (.cells cs t fr):=by
 unfold World.var? at h
 rw[hg]at h
 simp only[Option.bind_some]at h
 split at h
 ·rename_i cs' t fr he
  cases h
  exact⟨t,fr,he⟩
 ·cases h
theorem RH{W:World}(h:laidMetH Tryz.prog [("variorum/sha.first",Rows.laid_variorum_sha_first),("variorum/sha.words",Rows.laid_variorum_sha_words)] W):Laid W:=by
 have h1:Lib.TabIs Tryz.prog W "variorum/sha.first" .u32 zs_first:=Lib.tabIs_of_head LO P5 Tryz.underlying90 Tryz.underlying89 Sp P6 h
 have h2:Lib.TabIs Tryz.prog W "variorum/sha.words" .u32 zs_words:=Lib.tabIs_of_head (rest:= []) LP P7 Tryz.underlying91 Tryz.underlying89 Sp P8 (laidMet.tail h)
 unfold Lib.TabIs at h1 h2
 rw[Lh]at h1
 rw[Li]at h2
 exact⟨Ja LO h1,Ja LP h2⟩
noncomputable def Gp(os:Os):World:=
 let h0:=(World.holding Tryz.prog os ⟨#[],#[],[]⟩).heap
 let h1:=h0.modify 0 fun
   | .cells _ t frozen=> .cells (cellsU Sha.first) t frozen
   | o=>o
 let h2:=h1.modify 1 fun
   | .cells _ t frozen=> .cells (cellsU Sha.words) t frozen
   | o=>o
 { World.holding Tryz.prog os ⟨#[],#[],[]⟩with heap:=h2 }
theorem P9(os:Os)(args:Array Value):laidMet Tryz.prog [("variorum/sha.first",Rows.laid_variorum_sha_first),("variorum/sha.words",Rows.laid_variorum_sha_words)] ((Gp os).forCall (fun _ _=>0) ⟨#[],args,[]⟩).memory:=
 laidMet_of_run' 8 (by kernel_rfl) (by kernel_rfl)
open Go.ChangeShapes Go.WideShapes Go.ChangeAt Go.RowKit Go.Deep
section
variable {H : Type} (enc : TypeId × Value → H) (P : Program) (W : World)
def Opn{α:Type}(t:TypeId)(f:α→List Value)(OK:α→Prop):Prop:=
  ∀fuel cs (x:DataW H × List MemPlace),DataW.trod enc P W 0 (fun _=>true) true fuel t cs=some x→∃a,cs=f a∧OK a
end
section
variable {H : Type} {enc : TypeId × Value → H} {P : Program} {W : World}
theorem Opn.i64{t:TypeId}(ht:P.underlying t=some (.int .i64)):Opn enc P W t (fun z:Int=> [.int .i64 z]) (fun z=> -9223372036854775808≤z∧z≤9223372036854775807):=fun fuel cs x h=>by
  obtain⟨n,rfl,-,hw⟩:=DataW.trod_int ht h
  exact⟨n,rfl,by simpa [Lit.wf,IntKind.min,IntKind.max,IntKind.signed,IntKind.bits] using hw⟩
theorem Opn.bytes{t e:TypeId}(ht:P.underlying t=some (.slice e))(he:P.underlying e=some (.int .u8))(hc:P.cellsOf e=1):Opn enc P W t (fun v:Value × Bs=> [v.1]) (fun v=>RB W v.1 v.2):=fun fuel cs x h=>by
  obtain⟨c,l,rfl,h1,-⟩:=K3 ht he hc h
  exact⟨(c,l),rfl,h1⟩
theorem Jb{α:Type}{k:Nat}{f:α→List Value}(d:α):∀(l:List α),(∀x∈l,(f x).length=k)→∀i r,r<k→i<l.length→(l.flatMap f)[i*k+r]? =(f (l.getD i d))[r]?
  | [],_,i,r,_,hi=>by cases hi
  | a :: l,h,0,r,hr,_=>by
    rw[List.flatMap_cons,Nat.zero_mul,Nat.zero_add,List.getElem?_append_left (by rw[h a (by simp)];exact hr)]
    rfl
  | a :: l,h,i+1,r,hr,hi=>by
    have ha:=h a (by simp)
    rw[List.flatMap_cons,List.getElem?_append_right (by rw[ha,Nat.add_mul];omega),ha,show(i+1)*k+r-k=i*k+r by rw[Nat.add_mul];omega]
    exact Jb d l (fun x hx=>h x (by simp[hx])) i r hr (by simpa using hi)
theorem Gq{α:Type}{k:Nat}{f:α→List Value}:∀(l:List α),(∀x∈l,(f x).length=k)→(l.flatMap f).length=l.length*k
  | [],_=>by simp
  | a :: l,h=>by rw[List.flatMap_cons,List.length_append,h a (by simp),Gq l (fun x hx=>h x (by simp[hx])),List.length_cons,Nat.add_mul];omega
theorem Opn.slice{α:Type}[Inhabited α]{k:Nat}{f:α→List Value}{OK:α→Prop}{t e:TypeId}(ht:P.underlying t=some (.slice e))(hc:P.cellsOf e=k)(hk:0<k)(hE:Opn enc P W e f OK)(hl:∀a,OK a→(f a).length=k):
    Opn enc P W t (fun v:Value × List α=> [v.1]) (fun v=>RG k f W v.1 v.2∧∀a∈v.2,OK a):=fun fuel cs x h=>by
  rcases open_slice ht h with ⟨rfl,-⟩ | ⟨a,len,cap,m,n,D,Pl,rfl,-,h1,h2,h3,-,h4⟩
  · exact⟨(_,[]),rfl,RG.nil _ _ _,fun a ha=>by cases ha⟩
  · have hm:m=cap:=by simpa using h3
    obtain⟨L,hL⟩:=choose_lt (α:=α) (p:=fun i q=>W.cells? 0 (a.add (i*k)) k=some (f q)∧OK q) (fun i (hi:i<len)=>by
      obtain⟨cs',c1,c2⟩:=h4 i (by omega)
      obtain⟨q,rfl,hq⟩:=hE _ _ _ c2
      rw[hc]at c1
      exact⟨q,c1,hq⟩)
    have hall:∀x∈(List.range len).map L,(f x).length=k∧OK x:=fun x hx=>by
      obtain⟨i,hi,rfl⟩:=List.mem_map.1 hx
      have:=hL i (by simpa using hi)
      exact⟨hl _ this.2,this.2⟩
    have hlen:((List.range len).map L).length=len:=by simp
    refine⟨(.slice (some a) len cap,(List.range len).map L),rfl,⟨fun x hx=>(hall x hx).1,by rw[Gq _ (fun x hx=>(hall x hx).1)],some a,cap,by rw[hlen],by rw[hlen];exact h1,h2,(fun h=>by cases h),fun a' ha j u hu=> ?_⟩,fun x hx=>(hall x hx).2⟩
    cases ha
    have hj:j<len*k:=by
      have:=(List.getElem?_eq_some_iff.1 hu).1
      rwa [Gq _ (fun x hx=>(hall x hx).1),hlen]at this
    have hi:j/k<len:=Nat.div_lt_of_lt_mul (by rw[Nat.mul_comm];exact hj)
    have hr:j%k<k:=Nat.mod_lt _ hk
    have hjk:j/k*k+j%k=j:=by rw[Nat.mul_comm];exact Nat.div_add_mod j k
    rw[←hjk,Jb default _ (fun x hx=>(hall x hx).1) _ _ hr (by rw[hlen];exact hi)]at hu
    have hg:((List.range len).map L).getD (j/k) default=L (j/k):=by
      rw[List.getD_eq_getElem?_getD,List.getElem?_map,List.getElem?_range hi];rfl
    rw[hg]at hu
    obtain⟨-,-,hcell⟩:=World.cells?_some (hL _ hi).1
    have:=hcell (j%k) hr
    rw[DZ,hjk,hu]at this
    exact this
theorem Tb{cs m:List Value}{o k:Nat}(h:(cs.drop o).take k=m):cs.drop o=m++cs.drop (o+k):=by
  rw[←h,←List.drop_drop,List.take_append_drop]
theorem D9{t ty:TypeId}{i o k fuel:Nat}{cs:List Value}{x:DataW H × List MemPlace}{α:Type}{f:α→List Value}{OK:α→Prop}(ht:P.underlying t=some (.struct (P.fieldsOf t)))(h:DataW.trod enc P W 0 (fun _=>true) true fuel t cs=some x) 
    (hf:((P.fieldsOf t)[i]?).map (fun f=>(f.type,f.offset))=some (ty,o)) (hk:P.cellsOf ty=k) (hE:Opn enc P W ty f OK):∃a,cs.drop o=f a++cs.drop (o+k)∧OK a:=by
  obtain⟨xs,n,-,-,-,hl,hx⟩:=DataW.trod_struct ht h
  obtain⟨g,hg,he⟩:=Option.map_eq_some_iff.1 hf
  have h1:=hx i g hg
  cases he
  have hi:i<xs.length:=by rw[hl];exact(Array.getElem?_eq_some_iff.1 hg).1
  rw[List.getElem?_eq_getElem hi,hk]at h1
  obtain⟨a,h2,h3⟩:=hE _ _ _ h1
  exact⟨a,Tb h2,h3⟩
theorem MG{t:TypeId}{fuel:Nat}{cs:List Value}{x:DataW H × List MemPlace}(ht:P.underlying t=some (.struct (P.fieldsOf t)))(h:DataW.trod enc P W 0 (fun _=>true) true fuel t cs=some x):cs.length=P.cellsOf t:=by
  obtain⟨xs,n,-,-,hl,-,-⟩:=DataW.trod_struct ht h
  exact hl
end
open Go.RowKit
set_option maxRecDepth 100000
set_option linter.unusedVariables false
set_option linter.unusedSimpArgs false
structure Qa where
  kind:Int
  bytes:Bs
  other:Bs
  n:Int
  fates:List Int
structure SW where
  bytes:Value
  other:Value
  fates:Value
abbrev BT:=Qa × SW
def lacC(x:BT):List Value:= .int .i64 (x.1.kind) :: x.2.bytes :: x.2.other :: .int .i64 (x.1.n) :: x.2.fates :: []
theorem IB(x:BT):(lacC x).length=5:=by simp[lacC,Lib.byteCells_length]
theorem N5(x:BT):(lacC x)[0]? =some (.int .i64 (x.1.kind)):=by
  rfl
theorem EJ(x:BT):(lacC x)[1]? =some (x.2.bytes):=by
  rfl
theorem Sq(x:BT):((lacC x).drop 1).take 1= [x.2.bytes]:=by
  exact HP (EJ x)
theorem Gr(x:BT):(lacC x)[2]? =some (x.2.other):=by
  rfl
theorem Sr(x:BT):((lacC x).drop 2).take 1= [x.2.other]:=by
  exact HP (Gr x)
theorem Kl(x:BT):(lacC x)[3]? =some (.int .i64 (x.1.n)):=by
  rfl
theorem Gs(x:BT):(lacC x)[4]? =some (x.2.fates):=by
  rfl
theorem Ss(x:BT):((lacC x).drop 4).take 1= [x.2.fates]:=by
  exact HP (Gs x)
abbrev Bm:BT:=(⟨0,[],[],0,[]⟩,⟨.slice none 0 0, .slice none 0 0, .slice none 0 0⟩)
open Go.RowKit
set_option maxRecDepth 100000
set_option linter.unusedVariables false
set_option linter.unusedSimpArgs false
def Db(k:Int):Nat:=(Int.emod k ((5+1:Nat):Int)).toNat
structure LacAt (w : World) (x : BT) : Prop where
 bytes:RB w x.2.bytes x.1.bytes
 other:RB w x.2.other x.1.other
 fates:RG 1 DG w x.2.fates x.1.fates
 n:x.1.n≤9223372036854775807
theorem LacAt.keep{w w' :World}{x:BT}(h:LacAt w x)(k:Ext w w'):LacAt w' x:=⟨h.bytes.keep k,h.other.keep k,h.fates.keep k,h.n⟩
def CS(l:List BT)(most:Nat):Bool:= !decide (most<l.length)&&l.all fun x=> !(decide (200<x.1.bytes.length)||decide (200<x.1.other.length)||decide (60<x.1.fates.length))
theorem Ea{l:List BT}{most:Nat}(h:CS l most=true):l.length≤most∧∀x∈l,x.1.bytes.length≤200∧x.1.other.length≤200∧x.1.fates.length≤60:=by
 unfold CS at h
 obtain⟨h1,h2⟩:=Bool.and_eq_true_iff.1 h
 refine⟨by simpa using h1,fun x hx=> ?_⟩
 have:=List.all_eq_true.1 h2 x hx
 simp only[Bool.not_eq_true',Bool.or_eq_false_iff,decide_eq_false_iff_not]at this
 omega
theorem N6{α:Type}{f:α→Bool}{l:List α}{i:Nat}(d:α)(h:i<l.length)(hq:(l.take i).all f=true)(hn:f (l.getD i d)=true):(l.take (i+1)).all f=true:=by
 rw[List.take_succ_eq_append_getElem h,List.all_append,hq,List.all_cons,List.all_nil]
 rw[List.getD_eq_getElem?_getD,List.getElem?_eq_getElem h]at hn
 simpa using hn
theorem N7{l:List BT}{most i:Nat}(h:i<l.length)(hn:(decide (200<(l.getD i Bm).1.bytes.length)||decide (200<(l.getD i Bm).1.other.length)||decide (60<(l.getD i Bm).1.fates.length))=true):CS l most=false:=by
 cases hb:CS l most
 ·rfl
 ·have:=(Ea hb).2 _ (BD (d:=Bm) h)
  simp only[Bool.or_eq_true,decide_eq_true_eq]at hn
  omega
theorem EK:Tryz.prog.underlying 22=some (.slice 37):=by kernel_rfl
theorem Gt:∀w' :World,(sizeOf 37).run Tryz.prog w' = .ok 5 w' :=fun _=>by kernel_rfl
theorem MH:A3 Tryz.prog 37 1 1:=fun b o w=>by simp[go_sem]
theorem MJ:A3 Tryz.prog 37 2 2:=fun b o w=>by simp[go_sem]
theorem ML:A3 Tryz.prog 37 4 4:=fun b o w=>by simp[go_sem]
set_option maxHeartbeats 1600000
theorem HX(w:World)(v:Value)(l:List BT)(hl:RG 5 lacC w v l)(hk:∀x∈l,LacAt w x)(most:Nat)(hmost:most≤1000):
  Calls Tryz.prog 4 #[v,NI most] w fun e w' =>e = .returned (.bool (CS l most))∧Ext w w' :=by
 refine S1 (args:= [v,NI most]) Tryz.func4 rfl 41 rfl rfl ?_
 have hE:=Ext.refl w
 refine gS (Yk.lenRG EK (RG.of (hl.keep hE) rfl) (gS (Yk.eqI (a:=(l.length:Nat)) (b:=(most:Nat)) rfl rfl (Ca _ _ _ _) ?_)))
 refine cD rfl (fun q=> ?_) fun q=> ?_
 ·have hV:CS l most=false:=by unfold CS;rw[decide_eq_true (show most<l.length from q)];rfl
  refine AX rfl (vr (.bool (false)) rfl) ?_
  exact⟨by rw[hV],hE⟩
 refine gL (fun(ρ:Ai) (wz:World)=>∃i:Nat,ρ 0=(v:Value)∧ρ 1=(NI most:Value)∧ρ 5=(NI i:Value)∧Ext w wz∧(i≤l.length)∧((l.take i).all (fun x=> !(decide (200<x.1.bytes.length)||decide (200<x.1.other.length)||decide (60<x.1.fates.length)))=true)∧True) (fun ρ _=>l.length-(intOf (ρ 5)).toNat) ⟨0,rfl,rfl,rfl,hE,Nat.zero_le _,rfl,trivial⟩ ?_
 clear hE
 rintro ab c ⟨i,k,T1,f,hE,hi,hq,-⟩
 have q5:=f
 refine gS (Yk.lenRG EK (RG.of (hl.keep hE) k) (gS (Yk.eqI (a:=(i:Nat)) (b:=(l.length:Nat)) f rfl (AO _ _ _ _) ?_)))
 refine cD rfl (fun r=> ?_) fun r=> ?_
 ·have hlt:i<l.length:=r
  have hx:=hk _ (BD (d:=Bm) hlt)
  have hxb:=(hx.keep hE).bytes
  have hxo:=(hx.keep hE).other
  have hxf:=(hx.keep hE).fates
  have ae:(lacC (l.getD (i) Bm)).length=5:=(RG.elem (hl.keep hE) Bm (by omega))
  refine gS (Yk.atRG EK Gt (by decide) Bm (RG.of (hl.keep hE) k) f (by omega) fun af y=>(gS (Yk.fieldPR (n:=1) MH (PR.of y rfl) fun ad m=> ?_)))
  have m:PCell ((l.getD (i) Bm).2.bytes) ad c:=PR.pcell ((Sq (l.getD (i) Bm))▸m)
  refine gS (Yk.loadC S2 rfl (PCell.of m rfl) (gS (Yk.lenRB S2 (RB.of hxb rfl) (gS (Yk.eqI (a:=(((l.getD (i) Bm).1.bytes:List UInt8).length:Nat)) (b:=(200:Nat)) rfl rfl (Ca _ _ _ _) (gO fun _=>B6 (v) rfl rfl (gF rfl) (fun hG18=>Yk.move k ⟨rfl,rfl⟩) (Et (gO fun _=>B6 (NI i) rfl rfl (gF rfl) (fun hG19=>Yk.move f ⟨rfl,rfl⟩) (Et ?_)))))))))
  have ag:(!(decide ((200)<(((l.getD (i) Bm).1.bytes:List UInt8).length))))=true→(lacC (l.getD (i) Bm)).length=5:=fun hG20=>(RG.elem (hl.keep hE) Bm (by first | omega | (simp only[gA,gB,gC,gD,gE]at hG20;omega)))
  refine gO fun _=>EV (fun s=>PR (lacC (l.getD (i) Bm)) s c) rfl rfl (gF (vr (.bool (decide ((200)<(((l.getD (i) Bm).1.bytes:List UInt8).length)))) rfl)) (fun hG20=>Yk.atRG EK Gt (by decide) Bm (RG.of (hl.keep hE) (Ef (vr (cond (!(decide ((200)<(((l.getD (i) Bm).1.bytes:List UInt8).length)))) (v) undef) rfl) hG20)) (Ef (vr (cond (!(decide ((200)<(((l.getD (i) Bm).1.bytes:List UInt8).length)))) (NI i) undef) rfl) hG20) (by first | omega | (simp only[gA,gB,gC,gD,gE]at hG20;omega)) fun _ h=>⟨h,rfl⟩) fun s z=>Et ?_
  refine gO fun _=>EV (fun o=>PCell ((l.getD (i) Bm).2.other) o c) rfl rfl (gF (vr (.bool (decide ((200)<(((l.getD (i) Bm).1.bytes:List UInt8).length)))) rfl)) (fun hG24=> ?_) fun o g=>Et ?_
  ·refine Yk.fieldPR (n:=1) MJ (PR.of (z hG24) (vr s rfl)) fun o g=> ?_
   have g:PCell ((l.getD (i) Bm).2.other) o c:=PR.pcell ((Sr (l.getD (i) Bm))▸g)
   exact⟨g,rfl⟩
  refine gO fun _=>B6 ((l.getD (i) Bm).2.other) rfl rfl (gF rfl) (fun hG27=>Yk.loadC S2 rfl (PCell.of (g hG27) rfl) ⟨rfl,rfl⟩) (Et (gO fun _=>B6 (NI (((l.getD (i) Bm).1.other:List UInt8).length)) rfl rfl (gF rfl) (fun hG28=>Yk.lenRB S2 (RB.of hxo (Ef rfl hG28)) ⟨rfl,rfl⟩) (Et (gO fun _=>B6 (.bool (decide ((200)<(((l.getD (i) Bm).1.other:List UInt8).length)))) rfl rfl (gF rfl) (fun hG29=>Yk.eqI (a:=((((l.getD (i) Bm).1.other:List UInt8).length:Nat):Int)) (b:=((200:Nat):Int)) (Ef rfl hG29) rfl (Ca _ .i64 (((l.getD (i) Bm).1.other:List UInt8).length) (200)) ⟨rfl,rfl⟩) (Et (gS (Yk.pickOrN rfl rfl (fun hA=>(Ef rfl (QK hA))) fun bb30 hbb31=>(gO fun _=>B6 (v) rfl rfl (gF rfl) (fun hG32=>Yk.move k ⟨rfl,rfl⟩) (Et (gO fun _=>B6 (NI i) rfl rfl (gF rfl) (fun hG33=>Yk.move f ⟨rfl,rfl⟩) (Et ?_)))))))))))
  have ah:(!bb30)=true→(lacC (l.getD (i) Bm)).length=5:=fun hG34=>(RG.elem (hl.keep hE) Bm (by first | omega | (simp only[hbb31,gA,gB,gC,gD,gE]at hG34;omega)))
  refine gO fun _=>EV (fun t=>PR (lacC (l.getD (i) Bm)) t c) rfl rfl (gF (vr (.bool (bb30)) rfl)) (fun hG34=>Yk.atRG EK Gt (by decide) Bm (RG.of (hl.keep hE) (Ef (vr (cond (!bb30) (v) undef) rfl) hG34)) (Ef (vr (cond (!bb30) (NI i) undef) rfl) hG34) (by first | omega | (simp only[hbb31,gA,gB,gC,gD,gE]at hG34;omega)) fun _ h=>⟨h,rfl⟩) fun t aa=>Et ?_
  refine gO fun _=>EV (fun p=>PCell ((l.getD (i) Bm).2.fates) p c) rfl rfl (gF (vr (.bool (bb30)) rfl)) (fun hG38=> ?_) fun p j=>Et ?_
  ·refine Yk.fieldPR (n:=1) ML (PR.of (aa hG38) (vr t rfl)) fun p j=> ?_
   have j:PCell ((l.getD (i) Bm).2.fates) p c:=PR.pcell ((Ss (l.getD (i) Bm))▸j)
   exact⟨j,rfl⟩
  refine gO fun _=>B6 ((l.getD (i) Bm).2.fates) rfl rfl (gF rfl) (fun hG41=>Yk.loadC Du rfl (PCell.of (j hG41) rfl) ⟨rfl,rfl⟩) (Et (gO fun _=>B6 (NI (((l.getD (i) Bm).1.fates).length)) rfl rfl (gF rfl) (fun hG42=>Yk.lenRG Du (RG.of hxf (Ef rfl hG42)) ⟨rfl,rfl⟩) (Et (gO fun _=>B6 (.bool (decide ((60)<(((l.getD (i) Bm).1.fates).length)))) rfl rfl (gF rfl) (fun hG43=>Yk.eqI (a:=((((l.getD (i) Bm).1.fates).length:Nat):Int)) (b:=((60:Nat):Int)) (Ef rfl hG43) rfl (Ca _ .i64 (((l.getD (i) Bm).1.fates).length) (60)) ⟨rfl,rfl⟩) (Et (gS (Yk.pickOrN rfl rfl (fun hA=>(Ef rfl (QK hA))) fun bb44 hbb45=> ?_)))))))
  clear y
  clear m
  clear z
  clear g
  clear aa
  clear j
  refine cB (bb44) rfl (fun u=> ?_) fun u=> ?_
  ·subst hbb31 hbb45
   refine AX rfl (vr (.bool (false)) rfl) ?_
   exact⟨by rw[show CS l most=false from N7 hlt u],hE⟩
  subst hbb31 hbb45
  refine gS (Yk.bin (xv:=NI i) (yv:=NI 1) f rfl rfl (Ap _ _ _ (by omega)) (gK (And.intro ⟨i+1,k,T1,rfl,hE,by omega,N6 Bm hlt hq (by show(!(_||_||_))=true;exact(congrArg not u)),trivial⟩ ?_)))
  show l.length-(intOf (NI ((i)+(1)))).toNat<l.length-(intOf (ab 5)).toNat
  rw[q5]
  simp only[intOf,Int.toNat_natCast];omega
 refine AX rfl (vr (.bool (true)) rfl) ?_
 have hie:i=l.length:=by have h:=r;omega
 rw[hie,List.take_length]at hq
 exact⟨by rw[show CS l most=true from by unfold CS;rw[decide_eq_false q,hq];rfl],hE⟩
open Go.RowKit
set_option maxRecDepth 100000
open Go.ChangeShapes Go.WideShapes Go.ChangeAt Go.Deep
set_option linter.unusedVariables false
set_option linter.unusedSimpArgs false
instance:Inhabited BT:=⟨Bm⟩
theorem Qb(a:Int):(DG a).length=1:=rfl
theorem Lj{H:Type}{enc:TypeId × Value→H}{W:World}:Opn enc Tryz.prog W 37 lacC (fun x:BT=>RB W x.2.bytes x.1.bytes∧RB W x.2.other x.1.other ∧ -9223372036854775808≤x.1.n∧x.1.n≤9223372036854775807∧RG 1 DG W x.2.fates x.1.fates):=fun fuel cs x h=>by
 have ht:Tryz.prog.underlying 37=some (.struct (Tryz.prog.fieldsOf 37)):=by kernel_rfl
 obtain⟨a0,b,k0⟩:=D9 (i:=0) (ty:=3) (o:=0) (k:=1) ht h (by kernel_rfl) (by kernel_rfl) (Opn.i64 (by kernel_rfl))
 obtain⟨a1,c,k1⟩:=D9 (i:=1) (ty:=35) (o:=1) (k:=1) ht h (by kernel_rfl) (by kernel_rfl) (Opn.bytes (e:=5) (by kernel_rfl) (by kernel_rfl) (by kernel_rfl))
 obtain⟨a2,f,k2⟩:=D9 (i:=2) (ty:=35) (o:=2) (k:=1) ht h (by kernel_rfl) (by kernel_rfl) (Opn.bytes (e:=5) (by kernel_rfl) (by kernel_rfl) (by kernel_rfl))
 obtain⟨a3,g,k3⟩:=D9 (i:=3) (ty:=3) (o:=3) (k:=1) ht h (by kernel_rfl) (by kernel_rfl) (Opn.i64 (by kernel_rfl))
 obtain⟨a4,j,k4⟩:=D9 (i:=4) (ty:=27) (o:=4) (k:=1) ht h (by kernel_rfl) (by kernel_rfl) (Opn.slice (by kernel_rfl) (by kernel_rfl) (by decide) (Opn.i64 (t:=3) (by kernel_rfl)) (fun a _=>Qb a))
 have hl:cs.drop 5= []:=List.drop_of_length_le (Nat.le_of_eq ((MG ht h).trans (by kernel_rfl)))
 refine⟨(⟨a0,a1.2,a2.2,a3,a4.2⟩,⟨a1.1,a2.1,a4.1⟩),?_,⟨k1,k2,k3.1,k3.2,k4.1⟩⟩
 rw[show cs=cs.drop 0 from rfl]
 rw[b]
 rw[show cs.drop (0+1)=_ from c]
 rw[show cs.drop (1+1)=_ from f]
 rw[show cs.drop (2+1)=_ from g]
 rw[show cs.drop (3+1)=_ from j]
 rw[show cs.drop (4+1)= []from hl]
 simp[lacC]
theorem RI{H:Type}{enc:TypeId × Value→H}{W:World}:Opn enc Tryz.prog W 37 lacC (fun x:BT=>LacAt W x):=fun fuel cs y h=>by
 obtain⟨x,h1,h2,h3,h4,h5,h6⟩:=Lj fuel cs y h
 exact⟨x,h1,h2,h3,h6,h5⟩
theorem RJ{H:Type}{enc:TypeId × Value→H}{P:Program}{W:World}{α:Type}[Inhabited α]{k:Nat}{f:α→List Value}{OK:α→Prop}{t e:TypeId}(ht:P.underlying t=some (.slice e))(hc:P.cellsOf e=k)(hk:0<k)(hE:Opn enc P W e f OK)(hl:∀a,OK a→(f a).length=k) 
  {r:Reach} {b0:Nat} {v:Value} {d:DataW H} {ps:List MemPlace} (hval:Value.okWide P W r b0 t v) (hd:DataW.Trod enc P W 0 (fun _=>true) true t v d ps):∃l,RG k f W v l∧(∀a∈l,OK a)∧∀p∈ps,p.block<W.heap.size:=by
 obtain⟨a0,len0,cap0,rfl⟩:=okWide_slice ht hval
 obtain⟨fuel,hf⟩:=hd
 have hlt:=DataW.trod_lt fuel _ _ _ hf
 obtain⟨a,h1,h2,h3⟩:=Opn.slice ht hc hk hE hl _ _ _ hf
 have h1: [Value.slice a0 len0 cap0]= [a.1]:=h1
 exact⟨a.2,by rw[(List.cons.inj h1).1];exact h2,h3,hlt⟩
theorem N8{H:Type}{enc:TypeId × Value→H}{W:World}{r:Reach}{b0:Nat}{v:Value}{d:DataW H}{ps:List MemPlace}(hval:Value.okWide Tryz.prog W r b0 22 v)(hd:DataW.Trod enc Tryz.prog W 0 (fun _=>true) true 22 v d ps):
  ∃l:List BT,RG 5 lacC W v l∧(∀x∈l,LacAt W x)∧∀p∈ps,p.block<W.heap.size:=
 RJ (by kernel_rfl) (by kernel_rfl) (by decide) RI (fun a _=>IB a) hval hd
open Go.RowKit
def E8(P:Program)(l:List Oper)(cs pf fl:List Nat)(J:List PanicEntry→World→Prop)(K:Ai→World→Prop)(a:Nat)(da:Tmp)(o0:Obj)(post:List Nat):List Nat→World→(Nat→Prop)→Ai→Prop
  | [],wk,N,ρ=>∀m w,Ext wk w→N m→m<w.heap.size→w.heap[m]? =some o0→C7 P l cs pf (a :: fl) J K post (fun x=>Ext w x∧True) (updO ρ (some da) (PQ m 0)) w
  | i :: r,wk,N,ρ=>match l[i]? with
    | none=>False
    | some o=>
      if i∈cs then ∀w,Ext wk w→Yk P (fun v w' =>(Ext w w' ∨((w.heap.size≤w'.heap.size∧∀m,N m→w.heap[m]? =some o0→w'.heap[m]? =some o0)∧JL l fl r i=true))∧E8 P l cs pf fl J K a da o0 post r w' (fun m=>N m∧(m<w.heap.size∨w'.heap.size≤m)) (updO ρ o.dst v)) ((execOp (Ab ρ) o).run P w)
      else ∃v,(∀w',CY l pf i=true∨Ext wk w' →Yk P (fun x w'' =>x=v∧w'' =w') ((execOp (Ab ρ) o).run P w'))∧E8 P l cs pf fl J K a da o0 post r wk N (updO ρ o.dst v)
def Su(l:List Oper)(cs:List Nat)(a:Nat)(da:Tmp)(pre post:List Nat):Bool:=
  (l.all fun o=>o.guard.isNone)&&(!cs.contains a&&((pre.all fun i=> !(looksL l i).contains da&&Cz l i != some da)&&post.all fun i=>((A4 l []).getD i 0).testBit a))
section
variable {P : Program} {n : Nat} {Q : BP} {l : List Oper} {cs pf fl pre post : List Nat} {a : Nat} {da : Tmp} {o0 : Obj} {oa : Oper} {J : List PanicEntry → World → Prop} {K : Ai → World → Prop}
def PendA(P:Program)(l:List Oper)(cs pf:List Nat)(wk:World)(ρ:Ai)(i:Nat):Prop:=
  ∃o,l[i]? =some o∧i∉cs∧(∀d,o.dst=some d→d∉o.looksAt l.toArray)∧(∀cs b,o.op ≠ .select cs b)∧∃d,o.dst=some d∧∀w',CY l pf i=true∨Ext wk w' →Yk P (fun x w'' =>x=ρ d∧w'' =w') ((execOp (Ab ρ) o).run P w')
theorem PendA.upd{wk wk' :World}{ρ ρ' :Ai}{i:Nat}(h:PendA P l cs pf wk ρ i)(he:CY l pf i=true∨Ext wk wk')(hl:∀t∈looksL l i,ρ' t=ρ t)(hd:∀t,Cz l i=some t→ρ' t=ρ t):PendA P l cs pf wk' ρ' i:=by
  obtain⟨o,ho,h1,h2,h3,d,hd0,c⟩:=h
  have hl' :∀t∈o.looksAt l.toArray,ρ' t=ρ t:=fun t ht=>hl t (by unfold looksL;rw[ho];exact ht)
  refine⟨o,ho,h1,h2,h3,d,hd0,fun w' hw' => ?_⟩
  rw[hd d (by unfold Cz;rw[ho];exact hd0),CQ h3 hl']
  exact c w' (hw'.elim .inl fun x=>he.imp id fun y=>y.trans x)
structure AInv (P : Program) (l : List Oper) (cs pf fl : List Nat) (n : Nat) (J : List PanicEntry → World → Prop) (K : Ai → World → Prop) (a : Nat) (da : Tmp) (o0 : Obj) (pre post u r : List Nat) (wk : World) (N : Nat → Prop) (ρ : Ai) (listed : Array Bool) (x : Act) (w : World) : Prop where
  size:listed.size=l.length
  closed:∀i o,l[i]? =some o→On listed i→∀e∈o.after,Region.binds .any e=true→On listed e.on
  tmps:x.tmps.size=n
  defers:x.defers= []
  split:pre=u++r
  rest:∀i∈r,¬On listed i
  last:∀i∈post,¬On listed i
  pend:∀i∈u,¬On listed i→PendA P l cs pf wk ρ i
  agree:∀t,t≠da→(∀i∈u,¬On listed i→Cz l i≠some t)→x.tmps.getD t undef=ρ t
  ext:Ext wk w
  done:On listed a→∃m,x.tmps.getD da undef=PQ m 0∧N m∧m<w.heap.size∧w.heap[m]? =some o0
  todo:¬On listed a→∀m,w.heap.size≤m→N m
  run:E8 P l cs pf fl J K a da o0 post r wk N ρ
theorem AInv.place(hb:D6 l cs pf (a :: fl) (a :: (pre++post))=true){wk:World}{N:Nat→Prop}{listed:Array Bool}{x:Act}{w:World}:∀(r u:List Nat) (ρ:Ai),AInv P l cs pf fl n J K a da o0 pre post u r wk N ρ listed x w →
    ∃u' r' ρ',AInv P l cs pf fl n J K a da o0 pre post u' r' wk N ρ' listed x w∧(r' = []∨∃c q,r' =c :: q∧c∈cs)
  | [],u,ρ,h=>⟨u,[],ρ,h, .inl rfl⟩
  | i :: r,u,ρ,h=>by
    obtain⟨o,ho,hm⟩:=Dn (u:=a :: u) (i:=i) (v:=r++post) (by have h2:=hb;rw[h.split]at h2;simpa using h2)
    by_cases hc:i∈cs
    · exact⟨u,i :: r,ρ,h, .inr ⟨i,r,rfl,hc⟩⟩
    · have hrun:=h.run
      unfold E8 at hrun
      rw[ho]at hrun
      simp only at hrun
      rw[if_neg hc]at hrun
      obtain⟨v,hv,hrun⟩:=hrun
      have hown:=hm.own (.inl hc)
      obtain⟨d,hd⟩:=hm.has hc
      have hno:¬On listed i:=h.rest i (by simp)
      have hne:∀t,o.dst≠some t→updO ρ o.dst v t=ρ t:=fun t ht=>by rw[hd,Bj,Cx (fun e=>ht (by rw[hd,e]))]
      refine AInv.place hb r (u++ [i]) _ ⟨h.size,h.closed,h.tmps,h.defers,by rw[h.split];simp,fun j hj=>h.rest j (by simp[hj]),h.last,fun j hj hnj=> ?_,fun t htd ht=> ?_,h.ext,h.done,h.todo,hrun⟩
      · rcases List.mem_append.1 hj with hj | hj
        · have hpj:=h.pend j hj hnj
          obtain⟨oj,hoj,hcj,-⟩:=hpj
          refine(h.pend j hj hnj).upd (.inr (Ext.refl _)) (fun t ht=>hne t fun e=>(hm.sep j (by simp[hj]) (.inl hcj) (.inl hc) t e).1 ht) fun t ht=>hne t fun e=>(hm.sep j (by simp[hj]) (.inl hcj) (.inl hc) t e).2 ht
        · rw[List.mem_singleton.1 hj]
          have hag:∀t∈o.looksAt l.toArray,updO ρ o.dst v t=ρ t:=fun t ht=>hne t fun e=>hown t e ht
          refine⟨o,ho,hc,hown,hm.sel,d,hd,fun w' hw' => ?_⟩
          rw[CQ hm.sel hag,hd,Bj,Dm]
          exact hv w' hw'
      · have h1:=h.agree t htd fun j hj=>ht j (by simp[hj])
        rw[h1,hne t fun e=>ht i (by simp) hno (by unfold Cz;rw[ho];exact e)]
theorem Qc(hg:Cp l n=true)(hb:D6 l cs pf (a :: fl) (a :: (pre++post))=true)(hab:Su l cs a da pre post=true)(hoa:l[a]? =some oa)(hda:oa.dst=some da) 
    (hal:∀(ρ:Ai) (w:World) (K:Value→World→Prop),(∀w',w'.heap[w.heap.size]? =some o0→Ext w w' →w.heap.size<w'.heap.size→K (PQ w.heap.size 0) w')→Yk P K ((execOp (Ab ρ) oa).run P w)):
    ∀(fuel:Nat) (listed:Array Bool) (x:Act) (w:World) (u r:List Nat) (wk:World) (N:Nat→Prop) (ρ:Ai),(listed.toList.filter (!·)).length=fuel→AInv P l cs pf fl n (fun ch w' =>∀ρ',Q (.panic ch) ρ' w') (fun ρ w=>Q .normal ρ w) a da o0 pre post u r wk N ρ listed x w→((r= []∧¬On listed a)∨∃c q,r=c :: q∧c∈cs) →
      wpAny P .any l.toArray (fun e x' w' =>∃ρ',Fits n ρ' x' ∧Q e ρ' w') fuel listed x w:=by
  have g:=Fa hg
  unfold Su at hab
  simp only[Bool.and_eq_true]at hab
  obtain⟨hgu,hac,hpre,hpost⟩:=hab
  have hgu' :∀(i:Nat) (o:Oper),l[i]? =some o→o.guard=none:=fun i o ho=>by
    have:=List.all_eq_true.1 hgu o (List.mem_of_getElem? ho)
    simpa using this
  have hac' :a∉cs:=by simpa using hac
  have hpre' :∀i∈pre,da∉looksL l i∧Cz l i≠some da:=fun i hi=>by
    have:=List.all_eq_true.1 hpre i hi
    simpa using this
  have hpost' :∀i∈post,((A4 l []).getD i 0).testBit a=true:=fun i hi=>List.all_eq_true.1 hpost i hi
  have hall:∀i,i<l.length→i∈a :: (pre++post):=fun i hi=>by
    unfold D6 at hb
    rw[Bool.and_eq_true,Bool.and_eq_true]at hb
    have:=List.all_eq_true.1 hb.2.1 i (by simpa using hi)
    exact List.contains_iff_mem.1 this
  have hnd:(a :: (pre++post)).Nodup:=by
    unfold D6 at hb
    rw[Bool.and_eq_true]at hb
    exact F4 hb.1
  have hlt:∀(i:Nat) (o:Oper),l[i]? =some o→i<l.length:=fun i o ho=>(List.getElem?_eq_some_iff.1 ho).1
  -- the memory is made, and all ahead of it is walked
  have two:∀(fuel:Nat) (listed:Array Bool) (x:Act) (w:World) (u:List Nat) (wk:World) (N:Nat→Prop) (ρ:Ai),(listed.toList.filter (!·)).length=fuel→AInv P l cs pf fl n (fun ch w' =>∀ρ',Q (.panic ch) ρ' w') (fun ρ w=>Q .normal ρ w) a da o0 pre post u [] wk N ρ listed x w→On listed a→wpAny P .any l.toArray (fun e x' w' =>∃ρ',Fits n ρ' x' ∧Q e ρ' w') fuel listed x w:=fun fuel listed x w u wk N ρ hfu h hon=>by
    obtain⟨m,hm1,hm2,hm3,hm4⟩:=h.done hon
    have hsp:pre=u:=by rw[h.split,List.append_nil]
    have hrun:=h.run
    unfold E8 at hrun
    have h0:MInv P l cs pf (a :: fl) (a :: (pre++post)) n (fun ch w' =>∀ρ',Q (.panic ch) ρ' w') (fun ρ w=>Q .normal ρ w) (a :: pre) post (fun x=>Ext w x∧True) (updO ρ (some da) (PQ m 0)) listed x w:=by
      refine⟨h.size,h.closed,h.tmps,h.defers,by simp,h.last,fun i hi hno=> ?_,fun t ht=> ?_,⟨Ext.refl _,trivial⟩,hrun m w h.ext hm2 hm3 hm4⟩
      · rcases List.mem_cons.1 hi with rfl | hi
        · exact absurd hon hno
        · obtain⟨o,ho,h1,h2,h3,d,hd,c⟩:=h.pend i (hsp▸hi) hno
          have hq:=hpre' i hi
          have hag:∀t∈o.looksAt l.toArray,updO ρ (some da) (PQ m 0) t=ρ t:=fun t ht=>by
            rw[Bj,Cx]
            rintro rfl
            exact hq.1 (by unfold looksL;rw[ho];exact ht)
          refine⟨o,ho, .inl h1,h2,h3, .inr ⟨by unfold Bo;rw[hgu' i o ho],h1,d,hd,fun w' hw' => ?_⟩⟩
          rw[CQ h3 hag,Bj,Cx (fun e=>hq.2 (by unfold Cz;rw[ho];exact hd.trans (by rw[e])))]
          refine c w' (hw'.imp id fun z=> ?_)
          split at z
          · exact h.ext.trans z.1
          · rw[z];exact h.ext
      · by_cases e:t=da
        · subst e
          rw[Bj,Dm]
          exact hm1
        · rw[Bj,Cx e]
          exact h.agree t e fun i hi=>ht i (by simp[hsp,hi])
    obtain⟨u',r',ρ',hp,hr⟩:=h0.place hb
    exact Lx hg hb _ _ _ _ u' r' _ ρ' hfu hp hr
  intro fuel
  induction fuel with
  | zero=>
    intro listed x w u r wk N ρ hfu h hr
    have full:∀i,i<l.length→On listed i:=fun i hi=>by
      have:=Ex _ hfu i (by rw[Array.length_toList,h.size];omega)
      unfold On
      simp at this
      simp[this]
    exfalso
    rcases hr with ⟨-,hna⟩ | ⟨c,q,rfl,hc⟩
    · exact hna (full a (hlt a oa hoa))
    · obtain⟨o,ho,-⟩:=Dn (u:=a :: u) (i:=c) (v:=q++post) (by have h2:=hb;rw[h.split]at h2;simpa using h2)
      exact h.rest c (by simp) (full c (hlt c o ho))
  | succ fuel ih=>
    intro listed x w u r wk N ρ hfu h hr
    have again:∀(listed:Array Bool) (x:Act) (w:World) (u r:List Nat) (wk:World) (N:Nat→Prop) (ρ:Ai),(listed.toList.filter (!·)).length=fuel→AInv P l cs pf fl n (fun ch w' =>∀ρ',Q (.panic ch) ρ' w') (fun ρ w=>Q .normal ρ w) a da o0 pre post u r wk N ρ listed x w→wpAny P .any l.toArray (fun e x' w' =>∃ρ',Fits n ρ' x' ∧Q e ρ' w') fuel listed x w:=fun listed x w u r wk N ρ hfu h=>by
      obtain⟨u',r',ρ',hp,hr'⟩:=h.place hb
      rcases hr' with rfl | hr'
      · by_cases hon:On listed a
        · exact two _ _ _ _ _ _ _ _ hfu hp hon
        · exact ih _ _ _ _ _ _ _ _ hfu hp (.inl ⟨rfl,hon⟩)
      · exact ih _ _ _ _ _ _ _ _ hfu hp (.inr hr')
    refine⟨fun hrd=> ?_,fun i hi=> ?_⟩
    · exfalso
      have full:∀i,i<l.length→On listed i:=fun i=>by
        induction i using Nat.strongRecOn with
        | _ i ih2=>
          intro hi
          refine Classical.byContradiction fun hno=> ?_
          have ho:l[i]? =some l[i]:=List.getElem?_eq_getElem hi
          have:i∈Region.ready .any l.toArray listed:=by
            refine mem_ready.2 ⟨?_,l[i],by rw[List.getElem?_toArray];exact ho,fun e he hb=> ?_⟩
            · have hi' :i<listed.size:=by rw[h.size];exact hi
              unfold On at hno
              simp[hi']at hno ⊢
              exact hno
            · have hlt:=g.back i _ ho e he hb
              exact ih2 e.on hlt (by omega)
          rw[hrd]at this
          cases this
      rcases hr with ⟨-,hna⟩ | ⟨c,q,rfl,hc⟩
      · exact hna (full a (hlt a oa hoa))
      · obtain⟨o,ho,-⟩:=Dn (u:=a :: u) (i:=c) (v:=q++post) (by have h2:=hb;rw[h.split]at h2;simpa using h2)
        exact h.rest c (by simp) (full c (hlt c o ho))
    · obtain⟨h1,o,ho,hall0⟩:=mem_ready.1 hi
      have ho' :l[i]? =some o:=by simpa using ho
      have hilt:i<l.length:=hlt i o ho'
      have hil:i<listed.size:=by rw[h.size];exact hilt
      have hno:¬On listed i:=by
        unfold On
        simp[hil]at h1 ⊢
        exact h1
      have hball:∀e∈o.after,Region.binds .any e=true→On listed e.on:=fun e he hb=>hall0 e he hb
      have hI:Inv l (fun _=> []) (fun _ _=>True) (fun _ _=>True) (fun _ _ _=>True) x listed x w:=
        ⟨h.size,h.closed,rfl,rfl,fun _ _ _=>trivial,trivial,fun _ _=>rfl,fun _ _ _ _ _ _ _ _=>trivial⟩
      have hmr:∀k,((A4 l []).getD i 0).testBit k=true→On listed k:=fun k hk=>hI.maskReady ho' hball hk
      have hcnt:((listed.setIfInBounds i true).toList.filter (!·)).length=fuel:=by
        rw[Array.toList_setIfInBounds]
        have:=Ep listed.toList i (by
          simp[hil]at h1
          simp[hil,h1])
        omega
      have hcl:∀j oj,l[j]? =some oj→On (listed.setIfInBounds i true) j→∀e∈oj.after,Region.binds .any e=true→On (listed.setIfInBounds i true) e.on:=fun j oj hj hon e he hb=>by
        rcases(on_set hil).1 hon with rfl | hon
        · obtain rfl:o=oj:=by rw[ho']at hj;exact Option.some.inj hj
          exact(on_set hil).2 (.inr (hball e he hb))
        · exact(on_set hil).2 (.inr (h.closed j oj hj hon e he hb))
      have hF:Fits n (fun t=>x.tmps.getD t undef) x:=⟨h.tmps,h.defers,fun t=>rfl⟩
      have hroom:∀t,o.dst=some t→t<n:=fun t ht=>g.room i o t ho' ht
      have hun:∀j,¬On (listed.setIfInBounds i true) j→¬On listed j∧j≠i:=fun j hj=>⟨fun x=>hj ((on_set hil).2 (.inr x)),fun x=>hj ((on_set hil).2 (.inl x))⟩
      have hw:Region.wanted o (yielded l.toArray x.tmps)=true:=by unfold Region.wanted;rw[hgu' i o ho']
      unfold wpOp
      simp only[List.getElem?_toArray,ho']
      rw[if_pos hw]
      refine .inl (F3 ?_)
      rw[hF.eval]
      by_cases hia:i=a
      · -- memory is made
        subst hia
        obtain rfl:oa=o:=by rw[hoa]at ho';exact Option.some.inj ho'
        refine hal _ w _ fun w' hm4 hE hlt' => ?_
        refine again _ _ _ u r wk N ρ hcnt ⟨by simpa using h.size,hcl,(hF.put oa.dst hroom _).size,(hF.put oa.dst hroom _).defers,h.split,fun j hj hx=> ?_,fun j hj hx=> ?_,fun j hj hnj=>h.pend j hj (hun j hnj).1,fun t htd ht=> ?_,h.ext.trans hE,fun _=>⟨w.heap.size,?_,h.todo hno _ (Nat.le_refl _),hlt',hm4⟩,fun hx=>absurd ((on_set hil).2 (.inl rfl)) hx,h.run⟩
        · rcases(on_set hil).1 hx with rfl | hx
          · exact(List.nodup_cons.1 hnd).1 (by rw[h.split];simp[hj])
          · exact h.rest j hj hx
        · rcases(on_set hil).1 hx with rfl | hx
          · exact(List.nodup_cons.1 hnd).1 (by simp[hj])
          · exact h.last j hj hx
        · rw[(hF.put oa.dst hroom _).get t,hda,Bj,Cx htd]
          refine h.agree t htd fun j hj hnj=>ht j hj fun x=> ?_
          rcases(on_set hil).1 x with rfl | x
          · exact(List.nodup_cons.1 hnd).1 (by rw[h.split];simp[hj])
          · exact hnj x
        · rw[(hF.put oa.dst hroom _).get da,hda,Bj,Dm]
      · -- what stands behind what asks for the memory, or behind the chain's next operation, is not to be met yet
        have hip:i∈pre:=by
          rcases List.mem_cons.1 (hall i hilt)with e | e
          · exact absurd e hia
          · rcases List.mem_append.1 e with e | e
            · exact e
            · exfalso
              have hona:=hmr a (hpost' i e)
              rcases hr with ⟨-,hna⟩ | ⟨c,q,rfl,hc⟩
              · exact hna hona
              · obtain⟨p1,p2,hp⟩:=List.append_of_mem e
                obtain⟨o2,p,hm⟩:=Dn (u:=a :: (pre++p1)) (i:=i) (v:=p2) (by have h2:=hb;rw[hp]at h2;simpa using h2)
                exact h.rest c (by simp) (hmr c (hm.chain c (by rw[h.split];simp) hc))
        have hwhere:∃b f,pre=b++i :: f∧(i∈r→b=u∧r=i :: f∧i∈cs):=by
          by_cases hir:i∈r
          · rcases hr with ⟨rfl,-⟩ | ⟨c,q,rfl,hc⟩
            · cases hir
            · have:i=c:=by
                rcases List.mem_cons.1 hir with x | x
                · exact x
                · exfalso
                  obtain⟨q1,q2,hq⟩:=List.append_of_mem x
                  obtain⟨o2,p,hm⟩:=Dn (u:=a :: (u++c :: q1)) (i:=i) (v:=q2++post) (by have h2:=hb;rw[h.split,hq]at h2;simpa using h2)
                  exact h.rest c (by simp) (hmr c (hm.chain c (by simp) hc))
              subst this
              exact⟨u,q,h.split,fun _=>⟨rfl,rfl,hc⟩⟩
          · obtain⟨b,u2,hu⟩:=List.append_of_mem hip
            exact⟨b,u2,hu,fun x=>absurd x hir⟩
        obtain⟨b,f,hord,hin⟩:=hwhere
        obtain⟨o2,p,hm⟩:=Dn (u:=a :: b) (i:=i) (v:=f++post) (by have h2:=hb;rw[hord]at h2;simpa using h2)
        obtain rfl:o=o2:=by rw[ho']at p;exact Option.some.inj p
        have hndp:pre.Nodup:=(List.nodup_append.1 (List.nodup_cons.1 hnd).2).1
        have hlda:∀t∈o.looksAt l.toArray,t≠da:=fun t ht e=>(hpre' i hip).1 (by unfold looksL;rw[ho',←e];exact ht)
        have hlook:∀t∈o.looksAt l.toArray,x.tmps.getD t undef=ρ t:=fun t ht=>h.agree t (hlda t ht) fun q hq hnq e=>by
          obtain⟨oq,hoq,hcq,hownq,-⟩:=h.pend q hq hnq
          have hdq:oq.dst=some t:=by unfold Cz at e;rw[hoq]at e;exact e
          rcases Nat.lt_trichotomy q i with hqi | hqi | hqi
          · exact hnq (hmr q (g.tied i o q oq t ho' hoq hqi (.inl ⟨hdq,List.mem_append_right _ ht⟩)))
          · subst hqi
            rw[ho']at hoq
            cases hoq
            exact hownq t hdq ht
          · have hmq:=g.tied q oq i o t hoq ho' hqi (.inr ⟨hdq,List.mem_append_right _ ht⟩)
            obtain⟨s1,s2,hs⟩:=List.append_of_mem hq
            obtain⟨oq2,hoq2,hmq2⟩:=Dn (u:=a :: s1) (i:=q) (v:=s2++(r++post)) (by have h2:=hb;rw[h.split,hs]at h2;simpa using h2)
            rw[hoq]at hoq2
            cases hoq2
            have hip2:=hmq2.lin i hilt hmq
            rcases List.mem_cons.1 hip2 with e3 | hip2
            · exact hia e3
            by_cases hic:i∈cs
            · have hiu:i∈u:=by rw[hs];simp[hip2]
              exact(h.pend i hiu hno).choose_spec.2.1 hic
            · exact(hmq2.sep i (by simp[hip2]) (.inl hic) (.inl hcq) t hdq).1 (by unfold looksL;rw[ho'];exact ht)
        rw[CQ (ρ:=ρ) hm.sel hlook]
        have hne:∀(v:Value) (t:Tmp),o.dst≠some t→updO ρ o.dst v t=ρ t:=fun v t ht=>by
          cases hd:o.dst with
          | none=>rfl
          | some d=>rw[Bj,Cx (fun e=>ht (by rw[hd,e]))]
        have hdda:o.dst≠some da:=fun e=>(hpre' i hip).2 (by unfold Cz;rw[ho'];exact e)
        have hput:∀v:Value,(x.put o.dst v).tmps.getD da undef=x.tmps.getD da undef:=fun v=>by
          rw[(hF.put o.dst hroom v).get da]
          cases hd:o.dst with
          | none=>rfl
          | some d=>rw[Bj,Cx (fun e=>hdda (by rw[hd,e]))]
        by_cases hir:i∈r
        · -- the chain's next operation
          obtain⟨rfl,rfl,hc⟩:=hin hir
          have hrun:=h.run
          unfold E8 at hrun
          rw[ho']at hrun
          simp only at hrun
          rw[if_pos hc]at hrun
          refine Yk.mono (hrun w h.ext) ?_
          rintro v w' ⟨hE,hrun'⟩
          have hsz:w.heap.size≤w'.heap.size:=hE.elim (fun e=>e.size) (·.1.1)
          refine again _ _ _ (b++ [i]) f w' _ _ hcnt ⟨by simpa using h.size,hcl,(hF.put o.dst hroom _).size,(hF.put o.dst hroom _).defers,by rw[hord];simp,fun j hj hx=> ?_,fun j hj hx=> ?_,fun j hj hnj=> ?_,fun t htd ht=> ?_,Ext.refl _,fun hx=> ?_,fun hx m hm' =>⟨h.todo (fun y=>hx ((on_set hil).2 (.inr y))) m (by omega), .inr hm'⟩,hrun'⟩
          · rcases(on_set hil).1 hx with rfl | hx
            · have:=hord▸hndp
              exact(List.nodup_cons.1 (List.nodup_append.1 this).2.1).1 hj
            · exact h.rest j (by simp[hj]) hx
          · rcases(on_set hil).1 hx with rfl | hx
            · exact(List.nodup_append.1 (List.nodup_cons.1 hnd).2).2.2 j hip j hj rfl
            · exact h.last j hj hx
          · obtain⟨hnj,hjc⟩:=hun j hnj
            have hju:j∈b:=(List.mem_append.1 hj).elim id fun x=>absurd (List.mem_singleton.1 x) hjc
            have hpj:=h.pend j hju hnj
            have hcj:=hpj.choose_spec.2.1
            have hmj:((A4 l []).getD i 0).testBit j=false:=by
              cases hx:((A4 l []).getD i 0).testBit j with
              | false=>rfl
              | true=>exact absurd (hmr j hx) hnj
            refine hpj.upd ?_ (fun t ht=>hne v t fun e=>(hm.sep j (by simp[hju]) (.inl hcj) (.inr (.inr hmj)) t e).1 ht) fun t ht=>hne v t fun e=>(hm.sep j (by simp[hju]) (.inl hcj) (.inr (.inr hmj)) t e).2 ht
            rcases hE with hE | ⟨-,hclr⟩
            · exact .inr (h.ext.trans hE)
            · rcases hm.loc hc j (by simp[hju]) hcj with hz | hz | hz
              · exact .inl hz
              · exfalso
                rcases List.mem_cons.1 hz with rfl | hz
                · exact(List.nodup_cons.1 hnd).1 (by rw[hord];simp[hju])
                · have:=List.all_eq_true.1 hclr j hz
                  rw[Bool.or_eq_true]at this
                  rcases this with y | y
                  · have hy:j∈f:=by simpa using y
                    exact JM (hord▸hndp) hju (by simp[hy])
                  · exact hnj (hmr j y)
              · exact absurd (hmr j hz) hnj
          · rw[(hF.put o.dst hroom _).get t]
            have hag' :=fun(hd:o.dst≠some t)=>h.agree t htd fun j hj hnj=>ht j (by simp[hj]) fun x=>by
              rcases(on_set hil).1 x with rfl | x
              · exact JM (hord▸hndp) hj (by simp)
              · exact hnj x
            by_cases e:o.dst=some t
            · rw[e,Bj,Bj,Dm,Dm]
            · rw[hne v t e,←hag' e]
              cases hd:o.dst with
              | none=>rfl
              | some d=>rw[Bj,Cx (fun y=>e (by rw[hd,y]))]
          · have hona:On listed a:=by
              rcases(on_set hil).1 hx with e | e
              · exact absurd e.symm hia
              · exact e
            obtain⟨m,q1,q2,q3,q4⟩:=h.done hona
            exact⟨m,(hput v).trans q1,⟨q2, .inl q3⟩,by omega,hE.elim (fun e=>Ext.blk' e q4) fun e=>e.1.2 m q2 q4⟩
        · -- one that was walked
          have hiu:i∈u:=by
            rw[h.split]at hip
            exact(List.mem_append.1 hip).elim id fun x=>absurd x hir
          obtain⟨o3,s,hci,hown,hsel,d,hd,hp⟩:=h.pend i hiu hno
          rw[ho']at s
          cases s
          refine Yk.mono (hp w (.inr h.ext)) ?_
          rintro v w' ⟨rfl,rfl⟩
          refine again _ _ _ u r wk N ρ hcnt ⟨by simpa using h.size,hcl,(hF.put o.dst hroom _).size,(hF.put o.dst hroom _).defers,h.split,fun j hj hx=> ?_,fun j hj hx=> ?_,fun j hj hnj=>h.pend j hj (hun j hnj).1,fun t htd ht=> ?_,h.ext,fun hx=> ?_,fun hx=>h.todo fun y=>hx ((on_set hil).2 (.inr y)),h.run⟩
          · rcases(on_set hil).1 hx with rfl | hx
            · exact hir hj
            · exact h.rest j hj hx
          · rcases(on_set hil).1 hx with rfl | hx
            · exact(List.nodup_append.1 (List.nodup_cons.1 hnd).2).2.2 j hip j hj rfl
            · exact h.last j hj hx
          · rw[(hF.put o.dst hroom _).get t]
            by_cases e:o.dst=some t
            · rw[e,Bj,Dm]
              rw[hd]at e
              cases e
              rfl
            · have hx:updO (fun t=>x.tmps.getD t undef) o.dst (ρ d) t=x.tmps.getD t undef:=by rw[hd,Bj,Cx (fun y=>e (by rw[hd,y]))]
              rw[hx]
              refine h.agree t htd fun j hj hnj=> ?_
              by_cases hji:j=i
              · subst hji
                unfold Cz
                rw[ho']
                exact e
              · exact ht j hj fun x=>by
                  rcases(on_set hil).1 x with x | x
                  · exact hji x
                  · exact hnj x
          · have hona:On listed a:=by
              rcases(on_set hil).1 hx with e | e
              · exact absurd e.symm hia
              · exact e
            obtain⟨m,q1,q2,q3,q4⟩:=h.done hona
            exact⟨m,(hput _).trans q1,q2,q3,q4⟩
end
section
variable {P : Program} {n : Nat} {u : Bool} {Q : BP} {ρ : Ai} {w wk : World} {k : List Fr} {l : List Oper} {cs pf fl pre post r : List Nat} {a i : Nat} {da : Tmp} {o0 : Obj} {N : Nat → Prop} {o : Oper} {v : Value}
def Eb(P:Program)(n:Nat)(_:Bool)(Q:BP)(k:List Fr)(l:List Oper)(cs pf fl:List Nat)(a:Nat)(da:Tmp)(o0:Obj)(post r:List Nat)(wk:World)(N:Nat→Prop)(ρ:Ai):Prop:=
  E8 P l cs pf fl (JK P n Q k) (fun ρ w=>Cc P n Q k .normal ρ w) a da o0 post r wk N ρ
theorem QQ{id:Nat}{e:TypeId}{cells:Array Value}{ty:TypeId}{pos:String}{af:Array Edge}{gd:Option (Nat × Bool)}(a:Nat)(pre post cs pf fl:List Nat)(hz:∀(σ:Operand→Value) (w:World),(execOp σ ⟨some da, .alloc e,ty,pos,af,gd⟩).run P w = .ok (.value (.pointer (some ⟨w.heap.size,0,none⟩))) (w.alloc (.cells cells e))) 
    (h:∀w1,Ext w w1→Eb P n u Q k l cs pf fl a da (.cells cells e (0,0)) post pre w1 (fun m=>w1.heap.size≤m) ρ) (hoa:l[a]? =some ⟨some da, .alloc e,ty,pos,af,gd⟩:=by rfl)
    (hm:P.follows .mixedOrders=true:=by kernel_rfl) (hg:Cp l n=true:=by kernel_rfl) (hb:D6 l cs pf (a :: fl) (a :: (pre++post))=true:=by kernel_rfl) (hab:Su l cs a da pre post=true:=by kernel_rfl):Bp P n u Q w (.code (.region id l.toArray true) k ρ):=fun x hx=>by
  have h0:AInv P l cs pf fl n (JK P n Q k) (fun ρ w=>Cc P n Q k .normal ρ w) a da (.cells cells e (0,0)) pre post [] pre w.drew (fun m=>w.drew.heap.size≤m) ρ (Array.replicate l.length false) x w.drew:=
    ⟨by simp,fun i o _ h=>absurd h On.not_replicate,hx.size,hx.defers,rfl,fun i _=>On.not_replicate,fun i _=>On.not_replicate,(fun i hi=>by cases hi),fun t _ _=>hx.get t,Ext.refl _,fun h=>absurd h On.not_replicate,fun _ m hm=>hm,h _ (Below.refl _ _).drew⟩
  have hal:∀(ρ:Ai) (w:World) (K:Value→World→Prop),(∀w',w'.heap[w.heap.size]? =some (.cells cells e (0,0))→Ext w w' →w.heap.size<w'.heap.size→K (PQ w.heap.size 0) w')→Yk P K ((execOp (Ab ρ) ⟨some da, .alloc e,ty,pos,af,gd⟩).run P w):=fun ρ w K hk=>
    Yk.alloc hz fun m w' hn hb hx hs=>by subst hn;exact hk w' hb hx (by omega)
  obtain⟨u',r',ρ',hp,hr⟩:=h0.place hb
  refine wp_region_any hm (Qc hg hb hab hoa rfl hal _ _ _ _ u' r' _ _ ρ' (by simp) hp ?_)
  rcases hr with rfl | hr
  · exact .inl ⟨rfl,On.not_replicate⟩
  · exact .inr hr
theorem aX(ho:l[i]? =some o)(hc:cs.contains i=false)(v:Value)(hv:∀w',CY l pf i=true∨Ext wk w' →Yk P (fun x w'' =>x=v∧w'' =w') ((execOp (Ab ρ) o).run P w'))(h:Eb P n u Q k l cs pf fl a da o0 post r wk N (updO ρ o.dst v)):Eb P n u Q k l cs pf fl a da o0 post (i :: r) wk N ρ:=by
  unfold Eb E8
  rw[ho]
  simp only
  rw[if_neg (fun x=>by rw[List.contains_iff_mem.2 x]at hc;cases hc)]
  exact⟨v,hv,h⟩
theorem aP(ho:l[i]? =some o)(hc:cs.contains i=false)(hv:∀(w' :World) (_:True),Yk P (fun x w'' =>x=v∧w'' =w') ((execOp (Ab ρ) o).run P w'))(h:Eb P n u Q k l cs pf fl a da o0 post r wk N (updO ρ o.dst v)):Eb P n u Q k l cs pf fl a da o0 post (i :: r) wk N ρ:=aX ho hc v (fun w' _=>hv w' trivial) h
theorem aM{d:Option Tmp}{x:Operand}{ty:TypeId}{pos:String}{af:Array Edge}{gd:Option (Nat × Bool)}(ho:l[i]? =some ⟨d, .move x,ty,pos,af,gd⟩)(hc:cs.contains i=false)(h:Eb P n u Q k l cs pf fl a da o0 post r wk N (updO ρ d (Ab ρ x))):Eb P n u Q k l cs pf fl a da o0 post (i :: r) wk N ρ:=aX ho hc _ (fun w' _=>Yk.move rfl ⟨rfl,rfl⟩) h
theorem aF(ho:l[i]? =some o)(hc:(cs.contains i||CY l pf i)=false)(hv:∀w',Ext wk w' →Yk P (fun x w'' =>x=v∧w'' =w') ((execOp (Ab ρ) o).run P w'))(h:Eb P n u Q k l cs pf fl a da o0 post r wk N (updO ρ o.dst v)):Eb P n u Q k l cs pf fl a da o0 post (i :: r) wk N ρ:=by
  rw[Bool.or_eq_false_iff]at hc
  exact aX ho hc.1 v (fun w' hw' =>hv w' (hw'.resolve_left (by rw[hc.2];exact Bool.false_ne_true))) h
theorem aA{t:TypeId}{x y:Operand}{d:Option Tmp}{ty:TypeId}{pos:String}{af:Array Edge}{gd:Option (Nat × Bool)}(ho:l[i]? =some ⟨d, .indexAddr t x y,ty,pos,af,gd⟩)(hc:cs.contains i=false)(h:Yk P (fun v _=>Eb P n u Q k l cs pf fl a da o0 post r wk N (updO ρ d v)) ((execOp (Ab ρ) ⟨d, .indexAddr t x y,ty,pos,af,gd⟩).run P wk)):Eb P n u Q k l cs pf fl a da o0 post (i :: r) wk N ρ:=by
  obtain⟨v,hn,hv⟩:=F5 (.indexAt _ _ _) h
  exact aX ho hc v (fun w' _=>hv w') hn
theorem aC(ho:l[i]? =some o)(hc:cs.contains i=true)(h:∀w,Ext wk w→Yk P (fun v w' =>Ext w w' ∧Eb P n u Q k l cs pf fl a da o0 post r w' (fun m=>N m∧(m<w.heap.size∨w'.heap.size≤m)) (updO ρ o.dst v)) ((execOp (Ab ρ) o).run P w)):Eb P n u Q k l cs pf fl a da o0 post (i :: r) wk N ρ:=by
  unfold Eb E8
  rw[ho]
  simp only
  rw[if_pos (List.contains_iff_mem.1 hc)]
  exact fun w hw=>Yk.mono (h w hw) fun v w' hx=>⟨.inl hx.1,hx.2⟩
theorem aD(ho:l[i]? =some o)(hc:(cs.contains i&&JL l fl r i)=true)(h:∀w:World,Ext wk w→Yk P (fun v w' =>(w.heap.size≤w'.heap.size∧∀m:Nat,w.heap[m]? =some o0→w'.heap[m]? =some o0)∧Eb P n u Q k l cs pf fl a da o0 post r w' (fun m=>N m∧(m<w.heap.size∨w'.heap.size≤m)) (updO ρ o.dst v)) ((execOp (Ab ρ) o).run P w)):Eb P n u Q k l cs pf fl a da o0 post (i :: r) wk N ρ:=by
  rw[Bool.and_eq_true]at hc
  unfold Eb E8
  rw[ho]
  simp only
  rw[if_pos (List.contains_iff_mem.1 hc.1)]
  exact fun w hw=>Yk.mono (h w hw) fun v w' hx=>⟨.inr ⟨⟨hx.1.1,fun m _=>hx.1.2 m⟩,hc.2⟩,hx.2⟩
theorem aE(h:∀m b,Ext wk b→N m→m<b.heap.size→b.heap[m]? =some o0→Bp P n u Q b (Bw n u 1000 (.mix l cs pf (a :: fl) (fun x=>Ext b x∧True) post) k (updO ρ (some da) (PQ m 0)))):Eb P n u Q k l cs pf fl a da o0 post [] wk N ρ:=fun m b h1 h2 h3 h4=>adv_ok _ _ _ _ (h m b h1 h2 h3 h4)
end
open Go.RowKit
set_option maxRecDepth 100000
set_option linter.unusedVariables false
set_option linter.unusedSimpArgs false
def renC(x:List UInt8 × Nat):List Value:=St (x.1) :: NI (x.2) :: []
theorem Fg(x:List UInt8 × Nat):(renC x).length=2:=by simp[renC,Lib.byteCells_length]
theorem CG{x:List UInt8 × Nat}:∀u∈renC x,u.oneCell' =true:=by
  intro u hu
  simp only[renC,List.mem_cons,List.mem_append,List.not_mem_nil,or_false]at hu
  rcases hu with rfl | rfl
  · rfl
  · rfl
theorem Sv(x:List UInt8 × Nat):(renC x)[0]? =some (St (x.1)):=by
  rfl
theorem Gu(x:List UInt8 × Nat):((renC x).drop 0).take 1= [St (x.1)]:=by
  exact HP (Sv x)
theorem Sw(x:List UInt8 × Nat):(renC x)[1]? =some (NI (x.2)):=by
  rfl
theorem HY(x:List UInt8 × Nat):((renC x).drop 1).take 1= [NI (x.2)]:=by
  exact HP (Sw x)
def racC(x:AM):List Value:=St (x.frm) :: St (x.to) :: NI (x.file) :: []
theorem Fh(x:AM):(racC x).length=3:=by simp[racC,Lib.byteCells_length]
theorem Fi{x:AM}:∀u∈racC x,u.oneCell' =true:=by
  intro u hu
  simp only[racC,List.mem_cons,List.mem_append,List.not_mem_nil,or_false]at hu
  rcases hu with rfl | rfl | rfl
  · rfl
  · rfl
  · rfl
theorem Sx(x:AM):(racC x)[0]? =some (St (x.frm)):=by
  rfl
theorem Gv(x:AM):(racC x)[1]? =some (St (x.to)):=by
  rfl
theorem Sz(x:AM)(v:Bs):(racC x).set 1 (St (v))=racC ({ x with to:=v }):=by
  rfl
theorem N9(x:AM):(racC x)[2]? =some (NI (x.file)):=by
  rfl
structure S4 where
  made:Bool
  quota:Int
  files:List Bs
  synced:List Int
  now:Ba
  kept:Ba
  acts:List AM
  refused:Nat
  arm:Nat
  down:Bool
structure Cn where
  files:Value
  synced:Value
  now:Value
  kept:Value
  acts:Value
abbrev Au:=S4 × Cn
def rdkC(x:Au):List Value:= .bool (x.1.made) :: .int .i64 (x.1.quota) :: x.2.files :: x.2.synced :: x.2.now :: x.2.kept :: x.2.acts :: NI (x.1.refused) :: NI (x.1.arm) :: .bool (x.1.down) :: []
theorem Ay(x:Au):(rdkC x).length=10:=by simp[rdkC,Lib.byteCells_length]
theorem AA{x:Au}(h0:x.2.files.oneCell' =true)(h1:x.2.synced.oneCell' =true)(h2:x.2.now.oneCell' =true)(h3:x.2.kept.oneCell' =true)(h4:x.2.acts.oneCell' =true):∀u∈rdkC x,u.oneCell' =true:=by
  intro u hu
  simp only[rdkC,List.mem_cons,List.mem_append,List.not_mem_nil,or_false]at hu
  rcases hu with rfl | rfl | rfl | rfl | rfl | rfl | rfl | rfl | rfl | rfl
  · rfl
  · rfl
  · exact h0
  · exact h1
  · exact h2
  · exact h3
  · exact h4
  · rfl
  · rfl
  · rfl
theorem Dy(x:Au):(rdkC x)[0]? =some (.bool (x.1.made)):=by
  rfl
theorem Oa(x:Au):(rdkC x)[1]? =some (.int .i64 (x.1.quota)):=by
  rfl
theorem C2(x:Au):(rdkC x)[2]? =some (x.2.files):=by
  rfl
theorem Km(x:Au)(v:Value)(l:List Bs):(rdkC x).set 2 (v)=rdkC (({ x.1 with files:=l },{ x.2 with files:=v })):=by
  rfl
theorem Gw(x:Au):(rdkC x)[3]? =some (x.2.synced):=by
  rfl
theorem Kn(x:Au)(v:Value)(l:List Int):(rdkC x).set 3 (v)=rdkC (({ x.1 with synced:=l },{ x.2 with synced:=v })):=by
  rfl
theorem BU(x:Au):(rdkC x)[4]? =some (x.2.now):=by
  rfl
theorem HZ(x:Au)(v:Value)(l:Ba):(rdkC x).set 4 (v)=rdkC (({ x.1 with now:=l },{ x.2 with now:=v })):=by
  rfl
theorem Ob(x:Au):(rdkC x)[5]? =some (x.2.kept):=by
  rfl
theorem Ko(x:Au)(v:Value)(l:Ba):(rdkC x).set 5 (v)=rdkC (({ x.1 with kept:=l },{ x.2 with kept:=v })):=by
  rfl
theorem Gx(x:Au):(rdkC x)[6]? =some (x.2.acts):=by
  rfl
theorem H0(x:Au)(v:Value)(l:List AM):(rdkC x).set 6 (v)=rdkC (({ x.1 with acts:=l },{ x.2 with acts:=v })):=by
  rfl
theorem Oc(x:Au):(rdkC x)[7]? =some (NI (x.1.refused)):=by
  rfl
theorem SA(x:Au)(v:Nat):(rdkC x).set 7 (NI (v))=rdkC (({ x.1 with refused:=v },x.2)):=by
  rfl
theorem H4(x:Au):(rdkC x)[8]? =some (NI (x.1.arm)):=by
  rfl
theorem Od(x:Au)(v:Nat):(rdkC x).set 8 (NI (v))=rdkC (({ x.1 with arm:=v },x.2)):=by
  rfl
theorem EL(x:Au):(rdkC x)[9]? =some (.bool (x.1.down)):=by
  rfl
theorem SB(x:Au)(v:Bool):(rdkC x).set 9 (.bool (v))=rdkC (({ x.1 with down:=v },x.2)):=by
  rfl
end Go.Proofs.YtejpjjhkjdpeaaaGreatDoor
