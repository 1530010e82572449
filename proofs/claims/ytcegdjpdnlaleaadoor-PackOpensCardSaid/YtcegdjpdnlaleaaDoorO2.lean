/- Part 2 of what stands behind these statements: laws and walks of the functions that are reached. Conditions: those that each theorem names. -/
import Derived.Test.YtcegdjpdnlaleaaDoorO1
set_option linter.unusedVariables false
set_option linter.unusedSimpArgs false
namespace Go.Proofs.YtcegdjpdnlaleaaDoor
open Go.RowKit
inductive Fr where
  | seq (y:Code)
  | block (id:Nat)
  | scope
  | fin (K:Ae→World→Prop)
def CE(P:Program)(n:Nat)(Q:Bp):List Fr→Bp
  | []=>fun e ρ w=>match e with
    | .normal=>Q .ret ρ w
    | e=>Q e ρ w
  | .seq y :: k=>FM (BN P n y (CE P n Q k)) (CE P n Q k)
  | .block id :: k=>Eo id (CE P n Q k)
  | .scope :: k=>Mp (CE P n Q k)
  | .fin K :: k=>FM K (CE P n Q k)
inductive K3 where
  | code (c:Code)
  | ops (a:Array Oper) (l:List Oper)
  | pop
  | mix (l:List Oper) (cs pf fl:List Nat) (I:World→Prop) (r:List Nat)
inductive MK where
  | pure
  | here
  | float
inductive Tg where
  | op (a:Array Oper) (o:Oper) (r:List Oper) (k:List Fr) (ρ:Ae)
  | code (c:Code) (k:List Fr) (ρ:Ae)
  | fin (K:Ae→World→Prop) (k:List Fr) (ρ:Ae)
  | chain (l:List Oper) (cs pf fl:List Nat) (I:World→Prop) (i:Nat) (o:Oper) (r:List Nat) (k:List Fr) (ρ:Ae)
  | still (κ:MK) (l:List Oper) (cs pf fl:List Nat) (I:World→Prop) (i:Nat) (o:Oper) (r:List Nat) (k:List Fr) (ρ:Ae)
  | ret (ρ:Ae)
  | bad
def room(n:Nat):Option Tmp→Bool
  | some d=>Nat.blt d n
  | none=>true
def RV:Bool→Bool→Bool
  | true,true=>true
  | false,false=>true
  | _,_=>false
def Bc(n:Nat)(u:Bool):Nat→K3→List Fr→Ae→Tg
  | 0,_,_,_=> .bad
  | f+1, .code c,k,ρ=>match c with
    | .seq x y=>Bc n u f (.code x) (.seq y :: k) ρ
    | .block id x=>Bc n u f (.code x) (.block id :: k) ρ
    | .scope x=>Bc n u f (.code x) (.scope :: k) ρ
    | .skip=>Bc n u f .pop k ρ
    | .ret=> .ret ρ
    | .exit id=>match k with
      | []=> .bad
      | .block i :: k=>cond (Nat.beq id i) (Bc n u f .pop k ρ) (Bc n u f (.code (.exit id)) k ρ)
      | _ :: k=>Bc n u f (.code (.exit id)) k ρ
    | .region _ a d=>cond d (.code c k ρ) (Bc n u f (.ops a a.toList) k ρ)
    | c=> .code c k ρ
  | f+1, .pop,k,ρ=>match k with
    | []=> .ret ρ
    | .seq y :: k=>Bc n u f (.code y) k ρ
    | .fin K :: k=> .fin K k ρ
    | _ :: k=>Bc n u f .pop k ρ
  | f+1, .ops a l,k,ρ=>match l with
    | []=>Bc n u f .pop k ρ
    | o :: r=>cond (room n o.dst) (match o.guard with
      | some (g,want)=>cond u (match (a[g]?).bind (·.dst)with
        | some d=>match ρ d with
          | .bool b=>match RV b want with
            | true=>match o.op with
              | .move x=>Bc n u f (.ops a r) k (updO ρ o.dst (Ab ρ x))
              | .assign x=>Bc n u f (.ops a r) k (updO ρ o.dst (Ab ρ x))
              | _=> .op a { o with guard:=none } r k ρ
            | false=>Bc n u f (.ops a r) k (updO ρ o.dst undef)
          | _=> .op a o r k ρ
        | none=> .op a o r k ρ) (.op a o r k ρ)
      | none=>match o.op with
        | .move x=>Bc n u f (.ops a r) k (updO ρ o.dst (Ab ρ x))
        | .assign x=>Bc n u f (.ops a r) k (updO ρ o.dst (Ab ρ x))
        | _=> .op a o r k ρ) .bad
  | f+1, .mix l cs pf fl I r,k,ρ=>match r with
    | []=>Bc n u f .pop k ρ
    | i :: r=>match l[i]? with
      | none=> .bad
      | some o=>cond (Bg l o ρ) (cond (cs.contains i) (.chain l cs pf fl I i o r k ρ) (match o.op with
        | .move x=>Bc n u f (.mix l cs pf fl I r) k (updO ρ o.dst (Ab ρ x))
        | .assign x=>Bc n u f (.mix l cs pf fl I r) k (updO ρ o.dst (Ab ρ x))
        | _=> .still (cond (pf.contains i) .pure (cond (fl.contains i) .float .here)) l cs pf fl I i o r k ρ))
        (Bc n u f (.mix l cs pf fl I r) k (updO ρ o.dst undef))
def JK(P:Program)(n:Nat)(Q:Bp)(k:List Fr)(ch:List PanicEntry)(w:World):Prop:=∀ρ,CE P n Q k (.panic ch) ρ w
def K4(P:Program)(n:Nat)(Q:Bp)(l:List Oper)(cs pf fl:List Nat)(I:World→Prop)(r:List Nat)(k:List Fr)(ρ:Ae)(w:World):Prop:=
  Dy P l cs pf fl (JK P n Q k) (fun ρ w=>CE P n Q k .normal ρ w) r I ρ w
def A3(P:Program)(n:Nat)(_:Bool)(Q:Bp)(w:World):Tg→Prop
  | .op a o r k ρ=>room n o.dst=true→Di P a n (CE P n Q k) (o :: r) ρ w
  | .code c k ρ=>BN P n c (CE P n Q k) ρ w
  | .fin K _ ρ=>K ρ w
  | .chain l cs pf fl I i o r k ρ=>l[i]? =some o→Bg l o ρ=true→i∈cs→K4 P n Q l cs pf fl I (i :: r) k ρ w
  | .still κ l cs pf fl I i o r k ρ=>l[i]? =some o→Bg l o ρ=true→i∉cs→(match κ with | .pure=>EA l pf i=true | .here=>EA l pf i=false∧i∉fl | .float=>EA l pf i=false∧i∈fl)→K4 P n Q l cs pf fl I (i :: r) k ρ w
  | .ret ρ=>Q .ret ρ w
  | .bad=>False
def CmdOk(P:Program)(n:Nat)(Q:Bp)(w:World)(k:List Fr)(ρ:Ae):K3→Prop
  | .code (.exit i)=>CE P n Q k (.exit i) ρ w
  | .code c=>BN P n c (CE P n Q k) ρ w
  | .ops a l=>Di P a n (CE P n Q k) l ρ w
  | .pop=>CE P n Q k .normal ρ w
  | .mix l cs pf fl I r=>K4 P n Q l cs pf fl I r k ρ w
section
variable {P : Program} {n : Nat} {u : Bool} {Q : Bp} {ρ : Ae} {w : World} {k : List Fr}
theorem Fu:∀ {d:Option Tmp},room n d=true→(match d with | some d=>Nat.blt d n | none=>true)=true
  | some _,h=>h
  | none,_=>rfl
theorem CmdOk.wp{c:Code}(h:CmdOk P n Q w k ρ (.code c)):BN P n c (CE P n Q k) ρ w:=by
  cases c with
  | exit i=>exact PE h
  | _=>exact h
theorem NZ{Q:Bp}{a:Array Oper}{dst:Option Tmp}{op:Op}{ty:TypeId}{pos:String}{af:Array Edge}{r:List Oper}{g:Nat}{want:Bool}{d:Tmp}(hg:(a[g]?).bind (·.dst)=some d)(hv:ρ d = .bool want) 
    (h:Di P a n Q (⟨dst,op,ty,pos,af,none⟩ :: r) ρ w):Di P a n Q (⟨dst,op,ty,pos,af,some (g,want)⟩ :: r) ρ w:=fun c hc=>by
  have h1:=h c hc
  have hw:Region.wanted ⟨dst,op,ty,pos,af,some (g,want)⟩ (yielded a c.tmps)=true:=by
    have:=JC ((hc.get d).trans hv)
    simp only[Region.wanted,yielded,hg]
    simp[this]
  unfold wpList at h1 ⊢
  rw[if_pos hw]
  exact h1
theorem Bv:∀(f:Nat) (u:Bool) (c:K3) (k:List Fr) (ρ:Ae),A3 P n u Q w (Bc n u f c k ρ)→CmdOk P n Q w k ρ c
  | 0,u,c,k,ρ,h=>h.elim
  | f+1,u, .code c,k,ρ,h=>by
    match c,h with
    | .seq x y,h=>exact Mq (Bv f u (.code x) (.seq y :: k) ρ h).wp
    | .block id x,h=>exact NV (Bv f u (.code x) (.block id :: k) ρ h).wp
    | .scope x,h=>exact NW (Bv f u (.code x) (.scope :: k) ρ h).wp
    | .skip,h=>exact Dh (Bv f u .pop k ρ h)
    | .ret,h=>
      have:∀k,CE P n Q k .ret ρ w=Q .ret ρ w:=fun k=>by
        induction k with
        | nil=>rfl
        | cons x k ih=>cases x <;> exact ih
      exact HX (by rw[this];exact h)
    | .exit id,h=>
      match k,h with
      | .block i :: k,h=>
        cases hb:Nat.beq id i with
        | true=>
          obtain rfl:=Nat.eq_of_beq_eq_true hb
          unfold Bc at h
          simp only[hb,cond_true]at h
          exact KU (Bv f u .pop k ρ h)
        | false=>
          unfold Bc at h
          simp only[hb,cond_false]at h
          exact Kw hb (Bv f u (.code (.exit id)) k ρ h)
      | .seq y :: k,h=>exact Bv f u (.code (.exit id)) k ρ h
      | .scope :: k,h=>exact Bv f u (.code (.exit id)) k ρ h
      | .fin K :: k,h=>exact Bv f u (.code (.exit id)) k ρ h
    | .region id a d,h=>
      cases d with
      | true=>exact h
      | false=>exact wt (l:=a.toList) (Bv f u (.ops a a.toList) k ρ h)
    | .cond ..,h=>exact h
    | .loop ..,h=>exact h
    | .rangeFunc ..,h=>exact h
    | .label ..,h=>exact h
    | .goto ..,h=>exact h
    | .refuse ..,h=>exact h
  | f+1,u, .pop,k,ρ,h=>by
    match k,h with
    | [],h=>exact h
    | .seq y :: k,h=>exact(Bv f u (.code y) k ρ h).wp
    | .fin K :: k,h=>exact h
    | .block i :: k,h=>exact Bv f u .pop k ρ h
    | .scope :: k,h=>exact Bv f u .pop k ρ h
  | f+1,u, .ops a l,k,ρ,h=>by
    match l,h with
    | [],h=>exact oZ (Bv f u .pop k ρ h)
    | o :: r,h=>
      cases hr:room n o.dst with
      | false=>unfold Bc at h;simp only[hr,cond_false]at h;exact h.elim
      | true=>
        unfold Bc at h
        simp only[hr,cond_true]at h
        obtain⟨dst,op,ty,pos,af,gd⟩:=o
        cases gd with
        | some g=>
          obtain⟨g,want⟩:=g
          cases u with
          | false=>exact h hr
          | true=>
            cases hg:(a[g]?).bind (·.dst)with
            | none=>simp only[hg,cond_true]at h;exact h hr
            | some d=>
              simp only[hg,cond_true]at h
              cases hv:ρ d with
              | bool b=>
                simp only[hv]at h
                cases hb:RV b want with
                | true=>
                  obtain rfl:b=want:=by cases b <;> cases want <;> first | rfl | cases hb
                  simp only[hb]at h
                  refine NZ hg hv ?_
                  cases op with
                  | move x=>exact oS (Fu hr) (Yk.move rfl (Bv f true (.ops a r) k _ h))
                  | assign x=>exact oS (Fu hr) (Yk.assign rfl (Bv f true (.ops a r) k _ h))
                  | _=>exact h hr
                | false=>
                  simp only[hb]at h
                  exact oN rfl (Fu hr) hg hv (by cases b <;> cases want <;> first | rfl | cases hb) (Bv f true (.ops a r) k _ h)
              | _=>simp only[hv]at h;exact h hr
        | none=>
          cases op with
          | move x=>exact oS (Fu hr) (Yk.move rfl (Bv f u (.ops a r) k _ h))
          | assign x=>exact oS (Fu hr) (Yk.assign rfl (Bv f u (.ops a r) k _ h))
          | _=>exact h hr
  | f+1,u, .mix l cs pf fl I r,k,ρ,h=>by
    match r,h with
    | [],h=>exact Bv f u .pop k ρ h
    | i :: r,h=>
      cases ho:l[i]? with
      | none=>unfold Bc at h;simp only[ho]at h;exact h.elim
      | some o=>
        unfold Bc at h
        simp only[ho]at h
        cases hw:Bg l o ρ with
        | false=>
          simp only[hw,cond_false]at h
          show Dy _ _ _ _ _ _ _ _ _ _ _
          unfold Dy
          rw[ho]
          simp only
          rw[if_pos hw]
          exact Bv f u (.mix l cs pf fl I r) k _ h
        | true=>
          simp only[hw,cond_true]at h
          cases hc:cs.contains i with
          | true=>simp only[hc,cond_true]at h;exact h ho hw (List.contains_iff_mem.1 hc)
          | false=>
            simp only[hc,cond_false]at h
            have hc' :i∉cs:=fun x=>by rw[List.contains_iff_mem.2 x]at hc;cases hc
            have mv:∀(v:Value),(∀w',Yk P (fun x w'' =>x=v∧w'' =w') ((execOp (Ab ρ) o).run P w'))→A3 P n u Q w (Bc n u f (.mix l cs pf fl I r) k (updO ρ o.dst v))→K4 P n Q l cs pf fl I (i :: r) k ρ w:=fun v hv h=>by
              show Dy _ _ _ _ _ _ _ _ _ _ _
              unfold Dy
              rw[ho]
              simp only
              rw[if_neg (by rw[hw];simp),if_neg hc']
              exact⟨v,fun w' _=>hv w',Bv f u (.mix l cs pf fl I r) k _ h⟩
            have st:(match o.op with | .move _ | .assign _=>true | _=>false)=false→A3 P n u Q w (.still (cond (pf.contains i) .pure (cond (fl.contains i) .float .here)) l cs pf fl I i o r k ρ)→K4 P n Q l cs pf fl I (i :: r) k ρ w:=fun hm h=>by
              refine h ho hw hc' ?_
              cases hp:pf.contains i with
              | true=>show EA l pf i=true;unfold EA;rw[hp];rfl
              | false=>
                have hb:EA l pf i=false:=by unfold EA;rw[hp,ho];exact hm
                cases hf:fl.contains i with
                | true=>exact⟨hb,List.contains_iff_mem.1 hf⟩
                | false=>exact⟨hb,fun x=>by rw[List.contains_iff_mem.2 x]at hf;cases hf⟩
            obtain⟨dst,op,ty,pos,af,gd⟩:=o
            cases op with
            | move x=>exact mv _ (fun w' =>Yk.move rfl ⟨rfl,rfl⟩) h
            | assign x=>exact mv _ (fun w' =>Yk.assign rfl ⟨rfl,rfl⟩) h
            | _=>exact st rfl h
theorem adv_ok{u:Bool}(f:Nat)(c:K3)(k:List Fr)(ρ:Ae)(h:A3 P n u Q w (Bc n u f c k ρ)):CmdOk P n Q w k ρ c:=Bv f u c k ρ h
theorem Ea{ch:List PanicEntry}(h:Q (.panic ch) ρ w):∀k,CE P n Q k (.panic ch) ρ w
  | []=>h
  | x :: k=>by cases x <;> exact Ea h k
theorem gM{id:Nat}{l:List Oper}(ord cs pf fl:List Nat){I:World→Prop}(hm:P.follows .mixedOrders=true)(hg:Cl l n=true)(hb:Gz l cs pf fl ord=true)(hI:I w.drew) 
    (h:A3 P n u Q w.drew (Bc n u 1000 (.mix l cs pf fl I ord) k ρ)):A3 P n u Q w (.code (.region id l.toArray true) k ρ):=fun a ha=>by
  have h0:MInv P l cs pf fl ord n (JK P n Q k) (fun ρ w=>CE P n Q k .normal ρ w) [] ord I ρ (Array.replicate l.length false) a w.drew:=
    ⟨by simp,fun i o _ h=>absurd h On.not_replicate,ha.size,ha.defers,rfl,fun i _=>On.not_replicate,(fun i hi=>by cases hi),fun t _=>ha.get t,hI,adv_ok _ _ _ _ h⟩
  obtain⟨u',r',ρ',hp,hr⟩:=h0.place hb
  exact wp_region_any hm (QV hg hb _ _ _ _ u' r' I ρ' (by simp) hp hr)
theorem Bw{id:Nat}{l:List Oper}(ord cs pf:List Nat)(h:∀w1,Ext w w1→A3 P n u Q w1 (Bc n u 1000 (.mix l cs pf [] (fun _=>True) ord) k ρ))(hm:P.follows .mixedOrders=true:=by kernel_rfl)(hg:Cl l n=true:=by kernel_rfl)(hb:Gz l cs pf [] ord=true:=by kernel_rfl):A3 P n u Q w (.code (.region id l.toArray true) k ρ):=
  gM ord cs pf [] hm hg hb trivial (h _ (Below.refl _ _).drew)
theorem DC{id:Nat}{l:List Oper}(ord cs pf fl:List Nat)(h:∀w1,Ext w w1→∃I:World→Prop,I w1∧A3 P n u Q w1 (Bc n u 1000 (.mix l cs pf fl I ord) k ρ))(hm:P.follows .mixedOrders=true:=by kernel_rfl)(hg:Cl l n=true:=by kernel_rfl)(hb:Gz l cs pf fl ord=true:=by kernel_rfl):A3 P n u Q w (.code (.region id l.toArray true) k ρ):=by
  obtain⟨I,hI,h⟩:=h _ (Below.refl _ _).drew
  exact gM ord cs pf fl hm hg hb hI h
theorem m2{l:List Oper}{ord cs pf fl:List Nat}{A B:World→Prop}(a:A w)(b:B w)(h:A3 P n u Q w (Bc n u 1000 (.mix l cs pf fl (fun w=>A w∧B w∧True) ord) k ρ)):∃I:World→Prop,I w∧A3 P n u Q w (Bc n u 1000 (.mix l cs pf fl I ord) k ρ):=⟨(fun w=>A w∧B w∧True),⟨a,b,trivial⟩,h⟩
theorem RW{l:List Oper}{ord cs pf fl:List Nat}{g0:Nat}{o0:Obj}(b0:w.heap[g0]? =some o0){g1:Nat}{o1:Obj}(b1:w.heap[g1]? =some o1)(h:A3 P n u Q w (Bc n u 1000 (.mix l cs pf fl (fun w=>w.heap[g0]? =some o0∧w.heap[g1]? =some o1∧True) ord) k ρ)):∃I:World→Prop,I w∧A3 P n u Q w (Bc n u 1000 (.mix l cs pf fl I ord) k ρ):=⟨(fun w=>w.heap[g0]? =some o0∧w.heap[g1]? =some o1∧True),⟨b0,b1,trivial⟩,h⟩
theorem C3{l:List Oper}{ord cs pf fl:List Nat}{x0:World}(a:Ext x0 w)(h:A3 P n u Q w (Bc n u 1000 (.mix l cs pf fl (fun w=>Ext x0 w∧True) ord) k ρ)):∃I:World→Prop,I w∧A3 P n u Q w (Bc n u 1000 (.mix l cs pf fl I ord) k ρ):=⟨(fun w=>Ext x0 w∧True),⟨a,trivial⟩,h⟩
section
variable {l : List Oper} {cs pf fl : List Nat} {I : World → Prop} {i : Nat} {o : Oper} {r : List Nat} {κ : MK}
theorem DW{J:List PanicEntry→World→Prop}{K:Ae→World→Prop}(ho:l[i]? =some o)(hw:Bg l o ρ=true)(hc:i∈cs) 
    (h:Yp P (fun v w' =>∃I' :World→Prop,I' w' ∧((∀x,I' x→I x)∨M3 l fl r i=true)∧Dy P l cs pf fl J K r I' (updO ρ o.dst v) w') J ((execOp (Ab ρ) o).run P w)):Dy P l cs pf fl J K (i :: r) I ρ w:=by
  unfold Dy
  rw[ho]
  simp only
  rw[if_neg (by rw[hw];simp),if_pos hc]
  exact h
theorem DX{J:List PanicEntry→World→Prop}{K:Ae→World→Prop}(ho:l[i]? =some o)(hw:Bg l o ρ=true)(hc:i∉cs) 
    (v:Value) (hv:∀w',Jo l pf fl I w i w' →Yk P (fun x w'' =>x=v∧w'' =w') ((execOp (Ab ρ) o).run P w')) (h:Dy P l cs pf fl J K r I (updO ρ o.dst v) w):Dy P l cs pf fl J K (i :: r) I ρ w:=by
  unfold Dy
  rw[ho]
  simp only
  rw[if_neg (by rw[hw];simp),if_neg hc]
  exact⟨v,hv,h⟩
theorem zz{x:Value}{w:World}:x=x∧w=w:=⟨rfl,rfl⟩
theorem yC(h:Yk P (fun v w' =>A3 P n u Q w' (Bc n u 1000 (.mix l cs pf [] (fun _=>True) r) k (updO ρ o.dst v))) ((execOp (Ab ρ) o).run P w)):A3 P n u Q w (.chain l cs pf [] I i o r k ρ):=fun ho hw hc=>
  DW ho hw hc (.ofK (Yk.mono h fun _ _ h=>⟨fun _=>True,trivial, .inr rfl,adv_ok _ _ _ _ h⟩))
theorem QH{fn:Func}{R:Ending→World→Prop}(h:Yp P (fun v w' =>A3 P n u (Cp P fn R) w' (Bc n u 1000 (.mix l cs pf [] (fun _=>True) r) k (updO ρ o.dst v))) (fun ch w' =>Cp P fn R (.panic ch) ρ w') ((execOp (Ab ρ) o).run P w)):A3 P n u (Cp P fn R) w (.chain l cs pf [] I i o r k ρ):=fun ho hw hc=>
  DW ho hw hc (Yp.mono' h (fun _ _ h=>⟨fun _=>True,trivial, .inr rfl,adv_ok _ _ _ _ h⟩) fun _ _ h ρ' =>Ea (Aq (ρ:=ρ') h) _)
theorem yI(h:Yk P (fun v w' =>I w' ∧A3 P n u Q w' (Bc n u 1000 (.mix l cs pf fl I r) k (updO ρ o.dst v))) ((execOp (Ab ρ) o).run P w)):A3 P n u Q w (.chain l cs pf fl I i o r k ρ):=fun ho hw hc=>
  DW ho hw hc (.ofK (Yk.mono h fun _ _ h=>⟨I,h.1, .inl fun _ h=>h,adv_ok _ _ _ _ h.2⟩))
theorem yE{w1:World}(h:Yk P (fun v w' =>Ext w1 w' ∧A3 P n u Q w' (Bc n u 1000 (.mix l cs pf fl (fun x=>Ext w' x∧True) r) k (updO ρ o.dst v))) ((execOp (Ab ρ) o).run P w)):A3 P n u Q w (.chain l cs pf fl (fun x=>Ext w1 x∧True) i o r k ρ):=fun ho hw hc=>
  DW ho hw hc (.ofK (Yk.mono h fun _ w' h=>⟨fun x=>Ext w' x∧True,⟨Ext.refl _,trivial⟩, .inl fun _ e=>⟨h.1.trans e.1,trivial⟩,adv_ok _ _ _ _ h.2⟩))
theorem yD(hc:M3 l fl r i=true)(h:Yk P (fun v w' =>A3 P n u Q w' (Bc n u 1000 (.mix l cs pf fl (fun _=>True) r) k (updO ρ o.dst v))) ((execOp (Ab ρ) o).run P w)):A3 P n u Q w (.chain l cs pf fl I i o r k ρ):=fun ho hw hi=>
  DW ho hw hi (.ofK (Yk.mono h fun _ _ h=>⟨fun _=>True,trivial, .inr hc,adv_ok _ _ _ _ h⟩))
theorem R4{fn:Func}{R:Ending→World→Prop}(hc:M3 l fl r i=true)(h:Yp P (fun v w' =>A3 P n u (Cp P fn R) w' (Bc n u 1000 (.mix l cs pf fl (fun _=>True) r) k (updO ρ o.dst v))) (fun ch w' =>Cp P fn R (.panic ch) ρ w') ((execOp (Ab ρ) o).run P w)):A3 P n u (Cp P fn R) w (.chain l cs pf fl I i o r k ρ):=fun ho hw hi=>
  DW ho hw hi (Yp.mono' h (fun _ _ h=>⟨fun _=>True,trivial, .inr hc,adv_ok _ _ _ _ h⟩) fun _ _ h ρ' =>Ea (Aq (ρ:=ρ') h) _)
theorem ys{v:Value}(h:Yk P (fun x w'' =>x=v∧w'' =w) ((execOp (Ab ρ) o).run P w))(hn:A3 P n u Q w (Bc n u 1000 (.mix l cs pf fl I r) k (updO ρ o.dst v))):A3 P n u Q w (.still .here l cs pf fl I i o r k ρ):=fun ho hw hc hf=>
  DX ho hw hc v (fun w' hw' =>by
    rcases hw' with hp | hw'
    · rw[hf.1]at hp;cases hp
    · rw[if_neg hf.2]at hw';subst hw';exact h) (adv_ok _ _ _ _ hn)
theorem yp{v:Value}(h:∀ {w' :World},Yk P (fun x w'' =>x=v∧w'' =w') ((execOp (Ab ρ) o).run P w'))(hn:A3 P n u Q w (Bc n u 1000 (.mix l cs pf fl I r) k (updO ρ o.dst v))):A3 P n u Q w (.still κ l cs pf fl I i o r k ρ):=fun ho hw hc _=>
  DX ho hw hc v (fun _ _=>h) (adv_ok _ _ _ _ hn)
theorem yf{v:Value}(h:∀w',I w' →Yk P (fun x w'' =>x=v∧w'' =w') ((execOp (Ab ρ) o).run P w'))(hn:A3 P n u Q w (Bc n u 1000 (.mix l cs pf fl I r) k (updO ρ o.dst v))):A3 P n u Q w (.still .float l cs pf fl I i o r k ρ):=fun ho hw hc hf=>
  DX ho hw hc v (fun w' hw' =>by
    rcases hw' with hp | hw'
    · rw[hf.1]at hp;cases hp
    · rw[if_pos hf.2]at hw';exact h w' hw') (adv_ok _ _ _ _ hn)
theorem yA{dst:Option Tmp}{t:TypeId}{x y:Operand}{ty:TypeId}{pos:String}{af:Array Edge}{gd:Option (Nat × Bool)}(h:Yk P (fun v _=>A3 P n u Q w (Bc n u 1000 (.mix l cs pf fl I r) k (updO ρ dst v))) ((execOp (Ab ρ) ⟨dst, .indexAddr t x y,ty,pos,af,gd⟩).run P w)):A3 P n u Q w (.still κ l cs pf fl I i ⟨dst, .indexAddr t x y,ty,pos,af,gd⟩ r k ρ):=fun ho hw hc _=>by
  obtain⟨v,hn,hv⟩:=JG (.indexAt _ _ _) h
  exact DX ho hw hc v (fun w' _=>hv w') (adv_ok _ _ _ _ hn)
theorem yS{dst:Option Tmp}{t:TypeId}{x:Operand}{lo hi mx:Option Operand}{ty:TypeId}{pos:String}{af:Array Edge}{gd:Option (Nat × Bool)}(h:Yk P (fun v _=>A3 P n u Q w (Bc n u 1000 (.mix l cs pf fl I r) k (updO ρ dst v))) ((execOp (Ab ρ) ⟨dst, .slice t x lo hi mx,ty,pos,af,gd⟩).run P w)):A3 P n u Q w (.still κ l cs pf fl I i ⟨dst, .slice t x lo hi mx,ty,pos,af,gd⟩ r k ρ):=fun ho hw hc _=>by
  obtain⟨v,hn,hv⟩:=JG (.sliceAt _ _ _ _ _) h
  exact DX ho hw hc v (fun w' _=>hv w') (adv_ok _ _ _ _ hn)
theorem yF{dst:Option Tmp}{s:TypeId}{f off m:Nat}{x:Operand}{ty:TypeId}{pos:String}{af:Array Edge}{gd:Option (Nat × Bool)}{xs:List Value}(hf:A6 P s f off)(hp:PR xs (Ab ρ x) w) 
    (hn:∀v,PR ((xs.drop off).take m) v w→A3 P n u Q w (Bc n u 1000 (.mix l cs pf fl I r) k (updO ρ dst v))):A3 P n u Q w (.still κ l cs pf fl I i ⟨dst, .fieldAddr s x f,ty,pos,af,gd⟩ r k ρ):=fun ho hw hc _=>by
  obtain⟨b,o,hx,hr⟩:=hp
  refine DX ho hw hc (.pointer (some ⟨b,o+off,none⟩)) (fun w' _=>Yk.fieldAt hf hx ⟨rfl,rfl⟩) (adv_ok _ _ _ _ (hn _ ⟨b,o+off,rfl,fun j v hv=> ?_⟩))
  rw[List.getElem?_take]at hv
  split at hv
  · rw[List.getElem?_drop]at hv
    have:=hr _ _ hv
    rw[←Nat.add_assoc]at this
    exact this
  · cases hv
end
theorem gS{a:Array Oper}{dst:Option Tmp}{op:Op}{ty:TypeId}{pos:String}{af:Array Edge}{r:List Oper} 
    (h:Yk P (fun v w' =>A3 P n u Q w' (Bc n u 1000 (.ops a r) k (updO ρ dst v))) ((execOp (Ab ρ) ⟨dst,op,ty,pos,af,none⟩).run P w)):A3 P n u Q w (.op a ⟨dst,op,ty,pos,af,none⟩ r k ρ):=fun hr=>
  oS (Fu hr) (Yk.mono h fun _ _ h=>adv_ok _ _ _ _ h)
theorem gP{a:Array Oper}{dst:Option Tmp}{op:Op}{ty:TypeId}{pos:String}{af:Array Edge}{r:List Oper} 
    (h:Yp P (fun v w' =>A3 P n u Q w' (Bc n u 1000 (.ops a r) k (updO ρ dst v))) (fun ch w' =>Q (.panic ch) ρ w') ((execOp (Ab ρ) ⟨dst,op,ty,pos,af,none⟩).run P w)):A3 P n u Q w (.op a ⟨dst,op,ty,pos,af,none⟩ r k ρ):=fun hr=>by
  refine oP (Fu hr) ?_
  revert h
  generalize (execOp (Ab ρ) ⟨dst,op,ty,pos,af,none⟩).run P w=x
  intro h
  match x,h with
  | .ok (.value v) w',h=>exact adv_ok _ _ _ _ h
  | .ok .skip w',h=>exact adv_ok _ _ _ _ h
  | .halt (.panic v) w',h=>exact Ea h _
  | .ok (.enter f args) w',h=>
    refine Calls.mono h ?_
    intro e w'' hx
    match e,hx with
    | .returned v,hx=>exact adv_ok _ _ _ _ hx
    | .panicked ch,hx=>exact Ea hx _
theorem kB{f:Nat}{c:K3}{d:Option Tmp}{b b' :Bool}(e:b=b')(h:A3 P n u Q w (Bc n u f c k (updO ρ d (.bool b')))):A3 P n u Q w (Bc n u f c k (updO ρ d (.bool b))):=e▸h
theorem kT{f:Nat}{c:K3}{d:Option Tmp}{p:Prop}[Decidable p](e:p)(h:A3 P n u Q w (Bc n u f c k (updO ρ d (.bool true)))):A3 P n u Q w (Bc n u f c k (updO ρ d (.bool (decide p)))):=kB (decide_eq_true e) h
theorem kF{f:Nat}{c:K3}{d:Option Tmp}{p:Prop}[Decidable p](e:¬p)(h:A3 P n u Q w (Bc n u f c k (updO ρ d (.bool false)))):A3 P n u Q w (Bc n u f c k (updO ρ d (.bool (decide p)))):=kB (decide_eq_false e) h
theorem gX(h:A3 P n true Q w (Bc n true 1000 .pop k ρ)):CE P n Q k .normal ρ w:=adv_ok _ _ _ _ h
theorem gR{id:Nat}{a:Array Oper}(h:BN P n (.region id a true) (CE P n Q k) ρ w):A3 P n u Q w (.code (.region id a true) k ρ):=h
theorem cT{c:Operand}{x y:Code}(hc:Ab ρ c = .bool true)(h:A3 P n u Q w (Bc n u 1000 (.code x) k ρ)):A3 P n u Q w (.code (.cond c x y) k ρ):=Ep hc (adv_ok _ _ _ _ h).wp
theorem cF{c:Operand}{x y:Code}(hc:Ab ρ c = .bool false)(h:A3 P n u Q w (Bc n u 1000 (.code y) k ρ)):A3 P n u Q w (.code (.cond c x y) k ρ):=Cr hc (adv_ok _ _ _ _ h).wp
theorem cD{c:Operand}{x y:Code}{p:Prop}[Decidable p](hc:Ab ρ c = .bool (decide p))(h1:p→A3 P n u Q w (Bc n u 1000 (.code x) k ρ))(h2:¬p→A3 P n u Q w (Bc n u 1000 (.code y) k ρ)):A3 P n u Q w (.code (.cond c x y) k ρ):=
  PF p hc (fun h=>(adv_ok _ _ _ _ (h1 h)).wp) fun h=>(adv_ok _ _ _ _ (h2 h)).wp
theorem cB{c:Operand}{x y:Code}(b:Bool)(hc:Ab ρ c = .bool b)(h1:b=true→A3 P n u Q w (Bc n u 1000 (.code x) k ρ))(h2:b=false→A3 P n u Q w (Bc n u 1000 (.code y) k ρ)):A3 P n u Q w (.code (.cond c x y) k ρ):=
  NU b hc (fun h=>(adv_ok _ _ _ _ (h1 h)).wp) fun h=>(adv_ok _ _ _ _ (h2 h)).wp
theorem gL{c:Code}(I:Ae→World→Prop)(μ:Ae→World→Nat)(h0:I ρ w) 
    (round:∀ρ w,I ρ w→A3 P n u Q w (Bc n u 1000 (.code c) (.fin (fun ρ' w' =>I ρ' w' ∧μ ρ' w' <μ ρ w) :: k) ρ)):A3 P n u Q w (.code (.loop c) k ρ):=
  PG I μ h0 fun ρ w hI=>(adv_ok _ _ _ _ (round ρ w hI)).wp
theorem gK{K:Ae→World→Prop}(h:K ρ w):A3 P n u Q w (.fin K k ρ):=h
def QI(l:List Value):Ae:=fun t=>l.getD t undef
theorem gG{f:FuncId}{fn:Func}{c:Code}{args:List Value}{R:Ending→World→Prop}(hf:P.funcs[f]? =some fn)(hb:fn.body=some c)(m:Nat)(hm:fn.ntmps=m)(hn:Nat.ble args.length m=true) 
    (h:A3 P m true (Cp P fn R) w (Bc m true 1000 (.code c) [] (QI args))):Calls P f args.toArray w R:=
  KX hf hb m hm (Nat.le_of_ble_eq_true hn) fun ρ hB=>by
    obtain rfl:ρ=QI args:=funext hB.get
    refine wpF_mono (adv_ok _ _ _ _ h).wp fun e ρ w hx=> ?_
    cases e <;> exact hx
theorem N0{fn:Func}{R:Ending→World→Prop}(hrs:fn.results = #[])(hR:R (.returned (.tuple #[])) w):A3 P n u (Cp P fn R) w (.ret ρ):=Ct [] hrs [] _ rfl trivial hR
theorem Bx{fn:Func}{R:Ending→World→Prop}{t:Tmp}{v:Value}(hrs:fn.results = #[.tmp t])(h:ρ t=v)(hR:R (.returned v) w):A3 P n u (Cp P fn R) w (.ret ρ):=Ct [.tmp t] hrs [v] v rfl ⟨h,trivial⟩ hR
theorem BO{fn:Func}{R:Ending→World→Prop}{t t2:Tmp}{v x:Value}(hrs:fn.results = #[.tmp t, .tmp t2])(h:ρ t=v)(hx:ρ t2=x)(hR:R (.returned (.tuple #[v,x])) w):A3 P n u (Cp P fn R) w (.ret ρ):=Ct [.tmp t, .tmp t2] hrs [v,x] _ rfl ⟨h,hx,trivial⟩ hR
theorem EB{fn:Func}{R:Ending→World→Prop}{t t2 t3:Tmp}{v x z:Value}(hrs:fn.results = #[.tmp t, .tmp t2, .tmp t3])(h:ρ t=v)(hx:ρ t2=x)(hz:ρ t3=z)(hR:R (.returned (.tuple #[v,x,z])) w):A3 P n u (Cp P fn R) w (.ret ρ):=Ct [.tmp t, .tmp t2, .tmp t3] hrs [v,x,z] _ rfl ⟨h,hx,hz,trivial⟩ hR
theorem IO{fn:Func}{R:Ending→World→Prop}{r:ResultVar}{v:Value}(hrs:fn.results = #[r])(h:ResF P ρ w r v)(hR:R (.returned v) w):A3 P n u (Cp P fn R) w (.ret ρ):=Ct [r] hrs [v] v rfl ⟨h,trivial⟩ hR
theorem E8{fn:Func}{R:Ending→World→Prop}{r r2:ResultVar}{v x:Value}(hrs:fn.results = #[r,r2])(h:ResF P ρ w r v)(hx:ResF P ρ w r2 x)(hR:R (.returned (.tuple #[v,x])) w):A3 P n u (Cp P fn R) w (.ret ρ):=Ct [r,r2] hrs [v,x] _ rfl ⟨h,hx,trivial⟩ hR
theorem Rs{fn:Func}{R:Ending→World→Prop}{r r2 r3:ResultVar}{v x z:Value}(hrs:fn.results = #[r,r2,r3])(h:ResF P ρ w r v)(hx:ResF P ρ w r2 x)(hz:ResF P ρ w r3 z)(hR:R (.returned (.tuple #[v,x,z])) w):A3 P n u (Cp P fn R) w (.ret ρ):=Ct [r,r2,r3] hrs [v,x,z] _ rfl ⟨h,hx,hz,trivial⟩ hR
theorem FP{fn:Func}{R:Ending→World→Prop}{rs:List ResultVar}{vs:List Value}{v:Value}(hrs:fn.results=rs.toArray)(hv:Gh vs=v)(h:Fq P ρ w rs vs)(hR:R (.returned v) w):A3 P n u (Cp P fn R) w (.ret ρ):=Ct rs hrs vs _ hv h hR
end
open Go.RowKit
theorem getD_mem{α:Type}{l:List α}{i:Nat}(d:α)(h:i<l.length):l.getD i d∈l:=by
  rw[List.getD_eq_getElem?_getD,List.getElem?_eq_getElem h];exact List.getElem_mem h
section
variable {P : Program}
theorem Yk.sliceArr{K:Value→World→Prop}{ρ:Tmp→Value}{t e:TypeId}{n:Nat}(ht:P.underlying t=some (.array n e))(he:∀w' :World,(sizeOf e).run P w' = .ok 1 w'){x:Operand}{d:Option Tmp}{ty:TypeId}{pos:String}{af:Array Edge}{gd:Option (Nat × Bool)}{w:World}{b o:Nat} 
    (hx:Ab ρ x = .pointer (some ⟨b,o,none⟩)) (hk:K (.slice (some ⟨b,o,none⟩) n n) w):Yk P K ((execOp (Ab ρ) ⟨d, .slice t x none none none,ty,pos,af,gd⟩).run P w):=by
  refine Yk.value (v:= .slice (some ⟨b,o,none⟩) n n) (w' :=w) ?_ hk
  have hE:P.elem t=e:=by simp[Program.elem,ht]
  have hN:P.arrayLen t=n:=by simp[Program.arrayLen,ht]
  have hr:=run_sliceAt_array_all (P:=P) (w:=w) (t:=t) (a:=⟨b,o,none⟩) (by rw[hE,hN];exact ht)
  rw[hE,he,hN]at hr
  unfold execOp
  simp only[hx,Option.map_none,Sem.run_bind,hr,Result.andThen_ok,Sem.run_pure]
  simp[slicedAt,Addr.add_lit]
end
section
variable {P : Program} {K : Value → World → Prop} {ρ : Ae} {w : World} {d : Option Tmp} {ty : TypeId} {pos : String} {af : Array Edge} {gd : Option (Nat × Bool)}
theorem Yk.neBool{a b:Bool}{t ty2:TypeId}(ht:P.underlying t=some .bool){x y:Operand}(hx:Ab ρ x = .bool a)(hy:Ab ρ y = .bool b)(hk:K (.bool (a != b)) w):Yk P K ((execOp (Ab ρ) ⟨d, .binOp .neq t x y ty2,ty,pos,af,gd⟩).run P w):=by
  refine Yk.value (v:= .bool (a != b)) (w' :=w) ?_ hk
  unfold execOp
  simp only[hx,hy]
  have he:(Op.equal t (.bool a) (.bool b)).run P w = .ok (a==b) w:=by
    unfold Op.equal
    rw[show Op.maxDepth=(Op.maxDepth-1)+1 from rfl]
    simp[Op.equalIn,run_underlying ht,Sem.run_bind,Sem.run_pure]
  cases a <;> cases b <;> simp[eqGuard,Go.binOp,he]
theorem Yk.storeMid{t' :TypeId}{x y:Operand}{g o:Nat}{a m z cells:List Value}{t:TypeId}(hx:Ab ρ x = .pointer (some ⟨g,o,none⟩))(hy:Ab ρ y = .agg cells.toArray)(hg:w.heap[g]? =some (.cells (a++m++z).toArray t (0,0)))(ha:a.length=o)(hm:m.length=cells.length)(hi:(P.info? t').map (·.size)=some cells.length)(h1:∀v∈cells,v.oneCell' =true) 
    (hk:∀w',w'.heap[g]? =some (.cells (a++cells++z).toArray t (0,0))→w.grownBy w' (some g)→w'.heap.size=w.heap.size→K undef w'):Yk P K ((execOp (Ab ρ) ⟨d, .store t' x y,ty,pos,af,gd⟩).run P w):=by
  have hst:=run_storeCells_at P g o t cells 0 (a++m++z).toArray w hg (by simp;omega) h1
  have e:((a++m++z).toArray.toList.take (o+0)++cells++(a++m++z).toArray.toList.drop (o+0+cells.length))=a++cells++z:=by
    have b:(a++m++z).take o=a:=by rw[List.append_assoc,←ha,List.take_left'];rfl
    have c:(a++m++z).drop (o+cells.length)=z:=List.drop_left' (by rw[List.length_append];omega)
    rw[List.toList_toArray,Nat.add_zero,b,c]
  rw[e]at hst
  have hr:(Instr.storeAt t' (.pointer (some ⟨g,o,none⟩)) (.agg cells.toArray)).run P w = .ok () (w.setRow g (a++cells++z).toArray):=by
    cases hq:P.info? t' with
    | none=>simp[hq]at hi
    | some i=>
      have hsz:cells.length=i.size:=by simp[hq]at hi;omega
      simp[Instr.storeAt,Instr.sureAddr,storeVar,sizeOf,typeInfo,hq,Value.cells,hsz]at hst ⊢
      simp[hst]
  unfold execOp
  simp only[hx,hy,hr,Sem.run_bind,Result.andThen_ok,Sem.run_pure]
  exact hk _ (setRow_heap w g (a++m++z).toArray _ t (0,0) hg) ⟨rfl,rfl,rfl,by simp,fun k _ hk=>setRow_other w g k _ (fun e=>hk (by rw[e]))⟩ (by simp)
theorem Yk.lit0G{α:Type}{k:Nat}{enc:α→List Value}{t e:TypeId}(hr:∀(w:World),(Instr.buildSlice t 0 #[]).run P w = .ok (.slice (some ⟨w.heap.size,0,none⟩) 0 0) (w.alloc (.cells #[] e))) 
    (hk:∀v w',OG w.heap.size e k enc w' v []→Ext w w' →K v w'):Yk P K ((execOp (Ab ρ) ⟨d, .buildSlice t 0 #[],ty,pos,af,gd⟩).run P w):=by
  have hr' :(execOp (Ab ρ) ⟨d, .buildSlice t 0 #[],ty,pos,af,gd⟩).run P w = .ok (.value (.slice (some ⟨w.heap.size,0,none⟩) 0 0)) (w.alloc (.cells #[] e)):=by
    unfold execOp
    simp only[List.map_toArray,List.map_nil,Sem.run_bind,hr,Result.andThen_ok,Sem.run_pure]
  rw[hr']
  refine hk _ _ ⟨fun x hx=>(List.not_mem_nil hx).elim,⟨by simp, .inr ⟨w.heap.size,0,#[],rfl,Nat.le_refl _,heap_alloc_new w _,Nat.le_refl _,by simp[maxLen],by simp,by simp⟩⟩⟩ (Below.alloc (Below.refl _ _) (Nat.le_refl _) _)
end
theorem Bo{w:World}{α:Type}{b k:Nat}{e:TypeId}{enc:α→List Value}{v:Value}{l l' :List α}(h:OG b e k enc w v l)(e' :l=l'):OG b e k enc w v l' :=by rw[←e'];exact h
open Go.RowKit
section
variable {P : Program} {n : Nat} {ρ : Ae} {w : World} {Q : Bp}
def lsOk(l:List Oper)(cs:List Nat)(ks ls:Nat→List Nat):Bool:=cs.all fun m=>(ls m).all fun i=>(ks m).contains i||Nat.beq i m||((AN l []).getD i 0).testBit m
def AllCh(S:World→World→Prop)(ls:Nat→List Nat)(Φs:List Bf):List Nat→Prop
  | []=>True
  | m :: r=>AllStabX S (ls m) 0 Φs∧AllCh S ls Φs r
theorem AllCh.get{S:World→World→Prop}{ls:Nat→List Nat}{Φs:List Bf}:∀(cs:List Nat),AllCh S ls Φs cs→∀m,cs.contains m=true→AllStabX S (ls m) 0 Φs
  | [],_,m,h=>by simp at h
  | c :: r,h,m,hm=>by
    by_cases e:m=c
    · subst e;exact h.1
    · exact AllCh.get r h.2 m (by simpa [e] using hm)
end
open Go.RowKit
open Go.WideMaps (KeyLaw)
structure KL (P : Program) (k : TypeId) (OK : Value → Prop) : Prop where
  check:∀(w:World) (em:Bool) {v:Value},OK v→(Instr.checkKey em 10000 k v).run P w = .ok () w
  find:∀(w:World) {x:Value},OK x→∀es:List MapEntry,(∀e∈es,OK e.key) →
    ((Instr.findKey k x es).run P w = .ok none w∧∀e∈es,e.key≠x)∨∃j e,(Instr.findKey k x es).run P w = .ok (some (j,e.val)) w∧es[j]? =some e∧e.key=x
  stays:∀(w:World) {v:Value},OK v→(Instr.keyThatStays v v).run P w = .ok v w
theorem KL.ofDeep{P:Program}{k:TypeId}(L:KeyLaw P k):KL P k (fun v=>∃l,keyOf P k v=some l):=
  ⟨fun w em _ ⟨_,h⟩=>L.check w em h,fun w _ ⟨_,h⟩ es he=>L.find w h es he,fun w _ ⟨_,h⟩=>L.stays w h⟩
theorem KL.ofKey{P:Program}{k:TypeId}{d:TypeDesc}(hd:P.underlying k=some d):KL P k (MapKept.IsKey d):=
  ⟨fun w em _ h=>MapKept.run_checkKey hd h em 9999,fun w x h es he=>by
    rcases MapKept.findNow_spec h es 0 he with ⟨h1,h2⟩ | ⟨j,e,h1,h2,h3⟩
    · exact .inl ⟨MapKept.run_findKey hd h1,h2⟩
    · rw[Nat.zero_add]at h1
      exact .inr ⟨j,e,MapKept.run_findKey hd h1,h2,h3⟩,fun w _ h=>MapKept.run_keyThatStays h⟩
section
variable {α β : Type} (ek : α → Value) (ev : β → Value) (D : α → Prop)
structure RN (G : α → Option β) (es : List MapEntry) : Prop where
  keys:(es.map (·.key)).Nodup
  ent:∀e∈es,∃a y,D a∧e.key=ek a∧e.val=ev y∧G a=some y
  all:∀a y,G a=some y→D a∧∃e∈es,e.key=ek a
def MapF(w:World)(b:Nat)(G:α→Option β):Prop:=∃es clock,w.heap[b]? =some (.map es.toArray clock)∧RN ek ev D G es∧MapKept.Stamped es.toArray clock
end
theorem LX{es es' :List MapEntry}{c:Nat}(hs:es'.Sublist es)(h:MapKept.Stamped es.toArray c):MapKept.Stamped es'.toArray c:=by
  obtain⟨h1,h2,h3⟩:=h
  exact⟨fun x hx=>h1 x (hs.subset hx),(hs.map _).nodup h2,(hs.map _).nodup h3⟩
def updM{α β:Type}[DecidableEq α](G:α→Option β)(a:α)(y:Option β)(c:α):Option β:=if c=a then y else G c
section
variable {α β : Type} {ek : α → Value} {ev : β → Value} {D : α → Prop} {P : Program} {w w' : World} {b : Nat} {G : α → Option β}
theorem MapF.keep(h:MapF ek ev D w b G)(k:Ext w w'):MapF ek ev D w' b G:=by
  obtain⟨es,c,h2,h3⟩:=h
  exact⟨es,c,Ext.blk' k h2,h3⟩
theorem MapF.lt(h:MapF ek ev D w b G):b<w.heap.size:=by
  obtain⟨es,c,h2,h3⟩:=h
  exact(Array.getElem?_eq_some_iff.1 h2).1
theorem MapF.other{r:Option Nat}(h:MapF ek ev D w b G)(k:w.grownBy w' r)(hr:r≠some b):MapF ek ev D w' b G:=by
  have hl:=h.lt
  obtain⟨es,c,h2,h3⟩:=h
  exact⟨es,c,(k.block b hl (fun e=>hr e.symm)).trans h2,h3⟩
theorem MapF.grew{v v' :Value}(h:MapF ek ev D w b G)(g:Grew w w' v v')(hv:v.ownBlock≠some b):MapF ek ev D w' b G:=h.other g.by_ hv
theorem MapF.made(ek:α→Value)(ev:β→Value)(D:α→Prop)(w:World):MapF ek ev D (w.alloc (.map #[] 0)) w.heap.size (fun _=>none):=
  ⟨[],0,heap_alloc_new w _,⟨by simp,by simp,fun _ _ h=>by cases h⟩,MapKept.stamped_empty 0⟩
section
variable {t K E : TypeId} {OK : Value → Prop} (L : KL P K OK) (hD : ∀ a, D a → OK (ek a)) (hi : ∀ a c, ek a = ek c → a = c) (ht : P.underlying t = some (.map K E))
include L hD hi ht
theorem MapF.look{z:Value}(hz:∀u:World,(zeroValue E).run P u = .ok z u)(h:MapF ek ev D w b G){a:α}(ha:D a)(ok:Bool):
    (Instr.lookup t (.map (some b)) (ek a) ok).run P w = .ok (if ok then .tuple #[(G a).elim z ev, .bool (G a).isSome]else(G a).elim z ev) w:=by
  obtain⟨es,c,hb,H,hS⟩:=h
  have hkeys:∀e∈es,OK e.key:=fun e he=>by
    obtain⟨q,y,k1,k2,-⟩:=H.ent e he
    rw[k2]
    exact hD q k1
  rcases L.find w (hD a ha) es hkeys with ⟨f1,f2⟩ | ⟨j,f,f1,f2,f3⟩
  · have hG:G a=none:=by
      cases hG:G a with
      | none=>rfl
      | some y=>
        obtain⟨-,e,he,hek⟩:=H.all a y hG
        exact absurd hek (f2 e he)
    cases ok <;> simp[Instr.lookup,run_underlying ht,MapKept.run_getObj_map hb,L.check w _ (hD a ha),f1,hz,Result.andThen,hG]
  · obtain⟨q,y,k1,k2,k3,k4⟩:=H.ent f (List.mem_of_getElem? f2)
    have:q=a:=hi _ _ (k2.symm.trans f3)
    subst this
    cases ok <;> simp[Instr.lookup,run_underlying ht,MapKept.run_getObj_map hb,L.check w _ (hD q ha),f1,Result.andThen,k4,k3]
variable [DecidableEq α]
omit hi in
theorem MapF.put(h:MapF ek ev D w b G){a:α}(ha:D a)(y:β):
    ∃w',(Instr.mapUpdate t (.map (some b)) (ek a) (ev y)).run P w = .ok () w' ∧MapF ek ev D w' b (updM G a (some y))∧w.grownBy w' (some b)∧w'.heap.size=w.heap.size:=by
  obtain⟨es,c,hb,H,hS⟩:=h
  have hkeys:∀e∈es,OK e.key:=fun e he=>by
    obtain⟨q,y,k1,k2,-⟩:=H.ent e he
    rw[k2]
    exact hD q k1
  have hblt:b<w.heap.size:=(Array.getElem?_eq_some_iff.1 hb).1
  have hgr:∀o,w.grownBy { w with heap:=w.heap.setIfInBounds b o } (some b):=fun o=>⟨rfl,rfl,rfl,by simp,fun i _ hi=>by simp only[Array.getElem?_setIfInBounds];rw[if_neg (fun e=>hi (by rw[e]))]⟩
  have hnew:∀o,({ w with heap:=w.heap.setIfInBounds b o } :World).heap[b]? =some o:=fun o=>by simp[hblt]
  rcases L.find w (hD a ha) es hkeys with ⟨f1,f2⟩ | ⟨j,g,f1,f2,f3⟩
  · have hnone:∀x,G a≠some x:=fun x hx=>by
      obtain⟨-,e,he,hek⟩:=H.all a x hx
      exact f2 e he hek
    refine⟨{ w with heap:=w.heap.setIfInBounds b (.map (es++ [({ key:=ek a,val:=ev y,born:=c } :MapEntry)]).toArray (c+1)) },?_,⟨_,_,hnew _,⟨?_,?_,?_⟩,by have:=MapKept.stamped_push hS (key:=ek a) (val:=ev y) (fun x hx=>f2 x (by simpa using hx));simpa using this⟩,hgr _,by simp⟩
    · simp[Instr.mapUpdate,run_underlying ht,MapKept.run_getObj_map hb,L.check w false (hD a ha),f1,MapKept.run_setObj_map _ hb,Result.andThen]
    · simp only[List.map_append,List.map_cons,List.map_nil]
      refine List.nodup_append.2 ⟨H.keys,by simp,fun x hx z hz e=> ?_⟩
      obtain⟨f,he1,rfl⟩:=List.mem_map.1 hx
      simp at hz
      exact f2 f he1 (e.trans hz)
    · intro e he
      rcases List.mem_append.1 he with h1 | h1
      · obtain⟨q,z,k1,k2,k3,k4⟩:=H.ent e h1
        refine⟨q,z,k1,k2,k3,?_⟩
        unfold updM
        rw[if_neg (fun f=>f2 e h1 (by rw[k2,f]))]
        exact k4
      · rw[List.mem_singleton.1 h1]
        exact⟨a,y,ha,rfl,rfl,by unfold updM;rw[if_pos rfl]⟩
    · intro q z hq
      unfold updM at hq
      split at hq
      · rename_i f
        subst f
        exact⟨ha,_,List.mem_append_right _ (List.mem_singleton.2 rfl),rfl⟩
      · obtain⟨k1,e,he,hek⟩:=H.all q z hq
        exact⟨k1,e,List.mem_append_left _ he,hek⟩
  · obtain⟨q0,y0,k1,k2,k3,k4⟩:=H.ent g (List.mem_of_getElem? f2)
    have hjl:j<es.length:=(List.getElem?_eq_some_iff.1 f2).1
    have hkeq:(es.modify j fun e=> { e with key:=ek a,val:=ev y }).map (·.key)=es.map (·.key):=by
      rw[Go.ChangeMaps.modify_eq_set _ _ _ _ f2,List.map_set]
      exact Go.WideElems.set_self _ _ _ (by rw[List.getElem?_map,f2];simp[f3])
    have hj:es.toArray[j]? =some g:=by simpa using f2
    refine⟨{ w with heap:=w.heap.setIfInBounds b (.map (es.modify j fun e=> { e with key:=ek a,val:=ev y }).toArray c) },?_,⟨_,_,hnew _,⟨?_,?_,?_⟩,by have:=MapKept.stamped_modify hS j (fun e=> { e with key:=ek a,val:=ev y }) (fun _ _=>rfl) (fun e _ he=>by rw[hj]at he;cases he;exact f3.symm);rwa [List.modify_toArray]at this⟩,hgr _,by simp⟩
    · simp[Instr.mapUpdate,run_underlying ht,MapKept.run_getObj_map hb,L.check w false (hD a ha),f1,f2,f3,L.stays w (hD a ha),MapKept.run_setObj_map _ hb,Result.andThen]
    · rw[hkeq]
      exact H.keys
    · intro e he
      rw[Go.ChangeMaps.modify_eq_set _ _ _ _ f2]at he
      obtain⟨i,hil,hie⟩:=List.mem_iff_getElem.1 he
      rw[List.getElem_set]at hie
      split at hie
      · subst hie
        exact⟨a,y,ha,rfl,rfl,by unfold updM;rw[if_pos rfl]⟩
      · rename_i hne
        have hil2:i<es.length:=by simpa using hil
        obtain⟨q,z,m1,m2,m3,m4⟩:=H.ent e (hie▸List.getElem_mem hil2)
        refine⟨q,z,m1,m2,m3,?_⟩
        unfold updM
        rw[if_neg ?_]
        · exact m4
        · intro f
          subst f
          apply hne
          have hn:=H.keys
          have k:(es.map (·.key))[j]'(by simpa using hjl)=(es.map (·.key))[i]'(by simpa using hil2):=by
            simp only[List.getElem_map]
            rw[hie,m2,←f3]
            exact congrArg MapEntry.key (List.getElem?_eq_some_iff.1 f2).2
          exact(List.getElem_inj hn).1 k
    · intro q z hq
      have hmem:∀x,x∈es.map (·.key)→∃e∈(es.modify j fun e=> { e with key:=ek a,val:=ev y }),e.key=x:=fun x hx=>by
        rw[←hkeq]at hx
        obtain⟨e,he,rfl⟩:=List.mem_map.1 hx
        exact⟨e,he,rfl⟩
      unfold updM at hq
      split at hq
      · rename_i f
        subst f
        exact⟨ha,hmem _ (List.mem_map.2 ⟨g,List.mem_of_getElem? f2,f3⟩)⟩
      · obtain⟨k1,e,he,hek⟩:=H.all q z hq
        exact⟨k1,hmem _ (List.mem_map.2 ⟨e,he,hek⟩)⟩
theorem MapF.del{ty:TypeId}(h:MapF ek ev D w b G){a:α}(ha:D a):
    ∃w',(Builtin.delete_ #[t,K] ty #[.map (some b),ek a]).run P w = .ok (.tuple #[]) w' ∧MapF ek ev D w' b (updM G a none)∧w.grownBy w' (some b)∧w'.heap.size=w.heap.size:=by
  obtain⟨es,c,hb,H,hS⟩:=h
  have hkeys:∀e∈es,OK e.key:=fun e he=>by
    obtain⟨q,y,k1,k2,-⟩:=H.ent e he
    rw[k2]
    exact hD q k1
  have hblt:b<w.heap.size:=(Array.getElem?_eq_some_iff.1 hb).1
  have hgr:∀o,w.grownBy { w with heap:=w.heap.setIfInBounds b o } (some b):=fun o=>⟨rfl,rfl,rfl,by simp,fun i _ hi=>by simp only[Array.getElem?_setIfInBounds];rw[if_neg (fun e=>hi (by rw[e]))]⟩
  have hnew:∀o,({ w with heap:=w.heap.setIfInBounds b o } :World).heap[b]? =some o:=fun o=>by simp[hblt]
  rcases L.find w (hD a ha) es hkeys with ⟨f1,f2⟩ | ⟨j,k,f1,f2,f3⟩
  · have hG:G a=none:=by
      cases hG:G a with
      | none=>rfl
      | some y=>
        obtain⟨-,e,he,hek⟩:=H.all a y hG
        exact absurd hek (f2 e he)
    have hU:updM G a none=G:=by
      funext x
      unfold updM
      split
      · rename_i e;rw[e,hG]
      · rfl
    rw[hU]
    refine⟨{ w with heap:=w.heap.setIfInBounds b (.map es.toArray c) },?_,⟨_,_,hnew _,H,hS⟩,hgr _,by simp⟩
    simp[Builtin.delete_,run_underlying ht,MapKept.run_getObj_map hb,L.check w _ (hD a ha),f1,MapKept.run_setObj_map _ hb,Result.andThen]
  · have hjl:j<es.length:=(List.getElem?_eq_some_iff.1 f2).1
    have hne:∀e∈es.eraseIdx j,e.key≠ek a:=fun e he hk=>by
      obtain⟨i,hil,hie⟩:=List.mem_eraseIdx_iff_getElem.1 he
      obtain⟨hij,hie⟩:=hie
      have g:(es.map (·.key))[j]'(by simpa using hjl)=(es.map (·.key))[i]'(by simpa using hil):=by
        simp only[List.getElem_map]
        rw[hie,hk,←f3]
        exact congrArg MapEntry.key (List.getElem?_eq_some_iff.1 f2).2
      exact hij ((List.getElem_inj H.keys).1 g).symm
    refine⟨{ w with heap:=w.heap.setIfInBounds b (.map (es.eraseIdx j).toArray c) },?_,⟨_,_,hnew _,⟨?_,?_,?_⟩,LX (List.eraseIdx_sublist _ _) hS⟩,hgr _,by simp⟩
    · simp[Builtin.delete_,run_underlying ht,MapKept.run_getObj_map hb,L.check w _ (hD a ha),f1,MapKept.run_setObj_map _ hb,Result.andThen]
    · exact H.keys.sublist ((List.eraseIdx_sublist _ _).map _)
    · intro e he
      obtain⟨q,z,m1,m2,m3,m4⟩:=H.ent e ((List.eraseIdx_sublist _ _).subset he)
      refine⟨q,z,m1,m2,m3,?_⟩
      unfold updM
      rw[if_neg (fun f=>hne e he (by rw[m2,f]))]
      exact m4
    · intro q z hq
      unfold updM at hq
      split at hq
      · cases hq
      · rename_i hqa
        obtain⟨k1,e,he,hek⟩:=H.all q z hq
        refine⟨k1,e,?_,hek⟩
        obtain⟨i,hil,hie⟩:=List.mem_iff_getElem.1 he
        refine List.mem_eraseIdx_iff_getElem.2 ⟨i,hil,fun f=> ?_,hie⟩
        subst f
        apply hqa
        refine hi _ _ (hek.symm.trans ?_)
        rw[←f3,←hie]
        exact congrArg MapEntry.key (List.getElem?_eq_some_iff.1 f2).2
end
end
open Go.RowKit
theorem Ao{a b:Nat}(h:a≠b):some a≠some b:=fun e=>h (Option.some.inj e)
def Am(u v:Value):Prop:=∀k,u.ownBlock=some k→v.ownBlock≠some k
section
variable {N B : Nat} {r : Option Nat} {w w' w1 w0 : World} {e t : TypeId}
theorem KC{z n:Nat}{v:Value}{xs:List Value}(ho:w.ownsRow B e z v n xs)(k:w.grownBy w1 r)(ha:∀k,r=some k→v.ownBlock≠some k):w1.ownsRow B e z v n xs:=
  ho.kept k (by
    cases hv:v.ownBlock with
    | none=>exact .inl rfl
    | some g=>exact .inr (fun e=>ha g e.symm hv))
theorem B3{u v:Value}{b:Nat}{e' :TypeId}{z n z' n' :Nat}{xs ys:List Value}(hu:w.ownsRow b e z u n xs)(hv:w'.ownsRow w.heap.size e' z' v n' ys):Am u v:=fun k h1 h2=>by
  have:=(hu.lt k h1).2
  have:=(hv.lt k h2).1
  omega
theorem AJ{u v v' :Value}{b:Nat}{z n:Nat}{xs:List Value}(gr:Grew w w' v v')(ha:Am v u)(hu:w.ownsRow b e z u n xs):Am v' u:=fun k h1 h2=>by
  rcases gr.fresh k h1 with h3 | h3
  · exact ha k h3 h2
  · have:=(hu.lt k h2).2
    omega
theorem B7{v v' u:Value}{b:Nat}{z n:Nat}{xs:List Value}(hu:w.ownsRow b e z u n xs)(gr:Grew w w' v v')(ha:Am v u):w'.ownsRow b e z u n xs:=KC hu gr.by_ ha
theorem A4{α:Type}{k b:Nat}{enc:α→List Value}{v v' u:Value}{l:List α}(hu:OG b e k enc w u l)(gr:Grew w w' v v')(ha:Am v u):OG b e k enc w' u l:=⟨hu.1,B7 hu.2 gr ha⟩
end
open Go.RowKit
theorem EX:Tryd.prog.underlying 24=some (.slice 5):=by kernel_rfl
theorem Rt:Tryd.prog.underlying 9=some .string:=by kernel_rfl
theorem IP:(Tryd.prog.info? 5).map (fun i=>(i.zero,i.size,i.bytes))=some (some (.int .u8 0),1,1):=by kernel_rfl

theorem Mw(w:World)(v:Value)(l:List UInt8)(hr:RB w v l)(hl:l.length+16≤140737488355328):
    Calls Tryd.prog 51 #[v] w fun e w' =>∃v',e = .returned v' ∧NewB 5 w w' v' l:=by
  obtain⟨i0,hi,a,c,f⟩:=info_parts IP
  have hsrc:∀w' :World,w.grownBy w' none→Src Tryd.prog 1 24 v l.length (Lib.byteCells l) w' :=fun w' hg=>
    (hr.below (B:=w.heap.size) ((Below.refl _ _).grown hg (Nat.le_refl _) (fun k hk=>by cases hk)) rfl).src EX
  have HS:=Lib.hid hsrc
  clear hsrc
  obtain⟨h1,ao,cap,rfl,h2,h3,h4,h5⟩:=hr
  have h:l.length≤140737488355312:=by omega
  clear h1 h4 h5 hl
  unfold maxLen at h3
  go_enter Tryd.func51,Tryd.ntmps51
  go_wp2_with (at_make;refine wpList_make_own _ rfl _ _ 24 rfl w.heap.size 5 i0 (.int .u8 0) 1 EX hi a c _ _ _ (l.length+16) rfl rfl (by omega) ?b1 ?b2 ?b3 ?_)
  case b1=>rw[f];omega
  case b2=>unfold maxLen;omega
  case b3=>exact Nat.le_refl _
  intro w1 hown hg
  have g:=HS.out w1 hg
  go_wp2_with (at_builtin;refine Cj _ rfl _ _ 24 24 rfl w.heap.size 5 i0 (.int .u8 0) 1 1 EX hi a c f rfl _ _ _ rfl hown _ _ _ rfl g ?c1 ?c2 ?c3 ?_)
  case c1=>unfold maxLen;omega
  case c2=>omega
  case c3=>exact hg.size
  intro v' i hown2 hgrow
  go_wp2
  go_ret
  refine⟨v',rfl,by simpa using hown2,A7 hg hgrow.by_ (fun b hb=> ?_)⟩
  simp[Value.ownBlock]at hb
  omega

set_option maxRecDepth 100000 in
set_option maxHeartbeats 1000000 in
theorem IQ(B n x:Nat)(hx:x<18446744073709551616)(sv:Value)(xs:List Value)(w:World)(hown:w.ownsRow B 5 1 sv n xs)(hBw:B≤w.heap.size)(hlim:n+10≤140737488355328):
    Calls Tryd.prog 50 #[sv, .int .u64 x] w fun e w' =>∃v',e = .returned v' ∧w'.ownsRow B 5 1 v' (n+(Lib.uvarint x).length) (xs++Lib.byteCells (Lib.uvarint x))∧Grew w w' sv v' :=by
  obtain⟨i0,hi,a,b,c⟩:=info_parts IP
  have hlen:=Lib.uvarint_length64 hx
  go_enter Tryd.func50,Tryd.ntmps50
  go_wp2
  go_loopw [0,1] (fun vb vx wr=>∃(y:Nat) (pre:List UInt8),vx = .int .u64 y∧y≤x∧Lib.uvarint x=pre++Lib.uvarint y∧wr.ownsRow B 5 1 vb (n+pre.length) (xs++Lib.byteCells pre)∧Grew w wr sv vb)
    (fun _ vx _=>(intOf vx).toNat)
  case atStart=>exact⟨x,[],rfl,Nat.le_refl _,rfl,by simpa [Lib.byteCells] using hown,Grew.refl _ _⟩
  case round=>
    obtain⟨y,pre,rfl,hy,hsplit,hown1,hnx⟩:=hrel
    have hpl:pre.length+(Lib.uvarint y).length≤10:=by
      have h2:=congrArg List.length hsplit
      rw[List.length_append]at h2
      omega
    have hyp:=Lib.uvarint_pos y
    have hbw:=hnx.by_.size
    by_cases h128:128≤y
    · have hor:bits .or .u8 ((y:Int)%256) 128=((y%128+128:Nat):Int):=by
        rw[Lib.u8_or128_any _ (by omega) (by omega)]
        omega
      go_wp2_with (at_builtin;refine Cj _ rfl _ _ 24 24 rfl B 5 i0 (.int .u8 0) 1 1 EX hi a b c rfl _ _ _ rfl (hown1.alloc _) (.slice (some ⟨wr.heap.size,0,none⟩) 1 1) 1 [_] rfl (NT EX wr _ _ rfl) ?c1 ?c2 ?c3 ?_)
      case c1=>unfold maxLen;omega
      case c2=>omega
      case c3=>simp;omega
      intro v' w1 hown' hgrow
      have hnx1:Grew w w1 sv v' :=(hnx.alloc _).trans hgrow
      go_wp2
      go_roundw
      case rel=>
        refine⟨y/128,pre++ [(y%128+128).toUInt8],by go_num,by omega,by rw[hsplit,Lib.uvarint_big h128];simp,?_,hnx1⟩
        have ec:((y%128+128:Nat):Int)=(y:Int)%128+128:=by omega
        rw[Lib.byteCells_snoc pre (by omega),List.length_append,List.length_singleton,←Nat.add_assoc,ec]
        exact hown'
      case measure=>simp[intOf];omega
    · have hsm:Lib.uvarint y= [y.toUInt8]:=Lib.uvarint_small (by omega)
      go_wp2_with (at_builtin;refine Cj _ rfl _ _ 24 24 rfl B 5 i0 (.int .u8 0) 1 1 EX hi a b c rfl _ _ _ rfl (hown1.alloc _) (.slice (some ⟨wr.heap.size,0,none⟩) 1 1) 1 [_] rfl (NT EX wr _ _ rfl) ?d1 ?d2 ?d3 ?_)
      case d1=>unfold maxLen;omega
      case d2=>omega
      case d3=>simp;omega
      intro v' w1 hown' hgrow
      have hnx1:Grew w w1 sv v' :=(hnx.alloc _).trans hgrow
      go_wp2
      go_ret
      refine⟨v',rfl,?_,hnx1⟩
      rw[hsplit,hsm,Lib.byteCells_snoc pre (by omega),List.length_append,List.length_singleton,←Nat.add_assoc]
      exact hown'

theorem A8(n:Nat)(h:n<9223372036854775808):(Lib.uvarint n).length≤9:=Lib.uvarint_length 8 n (Nat.lt_of_lt_of_le h (by decide))

theorem Mx(w:World)(v:Value)(l:List UInt8)(hr:RB w v l)(hl:l.length+16≤140737488355328)(n:Nat)(hn:n≤9223372036854775807):
    Calls Tryd.prog 49 #[v, .int .i64 n] w fun e w' =>∃v',e = .returned (.tuple #[v', .int .i64 0])∧NewB 5 w w' v' (l++Lib.uvarint n):=by
  go_enter Tryd.func49,Tryd.ntmps49
  go_wp2_with fail
  refine(Mw _ _ l hr hl).mono ?_
  rintro e w1 ⟨a,rfl,h1⟩
  go_wp2_with fail
  refine(IQ w.heap.size l.length n (by omega) a _ w1 h1.own h1.by_.size (by omega)).mono ?_
  rintro e c ⟨b,rfl,ho,g⟩
  go_wp2_with fail
  go_ret2
  exact⟨b,rfl,h1.more g ho⟩

theorem PI(w:World)(v:Value)(l:List UInt8)(hr:RB w v l)(hl:l.length≤140737488355328):
    Calls Tryd.prog 29 #[v] w fun e w' =>∃v',e = .returned v' ∧NewB 5 w w' v' l:=by
  obtain⟨i0,hi,a,b,c⟩:=info_parts IP
  go_enter Tryd.func29,Tryd.ntmps29
  have h0:NewB 5 w (w.alloc (.cells #[] 5)) (.slice (some ⟨w.heap.size,0,none⟩) 0 0) []:=
    ⟨World.ownsRow_lit w #[] 0 (Nat.le_refl _) (by simp[maxLen]) rfl,World.grownBy_alloc w _ none⟩
  have f:=(hr.keep h0.below).src EX
  have HH:=Lib.hid h0
  clear h0
  go_wp2_with (at_builtin;refine Cj _ rfl _ _ 24 24 rfl w.heap.size 5 i0 (.int .u8 0) 1 1 EX hi a b c rfl (.slice (some ⟨w.heap.size,0,none⟩) 0 0) 0 [] rfl HH.out.own _ _ _ rfl f ?c1 ?c2 ?c3 ?_)
  case c1=>unfold maxLen;omega
  case c2=>omega
  case c3=>exact HH.out.by_.size
  intro v' g hown' hgrow
  go_wp2
  go_ret
  exact⟨v',rfl,HH.out.more hgrow (by rw[List.length_nil,Nat.zero_add];exact hown')⟩

def Ax(k:Nat):List UInt8→Option (Nat × Nat)
  | []=>none
  | c :: r=>if 128≤c.toNat then(if 8≤k then none else(Ax (k+1) r).map (fun x=>(c.toNat-128+128*x.1,x.2+1)))
      else if c.toNat=0∧0<k then none else some (c.toNat,1)
theorem GA:∀(l:List UInt8) (k:Nat) (x:Nat × Nat),Ax k l=some x→1≤x.2∧x.2≤l.length∧x.2+k≤max 9 (k+1)
  | [],k,x,h=>by simp[Ax]at h
  | c :: r,k,x,h=>by
    unfold Ax at h
    split at h
    · split at h
      · cases h
      · obtain⟨y,hy,rfl⟩:=Option.map_eq_some_iff.1 h
        have:=GA r (k+1) y hy
        simp
        omega
    · split at h
      · cases h
      · cases h;simp;omega
theorem He:∀(l:List UInt8) (k:Nat) (x:Nat × Nat),Ax k l=some x→x.1<128^x.2
  | [],k,x,h=>by simp[Ax]at h
  | c :: r,k,x,h=>by
    unfold Ax at h
    split at h
    · split at h
      · cases h
      · obtain⟨y,hy,rfl⟩:=Option.map_eq_some_iff.1 h
        have:=He r (k+1) y hy
        have hc:=c.toNat_lt
        simp only[Nat.pow_succ]
        omega
    · split at h
      · cases h
      · cases h;simp;omega
theorem Gj(rest:List UInt8):∀(m n k:Nat),n<128^(m+1)→m+k≤8→(0<k→0<n)→Ax k (Lib.uvarint n++rest)=some (n,(Lib.uvarint n).length)
  | m,n,k,hn,hk,h0=>by
    by_cases h:n<128
    · rw[Lib.uvarint_small h]
      have:(n.toUInt8).toNat=n:=by simp[Nat.toUInt8,UInt8.toNat_ofNat'];omega
      simp only[List.cons_append,Ax,this]
      rw[if_neg (by omega),if_neg (by omega)]
      simp
    · have hb:((n%128+128).toUInt8).toNat=n%128+128:=by simp[Nat.toUInt8,UInt8.toNat_ofNat'];omega
      rw[Lib.uvarint_big (by omega)]
      simp only[List.cons_append,Ax,hb]
      match m,hn,hk with
      | 0,hn,_=>simp at hn;omega
      | m+1,hn,hk=>
        rw[if_pos (by omega),if_neg (by omega),Gj rest m (n/128) (k+1) (by rw[Nat.pow_succ]at hn;exact Nat.div_lt_of_lt_mul (by rw[Nat.mul_comm];exact hn)) (by omega) (fun _=>by omega)]
        simp
        omega
open Go.RowKit
theorem M4:∀w' :World,(sizeOf 5).run Tryd.prog w' = .ok 1 w' :=fun _=>by kernel_rfl
def DH(a:Nat):Option (Nat × Nat)→Value
  | some x=> .tuple #[.int .i64 x.1, .int .i64 ↑(a+x.2), .int .i64 0]
  | none=> .tuple #[.int .i64 0, .int .i64 0, .int .i64 6]

theorem GB(y k:Nat)(hy:y<128)(hk:k≤8):IntKind.u64.wrap ((y:Int)*2^(7*k))=((y*2^(7*k):Nat):Int):=by
  have h1:y*2^(7*k)≤127*2^56:=Nat.mul_le_mul (by omega) (Nat.pow_le_pow_right (by decide) (by omega))
  have e:((y:Int)*2^(7*k))=((y*2^(7*k):Nat):Int):=by push_cast;rfl
  rw[e]
  exact IntWalk.u64_in _ ⟨by omega,by omega⟩
theorem K5(out y k:Nat)(hout:out<2^(7*k))(hy:y<128)(hk:k≤8):bits .or .u64 (out:Int) ((y*2^(7*k):Nat):Int)=((out+2^(7*k)*y:Nat):Int):=by
  have h1:y*2^(7*k)≤127*2^56:=Nat.mul_le_mul (by omega) (Nat.pow_le_pow_right (by decide) (by omega))
  have h2:2^(7*k)≤2^56:=Nat.pow_le_pow_right (by decide) (by omega)
  have h:=(bits_nat .u64 64 (by decide) wraps_u64 out (y*2^(7*k)) (by omega) (by omega)).2
  rw[h]
  congr 1
  have h3:=Nat.shiftLeft_add_eq_or_of_lt hout y
  rw[Nat.shiftLeft_eq]at h3
  rw[Nat.or_comm,←h3,Nat.mul_comm]
  omega
set_option maxRecDepth 100000 in
theorem M5:∀n:Fin 128,bits .andNot .u8 ((n.val+128:Nat):Int) 128=(n.val:Int):=by decide+kernel
theorem K6(c:Nat)(h:128≤c)(h2:c<256):IntKind.u64.wrap (bits .andNot .u8 (c:Int) 128)=((c-128:Nat):Int):=by
  have h1:=M5 ⟨c-128,by omega⟩
  have e:c-128+128=c:=by omega
  simp only[e]at h1
  rw[h1]
  exact IntWalk.u64_in _ ⟨by omega,by omega⟩

theorem K7(out y k:Nat)(hout:out<2^(7*k))(hy:y<128)(hk:k≤8):out+2^(7*k)*y≤9223372036854775807:=by
  have h1:2^(7*k)*y≤2^56*127:=Nat.mul_le_mul (Nat.pow_le_pow_right (by decide) (by omega)) (by omega)
  have h2:2^(7*k)≤2^56:=Nat.pow_le_pow_right (by decide) (by omega)
  omega
theorem N1(a k N c:Nat)(h:N+2^(7*k)*c≤9223372036854775807):
    Ending.returned (.tuple #[.int .i64 (wrap64 ((N+2^(7*k)*c:Nat):Int)), .int .i64 ((a:Int)+(k:Int)+1), .int .i64 0]) = .returned (DH a ((some (c,1)).map fun x=>(N+2^(7*k)*x.1,x.2+k))):=by
  rw[IntWalk.wrap64_in _ ⟨by omega,by omega⟩]
  have e:(a:Int)+(k:Int)+1=((a+(1+k):Nat):Int):=by omega
  rw[e]
  rfl

set_option maxRecDepth 100000 in
set_option maxHeartbeats 1000000 in
theorem Eb(w:World)(v:Value)(l:List UInt8)(hr:RB w v l)(a:Nat)(ha:a≤l.length):
    Calls Tryd.prog 63 #[v, .int .i64 a] w fun e w' =>e = .returned (DH a (Ax 0 (l.drop a)))∧w=w' :=by
  have HR:=Lib.hid hr
  obtain⟨ao,cap,rfl,h2,h3⟩:=hr.len
  clear hr
  have hd:decide ((a:Int)<0)=false:=by simp
  have hd2:decide (l.length<a)=false:=by simp;omega
  obtain⟨L,hL⟩:∃L,L=l.drop a:=⟨_,rfl⟩
  have hLn:l.length-a=L.length:=by rw[hL,List.length_drop]
  rw[←hL]
  have HLn:=Lib.hid hLn
  have HL:=Lib.hid hL
  clear hLn hL
  go_enter Tryd.func63,Tryd.ntmps63
  go_wp2_with fail
  go_step3
  go_wp2_with fail
  go_step3
  go_wp2_with (refine Gg (o:=⟨some 21,_,_,_,_,_⟩) rfl _ _ (some _) none rfl EX M4 _ l rfl HR.out a l.length ha (Nat.le_refl _) (.inr ⟨.i64,rfl⟩) (.inl ⟨rfl,rfl⟩) ?_)
  intro ao' c' hr'
  rw[List.take_of_length_le (by rw[List.length_drop];exact Nat.le_refl _)]at hr'
  have HR' :=Lib.hid hr'
  clear hr' hd hd2
  rw[←HL.out,HLn.out]at HR'
  rw[HLn.out]
  by_cases g:L.length=0
  · have hL0:L= []:=List.eq_nil_of_length_eq_zero g
    have HL0:=Lib.hid hL0
    clear hL0 HR' HR
    have h00:decide (0<L.length)=false:=by simp[g]
    clear g
    go_wp2_with fail
    refine wp_loop_rounds 1 ?_
    rw[rounds_succ]
    go_wp2
    rw[Exit.noGoto_ret]
    all_goals (go_ret3;exact⟨by rw[HL0.out];simp[Ax,DH],rfl⟩)
  obtain⟨b,off,cc,hv,hcap,hcap2,hbw,hcell⟩:=HR'.out.open_ (by omega)
  simp only[Value.slice.injEq,true_and]at hv
  obtain⟨rfl,rfl⟩:=hv
  have haL:a+L.length≤9223372036854775807:=by have:=HLn.out;omega
  clear HR' HR
  go_wp2_with fail
  go_loop [7,8,23] (fun vx vs vi=>∃k out:Nat,vi = .int .i64 k∧vs = .int .i64 ((7*k:Nat):Int)∧vx = .int .u64 out∧k≤L.length∧k≤8∧out<2^(7*k)∧Ax 0 L=(Ax k (L.drop k)).map (fun x=>(out+2^(7*k)*x.1,x.2+k)))
    (fun _ _ vi=>L.length-(intOf vi).toNat)
  case atStart=>exact⟨0,0,rfl,rfl,rfl,by omega,by omega,by decide,by simp⟩
  case round=>
    obtain⟨k,out,rfl,rfl,rfl,hk,f,hout,hdec⟩:=hrel
    have HD:=Lib.hid hdec
    clear hdec
    by_cases hkl:k<L.length
    · have hc:=hcell k hkl
      have hdrop:L.drop k=L[k] :: L.drop (k+1):=List.drop_eq_getElem_cons hkl
      have hg:L.getD k 0=L[k]:=by simp[hkl]
      rw[hg]at hc
      generalize L[k]=c at hc hdrop
      have HDr:=Lib.hid hdrop
      have i:=c.toNat_lt
      clear hcell hdrop hg
      have HO:=Lib.hid hout
      clear hout
      by_cases h128:128≤c.toNat
      · by_cases hk8' :k=8
        · subst hk8'
          go_wp2
          all_goals (go_ret3;exact⟨by rw[HD.out,HDr.out];simp[Ax,h128,DH],rfl⟩)
        · have m:k<8:=by omega
          clear hk8'
          go_wp2
          go_round
          case rel=>
            have hp:2^(7*(k+1))=2^(7*k)*128:=by rw[show 7*(k+1)=7*k+7 from by omega,Nat.pow_add]
            refine⟨k+1,out+2^(7*k)*(c.toNat-128),by go_num,by go_num,?_,by omega,by omega,?_,?_⟩
            · rw[K6 _ h128 i,GB _ _ (by omega) (by omega),K5 _ _ _ HO.out (by omega) (by omega)]
            · have h1:=HO.out
              have h2:2^(7*k)*(c.toNat-128)≤2^(7*k)*127:=Nat.mul_le_mul_left _ (by omega)
              rw[hp]
              omega
            · rw[HD.out,HDr.out]
              have:Ax k (c :: L.drop (k+1))=(Ax (k+1) (L.drop (k+1))).map (fun x=>(c.toNat-128+128*x.1,x.2+1)):=by
                simp only[Ax]
                rw[if_pos h128,if_neg (by omega)]
              rw[this,Option.map_map]
              congr 1
              funext x
              simp only[Function.comp,Prod.mk.injEq]
              refine⟨?_,by omega⟩
              rw[hp,Nat.mul_add,Nat.mul_assoc]
              omega
          case measure=>simp[intOf];omega
      · have hlt:c.toNat<128:=by omega
        by_cases h0:c.toNat=0
        · have hz:((c.toNat:Int)==0)=true:=by simp[h0]
          have HZ:=Lib.hid h0
          clear h0
          by_cases h:0<k
          · go_wp2
            all_goals (go_ret3;exact⟨by rw[HD.out,HDr.out];simp[Ax,HZ.out,h,DH],rfl⟩)
          · have j:decide (0<k)=false:=by simp;omega
            clear h
            have hd:Ax k (c :: L.drop (k+1))=some (c.toNat,1):=by
              simp only[Ax]
              rw[if_neg h128,if_neg (by simp at j;omega)]
            have HD2:=Lib.hid hd
            clear hd
            go_wp2
            all_goals go_ret3
            all_goals refine⟨?_,rfl⟩
            all_goals rw[GB _ _ hlt f,K5 _ _ _ HO.out hlt f,HD.out,HDr.out,HD2.out]
            all_goals exact N1 a k _ _ (K7 _ _ _ HO.out hlt f)
        · have hz:((c.toNat:Int)==0)=false:=by simp[h0]
          have HZ:=Lib.hid h0
          clear h0
          have hd:Ax k (c :: L.drop (k+1))=some (c.toNat,1):=by
            simp only[Ax]
            rw[if_neg h128,if_neg (by have:=HZ.out;omega)]
          have HD2:=Lib.hid hd
          clear hd
          go_wp2
          all_goals go_ret3
          all_goals refine⟨?_,rfl⟩
          all_goals rw[GB _ _ hlt f,K5 _ _ _ HO.out hlt f,HD.out,HDr.out,HD2.out]
          all_goals exact N1 a k _ _ (K7 _ _ _ HO.out hlt f)
    · have hkl' :k=L.length:=by omega
      go_wp2
      all_goals (go_ret3;exact⟨by rw[HD.out,hkl'];simp[Ax,DH],rfl⟩)
open Go.RowKit
theorem u5:Tryd.prog.underlying 5=some (.int .u8):=by kernel_rfl

theorem R3(w:World)(ao:Option Addr)(n c:Nat)(a:Int)(ha:a<0∨(n:Int)<a):
    Calls Tryd.prog 63 #[.slice ao n c, .int .i64 a] w fun e w' =>e = .returned (.tuple #[.int .i64 0, .int .i64 0, .int .i64 1])∧w=w' :=by
  by_cases h0:a<0
  · have hd:decide (a<0)=true:=by simp[h0]
    clear ha
    go_enter Tryd.func63,Tryd.ntmps63
    go_wp2_with fail
    go_step3
    go_wp2_with fail
    rw[Exit.noGoto_ret]
    go_ret3
    exact⟨rfl,rfl⟩
  · have hd:decide (a<0)=false:=by simp[h0]
    have h1:(n:Int)<a:=by omega
    have hd2:decide ((n:Int)<a)=true:=by simp[h1]
    clear ha
    go_enter Tryd.func63,Tryd.ntmps63
    go_wp2_with fail
    go_step3
    go_wp2_with fail
    rw[Exit.noGoto_ret]
    go_ret3
    exact⟨rfl,rfl⟩

def BP(l:List UInt8)(a:Nat)(most:Int):Value:=
  match Ax 0 (l.drop a)with
  | none=> .tuple #[.string ⟨#[]⟩, .int .i64 0, .int .i64 6]
  | some x=>if most<x.1 then .tuple #[.string ⟨#[]⟩, .int .i64 0, .int .i64 2]
      else if l.length<a+x.2+x.1 then .tuple #[.string ⟨#[]⟩, .int .i64 0, .int .i64 6]
      else .tuple #[.string ⟨((l.drop (a+x.2)).take x.1).toArray⟩, .int .i64 ↑(a+x.2+x.1), .int .i64 0]

set_option maxRecDepth 100000 in
set_option maxHeartbeats 1000000 in
theorem Fd(w:World)(v:Value)(l:List UInt8)(hr:RB w v l)(a:Nat)(ha:a≤l.length)(most:Int):
    Calls Tryd.prog 87 #[v, .int .i64 a, .int .i64 most] w fun e w' =>e = .returned (BP l a most)∧w=w' :=by
  have HR:=Lib.hid hr
  obtain⟨ao,cap,rfl,h2,h3⟩:=hr.len
  clear hr
  have HG:=Lib.hid (Eb w _ l HR.out a ha)
  cases hL:Ax 0 (l.drop a)with
  | none=>
    have hR:BP l a most = .tuple #[.string ⟨#[]⟩, .int .i64 0, .int .i64 6]:=by unfold BP;rw[hL]
    rw[hR]
    have HL:=Lib.hid hL
    clear hL hR
    go_enter Tryd.func87,Tryd.ntmps87
    go_wp2_with fail
    refine HG.out.mono ?_
    rintro e w1 ⟨rfl,rfl⟩
    rw[HL.out]
    unfold DH
    go_wp2_with fail
    go_ret3
    exact⟨rfl,rfl⟩
  | some x=>
    obtain⟨n,m⟩:=x
    have hp:=GA _ _ _ hL
    have hlt:=He _ _ _ hL
    rw[List.length_drop]at hp
    have hm9:m≤9:=by have:=hp.2.2;simp at this;exact this
    have b:n≤9223372036854775807:=by
      have h1:128^m≤128^9:=Nat.pow_le_pow_right (by decide) hm9
      simp only at hlt
      omega
    have hm1:1≤m:=hp.1
    have hml:a+m≤l.length:=by have:=hp.2.1;simp at this;omega
    have HL:=Lib.hid hL
    clear hL hlt hp
    by_cases hmost:most<n
    · have hR:BP l a most = .tuple #[.string ⟨#[]⟩, .int .i64 0, .int .i64 2]:=by unfold BP;rw[HL.out];simp only[];rw[if_pos hmost]
      rw[hR]
      clear hR
      go_enter Tryd.func87,Tryd.ntmps87
      go_wp2_with fail
      refine HG.out.mono ?_
      rintro e w1 ⟨rfl,rfl⟩
      rw[HL.out]
      unfold DH
      go_wp2_with fail
      go_ret3
      exact⟨rfl,rfl⟩
    · by_cases hlen:l.length<a+m+n
      · have hR:BP l a most = .tuple #[.string ⟨#[]⟩, .int .i64 0, .int .i64 6]:=by unfold BP;rw[HL.out];simp only[];rw[if_neg hmost,if_pos hlen]
        rw[hR]
        clear hR
        go_enter Tryd.func87,Tryd.ntmps87
        go_wp2_with fail
        refine HG.out.mono ?_
        rintro e w1 ⟨rfl,rfl⟩
        rw[HL.out]
        unfold DH
        go_wp2_with fail
        go_ret3
        exact⟨rfl,rfl⟩
      · have hR:BP l a most = .tuple #[.string ⟨((l.drop (a+m)).take n).toArray⟩, .int .i64 ↑(a+m+n), .int .i64 0]:=by unfold BP;rw[HL.out];simp only[];rw[if_neg hmost,if_neg hlen]
        rw[hR]
        clear hR
        go_enter Tryd.func87,Tryd.ntmps87
        go_wp2_with fail
        refine HG.out.mono ?_
        rintro e w1 ⟨rfl,rfl⟩
        rw[HL.out]
        unfold DH
        have hlh:a+m≤a+m+n:=Nat.le_add_right _ _
        have hhl:a+m+n≤l.length:=by omega
        go_wp2_with (refine Gg (o:=⟨some 38,_,_,_,_,_⟩) rfl _ _ (some _) (some _) rfl EX M4 _ l rfl HR.out (a+m) (a+m+n) hlh hhl (.inr ⟨.i64,rfl⟩) (.inr ⟨.i64,rfl⟩) ?_)
        intro ao' c' hr'
        have HR' :=Lib.hid hr'
        clear hr'
        go_wp2_with (refine LT (o:=⟨some 39,_,_,_,_,_⟩) rfl _ _ _ rfl EX u5 Rt _ _ rfl HR'.out ?_)
        go_ret3
        exact⟨rfl,rfl⟩
open Go.RowKit
theorem QJ:Tryd.prog.underlying 38=some (.array 32 5):=by kernel_rfl
theorem N2:(Tryd.prog.info? 38).map (·.size)=some 32:=by kernel_rfl
theorem Ru:(Tryd.prog.info? 5).map (·.size)=some 1:=by kernel_rfl

def zero32:List UInt8:=List.replicate 32 0
theorem EC{l:List UInt8}(h:l.length=32):(Lib.byteCells l).toArray.size=32:=by simp[Lib.byteCells,h]
theorem Ag{l:List UInt8}(h:l.length=32):(Tryd.prog.info? 38).map (·.size)=some (Lib.byteCells l).toArray.size:=by rw[EC h];exact N2
theorem M6:zero32.length=32:=List.length_replicate

theorem My(ρ:Operand→Value)(d:Option Tmp)(ty:TypeId)(pos:String)(af:Array Edge)(w:World):(execOp ρ ⟨d, .alloc 38,ty,pos,af,none⟩).run Tryd.prog w = .ok (.value (.pointer (some ⟨w.heap.size,0,none⟩))) (w.alloc (.cells (Lib.byteCells zero32).toArray 38)):=by kernel_rfl

def DI(l:List UInt8)(a:Nat):Value:=
  if l.length-a<32 then .tuple #[.agg (Lib.byteCells zero32).toArray, .int .i64 0, .int .i64 6]
  else .tuple #[.agg (Lib.byteCells ((l.drop a).take 32)).toArray, .int .i64 ↑(a+32), .int .i64 0]

set_option maxRecDepth 100000 in
set_option maxHeartbeats 1000000 in
theorem Ip(w:World)(v:Value)(l:List UInt8)(hr:RB w v l)(a:Nat)(ha:a≤l.length):
    Calls Tryd.prog 75 #[v, .int .i64 a] w fun e w' =>e = .returned (DI l a)∧Ext w w' :=by
  have HR:=Lib.hid hr
  obtain⟨ao,cap,rfl,h2,h3⟩:=hr.len
  clear hr
  have hd:decide ((a:Int)<0)=false:=by simp
  have hd2:decide (l.length<a)=false:=by simp;omega
  by_cases hs:l.length-a<32
  · have hR:DI l a = .tuple #[.agg (Lib.byteCells zero32).toArray, .int .i64 0, .int .i64 6]:=by unfold DI;rw[if_pos hs]
    rw[hR]
    clear hR
    go_enter Tryd.func75,Tryd.ntmps75
    have HSI:=Lib.hid (Ag M6)
    go_wp2_with (first | (refine G8 (o:=⟨some 4, .alloc _,_,_,_,_⟩) rfl _ _ (My _ _ _ _ _ _) ?_) | (refine wpList_load_row (o:=⟨some 21,_,_,_,_,_⟩) rfl _ _ rfl w.heap.size rfl _ _ _ _ (heap_alloc_new w _) QJ rfl HSI.out ?_) | (refine E7 (o:=⟨none, .store _ _ _,_,_,_,_⟩) rfl _ _ _ rfl w.heap.size rfl (Lib.byteCells zero32).toArray 38 rfl (heap_alloc_new w _) HSI.out (Ai zero32) ?_))
    refine bodyPost_ret (v:= .tuple #[.agg (Lib.byteCells zero32).toArray, .int .i64 0, .int .i64 6]) (GY Tryd.results75 _ _ w.heap.size 38 (Lib.byteCells zero32).toArray (0,0) _ rfl (heap_alloc_new w _) QJ rfl HSI.out) rfl ⟨rfl,(Below.refl _ _).alloc (Nat.le_refl _) _⟩
  · have hR:DI l a = .tuple #[.agg (Lib.byteCells ((l.drop a).take 32)).toArray, .int .i64 ↑(a+32), .int .i64 0]:=by unfold DI;rw[if_neg hs]
    rw[hR]
    clear hR
    go_enter Tryd.func75,Tryd.ntmps75
    go_wp2_with (refine G8 (o:=⟨some 4, .alloc _,_,_,_,_⟩) rfl _ _ (My _ _ _ _ _ _) ?_)
    have hal:a+32≤l.length:=by omega
    obtain⟨w0,hw0⟩:∃w0,w0=w.alloc (.cells (Lib.byteCells zero32).toArray 38):=⟨_,rfl⟩
    have hbox:w0.heap[w.heap.size]? =some (.cells (Lib.byteCells zero32).toArray 38 (0,0)):=by rw[hw0];exact heap_alloc_new w _
    have hsz:w0.heap.size=w.heap.size+1:=by rw[hw0];simp
    have c:Below w.heap.size w w0:=by rw[hw0];exact(Below.refl _ _).alloc (Nat.le_refl _) _
    rw[←hw0]
    clear hw0
    have f:((l.drop a).take 32).length=32:=by rw[List.length_take,List.length_drop];omega
    have HL32:=Lib.hid f
    clear f hd hd2
    refine Jk [4] (fun n=>if n=4 then [3]else []) (fun w' =>Below w.heap.size w0 w' ∧∃cur:Array Value,cur.size=32∧w'.heap[w.heap.size]? =some (.cells cur 38 (0,0)))
      (fun w1 b=>w1.grownBy b (some w.heap.size)∧((∃cur:Array Value,cur.size=32∧w1.heap[w.heap.size]? =some (.cells cur 38 (0,0)))→∃cur:Array Value,cur.size=32∧b.heap[w.heap.size]? =some (.cells cur 38 (0,0))))
      [Is (.slice (some ⟨w.heap.size,0,none⟩) 32 32),Is (.slice ao l.length cap),Is (.int .i64 a),(fun x w' =>RB w' x (l.drop a)),(fun _ w' =>w'.heap[w.heap.size]? =some (.cells (Lib.byteCells ((l.drop a).take 32)).toArray 38 (0,0)))]
      (by kernel_rfl) _ _ (by kernel_rfl) (by kernel_rfl) [22,23,24,25,26] (by kernel_rfl)
      (fun w1 b h k=>⟨h.1.trans (k.mono (by have:=h.1.size;have:=hsz;omega)),by obtain⟨cur,h1,h2⟩:=h.2;exact⟨cur,h1,(k.block _ (Array.getElem?_eq_some_iff.1 h2).1).trans h2⟩⟩)
      (fun w1 b h k=>⟨h.1.grown k.1 (by have:=h.1.size;have:=hsz;omega) (fun _ e=>by cases e;exact Nat.le_refl _),k.2 h.2⟩) (fun w=>⟨World.grownBy.refl _ _,fun h=>h⟩) ⟨(Below.refl _ _).drew,_,EC rfl,hbox⟩ ?hst ?hsk ?hs ?hQ
    case hst=>
      refine⟨Stab.is _,Stab.is _,Stab.is _,Stab.rb _,fun v w1 b h k=> ?_,trivial⟩
      have h' :w1.heap[w.heap.size]? =_:=h
      exact(k.block _ (Array.getElem?_eq_some_iff.1 h').1).trans h'
    case hsk=>
      intro n i hn hi hk hne hb
      simp at hn
      subst hn
      match i,hi,hk,hne,hb with
      | 0,_,_,_,_=>exact Stab.is _
      | 1,_,_,_,_=>exact Stab.is _
      | 2,_,_,_,_=>exact Stab.is _
      | 3,_,hk,_,_=>simp at hk
      | 4,_,_,hne,_=>simp at hne
    case hs=>
      refine⟨?_,?_,?_,?_,?_,trivial⟩
      · refine Fo rfl fun ρ w1 hC h=> ?_
        have h4:ρ 4 = .pointer (some ⟨w.heap.size,0,none⟩):=h 4 (by decide)
        refine Yk.value (v:= .slice (some ⟨w.heap.size,0,none⟩) 32 32) (w' :=w1) ?_ ⟨Ext.refl _,rfl⟩
        clear h hC
        simp[execOp,Ab,h4,go_sem]
      · refine Fo rfl fun ρ w1 hC h=> ?_
        have h0:ρ 0 = .slice ao l.length cap:=h 0 (by decide)
        exact⟨Ext.refl _,h0⟩
      · refine Fo rfl fun ρ w1 hC h=> ?_
        have h0:ρ 1 = .int .i64 a:=h 1 (by decide)
        exact⟨Ext.refl _,h0⟩
      · refine Fo rfl fun ρ w1 hC h=> ?_
        have h23:ρ 23 = .slice ao l.length cap:=h 23 (by decide)
        have h24:ρ 24 = .int .i64 a:=h 24 (by decide)
        have g:RB w1 (Ab ρ (.tmp 23)) l:=by show RB w1 (ρ 23) l;rw[h23];exact HR.out.keep (c.trans hC.1)
        refine Yk.reslice EX M4 g a l.length ha (Nat.le_refl _) (.inr ⟨.i64,by simp[Ab,h24]⟩) (.inl ⟨rfl,rfl⟩) ?_
        intro ao' c' hr'
        rw[List.take_of_length_le (by rw[List.length_drop];exact Nat.le_refl _)]at hr'
        exact⟨Ext.refl _,hr'⟩
      · refine Fo rfl fun ρ w1 hC h=> ?_
        have h22:ρ 22 = .slice (some ⟨w.heap.size,0,none⟩) 32 32:=h 22 (by decide)
        have h25:RB w1 (ρ 25) (l.drop a):=h 25 (by decide)
        obtain⟨hC1,cur,hcs,hcb⟩:=hC
        have hm:Nat.min (l.drop a).length 32=32:=Nat.min_eq_right (by rw[List.length_drop];exact Nat.le_sub_of_add_le (by rw[Nat.add_comm];exact hal))
        have hfit:0+Nat.min (l.drop a).length 32≤cur.size:=by rw[hm,hcs];exact Nat.le_refl _
        refine Yk.copyB (.tmp 22) (.tmp 25) (o:=0) EX Ru h22 h25 hcb hfit ?_
        have e:(cur.toList.take 0++Lib.byteCells ((l.drop a).take 32)++cur.toList.drop (0+Nat.min (l.drop a).length 32)).toArray=(Lib.byteCells ((l.drop a).take 32)).toArray:=by
          have hd0:cur.toList.drop (0+32)= []:=List.drop_of_length_le (Nat.le_of_eq (by rw[Array.length_toList,hcs]))
          rw[hm,hd0]
          simp
        rw[e]
        have hw:=setRow_heap w1 w.heap.size cur (Lib.byteCells ((l.drop a).take 32)).toArray 38 (0,0) hcb
        exact⟨⟨⟨rfl,rfl,rfl,by simp,fun k _ hk=>setRow_other w1 w.heap.size k _ (fun e=>hk (by rw[e]))⟩,fun _=>⟨_,EC HL32.out,hw⟩⟩,hw⟩
    case hQ=>
      intro u w1 hC hE
      obtain⟨-,-,-,-,h26,-⟩:=hE
      have hblk:w1.heap[w.heap.size]? =some (.cells (Lib.byteCells ((l.drop a).take 32)).toArray 38 (0,0)):=h26
      clear h26
      simp only[C0,List.foldl_cons,List.foldl_nil,List.setIfInBounds_toArray,List.set_cons_zero,List.set_cons_succ]
      have hsi:(Tryd.prog.info? 38).map (·.size)=some (Lib.byteCells ((l.drop a).take 32)).toArray.size:=by rw[EC HL32.out];exact N2
      have HB:=Lib.hid hblk
      clear hblk
      have HSI:=Lib.hid hsi
      clear hsi
      go_wp2_with (first | (refine wpList_load_row (o:=⟨some 27,_,_,_,_,_⟩) rfl _ _ rfl w.heap.size rfl _ _ _ _ HB.out QJ rfl HSI.out ?_) | (refine E7 (o:=⟨none, .store _ _ _,_,_,_,_⟩) rfl _ _ _ rfl w.heap.size rfl (Lib.byteCells ((l.drop a).take 32)).toArray 38 rfl HB.out HSI.out (Ai _) ?_))
      refine bodyPost_ret (v:= .tuple #[.agg (Lib.byteCells ((l.drop a).take 32)).toArray, .int .i64 ↑(a+32), .int .i64 0]) ?_ rfl ⟨rfl,c.trans hC.1⟩
      exact GY Tryd.results75 _ _ w.heap.size 38 _ (0,0) _ rfl HB.out QJ rfl HSI.out
open Go.RowKit
set_option maxHeartbeats 400000 in
theorem LY(w:World)(v:Value)(l:List UInt8)(hr:RB w v l)(s:ByteArray)(hl:l.length+s.size+16≤140737488355328):
    Calls Tryd.prog 24 #[v, .string s] w fun e w' =>∃v',e = .returned v' ∧NewB 5 w w' v' (l++Lib.uvarint s.size++s.data.toList):=by
  obtain⟨i0,hi,a,b,c⟩:=info_parts IP
  have h9:=A8 s.size (by omega)
  have hss:s.data.toList.length=s.size:=by simp
  have HSS:=Lib.hid hss
  clear hss
  go_enter Tryd.func24,Tryd.ntmps24
  go_wp2_with fail
  refine(Mw _ _ l hr (by omega)).mono ?_
  rintro e w1 ⟨f,rfl,h1⟩
  go_wp2_with fail
  refine(IQ w.heap.size l.length s.size (by omega) f _ w1 h1.own h1.by_.size (by omega)).mono ?_
  rintro e h ⟨i,rfl,ho,g⟩
  have h2:=h1.more g ho
  go_wp2_with (at_builtin;refine Cj _ rfl _ _ 24 9 rfl w.heap.size 5 i0 (.int .u8 0) 1 1 EX hi a b c rfl _ _ _ rfl h2.own (.string s) _ _ rfl (NS Rt _ s) ?c1 ?c2 ?c3 ?_)
  case c1=>have:=HSS.out;rw[this,List.length_append];unfold maxLen;omega
  case c2=>have:=HSS.out;rw[this,List.length_append];omega
  case c3=>exact h2.by_.size
  intro v' j hown' hgrow
  go_wp2
  go_ret
  exact⟨v',rfl,h2.more hgrow (by rw[HSS.out,List.length_append];exact hown')⟩

open Go.RowKit
variable {P : Program}
def cellsU(l:List UInt32):Array Value:=(l.map fun x=>U x).toArray
theorem F4(l:List UInt32):(cellsU l).size=l.length:=by simp[cellsU]
theorem Dj(l:List UInt32):∀v∈(cellsU l).toList,v.oneCell' =true:=by
  intro v hv
  simp[cellsU]at hv
  obtain⟨x,-,rfl⟩:=hv
  rfl
namespace Sha
def rotr(x:UInt32)(n:Nat):UInt32:=x<<<UInt32.ofNat (32-n)|||x>>>UInt32.ofNat n
def be4(b:List UInt8)(t:Nat):UInt32:=
  (b.getD (4*t) 0).toUInt32<<<24|||(b.getD (4*t+1) 0).toUInt32<<<16|||(b.getD (4*t+2) 0).toUInt32<<<8|||(b.getD (4*t+3) 0).toUInt32
def low(x:UInt32):UInt32:=rotr x 7^^^rotr x 18^^^x>>>3
def high(y:UInt32):UInt32:=rotr y 17^^^rotr y 19^^^y>>>10
def nextW(b:List UInt8)(l:List UInt32)(t:Nat):UInt32:=
  if t<16 then be4 b t else high (l.getD (t-2) 0)+l.getD (t-7) 0+low (l.getD (t-15) 0)+l.getD (t-16) 0
def sched(b:List UInt8):Nat→List UInt32
  | 0=> []
  | t+1=>sched b t++ [nextW b (sched b t) t]
theorem sched_length(b:List UInt8):∀t,(sched b t).length=t
  | 0=>rfl
  | t+1=>by simp[sched,sched_length b t]
def first:List UInt32:= [0x6a09e667,0xbb67ae85,0x3c6ef372,0xa54ff53a,0x510e527f,0x9b05688c,0x1f83d9ab,0x5be0cd19]
def words:List UInt32:= [0x428a2f98,0x71374491,0xb5c0fbcf,0xe9b5dba5,0x3956c25b,0x59f111f1,0x923f82a4,0xab1c5ed5,0xd807aa98,0x12835b01,0x243185be,0x550c7dc3,0x72be5d74,0x80deb1fe,0x9bdc06a7,0xc19bf174,0xe49b69c1,0xefbe4786,0x0fc19dc6,0x240ca1cc,0x2de92c6f,0x4a7484aa,0x5cb0a9dc,0x76f988da,0x983e5152,0xa831c66d,0xb00327c8,0xbf597fc7,0xc6e00bf3,0xd5a79147,0x06ca6351,0x14292967,0x27b70a85,0x2e1b2138,0x4d2c6dfc,0x53380d13,0x650a7354,0x766a0abb,0x81c2c92e,0x92722c85,0xa2bfe8a1,0xa81a664b,0xc24b8b70,0xc76c51a3,0xd192e819,0xd6990624,0xf40e3585,0x106aa070,0x19a4c116,0x1e376c08,0x2748774c,0x34b0bcb5,0x391c0cb3,0x4ed8aa4a,0x5b9cca4f,0x682e6ff3,0x748f82ee,0x78a5636f,0x84c87814,0x8cc70208,0x90befffa,0xa4506ceb,0xbef9a3f7,0xc67178f2]
def up(v:List UInt32)(k w:UInt32):UInt32:=
  v.getD 7 0+(rotr (v.getD 4 0) 6^^^rotr (v.getD 4 0) 11^^^rotr (v.getD 4 0) 25)+(v.getD 4 0&&&v.getD 5 0 ^^^ ~~~(v.getD 4 0)&&&v.getD 6 0)+k+w
def two(v:List UInt32):UInt32:=rotr (v.getD 0 0) 2^^^rotr (v.getD 0 0) 13^^^rotr (v.getD 0 0) 22
def most(v:List UInt32):UInt32:=v.getD 0 0&&&v.getD 1 0^^^v.getD 0 0&&&v.getD 2 0^^^v.getD 1 0&&&v.getD 2 0
def round(v:List UInt32)(k w:UInt32):List UInt32:=
  [up v k w+two v+most v,v.getD 0 0,v.getD 1 0,v.getD 2 0,v.getD 3 0+up v k w,v.getD 4 0,v.getD 5 0,v.getD 6 0]
def turned(s ws:List UInt32):Nat→List UInt32
  | 0=>s
  | t+1=>round (turned s ws t) (words.getD t 0) (ws.getD t 0)
theorem turned_length(s ws:List UInt32)(hs:s.length=8):∀t,(turned s ws t).length=8
  | 0=>hs
  | _+1=>rfl
def added(v s:List UInt32):List UInt32:=List.zipWith (· + ·) v s
def rounds(s:List UInt32)(b:List UInt8):List UInt32:=added (turned s (sched b 64) 64) s
theorem rounds_length(s:List UInt32)(b:List UInt8)(hs:s.length=8):(rounds s b).length=8:=by
  simp[rounds,added,turned_length _ _ hs,hs]
def blocks(s:List UInt32)(b:List UInt8):Nat→List UInt32
  | 0=>s
  | n+1=>blocks (rounds s (b.take 64)) (b.drop 64) n
theorem blocks_length(n:Nat):∀(s:List UInt32) (b:List UInt8),s.length=8→(blocks s b n).length=8:=by
  induction n with
  | zero=>exact fun s b h=>h
  | succ n ih=>exact fun s b h=>ih _ _ (rounds_length _ _ h)
def be64(n:Nat):List UInt8:=(List.range 8).map fun i=>UInt8.ofNat (n/2^(56-8*i))
def tail(n:Nat):List UInt8:=128 :: (List.replicate ((119-n%64)%64) 0++be64 (8*n))
def out(s:List UInt32):List UInt8:=s.flatMap fun(w:UInt32)=> [(w>>>24).toUInt8,(w>>>16).toUInt8,(w>>>8).toUInt8,w.toUInt8]
def sum(b:List UInt8):List UInt8:=out (blocks first (b++tail b.length) ((b++tail b.length).length/64))
end Sha
open Go.RowKit
namespace Sha
def pad64(l:List UInt32):List UInt32:=l++List.replicate (64-l.length) 0
theorem pad64_length(l:List UInt32)(h:l.length≤64):(pad64 l).length=64:=by simp[pad64];omega
theorem pad64_get(l:List UInt32)(i:Nat):(pad64 l).getD i 0=l.getD i 0:=by
  unfold pad64
  simp only[List.getD_eq_getElem?_getD]
  rw[List.getElem?_append]
  split
  · rfl
  · rename_i h
    rw[List.getElem?_replicate,List.getElem?_eq_none (by omega)]
    split <;> rfl
theorem pad64_set(l:List UInt32)(x:UInt32)(h:l.length<64):(pad64 l).set l.length x=pad64 (l++ [x]):=by
  unfold pad64
  rw[List.set_append_right _ _ (Nat.le_refl _),Nat.sub_self]
  obtain⟨k,hk⟩:∃k,64-l.length=k+1:=⟨64-l.length-1,by omega⟩
  rw[hk,List.replicate_succ,List.set_cons_zero]
  have:64-(l++ [x]).length=k:=by simp;omega
  rw[this]
  simp
theorem pad64_full(l:List UInt32)(h:l.length=64):pad64 l=l:=by simp[pad64,h]
theorem sched_step1(b:List UInt8)(t:Nat)(h:t<16):(pad64 (sched b t)).set t (be4 b t)=pad64 (sched b (t+1)):=by
  have:=pad64_set (sched b t) (be4 b t) (by rw[sched_length];omega)
  rw[sched_length]at this
  rw[this]
  simp[sched,nextW,h]
theorem sched_step2(b:List UInt8)(t:Nat)(h:16≤t)(h2:t<64):(pad64 (sched b t)).set t (high ((pad64 (sched b t)).getD (t-2) 0)+(pad64 (sched b t)).getD (t-7) 0+low ((pad64 (sched b t)).getD (t-15) 0)+(pad64 (sched b t)).getD (t-16) 0)=pad64 (sched b (t+1)):=by
  simp only[pad64_get]
  have:=pad64_set (sched b t) (nextW b (sched b t) t) (by rw[sched_length];omega)
  rw[sched_length]at this
  rw[sched,←this]
  unfold nextW
  rw[if_neg (by omega)]
end Sha
structure Laid (w : World) : Prop where
  first:∃t fr,w.heap[0]? =some (.cells (cellsU Sha.first) t fr)
  words:∃t fr,w.heap[1]? =some (.cells (cellsU Sha.words) t fr)
theorem Laid.keep{w w' :World}(h:Laid w)(k:Ext w w'):Laid w' :=⟨by obtain⟨t,fr,h1⟩:=h.first;exact⟨t,fr,k.blk' h1⟩,by obtain⟨t,fr,h1⟩:=h.words;exact⟨t,fr,k.blk' h1⟩⟩
theorem Laid.two{w:World}(h:Laid w):1<w.heap.size:=by
  obtain⟨t,fr,h1⟩:=h.words
  exact(Array.getElem?_eq_some_iff.1 h1).1
def Sha.adding(v s:List UInt32):Nat→List UInt32
  | 0=>v
  | i+1=>(Sha.adding v s i).set i ((Sha.adding v s i).getD i 0+s.getD i 0)
theorem Sha.adding_length(v s:List UInt32):∀i,(Sha.adding v s i).length=v.length
  | 0=>rfl
  | i+1=>by simp[Sha.adding,Sha.adding_length v s i]
theorem Sha.adding_get(v s:List UInt32)(h:s.length=v.length):∀i j,j<v.length→(Sha.adding v s i).getD j 0=if j<i then v.getD j 0+s.getD j 0 else v.getD j 0
  | 0,j,_=>by simp[Sha.adding]
  | i+1,j,hj=>by
    have ih:=Sha.adding_get v s h i
    unfold Sha.adding
    by_cases hij:i=j
    · subst hij
      have hl:i<(Sha.adding v s i).length:=by rw[Sha.adding_length];exact hj
      rw[List.getD_eq_getElem?_getD,List.getElem?_set_self hl,Option.getD_some,ih i hj,if_neg (Nat.lt_irrefl _),if_pos (Nat.lt_succ_self _)]
    · rw[List.getD_eq_getElem?_getD,List.getElem?_set_ne hij,←List.getD_eq_getElem?_getD,ih j hj]
      by_cases h1:j<i
      · rw[if_pos h1,if_pos (by omega)]
      · rw[if_neg h1,if_neg (by omega)]
theorem Sha.adding_all(v s:List UInt32)(h:s.length=v.length):Sha.adding v s v.length=Sha.added v s:=by
  apply List.ext_getElem (by simp[Sha.adding_length,Sha.added,h])
  intro j h1 h2
  have hj:j<v.length:=by rw[Sha.adding_length]at h1;exact h1
  have:=Sha.adding_get v s h v.length j hj
  rw[if_pos hj]at this
  have hs:j<s.length:=by omega
  simp[List.getD_eq_getElem?_getD,h1,hj,hs]at this
  rw[this]
  simp[Sha.added]

theorem Sha.adding_end{v s:List UInt32}{i:Nat}(h:s.length=8)(hv:v.length=8)(h1:i≤8)(h2:¬i<8):Sha.adding v s i=Sha.added v s:=by
  have:=Sha.adding_all v s (by omega)
  rw[hv]at this
  rw[show i=8 by omega,this]
def Fv:List Nat:= [2,6,7,11,13,17,18,19,22,25]
theorem QW(n:Nat)(hn:n∈Fv)(t:TypeId):Go.binOp .and t (.int .u64 (IntKind.u64.wrap (-(n:Int)))) (.int .u64 ((31:Nat):Int))=pure (.int .u64 ((32-n:Nat):Int)):=by
  unfold Fv at hn
  simp only[List.mem_cons,List.not_mem_nil,or_false]at hn
  rcases hn with rfl | rfl | rfl | rfl | rfl | rfl | rfl | rfl | rfl | rfl <;> rfl
theorem N3{n:Nat}(hn:n∈Fv):0<n∧n<32:=by
  unfold Fv at hn
  simp only[List.mem_cons,List.not_mem_nil,or_false]at hn
  omega
theorem Yk.negSet{P:Program}{K:Value→World→Prop}{ρ:Ae}{w:World}{d:Option Tmp}{ty:TypeId}{pos:String}{af:Array Edge}{gd:Option (Nat × Bool)}{t:TypeId}{x:Operand}{n:Nat}(hn:n∈Fv)(hx:Ab ρ x=NI n)(hk:K (.int .i64 (-(n:Int))) w):Yk P K ((execOp (Ab ρ) ⟨d, .unOp .neg t x,ty,pos,af,gd⟩).run P w):=by
  have h:=N3 hn
  refine Yk.value (v:= .int .i64 (-(n:Int))) (w' :=w) ?_ hk
  have hw:IntKind.i64.wrap (-(n:Int)) = -(n:Int):=by
    simp only[IntKind.wrap,IntKind.bits,IntKind.signed]
    simp
    omega
  unfold execOp
  simp[hx,Op.unary,Op.intArith,hw]
theorem Yk.build8{P:Program}{K:Value→World→Prop}{ρ:Ae}{w:World}{d:Option Tmp}{ty:TypeId}{pos:String}{af:Array Edge}{gd:Option (Nat × Bool)}{t:TypeId}{x0 x1 x2 x3 x4 x5 x6 x7:Operand}{a b c e f g h i v:Value}(h0:Ab ρ x0=a)(h1:Ab ρ x1=b)(h2:Ab ρ x2=c)(h3:Ab ρ x3=e)(h4:Ab ρ x4=f)(h5:Ab ρ x5=g)(h6:Ab ρ x6=h)(h7:Ab ρ x7=i)(hr:∀w:World,(Instr.build t #[(0,a),(1,b),(2,c),(3,e),(4,f),(5,g),(6,h),(7,i)]).run P w = .ok v w)(hk:K v w):Yk P K ((execOp (Ab ρ) ⟨d, .build t #[(0,x0),(1,x1),(2,x2),(3,x3),(4,x4),(5,x5),(6,x6),(7,x7)],ty,pos,af,gd⟩).run P w):=by
  refine Yk.value (v:=v) (w' :=w) ?_ hk
  unfold execOp
  simp only[List.map_toArray,List.map_cons,List.map_nil,h0,h1,h2,h3,h4,h5,h6,h7,Sem.run_bind,hr,Result.andThen_ok,Sem.run_pure]
open Go.RowKit
set_option maxRecDepth 100000
theorem PJ:Tryd.prog.underlying 3=some (.int .i64):=by kernel_rfl
theorem N4:Tryd.prog.underlying 90=some (.int .u64):=by kernel_rfl
theorem N5:AA Tryd.prog 90:=fun _ _=>by kernel_rfl
theorem GC:(Tryd.prog.info? 89).map (·.size)=some 64:=by kernel_rfl
theorem JH{d:Option Tmp}{ty:TypeId}{pos:String}{af:Array Edge}{gd:Option (Nat × Bool)}(σ:Operand→Value)(w:World):(execOp σ ⟨d, .alloc 89,ty,pos,af,gd⟩).run Tryd.prog w = .ok (.value (PQ w.heap.size 0)) (w.alloc (.cells ((List.replicate 64 0).map fun x=>U x).toArray 89)):=by kernel_rfl
theorem AL:Tryd.prog.underlying 87=some (.int .u32):=by kernel_rfl
theorem CK:Tryd.prog.underlying 89=some (.array 64 87):=by kernel_rfl
theorem AM:∀w' :World,(sizeOf 87).run Tryd.prog w' = .ok 1 w' :=fun _=>by kernel_rfl
theorem GD:(Tryd.prog.info? 87).map (·.size)=some 1:=by kernel_rfl
theorem CL:AA Tryd.prog 79:=fun _ _=>by kernel_rfl
theorem DY:(Tryd.prog.info? 88).map (·.size)=some 8:=by kernel_rfl
theorem JI{d:Option Tmp}{ty:TypeId}{pos:String}{af:Array Edge}{gd:Option (Nat × Bool)}(σ:Operand→Value)(w:World):(execOp σ ⟨d, .alloc 88,ty,pos,af,gd⟩).run Tryd.prog w = .ok (.value (PQ w.heap.size 0)) (w.alloc (.cells ((List.replicate 8 0).map fun x=>U x).toArray 88)):=by kernel_rfl
theorem AV:Tryd.prog.underlying 88=some (.array 8 87):=by kernel_rfl
theorem N6:AA Tryd.prog 78:=fun _ _=>by kernel_rfl
theorem PK(a b c d e f g h:UInt32)(w:World):(Instr.build 88 #[(0,U a),(1,U b),(2,U c),(3,U d),(4,U e),(5,U f),(6,U g),(7,U h)]).run Tryd.prog w = .ok (.agg (([a,b,c,d,e,f,g,h]:List UInt32).map fun x=>U x).toArray) w:=by kernel_rfl
set_option maxHeartbeats 1600000
theorem PL(w:World)(x:UInt32)(n:Nat)(hn:n∈Fv):
  Calls Tryd.prog 90 #[U x, .int .i64 (-(n:Int))] w fun e w' =>e = .returned (U (Sha.rotr x n))∧Ext w w' :=by
 obtain⟨a,b⟩:=N3 hn
 refine gG (args:= [U (x),(.int .i64 (-(n:Int)))]) Tryd.func90 rfl 17 rfl rfl ?_
 have hE:=Ext.refl w
 refine gS (Yk.convI PJ N4 rfl rfl (gS (Yk.bin (yv:= .int .u64 ((31:Nat):Int)) rfl rfl rfl (QW n hn _) (gS (Yk.bin (yv:= .int .u64 ((32-n:Nat):Int)) rfl rfl rfl (FO _ _ _ (32-n) (by omega)) (gS (Yk.bin (xv:= .int .u64 ((32:Nat):Int)) (yv:= .int .u64 ((32-n:Nat):Int)) rfl rfl rfl (Mt _ _ _ (by omega) (by omega)) (gS (Yk.bin (yv:= .int .u64 (((32)-(32-n):Nat):Int)) rfl rfl rfl (Ei _ _ _ ((32)-(32-n)) (by omega)) (gS (Yk.bin rfl rfl rfl (Ha _ _ _) (Bx rfl (vr (U (((x)<<<UInt32.ofNat (32-n))|||((x)>>>UInt32.ofNat ((32)-(32-n))))) rfl) ?_))))))))))))
 refine⟨?_,hE⟩
 unfold Sha.rotr
 rw[show 32-(32-n)=n by omega]

theorem C4(w:World)(x:UInt32)(n:Nat)(hn:n∈Fv):
  Calls Tryd.prog 79 #[U x,NI n] w fun e w' =>e = .returned (U (Sha.rotr x n))∧Ext w w' :=by
 refine gG (args:= [U (x),NI n]) Tryd.func79 rfl 9 rfl rfl ?_
 have hE:=Ext.refl w
 refine gS (Yk.negSet hn rfl (gS (Yk.callA2 N5 rfl rfl ((PL _ x n hn).mono ?_))))
 rintro e b ⟨rfl,a⟩
 refine⟨_,rfl,?_⟩
 refine Bx rfl (vr (U (Sha.rotr (x) n)) rfl) ?_
 have hE:=hE.trans a
 exact⟨rfl,hE⟩

theorem K8(w:World)(v:Value)(b:List UInt8)(hb:RB w v b)(hl:b.length=64):
  Calls Tryd.prog 78 #[v] w fun e w' =>e = .returned (.agg (cellsU (Sha.sched b 64)))∧Ext w w' :=by
 refine gG (args:= [v]) Tryd.func78 rfl 93 rfl rfl ?_
 have hE:=Ext.refl w
 refine gS (Yk.alloc JH fun o p a4 z av a5=> ?_)
 have c:=z;clear z
 have a6:o<p.heap.size:=by omega
 refine gS (Yk.alloc JH fun j aw ax aa s a7=> ?_)
 have f:=Ext.refl p
 have hE:=hE.trans av
 have ab:=hE.size
 have ac:=aa;clear aa
 have a8:j<aw.heap.size:=by omega
 have a9:=Aw (bl c) ax
 have c:=eb s c
 have hE:=hE.trans s
 have f:=f.trans s
 refine gL (fun(ρ:Ae) (wz:World)=>∃t:Nat,ρ 0=(v:Value)∧ρ 2=(PQ o 0:Value)∧ρ 3=(PQ j 0:Value)∧ρ 10=(NI t:Value)∧Ext w wz∧wz.heap[o]? =some (.cells ((List.replicate 64 0).map fun x=>U x).toArray 89 (0,0))∧Ext p wz∧wz.heap[j]? =some (.cells ((Sha.pad64 (Sha.sched b t)).map fun x=>U x).toArray 89 (0,0))∧(t≤16)∧True) (fun ρ _=>16-(intOf (ρ 10)).toNat) ⟨0,rfl,rfl,rfl,rfl,hE,c,f,AE ac (rfl),by omega,trivial⟩ ?_
 clear ac
 clear hE c
 rintro ay az ⟨t,k,n,g,h,hE,c,f,hb21l,ht_t,-⟩
 have q10:=h
 have hpl_t:(Sha.pad64 (Sha.sched b t)).length=64:=Sha.pad64_length _ (by rw[Sha.sched_length];omega)
 obtain⟨Bt,hBt⟩:∃B,B=Sha.pad64 (Sha.sched b t):=⟨_,rfl⟩
 have hb21l:az.heap[j]? =some (.cells ((Bt).map fun x=>U x).toArray 89 (0,0)):=AE hb21l (by rw[hBt])
 rw[←hBt]at hpl_t
 refine gS (Yk.eqI (a:=(t:Nat)) (b:=(16:Nat)) h rfl (Ah _ _ _ _) ?_)
 refine cD rfl (fun ad=> ?_) fun ad=> ?_
 ·refine Bw [0,1,2,3,4,5,6,7,8,9,10,11,12,13,14,15,16,17,18,19,20,21,22,23,24,25,26,27,28,29,30,31,32,33,34,35] [35] [] fun ba r=> ?_
  have hE:=hE.trans r
  have hb21l:=eb r hb21l
  refine ys (Yk.bin (xv:=NI 4) (yv:=NI t) rfl h rfl (A0 _ _ _ (by omega)) zz) (yA (Yk.atRB (l:=b) (i:=(4)*(t)) EX M4 (RB.of (hb.keep hE) k) rfl (by omega) fun bb ae=>(ys (Yk.loadC u5 rfl (PCell.of ae rfl) zz) (ys (Yk.wide u5 AL rfl zz) (ys (Yk.bin rfl rfl rfl (FO _ _ _ 24 (by decide)) zz) (ys (Yk.bin (xv:=NI 4) (yv:=NI t) rfl h rfl (A0 _ _ _ (by omega)) zz) (ys (Yk.bin (xv:=NI ((4)*(t))) (yv:=NI 1) rfl rfl rfl (Ac _ _ _ (by omega)) zz) (yA (Yk.atRB (l:=b) (i:=((4)*(t))+(1)) EX M4 (RB.of (hb.keep hE) k) rfl (by omega) fun bc af=>(ys (Yk.loadC u5 rfl (PCell.of af rfl) zz) (ys (Yk.wide u5 AL rfl zz) (ys (Yk.bin rfl rfl rfl (FO _ _ _ 16 (by decide)) zz) (ys (Yk.bin rfl rfl rfl (Ha _ _ _) zz) (ys (Yk.bin (xv:=NI 4) (yv:=NI t) rfl h rfl (A0 _ _ _ (by omega)) zz) (ys (Yk.bin (xv:=NI ((4)*(t))) (yv:=NI 2) rfl rfl rfl (Ac _ _ _ (by omega)) zz) (yA (Yk.atRB (l:=b) (i:=((4)*(t))+(2)) EX M4 (RB.of (hb.keep hE) k) rfl (by omega) fun bd ag=>(ys (Yk.loadC u5 rfl (PCell.of ag rfl) zz) ?_))))))))))))))))))
  refine ys (Yk.wide u5 AL rfl zz) (ys (Yk.bin rfl rfl rfl (FO _ _ _ 8 (by decide)) zz) (ys (Yk.bin rfl rfl rfl (Ha _ _ _) zz) (ys (Yk.bin (xv:=NI 4) (yv:=NI t) rfl h rfl (A0 _ _ _ (by omega)) zz) (ys (Yk.bin (xv:=NI ((4)*(t))) (yv:=NI 3) rfl rfl rfl (Ac _ _ _ (by omega)) zz) (yA (Yk.atRB (l:=b) (i:=((4)*(t))+(3)) EX M4 (RB.of (hb.keep hE) k) rfl (by omega) fun be ah=>(ys (Yk.loadC u5 rfl (PCell.of ah rfl) zz) (ys (Yk.wide u5 AL rfl zz) (ys (Yk.bin rfl rfl rfl (Ha _ _ _) zz) (ys (Yk.atArr0 (i:=t) CK AM g h (by omega) zz) (yC (Yk.storeU32 (i:=t) (v:=(((((b.getD ((4)*(t)) 0).toUInt32)<<<24)|||(((b.getD (((4)*(t))+(1)) 0).toUInt32)<<<16))|||(((b.getD (((4)*(t))+(2)) 0).toUInt32)<<<8))|||((b.getD (((4)*(t))+(3)) 0).toUInt32)) rfl rfl hb21l (by rw[hpl_t];omega) GD fun a0 ai u bf=> ?_))))))))))))
  clear ae
  clear af
  clear ag
  clear ah
  clear hb21l
  have hb21l:=ai;clear ai
  have bg:=bl hb21l
  have hb21l:a0.heap[j]? =some (.cells ((Sha.pad64 (Sha.sched b (t+1))).map fun x=>U x).toArray 89 (0,0)):=AE hb21l (congrArg (List.map fun x=>U x) (by rw[hBt];exact Sha.sched_step1 b t ad))
  have c:=eb r c
  have c:=kb u c (by omega)
  have f:=f.trans r
  have f:=Aa f u (Nat.le_trans (Nat.le_refl _) (by omega))
  have hE:=Aa hE u (Nat.le_trans ab (by omega))
  refine gS (Yk.bin (xv:=NI t) (yv:=NI 1) h rfl rfl (Ac _ _ _ (by omega)) (gK (And.intro ⟨t+1,k,n,g,rfl,hE,c,f,AE hb21l (rfl),by omega,trivial⟩ ?_)))
  show 16-(intOf (NI ((t)+(1)))).toNat<16-(intOf (ay 10)).toNat
  rw[q10]
  simp only[intOf,Int.toNat_natCast];omega
 refine gL (fun(ρ:Ae) (wz:World)=>∃q:Nat,ρ 0=(v:Value)∧ρ 2=(PQ o 0:Value)∧ρ 3=(PQ j 0:Value)∧ρ 10=(NI t:Value)∧ρ 5=(NI q:Value)∧Ext w wz∧wz.heap[o]? =some (.cells ((List.replicate 64 0).map fun x=>U x).toArray 89 (0,0))∧Ext p wz∧wz.heap[j]? =some (.cells ((Sha.pad64 (Sha.sched b q)).map fun x=>U x).toArray 89 (0,0))∧(q≤64)∧(16≤q)∧True) (fun ρ _=>64-(intOf (ρ 5)).toNat) ⟨16,k,n,g,h,rfl,hE,c,f,AE hb21l (congrArg (List.map fun x=>U x) (by rw[hBt,show t=16 by omega])),by omega,Nat.le_refl _,trivial⟩ ?_
 clear hb21l
 clear hE c f
 rintro a1 aj ⟨q,k,n,g,h,m,hE,c,f,hb21ll,ht_q,ht16,-⟩
 have q5:=m
 have hpl_q:(Sha.pad64 (Sha.sched b q)).length=64:=Sha.pad64_length _ (by rw[Sha.sched_length];omega)
 obtain⟨Bq,hBq⟩:∃B,B=Sha.pad64 (Sha.sched b q):=⟨_,rfl⟩
 have hb21ll:aj.heap[j]? =some (.cells ((Bq).map fun x=>U x).toArray 89 (0,0)):=AE hb21ll (by rw[hBq])
 rw[←hBq]at hpl_q
 refine gS (Yk.eqI (a:=(q:Nat)) (b:=(64:Nat)) m rfl (Ah _ _ _ _) ?_)
 refine cD rfl (fun ak=> ?_) fun ak=> ?_
 ·refine Bw [0,1,2,3,4,5,6,7,8,9] [] [] fun bh al=> ?_
  have hb21ll:=eb al hb21ll
  refine ys (Yk.bin (xv:=NI q) (yv:=NI 15) m rfl rfl (Ay _ _ _ (by omega) (by omega)) zz) (ys (Yk.atArr0 (i:=(q)-(15)) CK AM g rfl (by omega) zz) (ys (Yk.cell1 AL rfl rfl (cellAt hb21ll (AD (i:=(q)-(15)) (by rw[hpl_q];omega))) zz) (ys (Yk.bin (xv:=NI q) (yv:=NI 2) m rfl rfl (Ay _ _ _ (by omega) (by omega)) zz) (ys (Yk.atArr0 (i:=(q)-(2)) CK AM g rfl (by omega) zz) (ys (Yk.cell1 AL rfl rfl (cellAt hb21ll (AD (i:=(q)-(2)) (by rw[hpl_q];omega))) zz) (gS (Yk.callA2 CL rfl rfl ((C4 _ ((Bq).getD ((q)-(15)) 0) 7 (by decide)).mono ?_))))))))
  rintro e bi ⟨rfl,am⟩
  refine⟨_,rfl,?_⟩
  refine gS (Yk.callA2 CL rfl rfl ((C4 _ ((Bq).getD ((q)-(15)) 0) 18 (by decide)).mono ?_))
  rintro e bj ⟨rfl,an⟩
  refine⟨_,rfl,?_⟩
  refine gS (Yk.bin rfl rfl rfl (Cm _ _ _) (gS (Yk.bin rfl rfl rfl (Ei _ _ _ 3 (by decide)) (gS (Yk.bin rfl rfl rfl (Cm _ _ _) (gS (Yk.callA2 CL rfl rfl ((C4 _ ((Bq).getD ((q)-(2)) 0) 17 (by decide)).mono ?_))))))))
  rintro e bk ⟨rfl,ao⟩
  refine⟨_,rfl,?_⟩
  refine gS (Yk.callA2 CL rfl rfl ((C4 _ ((Bq).getD ((q)-(2)) 0) 19 (by decide)).mono ?_))
  rintro e bm ⟨rfl,ap⟩
  refine⟨_,rfl,?_⟩
  refine gS (Yk.bin rfl rfl rfl (Cm _ _ _) (gS (Yk.bin rfl rfl rfl (Ei _ _ _ 10 (by decide)) (gS (Yk.bin rfl rfl rfl (Cm _ _ _) (Bw [0,1,2,3,4,5,6,7,8,9,10,11,12,13,14,15] [15] [] fun bn aq=> ?_))))))
  have hb21ll:=eb ((((am.trans an).trans ao).trans ap).trans aq) hb21ll
  refine ys (Yk.bin (xv:=NI q) (yv:=NI 7) m rfl rfl (Ay _ _ _ (by omega) (by omega)) zz) (ys (Yk.atArr0 (i:=(q)-(7)) CK AM g rfl (by omega) zz) (ys (Yk.cell1 AL rfl rfl (cellAt hb21ll (AD (i:=(q)-(7)) (by rw[hpl_q];omega))) zz) (ys (Yk.bin rfl rfl rfl (BF _ _ _) zz) (ys (Yk.bin rfl rfl rfl (BF _ _ _) zz) (ys (Yk.bin (xv:=NI q) (yv:=NI 16) m rfl rfl (Ay _ _ _ (by omega) (by omega)) zz) (ys (Yk.atArr0 (i:=(q)-(16)) CK AM g rfl (by omega) zz) (ys (Yk.cell1 AL rfl rfl (cellAt hb21ll (AD (i:=(q)-(16)) (by rw[hpl_q];omega))) zz) (ys (Yk.bin rfl rfl rfl (BF _ _ _) zz) (ys (Yk.atArr0 (i:=q) CK AM g m (by omega) zz) (yC (Yk.storeU32 (i:=q) (v:=(((Sha.high ((Bq).getD ((q)-(2)) 0))+((Bq).getD ((q)-(7)) 0))+(Sha.low ((Bq).getD ((q)-(15)) 0)))+((Bq).getD ((q)-(16)) 0)) rfl rfl hb21ll (by rw[hpl_q];omega) GD fun a2 ar y bo=> ?_)))))))))))
  clear hb21ll
  have hb21ll:=ar;clear ar
  have bp:=bl hb21ll
  have hb21ll:a2.heap[j]? =some (.cells ((Sha.pad64 (Sha.sched b (q+1))).map fun x=>U x).toArray 89 (0,0)):=AE hb21ll (congrArg (List.map fun x=>U x) (by rw[hBq];exact Sha.sched_step2 b q ht16 ak))
  have hZ1:=((((al.trans am).trans an).trans ao).trans ap).trans aq
  have hE:=hE.trans hZ1
  have hE:=Aa hE y (Nat.le_trans ab (by omega))
  have c:=eb hZ1 c
  have c:=kb y c (by omega)
  have f:=f.trans hZ1
  have f:=Aa f y (Nat.le_trans (Nat.le_refl _) (by omega))
  refine gS (Yk.bin (xv:=NI q) (yv:=NI 1) m rfl rfl (Ac _ _ _ (by omega)) (gK (And.intro ⟨q+1,k,n,g,h,rfl,hE,c,f,AE hb21ll (rfl),by omega,by omega,trivial⟩ ?_)))
  show 64-(intOf (NI ((q)+(1)))).toNat<64-(intOf (a1 5)).toNat
  rw[q5]
  simp only[intOf,Int.toNat_natCast];omega
 obtain⟨F,hF⟩:∃F,F=Sha.sched b 64:=⟨_,rfl⟩
 have hb21ll:aj.heap[j]? =some (.cells ((F).map fun x=>U x).toArray 89 (0,0)):=AE hb21ll (by rw[hBq,show q=64 by omega,←hF,Sha.pad64_full _ (by rw[hF,Sha.sched_length])])
 have hFl:F.length=64:=by rw[hF,Sha.sched_length]
 refine gS (Yk.loadAll g hb21ll CK rfl (by rw[List.size_toArray,List.length_map,hFl];exact GC) (gS (Yk.storeAll n (vr (.agg ((F).map fun x=>U x).toArray) rfl) c (by rw[List.size_toArray,List.size_toArray,List.length_map,List.length_map,hFl];rfl) (by rw[List.size_toArray,List.length_map,hFl];exact GC) (Dj _) fun bq au a3 br=> ?_)))
 clear f
 clear c
 have c:=au;clear au
 have bs:=bl c
 refine IO rfl (ResF.row n c CK rfl (by rw[List.size_toArray,List.length_map,hFl];exact GC)) ?_
 rw[hF]
 have hE:=Aa hE a3 (Nat.le_trans (Nat.le_refl _) (by omega))
 exact⟨rfl,hE⟩

theorem M7(w:World)(hG:Laid w)(s:List UInt32)(hs:s.length=8)(v:Value)(b:List UInt8)(hb:RB w v b)(hl:b.length=64):
  Calls Tryd.prog 69 #[.agg (cellsU s),v] w fun e w' =>e = .returned (.agg (cellsU (Sha.rounds s b)))∧Ext w w' :=by
 refine gG (args:= [.agg ((s).map fun x=>U x).toArray,v]) Tryd.func69 rfl 120 rfl rfl ?_
 have hE:=Ext.refl w
 refine gS (Yk.box (vr (.agg ((s).map fun x=>U x).toArray) rfl) fun r w3 bp ay ba bq=> ?_)
 have h:=ay;clear ay
 have br:r<w3.heap.size:=by omega
 refine gS (Yk.alloc JI fun u ad bb az al bs=> ?_)
 have f:=Ext.refl w3
 have hE:=hE.trans ba
 have bc:=hE.size
 have j:=az;clear az
 have bt:u<ad.heap.size:=by omega
 have bu:=Aw (bl h) bb
 have h:=eb al h
 refine gS (Yk.loadAll rfl h AV rfl (by rw[List.size_toArray,List.length_map,hs];exact DY) (gS (Yk.alloc JI fun k bd bv a0 am bw=> ?_)))
 have g:=Ext.refl ad
 have hE:=hE.trans al
 have f:=f.trans al
 have an:=hE.size
 have ao:=f.size
 have m:=a0;clear a0
 have bx:k<bd.heap.size:=by omega
 refine gS (Yk.storeAll (vr (PQ k 0) rfl) (vr (.agg ((s).map fun x=>U x).toArray) rfl) m (by rw[List.size_toArray,List.size_toArray,List.length_map,List.length_map,hs];rfl) (by rw[List.size_toArray,List.length_map,hs];exact DY) (Dj _) fun bz a1 ap b0=> ?_)
 clear m
 have m:=a1;clear a1
 have b1:=bl m
 have hE:=hE.trans am
 have hE:=Aa hE ap (Nat.le_trans an (by omega))
 refine gS (Yk.callA1 N6 rfl ((K8 _ v b (hb.keep hE) hl).mono ?_))
 rintro e b2 ⟨rfl,ae⟩
 refine⟨_,rfl,?_⟩
 have g:=g.trans am
 have g:=Aa g ap (Nat.le_trans (Nat.le_refl _) (by omega))
 have g:=g.trans ae
 have h:=eb g h
 have j:=eb g j
 have f:=f.trans am
 have f:=Aa f ap (Nat.le_trans ao (by omega))
 have f:=f.trans ae
 have hE:=hE.trans ae
 have m:=eb ae m
 refine gL (fun(ρ:Ae) (wz:World)=>∃t:Nat,ρ 0=(.agg ((s).map fun x=>U x).toArray:Value)∧ρ 1=(v:Value)∧ρ 2=(PQ r 0:Value)∧ρ 4=(PQ u 0:Value)∧ρ 5=(PQ k 0:Value)∧ρ 16=(.agg ((Sha.sched b 64).map fun x=>U x).toArray:Value)∧ρ 17=(NI t:Value)∧Ext w wz∧wz.heap[r]? =some (.cells ((s).map fun x=>U x).toArray 88 (0,0))∧Ext w3 wz∧wz.heap[u]? =some (.cells ((List.replicate 8 0).map fun x=>U x).toArray 88 (0,0))∧Ext ad wz∧wz.heap[k]? =some (.cells (((Sha.turned s (Sha.sched b 64) t)).map fun x=>U x).toArray 88 (0,0))∧(t≤64)∧True) (fun ρ _=>64-(intOf (ρ 17)).toNat) ⟨0,rfl,rfl,rfl,rfl,rfl,rfl,rfl,hE,h,f,j,g,AE m (rfl),Nat.zero_le _,trivial⟩ ?_
 clear m
 clear hE h j
 rintro be a2 ⟨t,T0,T1,y,o,c,z,n,hE,h,f,j,g,hb36l,ht,-⟩
 have q17:=n
 obtain⟨V,hV⟩:∃V,V=(Sha.turned s (Sha.sched b 64) t):=⟨_,rfl⟩
 have hb36l:a2.heap[k]? =some (.cells ((V).map fun x=>U x).toArray 88 (0,0)):=AE hb36l (by rw[hV])
 have hvl:V.length=8:=by rw[hV];exact Sha.turned_length _ _ hs _
 refine gS (Yk.eqI (a:=(t:Nat)) (b:=(64:Nat)) n rfl (Ah _ _ _ _) ?_)
 refine cD rfl (fun bf=> ?_) fun bf=> ?_
 ·refine gS (Yk.idxU (l:=Sha.sched b 64) (i:=t) CK AL rfl AM z n (by omega) (Sha.sched_length _ _) (DC [0,1,3,4,7,8,2,5,6,9,10,11] [2,5,9] [3,6,7] [4,8] fun bg a3=> ?_))
  have ah:=Ext.refl bg
  have hb36l:=eb a3 hb36l
  refine C3 ah ?_
  refine ys (Yk.atArr0 (i:=4) AV AM c rfl (by omega) zz) (ys (Yk.cell1 AL rfl rfl (cellAt hb36l (AD (i:=4) (by rw[hvl];omega))) zz) (yp (Yk.atArr0 (i:=4) AV AM c rfl (by omega) zz) (yf (fun _ ⟨hZ,_⟩=>Yk.cell1 AL rfl rfl (cellAt (eb hZ hb36l) (AD (i:=4) (by rw[hvl];omega))) zz) (yp (Yk.atArr0 (i:=4) AV AM c rfl (by omega) zz) (yf (fun _ ⟨hZ,_⟩=>Yk.cell1 AL rfl rfl (cellAt (eb hZ hb36l) (AD (i:=4) (by rw[hvl];omega))) zz) (yE (Yk.callA2 CL rfl rfl ((C4 _ ((V).getD (4) 0) 6 (by decide)).mono ?_))))))))
  rintro e bh ⟨rfl,aq⟩
  refine⟨_,rfl,?_⟩
  have ah:=ah.trans aq
  refine⟨ah,?_⟩
  have ar:=Ext.refl bh
  refine yE (Yk.callA2 CL rfl rfl ((C4 _ ((V).getD (4) 0) 11 (by decide)).mono ?_))
  rintro e b3 ⟨rfl,au⟩
  refine⟨_,rfl,?_⟩
  have ar:=ar.trans au
  refine⟨ar,?_⟩
  refine yp (Yk.bin rfl rfl rfl (Cm _ _ _) zz) (yD rfl (Yk.callA2 CL rfl rfl ((C4 _ ((V).getD (4) 0) 25 (by decide)).mono ?_)))
  rintro e b4 ⟨rfl,a4⟩
  refine⟨_,rfl,?_⟩
  have hb36l:=eb ((aq.trans au).trans a4) hb36l
  refine ys (Yk.bin rfl rfl rfl (Cm _ _ _) zz) (gS (Yk.atArr0 (i:=4) AV AM c rfl (by omega) (gS (Yk.cell1 AL rfl rfl (cellAt hb36l (AD (i:=4) (by rw[hvl];omega))) (gS (Yk.atArr0 (i:=5) AV AM c rfl (by omega) (gS (Yk.cell1 AL rfl rfl (cellAt hb36l (AD (i:=5) (by rw[hvl];omega))) (gS (Yk.bin rfl rfl rfl (ER _ _ _) (gS (Yk.atArr0 (i:=4) AV AM c rfl (by omega) (gS (Yk.cell1 AL rfl rfl (cellAt hb36l (AD (i:=4) (by rw[hvl];omega))) (gS (Yk.not32 rfl (gS (Yk.atArr0 (i:=6) AV AM c rfl (by omega) (gS (Yk.cell1 AL rfl rfl (cellAt hb36l (AD (i:=6) (by rw[hvl];omega))) (gS (Yk.bin rfl rfl rfl (ER _ _ _) (gS (Yk.bin rfl rfl rfl (Cm _ _ _) (Bw [0,1,2,3,4,5,6,7,8,9,10,11,12] [] [] fun b5 a5=> ?_)))))))))))))))))))))))))
  have hZ1:=(((a3.trans aq).trans au).trans a4).trans a5
  have hE:=hE.trans hZ1
  have hb36l:=eb a5 hb36l
  refine ys (Yk.atArr0 (i:=7) AV AM c rfl (by omega) zz) (ys (Yk.cell1 AL rfl rfl (cellAt hb36l (AD (i:=7) (by rw[hvl];omega))) zz) (ys (Yk.bin rfl rfl rfl (BF _ _ _) zz) (ys (Yk.bin rfl rfl rfl (BF _ _ _) zz) (ys (Yk.atArr0 (i:=t) CK AM rfl n (by omega) zz) (ys (Yk.cell1 AL rfl rfl (by obtain⟨tG_,fG_,hG_⟩:=Laid.words (hG.keep hE);exact cellAt (l:=Sha.words.map fun x=>U x) hG_ (AD (l:=Sha.words) (i:=t) (by show _<64;omega))) zz) (ys (Yk.bin rfl rfl rfl (BF _ _ _) zz) (ys (Yk.bin rfl rfl rfl (BF _ _ _) zz) (DC [0,1,3,4,7,8,2,5,6,9,10,11] [2,5,9] [3,6,7] [4,8] fun bi av=> ?_))))))))
  have ai:=Ext.refl bi
  have hb36l:=eb av hb36l
  refine C3 ai ?_
  refine ys (Yk.atArr0 (i:=0) AV AM c rfl (by omega) zz) (ys (Yk.cell1 AL rfl rfl (cellAt hb36l (AD (i:=0) (by rw[hvl];omega))) zz) (yp (Yk.atArr0 (i:=0) AV AM c rfl (by omega) zz) (yf (fun _ ⟨hZ,_⟩=>Yk.cell1 AL rfl rfl (cellAt (eb hZ hb36l) (AD (i:=0) (by rw[hvl];omega))) zz) (yp (Yk.atArr0 (i:=0) AV AM c rfl (by omega) zz) (yf (fun _ ⟨hZ,_⟩=>Yk.cell1 AL rfl rfl (cellAt (eb hZ hb36l) (AD (i:=0) (by rw[hvl];omega))) zz) (yE (Yk.callA2 CL rfl rfl ((C4 _ ((V).getD (0) 0) 2 (by decide)).mono ?_))))))))
  rintro e bj ⟨rfl,aj⟩
  refine⟨_,rfl,?_⟩
  have ai:=ai.trans aj
  refine⟨ai,?_⟩
  have aw:=Ext.refl bj
  refine yE (Yk.callA2 CL rfl rfl ((C4 _ ((V).getD (0) 0) 13 (by decide)).mono ?_))
  rintro e b6 ⟨rfl,ak⟩
  refine⟨_,rfl,?_⟩
  have aw:=aw.trans ak
  refine⟨aw,?_⟩
  refine yp (Yk.bin rfl rfl rfl (Cm _ _ _) zz) (yD rfl (Yk.callA2 CL rfl rfl ((C4 _ ((V).getD (0) 0) 22 (by decide)).mono ?_)))
  rintro e b7 ⟨rfl,ax⟩
  refine⟨_,rfl,?_⟩
  have hb36l:=eb ((aj.trans ak).trans ax) hb36l
  refine ys (Yk.bin rfl rfl rfl (Cm _ _ _) zz) (gS (Yk.atArr0 (i:=0) AV AM c rfl (by omega) (gS (Yk.cell1 AL rfl rfl (cellAt hb36l (AD (i:=0) (by rw[hvl];omega))) (gS (Yk.atArr0 (i:=1) AV AM c rfl (by omega) (gS (Yk.cell1 AL rfl rfl (cellAt hb36l (AD (i:=1) (by rw[hvl];omega))) (gS (Yk.bin rfl rfl rfl (ER _ _ _) (gS (Yk.atArr0 (i:=0) AV AM c rfl (by omega) (gS (Yk.cell1 AL rfl rfl (cellAt hb36l (AD (i:=0) (by rw[hvl];omega))) (gS (Yk.atArr0 (i:=2) AV AM c rfl (by omega) (gS (Yk.cell1 AL rfl rfl (cellAt hb36l (AD (i:=2) (by rw[hvl];omega))) (gS (Yk.bin rfl rfl rfl (ER _ _ _) (gS (Yk.bin rfl rfl rfl (Cm _ _ _) (gS (Yk.atArr0 (i:=1) AV AM c rfl (by omega) (gS (Yk.cell1 AL rfl rfl (cellAt hb36l (AD (i:=1) (by rw[hvl];omega))) (gS (Yk.atArr0 (i:=2) AV AM c rfl (by omega) (gS (Yk.cell1 AL rfl rfl (cellAt hb36l (AD (i:=2) (by rw[hvl];omega))) ?_))))))))))))))))))))))))))))))
  refine gS (Yk.bin rfl rfl rfl (ER _ _ _) (gS (Yk.bin rfl rfl rfl (Cm _ _ _) (gS (Yk.bin rfl rfl rfl (BF _ _ _) (gS (Yk.bin rfl rfl rfl (BF _ _ _) (gS (Yk.atArr0 (i:=0) AV AM c rfl (by omega) (gS (Yk.cell1 AL rfl rfl (cellAt hb36l (AD (i:=0) (by rw[hvl];omega))) (gS (Yk.atArr0 (i:=1) AV AM c rfl (by omega) (gS (Yk.cell1 AL rfl rfl (cellAt hb36l (AD (i:=1) (by rw[hvl];omega))) (gS (Yk.atArr0 (i:=2) AV AM c rfl (by omega) (gS (Yk.cell1 AL rfl rfl (cellAt hb36l (AD (i:=2) (by rw[hvl];omega))) (gS (Yk.atArr0 (i:=3) AV AM c rfl (by omega) (gS (Yk.cell1 AL rfl rfl (cellAt hb36l (AD (i:=3) (by rw[hvl];omega))) (gS (Yk.bin rfl rfl rfl (BF _ _ _) (gS (Yk.atArr0 (i:=4) AV AM c rfl (by omega) (gS (Yk.cell1 AL rfl rfl (cellAt hb36l (AD (i:=4) (by rw[hvl];omega))) (gS (Yk.atArr0 (i:=5) AV AM c rfl (by omega) ?_)))))))))))))))))))))))))))))))
  refine gS (Yk.cell1 AL rfl rfl (cellAt hb36l (AD (i:=5) (by rw[hvl];omega))) (gS (Yk.atArr0 (i:=6) AV AM c rfl (by omega) (gS (Yk.cell1 AL rfl rfl (cellAt hb36l (AD (i:=6) (by rw[hvl];omega))) (gS (Yk.build8 (vr (U ((((((((V).getD (7) 0)+(((Sha.rotr ((V).getD (4) 0) 6)^^^(Sha.rotr ((V).getD (4) 0) 11))^^^(Sha.rotr ((V).getD (4) 0) 25)))+((((V).getD (4) 0)&&&((V).getD (5) 0))^^^((~~~((V).getD (4) 0))&&&((V).getD (6) 0))))+(Sha.words.getD (t) 0))+((Sha.sched b 64).getD (t) 0))+(((Sha.rotr ((V).getD (0) 0) 2)^^^(Sha.rotr ((V).getD (0) 0) 13))^^^(Sha.rotr ((V).getD (0) 0) 22)))+(((((V).getD (0) 0)&&&((V).getD (1) 0))^^^(((V).getD (0) 0)&&&((V).getD (2) 0)))^^^(((V).getD (1) 0)&&&((V).getD (2) 0))))) rfl) (vr (U ((V).getD (0) 0)) rfl) (vr (U ((V).getD (1) 0)) rfl) (vr (U ((V).getD (2) 0)) rfl) (vr (U (((V).getD (3) 0)+((((((V).getD (7) 0)+(((Sha.rotr ((V).getD (4) 0) 6)^^^(Sha.rotr ((V).getD (4) 0) 11))^^^(Sha.rotr ((V).getD (4) 0) 25)))+((((V).getD (4) 0)&&&((V).getD (5) 0))^^^((~~~((V).getD (4) 0))&&&((V).getD (6) 0))))+(Sha.words.getD (t) 0))+((Sha.sched b 64).getD (t) 0)))) rfl) (vr (U ((V).getD (4) 0)) rfl) (vr (U ((V).getD (5) 0)) rfl) (vr (U ((V).getD (6) 0)) rfl) (fun w=>PK _ _ _ _ _ _ _ _ w) (gS (Yk.storeAll c (vr (.agg ((Sha.round V (Sha.words.getD (t) 0) ((Sha.sched b 64).getD (t) 0)).map fun x=>U x).toArray) rfl) hb36l (by rw[List.size_toArray,List.size_toArray,List.length_map,List.length_map,hvl];rfl) (DY) (Dj _) fun b8 a6 aa b9=> ?_)))))))))
  clear hb36l
  have hb36l:=a6;clear a6
  have ca:=bl hb36l
  have hZ2:=(((hZ1.trans av).trans aj).trans ak).trans ax
  have h:=eb hZ2 h
  have h:=kb aa h (by omega)
  have f:=f.trans hZ2
  have f:=Aa f aa (Nat.le_trans ao (by omega))
  have j:=eb hZ2 j
  have j:=kb aa j (by omega)
  have g:=g.trans hZ2
  have g:=Aa g aa (Nat.le_trans (Nat.le_refl _) (by omega))
  have hE:=hE.trans (((av.trans aj).trans ak).trans ax)
  have hE:=Aa hE aa (Nat.le_trans an (by omega))
  refine gS (Yk.bin (xv:=NI t) (yv:=NI 1) n rfl rfl (Ac _ _ _ (by omega)) (gK (And.intro ⟨t+1,T0,T1,y,o,c,z,rfl,hE,h,f,j,g,AE hb36l (congrArg (List.map fun x=>U x) (by rw[hV];rfl)),by omega,trivial⟩ ?_)))
  show 64-(intOf (NI ((t)+(1)))).toNat<64-(intOf (be 17)).toNat
  rw[q17]
  simp only[intOf,Int.toNat_natCast];omega
 obtain⟨T,hT⟩:∃T,T=Sha.turned s (Sha.sched b 64) 64:=⟨_,rfl⟩
 have hTl:T.length=8:=by rw[hT,Sha.turned_length _ _ hs]
 have hb36l:a2.heap[k]? =some (.cells ((T).map fun x=>U x).toArray 88 (0,0)):=AE hb36l (by rw[hV,show t=64 by omega,←hT])
 refine gL (fun(ρ:Ae) (wz:World)=>∃i:Nat,ρ 0=(.agg ((s).map fun x=>U x).toArray:Value)∧ρ 1=(v:Value)∧ρ 2=(PQ r 0:Value)∧ρ 4=(PQ u 0:Value)∧ρ 5=(PQ k 0:Value)∧ρ 16=(.agg ((Sha.sched b 64).map fun x=>U x).toArray:Value)∧ρ 17=(NI t:Value)∧ρ 107=(NI i:Value)∧Ext w wz∧wz.heap[r]? =some (.cells ((s).map fun x=>U x).toArray 88 (0,0))∧Ext w3 wz∧wz.heap[u]? =some (.cells ((List.replicate 8 0).map fun x=>U x).toArray 88 (0,0))∧Ext ad wz∧wz.heap[k]? =some (.cells ((Sha.adding T s i).map fun x=>U x).toArray 88 (0,0))∧(i≤8)∧True) (fun ρ _=>8-(intOf (ρ 107)).toNat) ⟨0,T0,T1,y,o,c,z,n,rfl,hE,h,f,j,g,AE hb36l (rfl),Nat.zero_le _,trivial⟩ ?_
 clear hb36l
 clear hE h f j g
 rintro bk bm ⟨i,T0,T1,y,o,c,z,n,p,hE,h,f,j,g,hb36ll,hi,-⟩
 have q107:=p
 have hal:(Sha.adding T s i).length=8:=by rw[Sha.adding_length,hTl]
 refine gS (Yk.eqI (a:=(i:Nat)) (b:=(8:Nat)) p rfl (Ah _ _ _ _) ?_)
 refine cD rfl (fun a7=> ?_) fun a7=> ?_
 ·refine Bw [0,1,2,3,4,5,6,7,8] [8] [] fun cb q=> ?_
  have h:=eb q h
  have hb36ll:=eb q hb36ll
  refine ys (Yk.atArr0 (i:=i) AV AM c p (by omega) zz) (ys (Yk.cell1 AL rfl rfl (cellAt hb36ll (AD (i:=i) (by rw[hal];omega))) zz) (ys (Yk.atArr0 (i:=i) AV AM y p (by omega) zz) (ys (Yk.cell1 AL rfl rfl (cellAt h (AD (i:=i) (by rw[hs];omega))) zz) (ys (Yk.bin rfl rfl rfl (BF _ _ _) zz) (ys (Yk.atArr0 (i:=i) AV AM c p (by omega) zz) (yC (Yk.storeU32 (i:=i) (v:=((Sha.adding T s i).getD (i) 0)+((s).getD (i) 0)) rfl rfl hb36ll (by rw[hal];omega) GD fun bn a8 ab cc=> ?_)))))))
  clear hb36ll
  have hb36ll:=a8;clear a8
  have cd:=bl hb36ll
  have hb36ll:bn.heap[k]? =some (.cells ((Sha.adding T s (i+1)).map fun x=>U x).toArray 88 (0,0)):=AE hb36ll (rfl)
  have hE:=hE.trans q
  have hE:=Aa hE ab (Nat.le_trans an (by omega))
  have f:=f.trans q
  have f:=Aa f ab (Nat.le_trans ao (by omega))
  have j:=eb q j
  have j:=kb ab j (by omega)
  have g:=g.trans q
  have g:=Aa g ab (Nat.le_trans (Nat.le_refl _) (by omega))
  have h:=kb ab h (by omega)
  refine gS (Yk.bin (xv:=NI i) (yv:=NI 1) p rfl rfl (Ac _ _ _ (by omega)) (gK (And.intro ⟨i+1,T0,T1,y,o,c,z,n,rfl,hE,h,f,j,g,AE hb36ll (rfl),by omega,trivial⟩ ?_)))
  show 8-(intOf (NI ((i)+(1)))).toNat<8-(intOf (bk 107)).toNat
  rw[q107]
  simp only[intOf,Int.toNat_natCast];omega
 obtain⟨Q,hQ⟩:∃Q,Q=Sha.rounds s b:=⟨_,rfl⟩
 have hAl:Q.length=8:=by rw[hQ,Sha.rounds_length _ _ hs]
 have hb36ll:bm.heap[k]? =some (.cells ((Q).map fun x=>U x).toArray 88 (0,0)):=AE hb36ll (congrArg (List.map fun x=>U x) ((Sha.adding_end hs hTl hi a7).trans (by rw[hQ,hT];rfl)))
 refine gS (Yk.loadAll c hb36ll AV rfl (by rw[List.size_toArray,List.length_map,hAl];exact DY) (gS (Yk.storeAll o (vr (.agg ((Q).map fun x=>U x).toArray) rfl) j (by rw[List.size_toArray,List.size_toArray,List.length_map,List.length_map,hAl];rfl) (by rw[List.size_toArray,List.length_map,hAl];exact DY) (Dj _) fun ce a9 bo cf=> ?_)))
 clear g
 clear j
 have j:=a9;clear a9
 have cg:=bl j
 refine IO rfl (ResF.row o j AV rfl (by rw[List.size_toArray,List.length_map,hAl];exact DY)) ?_
 rw[hQ]
 have hE:=Aa hE bo (Nat.le_trans bc (by omega))
 exact⟨rfl,hE⟩
namespace Sha
theorem blocks_snoc:∀(k:Nat) (s:List UInt32) (b:List UInt8),blocks s b (k+1)=rounds (blocks s b k) ((b.drop (64*k)).take 64)
  | 0,s,b=>by simp[blocks]
  | k+1,s,b=>by
    rw[blocks,blocks_snoc k,blocks,List.drop_drop]
    rw[show 64+64*k=64*(k+1) by omega]
theorem blocks_append:∀(k:Nat) (s:List UInt32) (b c:List UInt8),64*k≤b.length→blocks s (b++c) k=blocks s b k
  | 0,_,_,_,_=>rfl
  | k+1,s,b,c,h=>by
    rw[blocks,blocks,List.take_append_of_le_length (by omega),List.drop_append_of_le_length (by omega),blocks_append k _ _ _ (by rw[List.length_drop];omega)]
structure At (p : List UInt8) (s : List UInt32) (r : List UInt8) : Prop where
  state:s=blocks first p (p.length/64)
  len:r.length=64
  rest:r.take (p.length%64)=p.drop (64*(p.length/64))
theorem At.slen{p:List UInt8}{s:List UInt32}{r:List UInt8}(h:At p s r):s.length=8:=by rw[h.state];exact blocks_length _ _ _ rfl
theorem At.put{p:List UInt8}{s:List UInt32}{r:List UInt8}(h:At p s r)(x:List UInt8)(hx:p.length%64+x.length<64):
    At (p++x) s (r.take (p.length%64)++x++r.drop (p.length%64+x.length)):=by
  have hl:(p++x).length=p.length+x.length:=List.length_append
  have hd:(p++x).length/64=p.length/64:=by rw[hl];omega
  have hm:(p++x).length%64=p.length%64+x.length:=by rw[hl];omega
  have hr:=h.len
  refine⟨?_,?_,?_⟩
  · rw[hd,blocks_append _ _ _ _ (by omega)];exact h.state
  · simp only[List.length_append,List.length_take,List.length_drop];omega
  · have e:(r.take (p.length%64)++x).length=p.length%64+x.length:=by rw[List.length_append,List.length_take];omega
    rw[hm,hd,List.take_append_of_le_length (by omega),List.take_of_length_le (by omega),h.rest,List.drop_append_of_le_length (by omega)]
theorem At.fill{p:List UInt8}{s:List UInt32}{r:List UInt8}(h:At p s r)(x:List UInt8)(hx:p.length%64+x.length=64):
    At (p++x) (rounds s (r.take (p.length%64)++x)) (r.take (p.length%64)++x):=by
  have hl:(p++x).length=p.length+x.length:=List.length_append
  have hd:(p++x).length/64=p.length/64+1:=by rw[hl];omega
  have hm:(p++x).length%64=0:=by rw[hl];omega
  have hr:=h.len
  have e:(r.take (p.length%64)++x).length=64:=by rw[List.length_append,List.length_take];omega
  refine⟨?_,e,?_⟩
  · rw[hd,blocks_snoc,blocks_append _ _ _ _ (by omega),←h.state,List.drop_append_of_le_length (by omega),←h.rest]
    exact congrArg _ (List.take_of_length_le (Nat.le_of_eq e)).symm
  · rw[hm,hd,List.take_zero,List.drop_of_length_le (by omega)]
theorem at_nil:At [] first (List.replicate 64 0):=⟨rfl,by simp,by simp⟩
end Sha
open Go.RowKit
section
variable {P : Program}
theorem Yk.sliceArrL{K:Value→World→Prop}{ρ:Tmp→Value}{t e:TypeId}{n:Nat}(ht:P.underlying t=some (.array n e))(he:∀w' :World,(sizeOf e).run P w' = .ok 1 w'){x lo:Operand}{d:Option Tmp}{ty:TypeId}{pos:String}{af:Array Edge}{gd:Option (Nat × Bool)}{w:World}{b o i:Nat}{k:IntKind} 
    (hx:Ab ρ x = .pointer (some ⟨b,o,none⟩)) (hl:Ab ρ lo = .int k (i:Int)) (hi:i<n) (hk:K (.slice (some ⟨b,o+i,none⟩) (n-i) (n-i)) w):Yk P K ((execOp (Ab ρ) ⟨d, .slice t x (some lo) none none,ty,pos,af,gd⟩).run P w):=by
  refine Yk.value (v:= .slice (some ⟨b,o+i,none⟩) (n-i) (n-i)) (w' :=w) ?_ hk
  have hE:P.elem t=e:=by simp[Program.elem,ht]
  have hN:P.arrayLen t=n:=by simp[Program.arrayLen,ht]
  have hr:=run_sliceAt_array_l (P:=P) (w:=w) (t:=t) (a:=⟨b,o,none⟩) (by rw[hE,hN];exact ht) k (i:Int) (by omega) (by rw[hN];omega)
  rw[hE,he,hN]at hr
  unfold execOp
  simp only[hx,hl,Option.map_some,Option.map_none,Sem.run_bind,hr,Result.andThen_ok,Sem.run_pure]
  have:n≠i:=by omega
  simp[slicedAt,this,Addr.add_lit]
theorem Mz{w:World}{b:Nat}{l:List Value}{t:TypeId}{fr:Nat × Nat}(h:w.heap[b]? =some (.cells l.toArray t fr)){i:Nat}{v:Value}(hi:l[i]? =some v):w.cell? ⟨b,i,none⟩=some v:=by
  simp[World.cell?,h,hi]
end
def hashL(s:List UInt32)(r:List UInt8)(f n:Nat):List Value:=(s.map fun x=>U x)++(Lib.byteCells r++ [NI f,NI n])
theorem Ce{s:List UInt32}{r:List UInt8}{f n:Nat}(hs:s.length=8)(hr:r.length=64):(hashL s r f n).length=74:=by
  simp[hashL,Lib.byteCells,hs,hr]
theorem GE{s:List UInt32}{r:List UInt8}{f n:Nat}(hs:s.length=8)(hr:r.length=64):(hashL s r f n)[72]? =some (NI f):=by
  unfold hashL
  rw[List.getElem?_append_right (by simp[hs]),List.getElem?_append_right (by simp[Lib.byteCells,hs,hr])]
  simp[Lib.byteCells,hs,hr]
theorem hashL_size{s:List UInt32}{r:List UInt8}{f n:Nat}(hs:s.length=8)(hr:r.length=64):(hashL s r f n)[73]? =some (NI n):=by
  unfold hashL
  rw[List.getElem?_append_right (by simp[hs]),List.getElem?_append_right (by simp[Lib.byteCells,hs,hr])]
  simp[Lib.byteCells,hs,hr]
theorem G0{s:List UInt32}{r:List UInt8}{f n g:Nat}(hs:s.length=8)(hr:r.length=64):(hashL s r f n).set 72 (NI g)=hashL s r g n:=by
  unfold hashL
  rw[List.set_append_right _ _ (by simp[hs]),List.set_append_right _ _ (by simp[Lib.byteCells,hs,hr])]
  simp[Lib.byteCells,hs,hr]
theorem G1{s:List UInt32}{r:List UInt8}{f n g:Nat}(hs:s.length=8)(hr:r.length=64):(hashL s r f n).set 73 (NI g)=hashL s r f g:=by
  unfold hashL
  rw[List.set_append_right _ _ (by simp[hs]),List.set_append_right _ _ (by simp[Lib.byteCells,hs,hr])]
  simp[Lib.byteCells,hs,hr]
theorem M8{s:List UInt32}{r x:List UInt8}{f n at_:Nat}(hs:s.length=8)(hr:r.length=64)(hx:at_+x.length≤64):
    (hashL s r f n).take (8+at_)++Lib.byteCells x++(hashL s r f n).drop (8+at_+x.length)=hashL s (r.take at_++x++r.drop (at_+x.length)) f n:=by
  unfold hashL
  have h8:(s.map fun x=>U x).length=8:=by simp[hs]
  have hb:(Lib.byteCells r).length=64:=by simp[Lib.byteCells,hr]
  rw[List.take_append,List.drop_append,h8,List.take_of_length_le (by omega),List.drop_of_length_le (l:=s.map fun x=>U x) (by omega)]
  rw[show 8+at_-8=at_ by omega,show 8+at_+x.length-8=at_+x.length by omega,List.nil_append]
  rw[List.take_append_of_le_length (by omega),List.drop_append_of_le_length (by omega)]
  simp[Lib.byteCells,List.map_take,List.map_drop]
theorem LZ{s s' :List UInt32}{r:List UInt8}{f n:Nat}(hs:s.length=8):(s'.map fun x=>U x)++(hashL s r f n).drop 8=hashL s' r f n:=by
  unfold hashL
  rw[List.drop_left' (by simp[hs])]
theorem N7{s:List UInt32}{r:List UInt8}{f n:Nat}{j:Nat}{v:Value}(h:(s.map fun x=>U x)[j]? =some v):(hashL s r f n)[j]? =some v:=by
  unfold hashL
  rw[List.getElem?_append_left (List.getElem?_eq_some_iff.1 h).1]
  exact h
theorem H9{w:World}{g:Nat}{s:List UInt32}{r:List UInt8}{f n:Nat}{t:TypeId}{fr:Nat × Nat}(h:w.heap[g]? =some (.cells (hashL s r f n).toArray t fr)):w.rangeAt g 0 (s.map fun x=>U x):=fun j v hv=>by
  rw[Nat.zero_add]
  exact Mz h (N7 hv)
theorem QX{w:World}{g:Nat}{s:List UInt32}{r:List UInt8}{f n:Nat}{t:TypeId}{fr:Nat × Nat}(hs:s.length=8)(hr:r.length=64)(h:w.heap[g]? =some (.cells (hashL s r f n).toArray t fr)):RB w (.slice (some ⟨g,8,none⟩) 64 64) r:=by
  refine⟨by simp[Lib.byteCells],some ⟨g,8,none⟩,64,by rw[hr],by rw[hr];exact Nat.le_refl _,by decide,fun e=>by simp at e,fun a ha j v hv=> ?_⟩
  cases ha
  rw[Addr.add_lit]
  refine Mz h ?_
  unfold hashL
  have h8:(s.map fun x=>U x).length=8:=by simp[hs]
  rw[List.getElem?_append_right (by omega),h8,show 8+j-8=j by omega,List.getElem?_append_left (List.getElem?_eq_some_iff.1 hv).1]
  exact hv
theorem Laid.kept{w w' :World}(h:Laid w){g:Nat}(hg:w.grownBy w' (some g))(h1:1<g):Laid w' :=
  ⟨by obtain⟨t,fr,h2⟩:=h.first;exact⟨t,fr,(hg.block 0 (Array.getElem?_eq_some_iff.1 h2).1 (by simp;omega)).trans h2⟩,by obtain⟨t,fr,h2⟩:=h.words;exact⟨t,fr,(hg.block 1 (Array.getElem?_eq_some_iff.1 h2).1 (by simp;omega)).trans h2⟩⟩
open Go.RowKit
theorem Grew.after{w w1 a:World}{v v' :Value}(h:Ext w w1)(g:Grew w1 a v v'):Grew w a v v' :=
  ⟨A7 (KR h.grown _) g.by_ (fun _ hb=> .inl hb),fun k hk=>(g.fresh k hk).imp (fun x=>x) (fun x=>Nat.le_trans h.size x)⟩
theorem G2{P:Program}{w:World}:∀(l:List UInt8) (a:Addr) (acc:ByteArray),(∀j u,(Lib.byteCells l)[j]? =some u→w.cell? (a.add j)=some u)→(Extern.Bytes.loadBytes a l.length acc).run P w = .ok ⟨acc.data++l.toArray⟩ w
  | [],a,acc,_=>by simp[Extern.Bytes.loadBytes,Sem.run_pure]
  | b :: r,a,acc,h=>by
    have h0:=h 0 (B8 b) (by simp[Lib.byteCells])
    have ha:a.add 0=a:=by unfold Addr.add;split <;> simp_all
    rw[ha]at h0
    have ih:=G2 (P:=P) (w:=w) r (a.add 1) (acc.push b) (fun j u hj=>by
      rw[Fp]
      refine h (1+j) u ?_
      rw[Nat.add_comm]
      simpa [Lib.byteCells] using hj)
    have hb:(((b.toNat:Nat):Int)).toNat.toUInt8=b:=by simp
    have hl:(load a).run P w = .ok (B8 b) w:=by simp[load,Sem.run,h0]
    simp only[List.length_cons,Extern.Bytes.loadBytes,Sem.run_bind,hl,Result.andThen_ok]
    rw[hb,ih]
    simp
theorem Ia{P:Program}{w:World}{v:Value}{l:List UInt8}(h:RB w v l):(Extern.Bytes.bytesOf v).run P w = .ok ⟨l.toArray⟩ w:=by
  obtain⟨h1,ao,cap,rfl,h2,h3,h4,h5⟩:=h
  cases ao with
  | none=>
    have:l= []:=List.eq_nil_of_length_eq_zero (h4 rfl).1
    subst this
    rfl
  | some a=>
    have:=G2 (P:=P) (w:=w) l a .empty (h5 a rfl)
    simpa [Extern.Bytes.bytesOf] using this
theorem KD{P:Program}{w:World}{x y:Value}{l m:List UInt8}(hx:RB w x l)(hy:RB w y m):(Extern.BytealgCompare.compare #[x,y]).run P w = .ok (.int .i64 (Lib.compareBytes l m)) w:=by
  change Sem.run P (do pure (goInt (Extern.BytealgCompare.cmp (←Extern.Bytes.bytesOf x) (←Extern.Bytes.bytesOf y)))) w=_
  simp only[Sem.run_bind,Ia hx,Ia hy,Sem.run_pure,Result.andThen_ok]
  rw[Lib.cmp_eq]
  rfl
section
variable {P : Program} {K : Value → World → Prop} {ρ : Ae} {w : World} {d : Option Tmp} {ty : TypeId} {pos : String} {af : Array Edge} {gd : Option (Nat × Bool)}
theorem Yk.extern2{f:FuncId}{at_:Array TypeId}{x y:Operand}{a b v:Value}(hx:Ab ρ x=a)(hy:Ab ρ y=b)(hr:(callFunc f #[a,b]).run P w = .ok (.value v) w)(hk:K v w):Yk P K ((execOp (Ab ρ) ⟨d, .call ⟨.value (.func f),#[x,y],at_⟩,ty,pos,af,gd⟩).run P w):=by
  refine Yk.value (v:=v) (w' :=w) ?_ hk
  have hf:Ab ρ (.func f) = .func (.func f) #[] #[]:=rfl
  unfold execOp
  simp[resolve,hf,Deferred.ofValue,invoke,hx,hy,hr]
theorem Yk.lit4{t e:TypeId}(hr:∀(z0 z1 z2 z3:Int) (w:World),(Instr.buildSlice t 4 #[(0, .int .u8 z0),(1, .int .u8 z1),(2, .int .u8 z2),(3, .int .u8 z3)]).run P w = .ok (.slice (some ⟨w.heap.size,0,none⟩) 4 4) (w.alloc (.cells #[.int .u8 z0, .int .u8 z1, .int .u8 z2, .int .u8 z3] e))) 
    {x0 x1 x2 x3:Operand} {b0 b1 b2 b3:UInt8} (h0:Ab ρ x0=B8 b0) (h1:Ab ρ x1=B8 b1) (h2:Ab ρ x2=B8 b2) (h3:Ab ρ x3=B8 b3)
    (hk:∀v w',NewB e w w' v [b0,b1,b2,b3]→K v w'):Yk P K ((execOp (Ab ρ) ⟨d, .buildSlice t 4 #[(0,x0),(1,x1),(2,x2),(3,x3)],ty,pos,af,gd⟩).run P w):=by
  have hr' :(execOp (Ab ρ) ⟨d, .buildSlice t 4 #[(0,x0),(1,x1),(2,x2),(3,x3)],ty,pos,af,gd⟩).run P w = .ok (.value (.slice (some ⟨w.heap.size,0,none⟩) 4 4)) (w.alloc (.cells (Lib.byteCells [b0,b1,b2,b3]).toArray e)):=by
    unfold execOp
    simp only[List.map_toArray,List.map_cons,List.map_nil,h0,h1,h2,h3,Sem.run_bind,hr,Result.andThen_ok,Sem.run_pure]
    rfl
  rw[hr']
  exact hk _ _ (Gx w e [b0,b1,b2,b3] (by simp))
theorem BQ{x y:List UInt8}(hx:x.length=32)(hy:y.length=32):(Lib.byteCells x).toArray.size=(Lib.byteCells y).toArray.size:=by simp[Lib.byteCells,hx,hy]
theorem As{x:List UInt8}(h:(Lib.byteCells x).length=32):x.length=32:=by rwa [Lib.byteCells_length]at h
theorem RB.ofBlk{g:Nat}{l:List UInt8}{t:TypeId}{fr:Nat × Nat}(h:w.heap[g]? =some (.cells (Lib.byteCells l).toArray t fr))(hl:l.length≤9223372036854775807):RB w (.slice (some ⟨g,0,none⟩) l.length l.length) l:=
  ⟨by simp[Lib.byteCells],_,_,rfl,Nat.le_refl _,by unfold maxLen;omega,(fun h=>by cases h),fun a ha j u hu=>by
    cases ha
    rw[Addr.add_lit,Nat.zero_add]
    exact cellAt h hu⟩
theorem RB.ofBlkN{g n:Nat}{l:List UInt8}{t:TypeId}{fr:Nat × Nat}(h:w.heap[g]? =some (.cells (Lib.byteCells l).toArray t fr))(hn:l.length=n)(hl:n≤9223372036854775807):RB w (.slice (some ⟨g,0,none⟩) n n) l:=by
  subst hn
  exact RB.ofBlk h hl
end
/-! ### The order of rows of bytes -/
theorem K9:∀a:List UInt8,Lib.compareBytes a a=0
  | []=>rfl
  | x :: a=>by simp[Lib.compareBytes,UInt8.lt_irrefl,K9 a]
theorem N8:∀a b:List UInt8,Lib.compareBytes a b = -1∨Lib.compareBytes a b=0∨Lib.compareBytes a b=1
  | [],[]=> .inr (.inl rfl)
  | [],_ :: _=> .inl rfl
  | _ :: _,[]=> .inr (.inr rfl)
  | x :: a,y :: b=>by
    unfold Lib.compareBytes
    split
    · exact .inl rfl
    · split
      · exact .inr (.inr rfl)
      · exact N8 a b
theorem GF:∀ {a b:List UInt8},Lib.compareBytes a b=0→a=b
  | [],[],_=>rfl
  | [],_ :: _,h=>by simp[Lib.compareBytes]at h
  | _ :: _,[],h=>by simp[Lib.compareBytes]at h
  | x :: a,y :: b,h=>by
    unfold Lib.compareBytes at h
    split at h
    · cases h
    · split at h
      · cases h
      · rename_i h1 h2
        have hxy:x=y:=UInt8.le_antisymm (UInt8.not_lt.1 h2) (UInt8.not_lt.1 h1)
        rw[hxy,GF h]
theorem Fl:∀a b:List UInt8,Lib.compareBytes a b = - Lib.compareBytes b a
  | [],[]=>rfl
  | [],_ :: _=>rfl
  | _ :: _,[]=>rfl
  | x :: a,y :: b=>by
    unfold Lib.compareBytes
    by_cases h1:x<y
    · rw[if_pos h1,if_neg (UInt8.lt_asymm h1),if_pos h1]
    · by_cases h2:y<x
      · rw[if_neg h1,if_pos h2,if_pos h2];rfl
      · rw[if_neg h1,if_neg h2,if_neg h2,if_neg h1]
        exact Fl a b
theorem Ew:∀ {a b c:List UInt8},Lib.compareBytes a b≤0→Lib.compareBytes b c≤0→Lib.compareBytes a c≤0
  | [],_,[],_,_=>by simp[Lib.compareBytes]
  | [],_,_ :: _,_,_=>by simp[Lib.compareBytes]
  | _ :: _,[],_,h,_=>by simp[Lib.compareBytes]at h
  | _ :: _,_ :: _,[],_,h=>by simp[Lib.compareBytes]at h
  | x :: a,y :: b,z :: c,h1,h2=>by
    unfold Lib.compareBytes at h1 h2 ⊢
    by_cases xy:x<y
    · by_cases yz:y<z
      · rw[if_pos (UInt8.lt_trans xy yz)];decide
      · by_cases zy:z<y
        · rw[if_neg yz,if_pos zy]at h2;exact absurd h2 (by decide)
        · have:y=z:=UInt8.le_antisymm (UInt8.not_lt.1 zy) (UInt8.not_lt.1 yz)
          rw[←this,if_pos xy];decide
    · by_cases yx:y<x
      · rw[if_neg xy,if_pos yx]at h1;exact absurd h1 (by decide)
      · have e:x=y:=UInt8.le_antisymm (UInt8.not_lt.1 yx) (UInt8.not_lt.1 xy)
        subst e
        rw[if_neg xy,if_neg xy]at h1
        by_cases xz:x<z
        · rw[if_pos xz];decide
        · by_cases zx:z<x
          · rw[if_neg xz,if_pos zx]at h2;exact absurd h2 (by decide)
          · rw[if_neg xz,if_neg zx]at h2 ⊢
            exact Ew h1 h2
def Cy(l:List (List UInt8)):Prop:=l.Pairwise fun a b=>Lib.compareBytes a b≤0
theorem Iq:∀ {l m:List (List UInt8)},Cy l→Cy m→l.Perm m→l=m
  | [],m,_,_,h=>(List.nil_perm.1 h).symm
  | l,[],_,_,h=>List.perm_nil.1 h
  | a :: l,b :: m,h1,h2,h=>by
    have ha:=List.pairwise_cons.1 h1
    have hb:=List.pairwise_cons.1 h2
    have e:a=b:=by
      have m1:a∈b :: m:=h.subset (by simp)
      have m2:b∈a :: l:=h.symm.subset (by simp)
      rcases List.mem_cons.1 m1 with e | m1
      · exact e
      · rcases List.mem_cons.1 m2 with e | m2
        · exact e.symm
        · have k1:=hb.1 a m1
          have k2:=ha.1 b m2
          have k3:=Fl a b
          exact GF (by omega)
    subst e
    rw[Iq ha.2 hb.2 (List.Perm.cons_inv h)]
def Ir(x:List UInt8):List (List UInt8)→List (List UInt8)
  | []=> [x]
  | a :: r=>if Lib.compareBytes x a≤0 then x :: a :: r else a :: Ir x r
def Ar:List (List UInt8)→List (List UInt8)
  | []=> []
  | a :: r=>Ir a (Ar r)
theorem Hf(x:List UInt8):∀l,(Ir x l).Perm (x :: l)
  | []=>List.Perm.refl _
  | a :: r=>by
    unfold Ir
    split
    · exact List.Perm.refl _
    · exact((Hf x r).cons a).trans (List.Perm.swap x a r)
theorem sortB_perm:∀l,(Ar l).Perm l
  | []=>List.Perm.refl _
  | a :: r=>(Hf a _).trans ((sortB_perm r).cons a)
theorem La(x:List UInt8):∀l,Cy l→Cy (Ir x l)
  | [],_=>by simp[Ir,Cy]
  | a :: r,h=>by
    have hr:=List.pairwise_cons.1 h
    unfold Ir
    split
    · rename_i hx
      refine List.pairwise_cons.2 ⟨fun c hc=> ?_,h⟩
      rcases List.mem_cons.1 hc with rfl | hc
      · exact hx
      · exact Ew hx (hr.1 c hc)
    · rename_i hx
      refine List.pairwise_cons.2 ⟨fun c hc=> ?_,La x r hr.2⟩
      rcases List.mem_cons.1 ((Hf x r).subset hc)with rfl | hc
      · have:=Fl c a
        omega
      · exact hr.1 c hc
theorem FQ:∀l,Cy (Ar l)
  | []=>List.Pairwise.nil
  | a :: r=>La a _ (FQ r)
theorem BL(l:List (List UInt8)):(Ar l).length=l.length:=(sortB_perm l).length_eq
theorem JJ{l m:List (List UInt8)}(h:Cy m)(hp:m.Perm l):m=Ar l:=Iq h (FQ l) (hp.trans (sortB_perm l).symm)
abbrev Bs:=List UInt8
def Az(n:Nat):Bs:= [UInt8.ofNat (n/2^24),UInt8.ofNat (n/2^16),UInt8.ofNat (n/2^8),UInt8.ofNat n]
def BI(b:Bs):Nat:=(b.getD 0 0).toNat*2^24+(b.getD 1 0).toNat*2^16+(b.getD 2 0).toNat*2^8+(b.getD 3 0).toNat
theorem CM(n:Nat):(Az n).length=4:=rfl
theorem QY(b:Bs):BI b<2^32:=by
  unfold BI
  have h0:=(b.getD 0 0).toNat_lt
  have h1:=(b.getD 1 0).toNat_lt
  have h2:=(b.getD 2 0).toNat_lt
  have h3:=(b.getD 3 0).toNat_lt
  omega
theorem R5(a b c d:Nat)(hb:b<256)(hc:c<256)(hd:d<256):a*2^24|||b*2^16|||c*2^8|||d=a*2^24+b*2^16+c*2^8+d:=by
  have e:a*2^24|||b*2^16=(a*2^8+b)*2^16:=by
    have:=KW a (b*2^16) 24 (by omega)
    rw[this]
    omega
  have f:(a*2^8+b)*2^16|||c*2^8=((a*2^8+b)*2^8+c)*2^8:=by
    have:=KW (a*2^8+b) (c*2^8) 16 (by omega)
    rw[this]
    omega
  rw[e,f,KW _ d 8 (by omega)]
  omega
theorem Fe(n:Nat)(h:n<2^32)(r:Bs):BI (Az n++r)=n:=by
  unfold BI Az
  simp
  omega
theorem fourP_numP(b:Bs)(h:4≤b.length):Az (BI b)=b.take 4:=by
  match b,h with
  | b0 :: b1 :: b2 :: b3 :: r,_=>
    have h0:=b0.toNat_lt
    have h1:=b1.toNat_lt
    have h2:=b2.toNat_lt
    have h3:=b3.toNat_lt
    unfold Az BI
    simp only[List.getD_cons_zero,List.getD_cons_succ,List.take_succ_cons,List.take_zero]
    have e:∀(n:Nat) (c:UInt8),n%256=c.toNat→UInt8.ofNat n=c:=fun n c hn=>by
      apply UInt8.toNat_inj.1
      simp
      omega
    rw[e _ b0 (by omega),e _ b1 (by omega),e _ b2 (by omega),e _ b3 (by omega)]
def DJ(id:Bs):Nat:=(id.getD 0 0).toNat
theorem Rv(id:Bs):DJ id<256:=(id.getD 0 0).toNat_lt
def AK(ids:List Bs):List Nat:=(List.range 256).map fun c=>ids.countP fun id=>decide (DJ id≤c)
def BR(ids:List Bs):List Nat:=(List.range 256).map fun c=>ids.countP fun id=>decide (DJ id=c)
theorem Bi(ids:List Bs):(AK ids).length=256:=by simp[AK]
theorem Cf(ids:List Bs):(BR ids).length=256:=by simp[BR]
theorem Ff(ids:List Bs)(c:Nat)(h:c<256):(BR ids).getD c 0=ids.countP fun id=>decide (DJ id=c):=by
  rw[List.getD_eq_getElem?_getD]
  simp[BR,h]
theorem Fw(ids:List Bs)(c:Nat)(h:c<256):(AK ids).getD c 0=ids.countP fun id=>decide (DJ id≤c):=by
  rw[List.getD_eq_getElem?_getD]
  simp[AK,h]
theorem H0(ids:List Bs)(c:Nat):(AK ids).getD c 0≤ids.length:=by
  by_cases h:c<256
  · rw[Fw _ _ h]
    exact List.countP_le_length
  · rw[List.getD_eq_getElem?_getD,List.getElem?_eq_none (by rw[Bi];omega)]
    simp
theorem L0(ids:List Bs)(id:Bs):BR (ids++ [id])=(BR ids).set (DJ id) ((BR ids).getD (DJ id) 0+1):=by
  have hb:=Rv id
  apply List.ext_getElem?
  intro c
  by_cases hc:c<256
  · rw[List.getElem?_eq_getElem (by rw[Cf];exact hc),List.getElem?_eq_getElem (by rw[List.length_set,Cf];exact hc)]
    congr 1
    rw[List.getElem_set]
    have g:∀(l:List Bs) (h:c<(BR l).length),(BR l)[c]=l.countP fun id=>decide (DJ id=c):=fun l h=>by simp[BR]
    rw[g]
    split
    · rename_i he
      rw[he,Ff _ _ hc,List.countP_append]
      simp[he]
    · rename_i he
      rw[g,List.countP_append]
      simp[he]
  · rw[List.getElem?_eq_none (by rw[Cf];omega),List.getElem?_eq_none (by rw[List.length_set,Cf];omega)]
def Br(ids:List Bs)(k:Nat):List Nat:=(AK ids).take k++(BR ids).drop k
theorem ES(ids:List Bs)(k:Nat)(h:k≤256):(Br ids k).length=256:=by
  unfold Br
  rw[List.length_append,List.length_take,List.length_drop,Bi,Cf]
  omega
theorem N9(ids:List Bs):(AK ids).getD 0 0=(BR ids).getD 0 0:=by
  rw[Fw _ _ (by omega),Ff _ _ (by omega)]
  congr 1
  funext id
  simp
theorem fanStep_one(ids:List Bs):Br ids 1=BR ids:=by
  have h:=N9 ids
  have h1:=Bi ids
  have h2:=Cf ids
  unfold Br
  match hA:AK ids,hB:BR ids with
  | [],_=>rw[hA]at h1;simp at h1
  | _ :: _,[]=>rw[hB]at h2;simp at h2
  | a :: A,b :: B=>
    rw[hA,hB]at h
    simp at h
    simp[h]
theorem Oa(ids:List Bs)(c:Nat)(h:c+1<256):(AK ids).getD (c+1) 0=(BR ids).getD (c+1) 0+(AK ids).getD c 0:=by
  rw[Fw _ _ h,Ff _ _ h,Fw _ _ (by omega)]
  induction ids with
  | nil=>rfl
  | cons a r ih=>
    simp only[List.countP_cons,ih]
    by_cases h1:DJ a≤c
    · simp[h1,show DJ a≤c+1 by omega,show DJ a≠c+1 by omega]
      omega
    · by_cases h2:DJ a=c+1
      · simp[h2,show ¬c+1≤c by omega]
        omega
      · simp[h1,h2,show ¬DJ a≤c+1 by omega]
theorem Hg(ids:List Bs)(k:Nat)(h0:0<k)(h:k<256):Br ids (k+1)=(Br ids k).set k ((Br ids k).getD k 0+(Br ids k).getD (k-1) 0):=by
  have g1:(Br ids k).getD k 0=(BR ids).getD k 0:=by
    unfold Br
    rw[List.getD_eq_getElem?_getD,List.getElem?_append_right (by rw[List.length_take,Bi];omega),List.length_take,Bi,List.getElem?_drop,show k+(k-min k 256)=k by omega,←List.getD_eq_getElem?_getD]
  have g2:(Br ids k).getD (k-1) 0=(AK ids).getD (k-1) 0:=by
    unfold Br
    rw[List.getD_eq_getElem?_getD,List.getElem?_append_left (by rw[List.length_take,Bi];omega),List.getElem?_take,if_pos (by omega),←List.getD_eq_getElem?_getD]
  have g3:=Oa ids (k-1) (by omega)
  rw[show k-1+1=k by omega]at g3
  rw[g1,g2,←g3]
  unfold Br
  rw[List.set_append_right _ _ (by rw[List.length_take,Bi];omega),List.length_take,Bi,show k-min k 256=0 by omega,List.take_succ_eq_append_getElem (by rw[Bi];exact h),List.append_assoc]
  congr 1
  rw[List.drop_eq_getElem_cons (l:=BR ids) (i:=k) (by rw[Cf];exact h)]
  simp only[List.set_cons_zero,List.singleton_append,List.cons.injEq,and_true]
  rw[List.getD_eq_getElem?_getD,List.getElem?_eq_getElem (by rw[Bi];exact h)]
  rfl
theorem L1(ids:List Bs):Br ids 256=AK ids:=by
  unfold Br
  rw[List.take_of_length_le (by rw[Bi];omega),List.drop_of_length_le (by rw[Cf];omega),List.append_nil]
open Go.RowKit
set_option maxRecDepth 100000
theorem Ob{w w0 w' :World}{e:TypeId}{v:Value}{l:List UInt8}(h:w'.ownsRow w0.heap.size e 1 v l.length (Lib.byteCells l))(hb:w.heap.size≤w0.heap.size):w'.ownsRow w.heap.size e 1 v l.length (Lib.byteCells l):=CS h hb
theorem Oc(z0 z1 z2 z3:Int)(w:World):(Instr.buildSlice 24 4 #[(0, .int .u8 z0),(1, .int .u8 z1),(2, .int .u8 z2),(3, .int .u8 z3)]).run Tryd.prog w = .ok (.slice (some ⟨w.heap.size,0,none⟩) 4 4) (w.alloc (.cells #[.int .u8 z0, .int .u8 z1, .int .u8 z2, .int .u8 z3] 5)):=by kernel_rfl
theorem Od(z:Int)(w:World):(Instr.buildSlice 24 1 #[(0, .int .u8 z)]).run Tryd.prog w = .ok (.slice (some ⟨w.heap.size,0,none⟩) 1 1) (w.alloc (.cells #[.int .u8 z] 5)):=by kernel_rfl
theorem PM:AA Tryd.prog 49:=fun _ _=>by kernel_rfl
theorem It(w0 w:World)(hE:Ext w0 w)(v:Value)(l:List UInt8)(n:Nat)(hn:n<9223372036854775808)(hl:l.length+4≤140737488355328)(hown:w.ownsRow w0.heap.size 5 1 v l.length (Lib.byteCells l)):
  Calls Tryd.prog 27 #[v,NI n] w fun e w' =>∃v',e = .returned v' ∧w'.ownsRow w0.heap.size 5 1 v' (l++Az n).length (Lib.byteCells (l++Az n))∧Grew w w' v v' :=by
 refine gG (args:= [v,NI n]) Tryd.func27 rfl 19 rfl rfl (gS (Yk.bin (xv:=NI n) (yv:= .int .u64 ((24:Nat):Int)) rfl rfl rfl (Jm _ _ _ _ (by omega)) (gS (Yk.convI PJ u5 rfl (D9 ((n)/2^(24))) (gS (Yk.bin (xv:=NI n) (yv:= .int .u64 ((16:Nat):Int)) rfl rfl rfl (Jm _ _ _ _ (by omega)) (gS (Yk.convI PJ u5 rfl (D9 ((n)/2^(16))) (gS (Yk.bin (xv:=NI n) (yv:= .int .u64 ((8:Nat):Int)) rfl rfl rfl (Jm _ _ _ _ (by omega)) (gS (Yk.convI PJ u5 rfl (D9 ((n)/2^(8))) (gS (Yk.convI PJ u5 rfl (D9 (n)) (gS (Yk.lit4 (b0:=UInt8.ofNat ((n)/2^(24))) (b1:=UInt8.ofNat ((n)/2^(16))) (b2:=UInt8.ofNat ((n)/2^(8))) (b3:=UInt8.ofNat (n)) Oc (vr (B8 (UInt8.ofNat ((n)/2^(24)))) rfl) (vr (B8 (UInt8.ofNat ((n)/2^(16)))) rfl) (vr (B8 (UInt8.ofNat ((n)/2^(8)))) rfl) (vr (B8 (UInt8.ofNat (n))) rfl) fun g i a=> ?_))))))))))))))))
 have c:=Ext.refl w
 have o:=hE.size
 have j:Am v g:=B3 hown a.own
 have f:=a.own
 have hE:=hE.trans a.ext
 have hown:=Stab.own _ _ _ _ _ _ _ _ hown a.ext
 refine gS (Yk.appendRB _ _ w0.heap.size (.int .u8 0) EX IP rfl EX (l) (([UInt8.ofNat ((n)/2^(24)),UInt8.ofNat ((n)/2^(16)),UInt8.ofNat ((n)/2^(8)),UInt8.ofNat (n)]:List UInt8)) (BA hown (vr v rfl)) (RB.of (RB.ofOwn f) (vr g rfl)) (by simp;omega) hE.size fun h k m b=> ?_)
 have c:=c.trans a.ext
 have hGr:=Grew.after c b
 have b:Grew i k v h:=b
 have hE:=Af hE b hown (Nat.le_refl _)
 have f:=B7 f b j
 clear hown
 refine Bx rfl (vr h rfl) ?_
 exact⟨_,rfl,Bn m rfl,hGr⟩

theorem Dv(w:World)(v:Value)(b:List UInt8)(hr:RB w v b)(hl:4≤b.length):
  Calls Tryd.prog 62 #[v] w fun e w' =>e = .returned (NI (BI b))∧Ext w w' :=by
 have c0:(b.getD 0 0).toNat<256:=(b.getD 0 0).toNat_lt
 have c1:(b.getD 1 0).toNat<256:=(b.getD 1 0).toNat_lt
 have c2:(b.getD 2 0).toNat<256:=(b.getD 2 0).toNat_lt
 have c3:(b.getD 3 0).toNat<256:=(b.getD 3 0).toNat_lt
 have a:(b.getD 0 0).toNat*2^24<9223372036854775808:=Nat.lt_of_lt_of_le (Nat.mul_lt_mul_of_pos_right c0 (by decide)) (by decide)
 have c:(b.getD 1 0).toNat*2^16<9223372036854775808:=Nat.lt_of_lt_of_le (Nat.mul_lt_mul_of_pos_right c1 (by decide)) (by decide)
 have f:(b.getD 2 0).toNat*2^8<9223372036854775808:=Nat.lt_of_lt_of_le (Nat.mul_lt_mul_of_pos_right c2 (by decide)) (by decide)
 have o:(b.getD 3 0).toNat<9223372036854775808:=by omega
 have g:(b.getD 0 0).toNat*2^24|||(b.getD 1 0).toNat*2^16<9223372036854775808:=Nat.or_lt_two_pow (n:=63) a c
 have p:(b.getD 0 0).toNat*2^24|||(b.getD 1 0).toNat*2^16|||(b.getD 2 0).toNat*2^8<9223372036854775808:=Nat.or_lt_two_pow (n:=63) g f
 refine gG (args:= [v]) Tryd.func62 rfl 25 rfl rfl ?_
 have hE:=Ext.refl w
 refine Bw [0,1,2,3,4,5,6,7,8,9,10,11,12,13,14,15,16,17,18,19,20,21,22] [] [] fun r q=> ?_
 have hE:=hE.trans q
 refine yA (Yk.atRB (l:=b) (i:=0) EX M4 (RB.of (hr.keep hE) rfl) rfl (by omega) fun s h=>(ys (Yk.loadC u5 rfl (PCell.of h rfl) zz) (ys (Yk.convI u5 PJ rfl (Dq .i64 (b.getD (0) 0) (fun n hn=>Bz n (by omega))) zz) (ys (Yk.bin (xv:=NI ((b.getD (0) 0).toNat)) (yv:= .int .u64 ((24:Nat):Int)) rfl rfl rfl (Jn _ _ _ _ (by omega) (by exact a)) zz) (yA (Yk.atRB (l:=b) (i:=1) EX M4 (RB.of (hr.keep hE) rfl) rfl (by omega) fun t j=>(ys (Yk.loadC u5 rfl (PCell.of j rfl) zz) (ys (Yk.convI u5 PJ rfl (Dq .i64 (b.getD (1) 0) (fun n hn=>Bz n (by omega))) zz) (ys (Yk.bin (xv:=NI ((b.getD (1) 0).toNat)) (yv:= .int .u64 ((16:Nat):Int)) rfl rfl rfl (Jn _ _ _ _ (by omega) (by exact c)) zz) (ys (Yk.bin (xv:=NI (((b.getD (0) 0).toNat)*2^(24))) (yv:=NI (((b.getD (1) 0).toNat)*2^(16))) rfl rfl rfl (KV _ _ _ (by exact a) (by exact c)) zz) (yA (Yk.atRB (l:=b) (i:=2) EX M4 (RB.of (hr.keep hE) rfl) rfl (by omega) fun u k=>(ys (Yk.loadC u5 rfl (PCell.of k rfl) zz) (ys (Yk.convI u5 PJ rfl (Dq .i64 (b.getD (2) 0) (fun n hn=>Bz n (by omega))) zz) (ys (Yk.bin (xv:=NI ((b.getD (2) 0).toNat)) (yv:= .int .u64 ((8:Nat):Int)) rfl rfl rfl (Jn _ _ _ _ (by omega) (by exact f)) zz) (ys (Yk.bin (xv:=NI ((((b.getD (0) 0).toNat)*2^(24))|||(((b.getD (1) 0).toNat)*2^(16)))) (yv:=NI (((b.getD (2) 0).toNat)*2^(8))) rfl rfl rfl (KV _ _ _ (by exact g) (by exact f)) zz) (yA (Yk.atRB (l:=b) (i:=3) EX M4 (RB.of (hr.keep hE) rfl) rfl (by omega) fun x m=>(ys (Yk.loadC u5 rfl (PCell.of m rfl) zz) ?_)))))))))))))))))))
 refine ys (Yk.convI u5 PJ rfl (Dq .i64 (b.getD (3) 0) (fun n hn=>Bz n (by omega))) zz) (ys (Yk.bin (xv:=NI (((((b.getD (0) 0).toNat)*2^(24))|||(((b.getD (1) 0).toNat)*2^(16)))|||(((b.getD (2) 0).toNat)*2^(8)))) (yv:=NI ((b.getD (3) 0).toNat)) rfl rfl rfl (KV _ _ _ (by exact p) (by exact o)) zz) ?_)
 clear h
 clear j
 clear k
 clear m
 refine Bx rfl (vr (NI ((((((b.getD (0) 0).toNat)*2^(24))|||(((b.getD (1) 0).toNat)*2^(16)))|||(((b.getD (2) 0).toNat)*2^(8)))|||((b.getD (3) 0).toNat))) rfl) ?_
 exact⟨by rw[show BI b=_ from(R5 _ _ _ _ (b.getD 1 0).toNat_lt (b.getD 2 0).toNat_lt (b.getD 3 0).toNat_lt).symm],hE⟩

theorem Oe(w:World)(n:Nat)(hn:n≤9223372036854775807):
  Calls Tryd.prog 23 #[NI n] w fun e w' =>∃v,e = .returned v∧w'.ownsRow w.heap.size 5 1 v (80 :: Lib.uvarint n).length (Lib.byteCells (80 :: Lib.uvarint n))∧Ext w w' :=by
 refine gG (args:= [NI n]) Tryd.func23 rfl 12 rfl rfl ?_
 have hE:=Ext.refl w
 refine gS (Yk.lit1 (b:=80) Od (vr (B8 (80)) rfl) fun g j c=> ?_)
 have h:=c.own
 refine gS (Yk.callA2 PM rfl rfl ((Mx _ g ([(80:UInt8)]) (RB.ofOwn h) (by simp) n (by omega)).mono ?_))
 rintro e k ⟨a,rfl,f⟩
 refine⟨_,rfl,?_⟩
 have hE:=hE.trans c.ext
 have l:=hE.size
 have i:=f.own
 refine gS (Yk.extract (vs:= [a,NI 0]) rfl rfl (gS (Yk.extract (vs:= [a,NI 0]) rfl rfl (Bx rfl (vr a rfl) ?_))))
 have hE:=hE.trans f.ext
 exact⟨_,rfl,Ob i (by omega),hE⟩
open Go.RowKit
section
variable {P : Program} {K : Value → World → Prop} {ρ : Ae} {w : World} {d : Option Tmp} {ty : TypeId} {pos : String} {af : Array Edge} {gd : Option (Nat × Bool)}
variable {α β : Type} {ek : α → Value} {ev : β → Value} {D : α → Prop} {b : Nat} {G : α → Option β}
variable {t Kt E : TypeId} {OK : Value → Prop}
theorem Yk.lookM(L:KL P Kt OK)(hD:∀a,D a→OK (ek a))(hi:∀a c,ek a=ek c→a=c)(ht:P.underlying t=some (.map Kt E)){z:Value}(hz:∀u:World,(zeroValue E).run P u = .ok z u){x y:Operand}{a:α} 
    (hm:Ab ρ x = .map (some b)) (hy:Ab ρ y=ek a) (h:MapF ek ev D w b G) (ha:D a) (hk:K ((G a).elim z ev) w):
    Yk P K ((execOp (Ab ρ) ⟨d, .lookup t x y false,ty,pos,af,gd⟩).run P w):=by
  have hrun:=h.look L hD hi ht hz ha false
  refine Yk.value (v:=(G a).elim z ev) (w' :=w) ?_ hk
  unfold execOp
  simp only[hm,hy,Sem.run_bind,hrun,Result.andThen_ok,Sem.run_pure]
  rfl
theorem Yk.lookOk(L:KL P Kt OK)(hD:∀a,D a→OK (ek a))(hi:∀a c,ek a=ek c→a=c)(ht:P.underlying t=some (.map Kt E)){z:Value}(hz:∀u:World,(zeroValue E).run P u = .ok z u){x y:Operand}{a:α} 
    (hm:Ab ρ x = .map (some b)) (hy:Ab ρ y=ek a) (h:MapF ek ev D w b G) (ha:D a) (hk:K (.tuple #[(G a).elim z ev, .bool (G a).isSome]) w):
    Yk P K ((execOp (Ab ρ) ⟨d, .lookup t x y true,ty,pos,af,gd⟩).run P w):=by
  have hrun:=h.look L hD hi ht hz ha true
  refine Yk.value (v:= .tuple #[(G a).elim z ev, .bool (G a).isSome]) (w' :=w) ?_ hk
  unfold execOp
  simp only[hm,hy,Sem.run_bind,hrun,Result.andThen_ok,Sem.run_pure]
  rfl
theorem Yk.putM[DecidableEq α](L:KL P Kt OK)(hD:∀a,D a→OK (ek a))(ht:P.underlying t=some (.map Kt E)){x y z:Operand}{a:α}{c:β} 
    (hm:Ab ρ x = .map (some b)) (hy:Ab ρ y=ek a) (hz:Ab ρ z=ev c) (h:MapF ek ev D w b G) (ha:D a) (hk:∀w',MapF ek ev D w' b (updM G a (some c))→w.grownBy w' (some b)→w'.heap.size=w.heap.size→K undef w'):
    Yk P K ((execOp (Ab ρ) ⟨d, .mapUpdate t x y z,ty,pos,af,gd⟩).run P w):=by
  obtain⟨w',hrun,h1,h2,h3⟩:=h.put L hD ht ha c
  have hr:(execOp (Ab ρ) ⟨d, .mapUpdate t x y z,ty,pos,af,gd⟩).run P w = .ok .skip w' ∨(execOp (Ab ρ) ⟨d, .mapUpdate t x y z,ty,pos,af,gd⟩).run P w = .ok (.value undef) w' :=by
    unfold execOp
    simp only[hm,hy,hz,Sem.run_bind,hrun,Result.andThen_ok,Sem.run_pure]
    simp
  rcases hr with hr | hr <;> rw[hr] <;> exact hk w' h1 h2 h3
theorem Yk.delM[DecidableEq α](L:KL P Kt OK)(hD:∀a,D a→OK (ek a))(hi:∀a c,ek a=ek c→a=c)(ht:P.underlying t=some (.map Kt E)){x y:Operand}{a:α} 
    (hm:Ab ρ x = .map (some b)) (hy:Ab ρ y=ek a) (h:MapF ek ev D w b G) (ha:D a) (hk:∀w',MapF ek ev D w' b (updM G a none)→w.grownBy w' (some b)→w'.heap.size=w.heap.size→K (.tuple #[]) w'):
    Yk P K ((execOp (Ab ρ) ⟨d, .call ⟨.builtin .delete,#[x,y],#[t,Kt]⟩,ty,pos,af,gd⟩).run P w):=by
  obtain⟨w',hrun,h1,h2,h3⟩:=h.del L hD hi ht (ty:=ty) ha
  refine Yk.value (v:= .tuple #[]) (w' :=w') ?_ (hk w' h1 h2 h3)
  unfold execOp
  simp only[resolve,invoke,builtin,Sem.run_bind,Sem.run_pure,Result.andThen_ok,List.map_toArray,List.map_cons,List.map_nil,hm,hy,hrun]
theorem Yk.mkMap(ek:α→Value)(ev:β→Value)(D:α→Prop)(hk:∀g w',w.heap.size=g→MapF ek ev D w' g (fun _=>none)→Ext w w' →w'.heap.size=g+1→K (.map (some g)) w'):
    Yk P K ((execOp (Ab ρ) ⟨d, .makeMap t none,ty,pos,af,gd⟩).run P w):=by
  refine Yk.value (v:= .map (some w.heap.size)) (w' :=w.alloc (.map #[] 0)) ?_ (hk _ _ rfl (MapF.made ek ev D w) ((Below.refl _ _).alloc (Nat.le_refl _) _) (by simp))
  unfold execOp
  simp[Instr.makeMap,newObj,Result.andThen]
  rfl
theorem Yk.lookOkS(L:KL P Kt OK)(hD:∀a,D a→OK (ek a))(hi:∀a c,ek a=ek c→a=c)(ht:P.underlying t=some (.map Kt E)){z:Value}(hz:∀u:World,(zeroValue E).run P u = .ok z u){x y:Operand}{a:α}{c:β} 
    (hm:Ab ρ x = .map (some b)) (hy:Ab ρ y=ek a) (h:MapF ek ev D w b G) (ha:D a) (hG:G a=some c) (hk:K (.tuple #[ev c, .bool true]) w):Yk P K ((execOp (Ab ρ) ⟨d, .lookup t x y true,ty,pos,af,gd⟩).run P w):=
  Yk.lookOk L hD hi ht hz hm hy h ha (by rw[hG];exact hk)
theorem Yk.lookOkN(L:KL P Kt OK)(hD:∀a,D a→OK (ek a))(hi:∀a c,ek a=ek c→a=c)(ht:P.underlying t=some (.map Kt E)){z:Value}(hz:∀u:World,(zeroValue E).run P u = .ok z u){x y:Operand}{a:α} 
    (hm:Ab ρ x = .map (some b)) (hy:Ab ρ y=ek a) (h:MapF ek ev D w b G) (ha:D a) (hG:G a=none) (hk:K (.tuple #[z, .bool false]) w):Yk P K ((execOp (Ab ρ) ⟨d, .lookup t x y true,ty,pos,af,gd⟩).run P w):=
  Yk.lookOk L hD hi ht hz hm hy h ha (by rw[hG];exact hk)
theorem Yk.lookMS(L:KL P Kt OK)(hD:∀a,D a→OK (ek a))(hi:∀a c,ek a=ek c→a=c)(ht:P.underlying t=some (.map Kt E)){z:Value}(hz:∀u:World,(zeroValue E).run P u = .ok z u){x y:Operand}{a:α}{c:β} 
    (hm:Ab ρ x = .map (some b)) (hy:Ab ρ y=ek a) (h:MapF ek ev D w b G) (ha:D a) (hG:G a=some c) (hk:K (ev c) w):Yk P K ((execOp (Ab ρ) ⟨d, .lookup t x y false,ty,pos,af,gd⟩).run P w):=
  Yk.lookM L hD hi ht hz hm hy h ha (by rw[hG];exact hk)
theorem Yk.build{parts:Array (Nat × Operand)}{vs:Array (Nat × Value)}{v:Value}(hv:(parts.map fun(i,x)=>(i,Ab ρ x))=vs)(hr:∀w:World,(Instr.build t vs).run P w = .ok v w)(hk:K v w):
    Yk P K ((execOp (Ab ρ) ⟨d, .build t parts,ty,pos,af,gd⟩).run P w):=by
  refine Yk.value (v:=v) (w' :=w) ?_ hk
  unfold execOp
  simp only[hv,hr,Sem.run_bind,Result.andThen_ok,Sem.run_pure]
theorem Yk.build1{i0:Nat}{x0:Operand}{a v:Value}(h0:Ab ρ x0=a)(hr:∀w:World,(Instr.build t #[(i0,a)]).run P w = .ok v w)(hk:K v w):Yk P K ((execOp (Ab ρ) ⟨d, .build t #[(i0,x0)],ty,pos,af,gd⟩).run P w):=
  Yk.build (by simp[h0]) hr hk
theorem Yk.build2{i0 i1:Nat}{x0 x1:Operand}{a b v:Value}(h0:Ab ρ x0=a)(h1:Ab ρ x1=b)(hr:∀w:World,(Instr.build t #[(i0,a),(i1,b)]).run P w = .ok v w)(hk:K v w):Yk P K ((execOp (Ab ρ) ⟨d, .build t #[(i0,x0),(i1,x1)],ty,pos,af,gd⟩).run P w):=
  Yk.build (by simp[h0,h1]) hr hk
theorem RG.slice{k:Nat}{enc:α→List Value}{v:Value}{l:List α}(h:RG k enc w v l):∃ao n c,v = .slice ao n c:=by
  obtain⟨ao,c,rfl⟩:=h.len
  exact⟨ao,_,c,rfl⟩
theorem Yk.mkIface{fs}(hu:P.underlying t=some (.struct fs)){x:Operand}{v:Value}(hx:Ab ρ x=v)(hk:K (.iface t v) w):Yk P K ((execOp (Ab ρ) ⟨d, .makeInterface t x,ty,pos,af,gd⟩).run P w):=by
  refine Yk.value (v:= .iface t v) (w' :=w) ?_ hk
  unfold execOp
  simp[Instr.makeInterface,hx,run_underlying hu,Result.andThen]
theorem Yk.lit1G{k:Nat}{enc:α→List Value}{e:TypeId}{x:Operand}{a:α}(hx:Ab ρ x = .agg (enc a).toArray)(hl:(enc a).length=k) 
    (hr:∀(cs:Array Value),cs.size=k→∀w:World,(Instr.buildSlice t 1 #[(0, .agg cs)]).run P w = .ok (.slice (some ⟨w.heap.size,0,none⟩) 1 1) (w.alloc (.cells cs e)))
    (hk:∀v w',RG k enc w' v [a]→Ext w w' →K v w'):Yk P K ((execOp (Ab ρ) ⟨d, .buildSlice t 1 #[(0,x)],ty,pos,af,gd⟩).run P w):=by
  have hE:Ext w (w.alloc (.cells (enc a).toArray e)):=(Below.refl _ _).alloc (Nat.le_refl _) _
  refine Yk.value (v:= .slice (some ⟨w.heap.size,0,none⟩) 1 1) (w' :=w.alloc (.cells (enc a).toArray e)) ?_ (hk _ _ (RG.single hl (heap_alloc_new w _)) hE)
  unfold execOp
  simp only[List.map_toArray,List.map_cons,List.map_nil,hx,Sem.run_bind,hr _ (show(enc a).toArray.size=k by rw[List.size_toArray];exact hl),Result.andThen_ok,Sem.run_pure]
theorem RG.elem{k:Nat}{enc:α→List Value}{v:Value}{l:List α}(h:RG k enc w v l)(dd:α){i:Nat}(hi:i<l.length):(enc (l.getD i dd)).length=k:=by
  refine h.1 _ ?_
  rw[List.getD_eq_getElem?_getD,List.getElem?_eq_getElem hi]
  exact List.getElem_mem hi
theorem RG.cut{k:Nat}{enc:α→List Value}{v:Value}{l:List α}(h:∀x∈l,(enc x).length=k){a c:Nat}(ha:a≤c)(hc:c≤l.length)(hR:Reads w k v (c-a) (((l.flatMap enc).drop (a*k)).take ((c-a)*k))):RG k enc w v ((l.drop a).take (c-a)):=by
  have hd:∀(l:List α) (n:Nat),(∀x∈l,(enc x).length=k)→(l.flatMap enc).drop (n*k)=(l.drop n).flatMap enc:=by
    intro l n
    induction n generalizing l with
    | zero=>intro _;simp
    | succ n ih=>
      intro h
      cases l with
      | nil=>simp
      | cons x r=>
        have hx:=h x (by simp)
        rw[List.flatMap_cons,List.drop_succ_cons,←ih r (fun y hy=>h y (by simp[hy])),show(n+1)*k=(enc x).length+n*k by rw[hx,Nat.add_mul];omega,List.drop_append,List.drop_of_length_le (by omega),Nat.add_sub_cancel_left,List.nil_append]
  have htk:∀(l:List α) (n:Nat),(∀x∈l,(enc x).length=k)→(l.flatMap enc).take (n*k)=(l.take n).flatMap enc:=by
    intro l n
    induction n generalizing l with
    | zero=>intro _;simp
    | succ n ih=>
      intro h
      cases l with
      | nil=>simp
      | cons x r=>
        have hx:=h x (by simp)
        rw[List.flatMap_cons,List.take_succ_cons,List.flatMap_cons,←ih r (fun y hy=>h y (by simp[hy])),show(n+1)*k=(enc x).length+n*k by rw[hx,Nat.add_mul];omega,List.take_append,List.take_of_length_le (by omega),Nat.add_sub_cancel_left]
  refine⟨fun x hx=>h x (List.mem_of_mem_drop (List.mem_of_mem_take hx)),?_⟩
  rw[hd l a h,htk _ _ (fun x hx=>h x (List.mem_of_mem_drop hx))]at hR
  rw[show((l.drop a).take (c-a)).length=c-a by rw[List.length_take,List.length_drop];omega]
  exact hR
theorem Fx{l:List Nat}{i:Nat}(hi:i<l.length):(l.map fun x=>NI x)[i]? =some (NI (l.getD i 0)):=by simp[hi]
theorem M9(l:List Nat):∀v∈(l.map fun x=>NI x),v.oneCell' =true:=by
  intro v hv
  obtain⟨_,_,rfl⟩:=List.mem_map.1 hv
  rfl
theorem Yk.storeN{t' :TypeId}{x y:Operand}{g i:Nat}{l:List Nat}{t:TypeId}{v:Nat}(hx:Ab ρ x = .pointer (some ⟨g,i,none⟩))(hy:Ab ρ y=NI v)(hg:w.heap[g]? =some (.cells (l.map fun x=>NI x).toArray t (0,0)))(hi:i<l.length)(hz:(P.info? t').map (·.size)=some 1) 
    (hk:∀w',w'.heap[g]? =some (.cells ((l.set i v).map fun x=>NI x).toArray t (0,0))→w.grownBy w' (some g)→w'.heap.size=w.heap.size→K undef w'):Yk P K ((execOp (Ab ρ) ⟨d, .store t' x y,ty,pos,af,gd⟩).run P w):=
  Yk.storeC hx hy hg (by simpa using hi) hz rfl rfl fun w' h1 h2 h3=>hk w' (by rw[List.map_set];exact h1) h2 h3
theorem Yk.idxN{xType e:TypeId}{n:Nat}(ht:P.underlying xType=some (.array n e)){de:TypeDesc}(he:P.underlying e=some de)(hd:(match de with | .struct _ | .array _ _=>false | _=>true)=true)(hs:∀w' :World,(sizeOf e).run P w' = .ok 1 w'){x y:Operand}{l:List Nat}{i:Nat}{k:IntKind} 
    (hx:Ab ρ x = .agg (l.map fun x=>NI x).toArray) (hy:Ab ρ y = .int k (i:Int)) (hi:i<n) (hl:l.length=n) (hk:K (NI (l.getD i 0)) w):Yk P K ((execOp (Ab ρ) ⟨d, .index xType x y,ty,pos,af,gd⟩).run P w):=
  Yk.idxA ht he hd hs hx hy hi (Fx (by omega)) hk
theorem Yp.callA1{f:FuncId}(hp:AA P f){x0:Operand}{a:Value}{at_:Array TypeId}{J:List PanicEntry→World→Prop}(h0:Ab ρ x0=a) 
    (h:Calls P f #[a] w fun e w' =>match e with | .returned v=>K v w' | .panicked ch=>J ch w' | .outgrown=>False):Yp P K J ((execOp (Ab ρ) ⟨d, .call ⟨.value (.func f),#[x0],at_⟩,ty,pos,af,gd⟩).run P w):=
  Yp.call hp [a] (by simp[h0]) h
theorem Yp.callA2{f:FuncId}(hp:AA P f){x0 x1:Operand}{a b:Value}{at_:Array TypeId}{J:List PanicEntry→World→Prop}(h0:Ab ρ x0=a)(h1:Ab ρ x1=b) 
    (h:Calls P f #[a,b] w fun e w' =>match e with | .returned v=>K v w' | .panicked ch=>J ch w' | .outgrown=>False):Yp P K J ((execOp (Ab ρ) ⟨d, .call ⟨.value (.func f),#[x0,x1],at_⟩,ty,pos,af,gd⟩).run P w):=
  Yp.call hp [a,b] (by simp[h0,h1]) h
theorem Yp.callA3{f:FuncId}(hp:AA P f){x0 x1 x2:Operand}{a b c:Value}{at_:Array TypeId}{J:List PanicEntry→World→Prop}(h0:Ab ρ x0=a)(h1:Ab ρ x1=b)(h2:Ab ρ x2=c) 
    (h:Calls P f #[a,b,c] w fun e w' =>match e with | .returned v=>K v w' | .panicked ch=>J ch w' | .outgrown=>False):Yp P K J ((execOp (Ab ρ) ⟨d, .call ⟨.value (.func f),#[x0,x1,x2],at_⟩,ty,pos,af,gd⟩).run P w):=
  Yp.call hp [a,b,c] (by simp[h0,h1,h2]) h
theorem Yp.callA4{f:FuncId}(hp:AA P f){x0 x1 x2 x3:Operand}{a b c g:Value}{at_:Array TypeId}{J:List PanicEntry→World→Prop}(h0:Ab ρ x0=a)(h1:Ab ρ x1=b)(h2:Ab ρ x2=c)(h3:Ab ρ x3=g) 
    (h:Calls P f #[a,b,c,g] w fun e w' =>match e with | .returned v=>K v w' | .panicked ch=>J ch w' | .outgrown=>False):Yp P K J ((execOp (Ab ρ) ⟨d, .call ⟨.value (.func f),#[x0,x1,x2,x3],at_⟩,ty,pos,af,gd⟩).run P w):=
  Yp.call hp [a,b,c,g] (by simp[h0,h1,h2,h3]) h
end
open Go.RowKit
open Go.WideMaps (KeyLaw)
open Go.ChangeMaps (setBlock heap_setBlock_same heap_setBlock_other)
def rk(r:List UInt8):Value:= .agg (Lib.byteCells r).toArray
theorem BY{r s:List UInt8}(h:rk r=rk s):r=s:=by
  unfold rk at h
  injection h with h
  have h2:Lib.byteCells r=Lib.byteCells s:=List.toArray_inj h
  unfold Lib.byteCells at h2
  exact(List.map_inj_right (fun a b hab=>by injection hab with _ h3;exact UInt8.toNat_inj.1 (by omega))).1 h2
theorem MA{α β:Type}{f:α→Option β}:∀ {l:List α},(∀x∈l,∃y,f x=some y)→∃ys,l.mapM f=some ys
  | [],_=>⟨[],rfl⟩
  | x :: l,h=>by
    obtain⟨y,hy⟩:=h x (by simp)
    obtain⟨ys,hys⟩:=MA (l:=l) (fun z hz=>h z (by simp[hz]))
    exact⟨y :: ys,by simp[List.mapM_cons,hy,hys]⟩
theorem JL{P:Program}{k e:TypeId}{n:Nat}(hu:P.underlying k=some (.array n e))(he:P.underlying e=some (.int .u8))(hc:P.cellsOf e=1)(hn:P.cellsOf k=n)(hk:P.keyType k=true)(hsz:0<P.types.size){r:List UInt8}(hr:r.length=n):∃l,keyOf P k (rk r)=some l:=by
  have hf:(rk r).formed P k=true:=by simp[rk,Value.formed,hu,hn,hr,Lib.byteCells]
  have hl:∀i∈List.range n,∃y,P.keyLits P.types.size e (((Lib.byteCells r).drop (i*P.cellsOf e)).take (P.cellsOf e))=some y:=fun i hi=>by
    have hi' :i<r.length:=by rw[hr];simpa using hi
    have h1:((Lib.byteCells r).drop (i*P.cellsOf e)).take (P.cellsOf e)= [Value.int .u8 ((r[i]).toNat:Int)]:=by
      rw[hc,Nat.mul_one]
      simp[Lib.byteCells,hi',List.take_one,List.head?_drop]
    have hw:(Lit.int .u8 ((r[i]).toNat:Int)).wf=true:=by
      have:=(r[i]).toNat_lt
      simp[Lit.wf,IntKind.min,IntKind.max,IntKind.signed,IntKind.bits]
      omega
    rw[h1]
    obtain⟨m,hm⟩:∃m,P.types.size=m+1:=⟨P.types.size-1,by omega⟩
    rw[hm]
    exact⟨[.int .u8 ((r[i]).toNat:Int)],by simp[Program.keyLits,he,hw]⟩
  obtain⟨ys,hys⟩:=MA hl
  refine⟨.string (keyBytes ys.flatten),?_⟩
  · unfold keyOf
    simp only[hu]
    rw[if_pos (by simp[hk,hf])]
    unfold Program.keyLits
    simp only[hu,rk,Value.cells]
    rw[if_pos (by rw[hn];simp[Lib.byteCells,hr]),hys]
    rfl
def EntAt(w:World)(base:Nat)(I:TypeId)(G:List UInt8→List Nat)(e:MapEntry):Prop:=∃r,r.length=8∧e.key=rk r∧G r≠ []∧w.ownsRow base I 1 e.val (G r).length ((G r).map NI)
structure IdxIn (w : World) (base : Nat) (I : TypeId) (G : List UInt8 → List Nat) (es : List MapEntry) (clock : Nat) : Prop where
  born:∀e∈es,e.born<clock
  nodup:(es.map (·.born)).Nodup
  keys:(es.map (·.key)).Nodup
  ent:∀e∈es,EntAt w base I G e
  all:∀r,r.length=8→G r≠ []→∃e∈es,e.key=rk r
  apart:es.Pairwise fun e f=>Am e.val f.val∧Am f.val e.val
def IdxAt(w:World)(b base:Nat)(I:TypeId)(G:List UInt8→List Nat):Prop:=b<base∧∃es clock,w.heap[b]? =some (.map es.toArray clock)∧IdxIn w base I G es clock
section
variable {P : Program} {w w' : World} {b base : Nat} {I : TypeId} {G : List UInt8 → List Nat}
theorem EntAt.keep{e:MapEntry}(h:EntAt w base I G e)(k:Ext w w'):EntAt w' base I G e:=by
  obtain⟨r,h1,h2,h3,h4⟩:=h
  exact⟨r,h1,h2,h3,Stab.own _ _ _ _ _ _ _ _ h4 k⟩
theorem IdxIn.keep{es:List MapEntry}{c:Nat}(h:IdxIn w base I G es c)(k:Ext w w'):IdxIn w' base I G es c:=
  ⟨h.born,h.nodup,h.keys,fun e he=>(h.ent e he).keep k,h.all,h.apart⟩
theorem IdxAt.keep(h:IdxAt w b base I G)(k:Ext w w'):IdxAt w' b base I G:=by
  obtain⟨h1,es,c,h2,h3⟩:=h
  exact⟨h1,es,c,Ext.blk' k h2,h3.keep k⟩
theorem IdxAt.lt(h:IdxAt w b base I G):b<w.heap.size:=by
  obtain⟨h1,es,c,h2,h3⟩:=h
  exact(Array.getElem?_eq_some_iff.1 h2).1
theorem IdxAt.made(w:World):IdxAt (w.alloc (.map #[] 0)) w.heap.size (w.heap.size+1) I (fun _=> []):=
  ⟨Nat.lt_succ_self _,[],0,heap_alloc_new w _,by simp,by simp,by simp,by simp,fun r _ h=>absurd rfl h,by simp⟩
structure Rw (w : World) (base : Nat) (I : TypeId) (G : List UInt8 → List Nat) (r : List UInt8) (v : Value) (l1 : List MapEntry) (e0 : MapEntry) (l2 : List MapEntry) (clock : Nat) : Prop where
  key:e0.key=rk r
  born:∀e∈l1++e0 :: l2,e.born<clock
  nodup:((l1++e0 :: l2).map (·.born)).Nodup
  keys:((l1++e0 :: l2).map (·.key)).Nodup
  ent:∀e∈l1++l2,EntAt w base I G e
  all:∀s,s.length=8→s≠r→G s≠ []→∃e∈l1++l2,e.key=rk s
  apart:(l1++l2).Pairwise fun e f=>Am e.val f.val∧Am f.val e.val
  mine:∀e∈l1++l2,Am e.val v∧Am v e.val
def IdxOpen(w:World)(b base:Nat)(I:TypeId)(G:List UInt8→List Nat)(r:List UInt8)(v:Value)(zs:List Nat)(st:Nat):Prop:=
  b<base∧r.length=8∧w.ownsRow base I 1 v zs.length (zs.map NI)∧∃l1 e0 l2 clock,w.heap[b]? =some (.map (l1++e0 :: l2).toArray clock)∧e0.born=st∧Rw w base I G r v l1 e0 l2 clock
theorem IdxOpen.grew{r:List UInt8}{v v' :Value}{zs zs' :List Nat}{st:Nat}(h:IdxOpen w b base I G r v zs st)(gr:Grew w w' v v')(ho:w'.ownsRow base I 1 v' zs'.length (zs'.map NI)):IdxOpen w' b base I G r v' zs' st:=by
  obtain⟨h1,h2,h3,l1,a,l2,c,h4,h5,h6⟩:=h
  have hvb:v.ownBlock≠some b:=fun e=>by have:=(h3.lt b e).1;omega
  refine⟨h1,h2,ho,l1,a,l2,c,Ak h4 gr hvb,h5,h6.key,h6.born,h6.nodup,h6.keys,fun e he=> ?_,h6.all,h6.apart,fun e he=> ?_⟩
  · obtain⟨q,k1,k2,k3,k4⟩:=h6.ent e he
    refine⟨q,k1,k2,k3,k4.kept gr.by_ ?_⟩
    cases hb:e.val.ownBlock with
    | none=>exact .inl rfl
    | some g=>exact .inr (fun f=>(h6.mine e he).1 g hb f.symm)
  · obtain⟨q,k1,k2,k3,k4⟩:=h6.ent e he
    have key:∀k,e.val.ownBlock=some k→v'.ownBlock≠some k:=fun k hk hv=>by
      rcases gr.fresh k hv with h7 | h7
      · exact(h6.mine e he).1 k hk h7
      · have:=(k4.lt k hk).2;omega
    exact⟨key,fun k hv hk=>key k hk hv⟩
def updG(G:List UInt8→List Nat)(r:List UInt8)(zs:List Nat)(s:List UInt8):List Nat:=if s=r then zs else G s
theorem IR{α:Type}(f:α→α)(x:α)(l2:List α):∀l1:List α,(l1++x :: l2).modify l1.length f=l1++f x :: l2
  | []=>rfl
  | a :: r=>by simp[List.modify_succ_cons,IR f x l2 r]
section
variable {t K E e8 : TypeId} (L : KeyLaw P K) (hk : ∀ r : List UInt8, r.length = 8 → ∃ l, keyOf P K (rk r) = some l) (ht : P.underlying t = some (.map K E)) (hz : ∀ u : World, (zeroValue E).run P u = .ok (.slice none 0 0) u)
include L hk ht hz
theorem IdxAt.look(h:IdxAt w b base I G){r:List UInt8}(hr:r.length=8):∃v,(Instr.lookup t (.map (some b)) (rk r) false).run P w = .ok v w∧w.ownsRow base I 1 v (G r).length ((G r).map NI):=by
  obtain⟨h1,es,c,hb,H⟩:=h
  obtain⟨l,hl⟩:=hk r hr
  have hkeys:∀e∈es,∃l,keyOf P K e.key=some l:=fun e he=>by
    obtain⟨q,k1,k2,-⟩:=H.ent e he
    rw[k2]
    exact hk q k1
  rcases L.find w hl es hkeys with ⟨f1,f2⟩ | ⟨j,a,f1,f2,f3⟩
  · have hG:G r= []:=by
      by_cases hG:G r= []
      · exact hG
      · obtain⟨e,he,hek⟩:=H.all r hr hG
        exact absurd hek (f2 e he)
    refine⟨.slice none 0 0,by simp[Instr.lookup,run_underlying ht,MapKept.run_getObj_map hb,L.check w _ hl,f1,hz,Result.andThen],?_⟩
    rw[hG]
    exact World.ownsRow_nil _ _ _ _
  · have hm:a∈es:=List.mem_of_getElem? f2
    obtain⟨q,k1,k2,k3,k4⟩:=H.ent a hm
    have:q=r:=BY (k2.symm.trans f3)
    subst this
    exact⟨a.val,by simp[Instr.lookup,run_underlying ht,MapKept.run_getObj_map hb,L.check w _ hl,f1,Result.andThen],k4⟩
theorem IdxAt.entry(h:IdxAt w b base I G){r:List UInt8}(hr:r.length=8):∃v st w1,(Instr.mapEntry t (.map (some b)) (rk r)).run P w = .ok (.tuple #[v,goInt ((st:Nat):Int)]) w1∧w.grownBy w1 (some b)∧w1.heap.size=w.heap.size∧IdxOpen w1 b base I G r v (G r) st:=by
  obtain⟨h1,es,c,hb,H⟩:=h
  obtain⟨l,hl⟩:=hk r hr
  have hblt:b<w.heap.size:=(Array.getElem?_eq_some_iff.1 hb).1
  have hkeys:∀e∈es,∃l,keyOf P K e.key=some l:=fun e he=>by
    obtain⟨q,k1,k2,-⟩:=H.ent e he
    rw[k2]
    exact hk q k1
  have hgr:∀o,w.grownBy { w with heap:=w.heap.setIfInBounds b o } (some b):=fun o=>⟨rfl,rfl,rfl,by simp,fun i _ hi=>by simp only[Array.getElem?_setIfInBounds];rw[if_neg (fun e=>hi (by rw[e]))]⟩
  have hnew:∀o,({ w with heap:=w.heap.setIfInBounds b o } :World).heap[b]? =some o:=fun o=>by simp[hblt]
  have hkeep:∀(o:Obj) e,EntAt w base I G e→EntAt { w with heap:=w.heap.setIfInBounds b o } base I G e:=fun o e ⟨q,k1,k2,k3,k4⟩=>by
    refine⟨q,k1,k2,k3,k4.kept (hgr o) ?_⟩
    cases he:e.val.ownBlock with
    | none=>exact .inl rfl
    | some g=>
      have:=(k4.lt g he).1
      exact .inr (fun f=>by cases f;omega)
  rcases L.find w hl es hkeys with ⟨f1,f2⟩ | ⟨j,a,f1,f2,f3⟩
  · have hG:G r= []:=by
      by_cases hG:G r= []
      · exact hG
      · obtain⟨e,he,hek⟩:=H.all r hr hG
        exact absurd hek (f2 e he)
    refine⟨.slice none 0 0,c,{ w with heap:=w.heap.setIfInBounds b (.map (es++({ key:=rk r,val:= .slice none 0 0,born:=c } :MapEntry) :: []).toArray (c+1)) },?_,hgr _,by simp,h1,hr,?_,es,({ key:=rk r,val:= .slice none 0 0,born:=c } :MapEntry),[],c+1,hnew _,rfl,rfl,?_,?_,?_,?_,?_,?_,?_⟩
    · simp[Instr.mapEntry,run_underlying ht,MapKept.run_getObj_map hb,L.check w false hl,f1,hz,MapKept.run_setObj_map _ hb,Result.andThen]
    · rw[hG]
      exact World.ownsRow_nil _ _ _ _
    · intro e he
      rcases List.mem_append.1 he with h2 | h2
      · have:=H.born e h2;omega
      · rw[List.mem_singleton.1 h2];simp
    · simp only[List.map_append,List.map_cons,List.map_nil]
      refine List.nodup_append.2 ⟨H.nodup,by simp,fun x hx y hy e=> ?_⟩
      obtain⟨f,he1,rfl⟩:=List.mem_map.1 hx
      have:=H.born f he1
      simp at hy
      omega
    · simp only[List.map_append,List.map_cons,List.map_nil]
      refine List.nodup_append.2 ⟨H.keys,by simp,fun x hx y hy e=> ?_⟩
      obtain⟨f,he1,rfl⟩:=List.mem_map.1 hx
      simp at hy
      exact f2 f he1 (e.trans hy)
    · simp only[List.append_nil]
      exact fun e he=>hkeep _ e (H.ent e he)
    · simp only[List.append_nil]
      exact fun s h2 _ h3=>H.all s h2 h3
    · simp only[List.append_nil]
      exact H.apart
    · exact fun e _=>⟨fun k _ hk=>by simp[Value.ownBlock]at hk,fun k hk=>by simp[Value.ownBlock]at hk⟩
  · have hm:a∈es:=List.mem_of_getElem? f2
    obtain⟨q,k1,k2,k3,k4⟩:=H.ent a hm
    have hq:q=r:=BY (k2.symm.trans f3)
    subst hq
    have hsame:es.modify j (fun e=> { e with key:=rk q })=es:=by
      rw[Go.ChangeMaps.modify_eq_set _ _ _ _ f2]
      have:({ a with key:=rk q } :MapEntry)=a:=by rw[←f3]
      rw[this]
      exact Go.WideElems.set_self _ _ _ f2
    have hrun:(Instr.mapEntry t (.map (some b)) (rk q)).run P w = .ok (.tuple #[a.val,goInt ((a.born:Nat):Int)]) { w with heap:=w.heap.setIfInBounds b (.map es.toArray c) } :=by
      simp[Instr.mapEntry,run_underlying ht,MapKept.run_getObj_map hb,L.check w false hl,f1,f2,f3,L.stays w hl,hsame,MapKept.run_setObj_map _ hb,Result.andThen]
    obtain⟨l1,l2,rfl⟩:=List.append_of_mem hm
    have hp:=H.apart
    rw[List.pairwise_append,List.pairwise_cons]at hp
    have hsub:∀e,e∈l1++l2→e∈l1++a :: l2:=fun e he=>by
      rcases List.mem_append.1 he with h2 | h2
      · simp[h2]
      · simp[h2]
    refine⟨a.val,a.born,{ w with heap:=w.heap.setIfInBounds b (.map (l1++a :: l2).toArray c) },?_,hgr _,by simp,h1,hr,?_,l1,a,l2,c,hnew _,rfl,f3,H.born,H.nodup,H.keys,fun e he=>hkeep _ e (H.ent e (hsub e he)),?_,?_,?_⟩
    · exact hrun
    · refine k4.kept (hgr _) ?_
      cases he:a.val.ownBlock with
      | none=>exact .inl rfl
      | some g=>
        have:=(k4.lt g he).1
        exact .inr (fun f=>by cases f;omega)
    · intro s h2 h3 h4
      obtain⟨e,he,hek⟩:=H.all s h2 h4
      refine⟨e,?_,hek⟩
      rcases List.mem_append.1 he with h5 | h5
      · simp[h5]
      · rcases List.mem_cons.1 h5 with h6 | h6
        · subst h6
          exact absurd (BY (hek.symm.trans f3)) h3
        · simp[h6]
    · rw[List.pairwise_append]
      exact⟨hp.1,hp.2.1.2,fun x hx y hy=>hp.2.2 x hx y (by simp[hy])⟩
    · intro e he
      rcases List.mem_append.1 he with h5 | h5
      · exact hp.2.2 e h5 a (by simp)
      · exact⟨(hp.2.1.1 e h5).2,(hp.2.1.1 e h5).1⟩
end
theorem IdxOpen.store{t:TypeId}{r:List UInt8}{v:Value}{zs:List Nat}{st:Nat}(h:IdxOpen w b base I G r v zs st)(hne:zs≠ []):∃w1,(Instr.entryStore t (.map (some b)) (goInt ((st:Nat):Int)) v).run P w = .ok () w1∧w.grownBy w1 (some b)∧w1.heap.size=w.heap.size∧IdxAt w1 b base I (updG G r zs):=by
  obtain⟨h1,hr,h3,l1,a,l2,c,hb,rfl,H⟩:=h
  have hblt:b<w.heap.size:=(Array.getElem?_eq_some_iff.1 hb).1
  have hgr:∀o,w.grownBy { w with heap:=w.heap.setIfInBounds b o } (some b):=fun o=>⟨rfl,rfl,rfl,by simp,fun i _ hi=>by simp only[Array.getElem?_setIfInBounds];rw[if_neg (fun e=>hi (by rw[e]))]⟩
  have hnew:∀o,({ w with heap:=w.heap.setIfInBounds b o } :World).heap[b]? =some o:=fun o=>by simp[hblt]
  have hrow:∀(o:Obj) {x:Value} {n:Nat} {xs:List Value},w.ownsRow base I 1 x n xs→World.ownsRow { w with heap:=w.heap.setIfInBounds b o } base I 1 x n xs:=fun o x n xs k4=>by
    refine k4.kept (hgr o) ?_
    cases he:x.ownBlock with
    | none=>exact .inl rfl
    | some g=>
      have:=(k4.lt g he).1
      exact .inr (fun f=>by cases f;omega)
  have hidx:(l1++a :: l2).toArray.findIdx? (fun e=>((e.born:Nat):Int)==((a.born:Nat):Int))=some l1.length:=by
    rw[Go.WideElems.findIdx_arr]
    exact Go.WideElems.findIdx_born H.nodup (by simp)
  have hmod:(l1++a :: l2).toArray.modify l1.length (fun e=> { e with val:=v })=(l1 ++ { a with val:=v } :: l2).toArray:=by
    apply Array.ext'
    rw[Array.toList_modify]
    exact IR _ _ _ _
  have hsub:∀e,e∈l1++l2→e∈l1++a :: l2:=fun e he=>by
    rcases List.mem_append.1 he with h2 | h2
    · simp[h2]
    · simp[h2]
  have hkn:∀e∈l1++l2,e.key≠a.key:=fun e he hke=>by
    have hkk:=H.keys
    simp only[List.map_append,List.map_cons,List.nodup_append,List.nodup_cons]at hkk
    rcases List.mem_append.1 he with h2 | h2
    · exact hkk.2.2 e.key (List.mem_map.2 ⟨e,h2,rfl⟩) a.key (by simp) hke
    · exact hkk.2.1.1 (hke▸List.mem_map.2 ⟨e,h2,rfl⟩)
  have hent:∀(o:Obj),∀e∈l1++l2,EntAt { w with heap:=w.heap.setIfInBounds b o } base I (updG G r zs) e:=fun o e he=>by
    obtain⟨q,k1,k2,k3,k4⟩:=H.ent e he
    have hqr:q≠r:=fun f=>hkn e he (by rw[k2,f,H.key])
    have hu:updG G r zs q=G q:=if_neg hqr
    exact⟨q,k1,k2,by rw[hu];exact k3,by rw[hu];exact hrow o k4⟩
  have hur:updG G r zs r=zs:=if_pos rfl
  have hp:=H.apart
  rw[List.pairwise_append]at hp
  refine⟨{ w with heap:=w.heap.setIfInBounds b (.map (l1 ++ { a with val:=v } :: l2).toArray c) },?_,hgr _,by simp,h1,_,c,hnew _,?_,?_,?_,?_,?_,?_⟩
  · simp[Instr.entryStore,MapKept.run_getObj_map hb,asInt,asIntOf,goInt,hidx,hmod,MapKept.run_setObj_map _ hb,Result.andThen]
  · intro e he
    rcases List.mem_append.1 he with h2 | h2
    · exact H.born e (by simp[h2])
    · rcases List.mem_cons.1 h2 with h4 | h4
      · rw[h4];exact H.born a (by simp)
      · exact H.born e (by simp[h4])
  · have:=H.nodup
    simpa using this
  · have:=H.keys
    simpa using this
  · intro e he
    rcases List.mem_append.1 he with h2 | h2
    · exact hent _ e (by simp[h2])
    · rcases List.mem_cons.1 h2 with h4 | h4
      · rw[h4]
        exact⟨r,hr,H.key,by rw[hur];exact hne,by rw[hur];exact hrow _ h3⟩
      · exact hent _ e (by simp[h4])
  · intro s h2 h4
    by_cases hs:s=r
    · exact⟨{ a with val:=v },by simp,by rw[hs];exact H.key⟩
    · rw[show updG G r zs s=G s from if_neg hs]at h4
      obtain⟨e,he,hek⟩:=H.all s h2 hs h4
      refine⟨e,?_,hek⟩
      rcases List.mem_append.1 he with h5 | h5
      · simp[h5]
      · simp[h5]
  · rw[List.pairwise_append,List.pairwise_cons]
    refine⟨hp.1,⟨fun e he=> ?_,hp.2.1⟩,fun x hx y hy=> ?_⟩
    · have:=H.mine e (by simp[he])
      exact⟨this.2,this.1⟩
    · rcases List.mem_cons.1 hy with h4 | h4
      · rw[h4]
        exact H.mine x (by simp[hx])
      · exact hp.2.2 x hx y h4
end
open Go.RowKit
structure BX (N : Nat) (r : Option Nat) (w w' : World) : Prop where
  os:w'.os=w.os
  tape:w'.tape=w.tape
  output:w'.output=w.output
  size:w.heap.size≤w'.heap.size
  block:∀k,k<N→some k≠r→w'.heap[k]? =w.heap[k]?
def ED(B N:Nat)(e:TypeId)(r:Option Nat)(l:List UInt8)(x:Value)(w' :World):Prop:=w'.ownsRow B e 1 x l.length (Lib.byteCells l)∧∀k,x.ownBlock=some k→r=some k∨N≤k
section
variable {N B : Nat} {r : Option Nat} {w w' w1 w0 : World} {e t : TypeId}
theorem BX.refl(N:Nat)(r:Option Nat)(w:World):BX N r w w:=⟨rfl,rfl,rfl,Nat.le_refl _,fun _ _ _=>rfl⟩
theorem BX.trans{a b c:World}(h:BX N r a b)(k:BX N r b c):BX N r a c:=⟨k.os.trans h.os,k.tape.trans h.tape,k.output.trans h.output,Nat.le_trans h.size k.size,fun i hi hr=>(k.block i hi hr).trans (h.block i hi hr)⟩
theorem BX.ofExt(h:Ext w w')(hN:N≤w.heap.size):BX N r w w' :=⟨h.os,h.tape,h.output,h.size,fun k hk _=>h.block k (Nat.lt_of_lt_of_le hk hN)⟩
theorem BX.ofGrown{q:Option Nat}(h:w.grownBy w' q)(hN:N≤w.heap.size)(hq:∀k,q=some k→r=some k∨N≤k):BX N r w w' :=
  ⟨h.os,h.tape,h.output,h.size,fun k hk hr=>h.block k (Nat.lt_of_lt_of_le hk hN) (fun e=>(hq k e.symm).elim (fun x=>hr x.symm) (fun x=>by omega))⟩
theorem BX.grown(h:BX w.heap.size r w w'):w.grownBy w' r:=⟨h.os,h.tape,h.output,h.size,h.block⟩
theorem Db(h:Ext w0 w)(k:BX N r w w1)(hle:w0.heap.size≤N)(hr:∀k,r=some k→w0.heap.size≤k):Ext w0 w1:=
  Below.trans h ⟨k.os,k.tape,k.output,k.size,fun i hi=>k.block i (Nat.lt_of_lt_of_le hi hle) (fun e=>by have:=hr i e.symm;omega)⟩
theorem BX.blk{g:Nat}{o:Obj}(k:BX w.heap.size r w w1)(h:w.heap[g]? =some o)(hne:r≠some g):w1.heap[g]? =some o:=(k.block g (Array.getElem?_eq_some_iff.1 h).1 (fun e=>hne e.symm)).trans h
end
section
variable {P : Program} {n : Nat} {ρ : Ae} {w : World} {Q : Bp}
def KJ(w:World)(r:Option Nat)(es:List Nat)(m:Nat):World→Prop:=bif es.contains m then Ext w else BX w.heap.size r w
def H2(N:Nat)(r:Option Nat)(cs:List Nat)(m:Nat):World→World→Prop:=bif cs.contains m then BX N r else Ext
def Rx(l:List Oper)(cs es:List Nat):Bool:=cs.all fun m=>es.all fun i=>((AN l []).getD m 0).testBit i
theorem DZ{l:List Oper}(r:Option Nat)(cs es:List Nat)(ks ls:Nat→List Nat)(Φs:List Bf){id:Nat}(hm:P.follows .mixedOrders=true)(ds:List Tmp)(hg:Cl l n=true)(hkl:CD l ks=true)(hds:slotsW l=ds) 
    (hls:lsOk l cs ks ls=true) (hes:Rx l cs es=true) (hgc:(cs.all fun m=>((l[m]?).bind (·.guard)).isNone)=true) (hst:AllStab Ext Φs) (hsB:AllCh (BX w.heap.size r) ls Φs cs)
    (hs:StepsF P l (KJ w r es) (H2 w.heap.size r cs) (AT Φs) ρ 0 l)
    (hQ:∀(ρ' :Ae) w',BX w.heap.size r w w' →EndF ds ρ ρ' →A5 l ks (AT Φs) ρ' w' ds→Q .normal ρ' w'):BN P n (.region id l.toArray true) Q ρ w:=by
  have stepR:∀m a b,BX w.heap.size r w a→H2 w.heap.size r cs m a b→BX w.heap.size r w b:=fun m a b h k=>by
    unfold H2 at k
    cases hc:cs.contains m <;> rw[hc]at k
    · exact h.trans (BX.ofExt k h.size)
    · exact h.trans k
  have drew:Ext w w.drew:=(Below.refl _ _).drew
  intro a ha
  obtain⟨T,df⟩:=a
  have hz:T.size=n:=ha.size
  subst hz
  refine DV ks (KJ w r es) (fun _ w' =>BX w.heap.size r w w') _ (AT Φs) hm T df hg hkl ds hds (fun m i _ _ hne hbit w1 w' hc hr=> ?_) (fun m listed w1 w' _ _ _ _ hE hR=>stepR m _ _ hE hR) (fun m i hm' hi hni hne hbit v w1 w' h hr=> ?_) (fun m o w1 ho hgo=> ?_) (fun m _=> ?_) (BX.ofExt drew (Nat.le_refl _)) (StepsF.ok ha.get l 0 hs) (fun u listed w' hall hE hf=> ?_)
  · unfold KJ at hc ⊢
    cases he:es.contains i <;> rw[he]at hc
    · exact stepR m _ _ hc hr
    · unfold H2 at hr
      cases hcm:cs.contains m <;> rw[hcm]at hr
      · exact Ext.trans hc hr
      · unfold Rx at hes
        have:=List.all_eq_true.1 (List.all_eq_true.1 hes m (by simpa using hcm)) i (by simpa using he)
        rw[this]at hbit
        cases hbit
  · unfold H2 at hr
    cases hc:cs.contains m <;> rw[hc]at hr
    · exact hst.get Φs i v w1 w' h hr
    · refine(AllCh.get cs hsB m hc).get Φs 0 i ?_ v w1 w' h hr
      rw[Nat.zero_add]
      intro hmem
      unfold lsOk at hls
      have h1:=List.all_eq_true.1 (List.all_eq_true.1 hls m (by simpa using hc)) i hmem
      simp only[Bool.or_eq_true]at h1
      rcases h1 with (h1 | h1) | h1
      · exact hni (by simpa using h1)
      · exact hne (Nat.eq_of_beq_eq_true h1)
      · rw[h1]at hbit
        cases hbit
  · unfold H2
    cases hc:cs.contains m
    · exact Ext.refl w1
    · have:=List.all_eq_true.1 hgc m (by simpa using hc)
      rw[ho]at this
      simp only[Option.bind_some,Option.isNone_iff_eq_none]at this
      rw[this]at hgo
      cases hgo
  · unfold KJ
    cases es.contains m
    · exact BX.ofExt drew (Nat.le_refl _)
    · exact drew
  · have hw:=EQ ha.get ds (FN hg ds hds) u
    refine⟨fun t=>if t∈ds then u t else ρ t,⟨by rw[C1],ha.defers,hw⟩,hQ _ w' hE ⟨fun t ht=>if_neg (by simpa using ht)⟩ ?_⟩
    have key:∀es:List Tmp,(∀d∈es,d∈ds)→A5 l ks (AT Φs) u w' es→A5 l ks (AT Φs) (fun t=>if t∈ds then u t else ρ t) w' es:=by
      intro es
      induction es with
      | nil=>exact fun _ _=>trivial
      | cons d es ih=>
        intro hm h
        refine⟨?_,ih (fun x hx=>hm x (by simp[hx])) h.2⟩
        have:=h.1
        simp only[if_pos (hm d (by simp))]
        exact this
    exact key ds (fun _ h=>h) hf
end
open Go.RowKit
set_option maxRecDepth 100000
def Cz(e:Nat):PanicEntry:= { v:= .iface 69 (.agg ([NI e]:List Value).toArray),recovered:=false }
theorem RY{vx vy:Value}{x y:Bs}{w:World}(hx:RB w vx x)(hy:RB w vy y):(callFunc 86 #[vx,vy]).run Tryd.prog w = .ok (.value (.int .i64 (Lib.compareBytes x y))) w:=by
 rw[run_callFunc_extern (e:=Extern.BytealgCompare.compare) Tryd.func86 (by kernel_rfl) (by kernel_rfl) (by kernel_rfl) (by kernel_rfl),KD hx hy]
 rfl
theorem L2(z0:Int)(w:World):(Instr.build 69 #[(0, .int .i64 z0)]).run Tryd.prog w = .ok (.agg ([.int .i64 z0]:List Value).toArray) w:=by kernel_rfl
theorem PN:∃fs,Tryd.prog.underlying 69=some (.struct fs):=DF (by kernel_rfl)
theorem PO:AA Tryd.prog 73:=fun _ _=>by kernel_rfl
theorem AR(w:World)(b:Bool)(e:Nat):
  Calls Tryd.prog 64 #[.bool b,NI e] w fun r w' =>(∃v,r = .returned v∧v = .tuple #[]∧b=true∧Ext w w')∨∃ch,r = .panicked ch∧ch= [Cz e]∧b=false∧Ext w w' :=by
 refine gG (args:= [.bool (b),NI e]) Tryd.func64 rfl 9 rfl rfl ?_
 have hE:=Ext.refl w
 refine gS (Yk.notB rfl ?_)
 refine cB (!(b)) rfl (fun a=> ?_) fun a=> ?_
 ·refine gS (Yk.build1 (vr (NI e) rfl) (fun w=>L2 (((e:Nat):Int)) w) (gS (Yk.mkIface (PN).choose_spec (vr (.agg ([NI e]).toArray) rfl) (gP (Yp.panic rfl (Aq ?_))))))
  exact .inr ⟨_,rfl,rfl,by simpa using a,hE⟩
 refine N0 rfl ?_
 exact .inl ⟨_,rfl,rfl,by simpa using a,hE⟩

theorem Iu(w:World)(vx vy:Value)(x y:Bs)(hx:RB w vx x)(hy:RB w vy y):
  Calls Tryd.prog 73 #[vx,vy] w fun e w' =>e = .returned (.int .i64 (Lib.compareBytes x y))∧Ext w w' :=by
 refine gG (args:= [vx,vy]) Tryd.func73 rfl 8 rfl rfl ?_
 have hE:=Ext.refl w
 refine gS (Yk.extern2 rfl rfl (RY (hx.keep hE) (hy.keep hE)) (Bx rfl (vr (.int .i64 (Lib.compareBytes x y:Int)) rfl) ?_))
 exact⟨rfl,hE⟩

theorem F5(w:World)(x y:Bs)(hxl:x.length=32)(hyl:y.length=32):
  Calls Tryd.prog 57 #[AB x,AB y] w fun e w' =>e = .returned (.int .i64 (Lib.compareBytes x y))∧Ext w w' :=by
 refine gG (args:= [AB x,AB y]) Tryd.func57 rfl 8 rfl rfl ?_
 have hE:=Ext.refl w
 refine gS (Yk.box (vr (AB x) rfl) fun h i q c j r=> ?_)
 have a:=c;clear c
 have s:h<i.heap.size:=by omega
 refine gS (Yk.box (vr (AB y) rfl) fun k l m f n t=> ?_)
 have hE:=hE.trans j
 have u:=hE.size
 have b:=f;clear f
 have v:k<l.heap.size:=by omega
 refine Bw [0,1,2,3] [2] [] fun o g=>(ys (Yk.sliceArr QJ M4 rfl zz) (ys (Yk.sliceArr QJ M4 rfl zz) ?_))
 have hC:=Ext.refl o
 have z:=Aw (bl a) m
 have hZ1:=n.trans g
 have a:=eb hZ1 a
 have b:=eb g b
 refine yC (Yk.callA2 PO rfl rfl ((Iu _ _ _ x y (RB.ofBlkN (eb hC a) hxl (by decide)) (RB.ofBlkN (eb hC b) hyl (by decide))).mono ?_))
 rintro e aa ⟨rfl,p⟩
 refine⟨_,rfl,?_⟩
 refine Bx rfl (vr (.int .i64 (Lib.compareBytes x y:Int)) rfl) ?_
 have hZ2:=hZ1.trans p
 have hE:=hE.trans hZ2
 exact⟨rfl,hE⟩
open Go.RowKit
set_option maxRecDepth 100000
theorem Of(ids:List Bs)(c:Nat):(BR ids).getD c 0≤ids.length:=by
 by_cases h:c<256
 ·rw[Ff _ _ h]
  exact List.countP_le_length
 ·rw[List.getD_eq_getElem?_getD,List.getElem?_eq_none (by rw[Cf];omega)]
  simp
theorem L3(ids:List Bs)(c:Nat)(h0:0<c)(h:c<256):(Br ids c).getD c 0+(Br ids c).getD (c-1) 0≤ids.length:=by
 have h1:=Hg ids c h0 h
 have h2:(Br ids (c+1)).getD c 0=(AK ids).getD c 0:=by
  unfold Br
  rw[List.getD_eq_getElem?_getD,List.getElem?_append_left (by rw[List.length_take,Bi];omega),List.getElem?_take,if_pos (by omega),←List.getD_eq_getElem?_getD]
 rw[h1,List.getD_eq_getElem?_getD,List.getElem?_set_self (by rw[ES _ _ (by omega)];exact h)]at h2
 have h3:=H0 ids c
 rw[Option.getD_some]at h2
 omega
theorem Hh:(Tryd.prog.info? 59).map (·.size)=some 256:=by kernel_rfl
theorem Lb{d:Option Tmp}{ty:TypeId}{pos:String}{af:Array Edge}{gd:Option (Nat × Bool)}(σ:Operand→Value)(w:World):(execOp σ ⟨d, .alloc 59,ty,pos,af,gd⟩).run Tryd.prog w = .ok (.value (PQ w.heap.size 0)) (w.alloc (.cells ((List.replicate 256 0).map fun x=>NI x).toArray 59)):=by kernel_rfl
theorem Lc:Tryd.prog.underlying 47=some (.slice 38):=by kernel_rfl
theorem Og:∀w' :World,(sizeOf 38).run Tryd.prog w' = .ok 32 w' :=fun _=>by kernel_rfl
theorem PP{d:Option Tmp}{ty:TypeId}{pos:String}{af:Array Edge}{gd:Option (Nat × Bool)}(σ:Operand→Value)(w:World):(execOp σ ⟨d, .alloc 38,ty,pos,af,gd⟩).run Tryd.prog w = .ok (.value (PQ w.heap.size 0)) (w.alloc (.cells (Lib.byteCells (List.replicate 32 0)).toArray 38)):=by kernel_rfl
theorem Es:Tryd.prog.underlying 59=some (.array 256 3):=by kernel_rfl
theorem Gk:∀w' :World,(sizeOf 3).run Tryd.prog w' = .ok 1 w' :=fun _=>by kernel_rfl
theorem Ld:(Tryd.prog.info? 3).map (·.size)=some 1:=by kernel_rfl
theorem MB(w:World)(v:Value)(ids:List Bs)(hr:RG 32 Lib.byteCells w v ids):
  Calls Tryd.prog 26 #[v] w fun e w' =>e = .returned (.agg ((AK ids).map fun x=>NI x).toArray)∧Ext w w' :=by
 have hil:=hr.lenLt
 refine gG (args:= [v]) Tryd.func26 rfl 34 rfl rfl ?_
 have hE:=Ext.refl w
 refine gS (Yk.alloc Lb fun n s a7 ae ap a8=> ?_)
 have f:=ae;clear ae
 have a9:n<s.heap.size:=by omega
 refine gS (Yk.alloc Lb fun k aq ar af aa ba=> ?_)
 have g:=Ext.refl s
 have hE:=hE.trans ap
 have ag:=hE.size
 have ah:=af;clear af
 have bb:k<aq.heap.size:=by omega
 have bc:=Aw (bl f) ar
 have f:=eb aa f
 have hE:=hE.trans aa
 have g:=g.trans aa
 refine gS (Yk.lenRG Lc (RG.of (hr.keep hE) rfl) (gL (fun(ρ:Ae) (wz:World)=>∃i:Nat,ρ 0=(v:Value)∧ρ 2=(PQ n 0:Value)∧ρ 3=(PQ k 0:Value)∧ρ 7=(v:Value)∧ρ 8=(NI ids.length:Value)∧ρ 9=(NI i:Value)∧Ext w wz∧wz.heap[n]? =some (.cells ((List.replicate 256 0).map fun x=>NI x).toArray 59 (0,0))∧Ext s wz∧wz.heap[k]? =some (.cells ((BR (ids.take i)).map fun x=>NI x).toArray 59 (0,0))∧(i≤ids.length)∧True) (fun ρ _=>ids.length-(intOf (ρ 9)).toNat) ⟨0,rfl,rfl,rfl,rfl,rfl,rfl,hE,f,g,AE ah (congrArg (List.map fun x=>NI x) (show _=BR []from by decide+kernel)),Nat.zero_le _,trivial⟩ ?_))
 clear ah
 clear hE f
 rintro au av ⟨i,t,l,h,o,p,j,hE,f,g,hb21l,hi,-⟩
 have q9:=j
 refine gS (Yk.eqI (a:=(i:Nat)) (b:=(ids.length:Nat)) j p (Ah _ _ _ _) ?_)
 refine cD rfl (fun aw=> ?_) fun aw=> ?_
 ·have ax:(ids.getD i []).length=32:=by have h1:=RG.elem hr [] (show i<ids.length by omega);rwa [Lib.byteCells_length]at h1
  have ab:(Lib.byteCells (ids.getD (i) ([]:List UInt8))).length=32:=(RG.elem (hr.keep hE) ([]:List UInt8) (by omega))
  refine gS (Yk.atRG Lc Og (by decide) ([]:List UInt8) (RG.of (hr.keep hE) o) j (by omega) fun bd ai=>(gS (Yk.loadPR (PR.of ai rfl) QJ rfl (by rw[ab];exact N2) (gS (Yk.alloc PP fun aj ay az ak u be=> ?_)))))
  have q:=Ext.refl av
  have a0:=hE.size
  have a1:=g.size
  have r:=ak;clear ak
  have bf:aj<ay.heap.size:=by omega
  refine gS (Yk.storeAll (vr (PQ aj 0) rfl) (vr (AB (ids.getD (i) ([]:List UInt8))) rfl) r (by exact BQ (As (ab)) List.length_replicate) (by exact Ag (As (ab))) (Ai _) fun bg al y bh=> ?_)
  clear r
  have r:=al;clear al
  have bi:=bl r
  clear ai
  have q:=q.trans u
  have q:=Aa q y (Nat.le_trans (Nat.le_refl _) (by omega))
  have hb21l:=eb q hb21l
  refine gS (Yk.atArr0 (i:=0) QJ M4 rfl rfl (by decide) (gS (Yk.cell1 u5 rfl rfl (cellAt r (Cx (i:=0) (by rw[ax];omega))) (gS (Yk.atArr0 (i:=((ids.getD (i) ([]:List UInt8)).getD (0) 0).toNat) Es Gk h rfl (by exact UInt8.toNat_lt _) (gS (Yk.cell1 PJ rfl rfl (cellAt hb21l (Fx (i:=((ids.getD (i) ([]:List UInt8)).getD (0) 0).toNat) (by rw[Cf];exact UInt8.toNat_lt _))) (gS (Yk.bin (xv:=NI ((BR (ids.take i)).getD (((ids.getD (i) ([]:List UInt8)).getD (0) 0).toNat) 0)) (yv:=NI 1) rfl rfl rfl (Ac _ _ _ (by have:=Of (ids.take i) ((ids.getD i []).getD 0 0).toNat;rw[List.length_take]at this;omega)) (gS (Yk.atArr0 (i:=((ids.getD (i) ([]:List UInt8)).getD (0) 0).toNat) Es Gk h rfl (by exact UInt8.toNat_lt _) (gS (Yk.storeN (i:=((ids.getD (i) ([]:List UInt8)).getD (0) 0).toNat) (v:=((BR (ids.take i)).getD (((ids.getD (i) ([]:List UInt8)).getD (0) 0).toNat) 0)+(1)) rfl rfl hb21l (by rw[Cf];exact UInt8.toNat_lt _) Ld fun bj am ac bk=> ?_)))))))))))))
  clear hb21l
  have hb21l:=am;clear am
  have bm:=bl hb21l
  have bn:=Aw (bl f) az
  have f:=eb u f
  have f:=kb y f (by omega)
  have f:=kb ac f (by omega)
  have hE:=hE.trans u
  have hE:=Aa hE y (Nat.le_trans a0 (by omega))
  have hE:=Aa hE ac (Nat.le_trans ag (by omega))
  have g:=g.trans u
  have g:=Aa g y (Nat.le_trans a1 (by omega))
  have g:=Aa g ac (Nat.le_trans (Nat.le_refl _) (by omega))
  refine gS (Yk.bin (xv:=NI i) (yv:=NI 1) j rfl rfl (Ac _ _ _ (by omega)) ?_)
  refine gK (And.intro ⟨i+1,t,l,h,o,p,rfl,hE,f,g,AE hb21l (congrArg (List.map fun x=>NI x) (by rw[List.take_succ_eq_append_getElem (by omega),L0];simp only[List.getD_eq_getElem?_getD,List.getElem?_eq_getElem (show i<ids.length by omega),Option.getD_some];rfl)),by omega,trivial⟩ ?_)
  show ids.length-(intOf (NI ((i)+(1)))).toNat<ids.length-(intOf (au 9)).toNat
  rw[q9]
  simp only[intOf,Int.toNat_natCast];omega
 refine gL (fun(ρ:Ae) (wz:World)=>∃c:Nat,ρ 0=(v:Value)∧ρ 2=(PQ n 0:Value)∧ρ 3=(PQ k 0:Value)∧ρ 7=(v:Value)∧ρ 8=(NI ids.length:Value)∧ρ 9=(NI i:Value)∧ρ 6=(NI c:Value)∧Ext w wz∧wz.heap[n]? =some (.cells ((List.replicate 256 0).map fun x=>NI x).toArray 59 (0,0))∧Ext s wz∧wz.heap[k]? =some (.cells ((Br ids c).map fun x=>NI x).toArray 59 (0,0))∧(0<c)∧(c≤256)∧True) (fun ρ _=>256-(intOf (ρ 6)).toNat) ⟨1,t,l,h,o,p,j,rfl,hE,f,g,AE hb21l (congrArg (List.map fun x=>NI x) (by rw[fanStep_one,show i=ids.length by omega,List.take_length])),by omega,by omega,trivial⟩ ?_
 clear hb21l
 clear hE f g
 rintro a2 a3 ⟨c,t,l,h,o,p,j,m,hE,f,g,hb21ll,hc0',hcl,-⟩
 have q6:=m
 refine gS (Yk.eqI (a:=(c:Nat)) (b:=(256:Nat)) m rfl (Ah _ _ _ _) ?_)
 refine cD rfl (fun a4=> ?_) fun a4=> ?_
 ·refine Bw [0,1,2,3,4,5,6,7,8,9] [9] [] fun bo z=> ?_
  have hb21ll:=eb z hb21ll
  refine ys (Yk.atArr0 (i:=c) Es Gk h m (by omega) zz) (ys (Yk.cell1 PJ rfl rfl (cellAt hb21ll (Fx (i:=c) (by rw[ES _ _ hcl];omega))) zz) (ys (Yk.bin (xv:=NI c) (yv:=NI 1) m rfl rfl (Ay _ _ _ (by omega) (by omega)) zz) (ys (Yk.atArr0 (i:=(c)-(1)) Es Gk h rfl (by omega) zz) (ys (Yk.cell1 PJ rfl rfl (cellAt hb21ll (Fx (i:=(c)-(1)) (by rw[ES _ _ hcl];omega))) zz) (ys (Yk.bin (xv:=NI ((Br ids c).getD (c) 0)) (yv:=NI ((Br ids c).getD ((c)-(1)) 0)) rfl rfl rfl (Ac _ _ _ (by have:=L3 ids c hc0' (by omega);omega)) zz) (ys (Yk.atArr0 (i:=c) Es Gk h m (by omega) zz) (yC (Yk.storeN (i:=c) (v:=((Br ids c).getD (c) 0)+((Br ids c).getD ((c)-(1)) 0)) rfl rfl hb21ll (by rw[ES _ _ hcl];omega) Ld fun bp an ad bq=> ?_))))))))
  clear hb21ll
  have hb21ll:=an;clear an
  have br:=bl hb21ll
  have hE:=hE.trans z
  have hE:=Aa hE ad (Nat.le_trans ag (by omega))
  have f:=eb z f
  have f:=kb ad f (by omega)
  have g:=g.trans z
  have g:=Aa g ad (Nat.le_trans (Nat.le_refl _) (by omega))
  refine gS (Yk.bin (xv:=NI c) (yv:=NI 1) m rfl rfl (Ac _ _ _ (by omega)) (gK (And.intro ⟨c+1,t,l,h,o,p,j,rfl,hE,f,g,AE hb21ll (congrArg (List.map fun x=>NI x) (Hg ids c hc0' (by omega)).symm),by omega,by omega,trivial⟩ ?_)))
  show 256-(intOf (NI ((c)+(1)))).toNat<256-(intOf (a2 6)).toNat
  rw[q6]
  simp only[intOf,Int.toNat_natCast];omega
 have a5:c=256:=by omega
 obtain⟨F,hF⟩:∃F,F=AK ids:=⟨_,rfl⟩
 have hb21ll:a3.heap[k]? =some (.cells (F.map fun x=>NI x).toArray 59 (0,0)):=AE hb21ll (by rw[a5,L1,hF])
 have hFl:F.length=256:=by rw[hF,Bi]
 refine gS (Yk.loadAll h hb21ll Es rfl (by rw[List.size_toArray,List.length_map,hFl];exact Hh) (gS (Yk.storeAll l (vr (.agg (F.map fun x=>NI x).toArray) rfl) f (by rw[List.size_toArray,List.size_toArray,List.length_map,List.length_map,hFl];rfl) (by rw[List.size_toArray,List.length_map,hFl];exact Hh) (M9 _) fun bs ao a6 bt=> ?_)))
 clear g
 clear f
 have f:=ao;clear ao
 have bu:=bl f
 refine IO rfl (ResF.row l f Es rfl (by rw[List.size_toArray,List.length_map,hFl];exact Hh)) ?_
 subst hF
 have hE:=Aa hE a6 (Nat.le_trans (Nat.le_refl _) (by omega))
 exact⟨rfl,hE⟩
open Go.RowKit
section
variable {P : Program}
theorem EY{t e:TypeId}{size:Nat}(ht:P.underlying t=some (.slice e))(he:∀w' :World,(sizeOf e).run P w' = .ok size w'){w:World}{v:Value}{n:Nat}{xs:List Value}(hr:Reads w size v n xs)(lo hi:Option Value)(l h:Nat)(hlh:l≤h)(hn:h≤n) 
    (hlo:lo=none∧l=0∨∃k,lo=some (.int k l)) (hhi:hi=none∧h=n∨∃k,hi=some (.int k h)):
    ∃ao c,((∀w:World,(Instr.sliceAt t v lo hi none).run P w = .ok (.slice ao (h-l) c) w)∧(Value.slice ao (h-l) c).ownBlock=v.ownBlock)∧Reads w size (.slice ao (h-l) c) (h-l) ((xs.drop (l*size)).take ((h-l)*size)):=by
  obtain⟨h1,ao,cap,rfl,h2,h3,h4,h5⟩:=hr
  have hE:P.elem t=e:=by simp[Program.elem,ht]
  have ht' :P.underlying t=some (.slice (P.elem t)):=by rw[hE];exact ht
  refine⟨if cap=l then ao else ao.map (·.add (l*size)),cap-l,⟨?_,?_⟩,?_,_,_,rfl,by omega,by omega,?_,?_⟩
  · intro w
    rw[run_sliceAt_slice (P:=P) w t _ _ _ _ ht']
    have hl' :(l:Int)≤(h:Int):=by omega
    have hh' :(h:Int)≤(cap:Int):=by omega
    have hn' :(l:Int)≤(n:Int):=by omega
    rcases hlo with ⟨rfl,rfl⟩ | ⟨k,rfl⟩ <;> rcases hhi with ⟨rfl,rfl⟩ | ⟨k',rfl⟩
    · rw[run_slice_all (P:=P) w t ao h cap ht',hE,he]
      simp[Result.andThen,sliced]
    · rw[run_slice_h (P:=P) w t ao n cap ht' k' h (by omega) hh',hE,he]
      simp[Result.andThen,sliced]
    · rw[run_slice_l (P:=P) w t ao h cap ht' k l (by omega) hl',hE,he]
      simp[Result.andThen,sliced]
    · rw[run_slice_lh (P:=P) w t ao n cap ht' k k' l h (by omega) hl' hh',hE,he]
      simp[Result.andThen,sliced]
  · cases ao with
    | none=>simp[Value.ownBlock]
    | some x=>
      split
      · rfl
      · simp only[Option.map_some,Value.ownBlock,Option.some.injEq]
        unfold Addr.add
        split <;> rfl
  · rw[List.length_take,List.length_drop,h1]
    have:(h-l)*size≤n*size-l*size:=by rw[←Nat.sub_mul];exact Nat.mul_le_mul_right _ (by omega)
    omega
  · intro hnone
    have:ao=none:=by
      cases ao with
      | none=>rfl
      | some x=>split at hnone <;> simp at hnone
    obtain⟨h6,h7⟩:=h4 this
    omega
  · intro a ha j u hu
    have hj:j<((xs.drop (l*size)).take ((h-l)*size)).length:=(List.getElem?_eq_some_iff.1 hu).1
    have hj2:j<(h-l)*size:=by rw[List.length_take]at hj;omega
    have hhl:h-l≠0:=fun e=>by rw[e]at hj2;simp at hj2
    rw[if_neg (by omega)]at ha
    cases ao with
    | none=>simp at ha
    | some x=>
      simp at ha
      subst ha
      rw[Fp]
      refine h5 x rfl _ _ ?_
      rw[List.getElem?_take,if_pos hj2,List.getElem?_drop]at hu
      exact hu
end
section
variable {P : Program} {K : Value → World → Prop} {ρ : Ae} {w w0 : World} {d : Option Tmp} {ty : TypeId} {pos : String} {af : Array Edge} {gd : Option (Nat × Bool)}
variable {α : Type} {k : Nat} {enc : α → List Value} {t e : TypeId}
theorem Yk.sliceLoW(ht:P.underlying t=some (.slice e))(he:∀w' :World,(sizeOf e).run P w' = .ok k w'){x lo:Operand}{v:Value}{xs:List α}(hx:Ab ρ x=v)(h:RG k enc w0 v xs){kd:IntKind}{l:Nat}(hlo:Ab ρ lo = .int kd (l:Int))(hl:l≤xs.length) 
    (hk:∀v',RG k enc w0 v' (xs.drop l)→v'.ownBlock=v.ownBlock→K v' w):Yk P K ((execOp (Ab ρ) ⟨d, .slice t x (some lo) none none,ty,pos,af,gd⟩).run P w):=by
  obtain⟨ao,c,⟨hrun,hb⟩,hR⟩:=EY ht he h.2 (some (.int kd l)) none l xs.length hl (Nat.le_refl _) (.inr ⟨kd,rfl⟩) (.inl ⟨rfl,rfl⟩)
  have hR' :=RG.cut h.1 hl (Nat.le_refl _) hR
  rw[List.take_of_length_le (by rw[List.length_drop];exact Nat.le_refl _)]at hR'
  refine Yk.value (v:= .slice ao (xs.length-l) c) (w' :=w) ?_ (hk _ hR' hb)
  unfold execOp
  simp only[hx,hlo,Option.map_some,Option.map_none,hrun,Sem.run_bind,Sem.run_pure,Result.andThen_ok]
theorem Yk.sliceHiW(ht:P.underlying t=some (.slice e))(he:∀w' :World,(sizeOf e).run P w' = .ok k w'){x hi:Operand}{v:Value}{xs:List α}(hx:Ab ρ x=v)(h:RG k enc w0 v xs){kd:IntKind}{n:Nat}(hhi:Ab ρ hi = .int kd (n:Int))(hl:n≤xs.length) 
    (hk:∀v',RG k enc w0 v' (xs.take n)→v'.ownBlock=v.ownBlock→K v' w):Yk P K ((execOp (Ab ρ) ⟨d, .slice t x none (some hi) none,ty,pos,af,gd⟩).run P w):=by
  obtain⟨ao,c,⟨hrun,hb⟩,hR⟩:=EY ht he h.2 none (some (.int kd n)) 0 n (Nat.zero_le _) hl (.inl ⟨rfl,rfl⟩) (.inr ⟨kd,rfl⟩)
  have hR' :=RG.cut h.1 (Nat.zero_le _) hl hR
  rw[List.drop_zero,Nat.sub_zero]at hR'
  refine Yk.value (v:= .slice ao (n-0) c) (w' :=w) ?_ (hk _ hR' hb)
  unfold execOp
  simp only[hx,hhi,Option.map_some,Option.map_none,hrun,Sem.run_bind,Sem.run_pure,Result.andThen_ok]
theorem Gl{P:Program}{e:TypeId}{k b:Nat}(h:(P.info? e).map (fun i=>(i.zero.map (fun z=>z.cells.size),i.size,i.bytes))=some (some k,k,b)):∃z,(P.info? e).map (fun i=>(i.zero,i.size,i.bytes))=some (some z,k,b)∧z.cells.size=k:=by
  cases hi:P.info? e with
  | none=>rw[hi]at h;cases h
  | some i=>
    rw[hi]at h
    simp only[Option.map_some,Option.some.injEq,Prod.mk.injEq]at h
    cases hz:i.zero with
    | none=>rw[hz]at h;cases h.1
    | some z=>
      rw[hz]at h
      simp only[Option.map_some,Option.some.injEq]at h
      exact⟨z,by simp[hz,h.2.1,h.2.2],h.1⟩
theorem Yk.makeG(base:Nat)(z:Value)(bytes:Nat)(ht:P.underlying t=some (.slice e))(hi:(P.info? e).map (fun i=>(i.zero,i.size,i.bytes))=some (some z,k,bytes)){x y:Operand}{kl kc:IntKind}{n:Nat}(hx:Ab ρ x = .int kl 0)(hy:Ab ρ y = .int kc (n:Int))(hb:bytes*n≤281474976710656)(hn:n≤9223372036854775807)(hbase:base≤w.heap.size) 
    (hk:∀v w',OG base e k enc w' v ([]:List α)→Ext w w' →K v w'):Yk P K ((execOp (Ab ρ) ⟨d, .makeSlice t x y,ty,pos,af,gd⟩).run P w):=by
  obtain⟨i,hi,hz,hsize,hby⟩:=info_parts hi
  obtain⟨w',hr,h2,h3⟩:=run_make_own (P:=P) (w:=w) base t e i z k ht hi hz hsize kl kc n (by rw[hby];exact hb) (by unfold maxLen;omega) hbase
  refine Yk.value (v:= .slice (some ⟨w.heap.size,0,none⟩) 0 n) (w' :=w') ?_ (hk _ w' ⟨by simp,h2⟩ (Ext.of h3))
  unfold execOp
  simp only[hx,hy,hr,Sem.run_bind,Sem.run_pure,Result.andThen_ok]
theorem Yk.makeN(bytes:Nat)(ht:P.underlying t=some (.slice e))(hi:(P.info? e).map (fun i=>(i.zero,i.size,i.bytes))=some (some (.int .i64 0),1,bytes)){x y:Operand}{kl kc:IntKind}{n:Nat}(hx:Ab ρ x = .int kl (n:Int))(hy:Ab ρ y = .int kc (n:Int))(hb:bytes*n≤281474976710656)(hn:n≤9223372036854775807) 
    (hk:∀g w',w.heap.size=g→w'.heap[g]? =some (.cells ((List.replicate n 0).map fun x=>NI x).toArray e (0,0))→Ext w w' →w'.heap.size=g+1→K (.slice (some ⟨g,0,none⟩) n n) w'):Yk P K ((execOp (Ab ρ) ⟨d, .makeSlice t x y,ty,pos,af,gd⟩).run P w):=by
  obtain⟨i,hi,hz,hsize,hby⟩:=info_parts hi
  have hb' :(i.bytes:Int)*(n:Int)≤281474976710656:=by
    have h:((i.bytes*n:Nat):Int)≤281474976710656:=by rw[hby];omega
    rwa [Int.natCast_mul]at h
  have hr:=run_make (P:=P) w t e i _ ht hi hz kl kc (n:Int) n (by omega) (by omega) hb' (by omega)
  have hm:madeCells (Value.int .i64 0).cells (n*i.size)=((List.replicate n 0).map fun x=>NI x).toArray:=by
    rw[hsize,Nat.mul_one]
    apply Array.ext
    · simp[madeCells]
    · intro j h1 h2
      simp[madeCells,Value.cells,Nat.mod_one]
  simp only[Int.toNat_natCast]at hr
  rw[hm]at hr
  refine Yk.value (v:= .slice (some ⟨w.heap.size,0,none⟩) n n) (w' :=w.alloc (.cells ((List.replicate n 0).map fun x=>NI x).toArray e)) ?_ (hk w.heap.size _ rfl (heap_alloc_new w _) ((Below.refl _ _).alloc (Nat.le_refl _) _) (by simp))
  unfold execOp
  simp only[hx,hy,hr,Sem.run_bind,Sem.run_pure,Result.andThen_ok]
theorem Yk.atSl0(ht:P.underlying t=some (.slice e))(he:∀w' :World,(sizeOf e).run P w' = .ok 1 w'){x y:Operand}{b i n c:Nat}{kd:IntKind}(hx:Ab ρ x = .slice (some ⟨b,0,none⟩) n c)(hy:Ab ρ y = .int kd (i:Int))(hi:i<n)(hk:K (.pointer (some ⟨b,i,none⟩)) w):Yk P K ((execOp (Ab ρ) ⟨d, .indexAddr t x y,ty,pos,af,gd⟩).run P w):=
  Yk.atSl ht he hx hy hi (by rw[Nat.zero_add];exact hk)
theorem OG.base{α:Type}{b b' k:Nat}{e:TypeId}{enc:α→List Value}{v:Value}{l:List α}(h:OG b e k enc w v l)(hb:b' ≤b):OG b' e k enc w v l:=⟨h.1,CS h.2 hb⟩
theorem CU{α β:Type}{ek:α→Value}{ev:β→Value}{D:α→Prop}{b:Nat}{G G' :α→Option β}(h:MapF ek ev D w b G)(e:G=G'):MapF ek ev D w b G' :=by rw[←e];exact h
def E3{α:Type}(B N:Nat)(e:TypeId)(k:Nat)(enc:α→List Value)(r:Option Nat)(l:List α)(x:Value)(w' :World):Prop:=OG B e k enc w' x l∧∀k,x.ownBlock=some k→r=some k∨N≤k
theorem RG.nilOwn(w:World)(b:Nat)(e:TypeId):OG b e k enc w (.slice none 0 0) ([]:List α):=OG.nil b e k enc w
structure MI (l O A B : List (List UInt8)) : Prop where
  perm:(O++(A++B)).Perm l
  ascO:Cy O
  ascA:Cy A
  ascB:Cy B
  le:∀x∈O,∀y∈A++B,Lib.compareBytes x y≤0
theorem MI.start{l A B:List (List UInt8)}{h:Nat}(hA:A.Perm (l.take h))(hB:B.Perm (l.drop h))(a1:Cy A)(b1:Cy B):MI l [] A B:=
  ⟨by rw[List.nil_append];exact(hA.append hB).trans (by rw[List.take_append_drop]),List.Pairwise.nil,a1,b1,by simp⟩
theorem MI.left{l O A B:List (List UInt8)}(h:MI l O A B)(hA:0<A.length)(hB:0<B.length)(hc:Lib.compareBytes (A.getD 0 []) (B.getD 0 [])≤0):MI l (O++ [A.getD 0 []]) (A.drop 1) B:=by
  match A,B,hA,hB,h,hc with
  | a :: A,b :: B,_,_,h,hc=>
    simp only[List.getD_cons_zero,List.drop_succ_cons,List.drop_zero]at hc ⊢
    have hp:=List.pairwise_cons.1 h.ascA
    have hq:=List.pairwise_cons.1 h.ascB
    have hall:∀y∈A++b :: B,Lib.compareBytes a y≤0:=fun y hy=>by
      rcases List.mem_append.1 hy with h1 | h1
      · exact hp.1 y h1
      · rcases List.mem_cons.1 h1 with rfl | h1
        · exact hc
        · exact Ew hc (hq.1 y h1)
    refine⟨by rw[List.append_assoc];exact h.perm,?_,hp.2,h.ascB,?_⟩
    · unfold Cy
      rw[List.pairwise_append]
      exact⟨h.ascO,by simp,fun x hx y hy=>by rw[List.mem_singleton.1 hy];exact h.le x hx a (by simp)⟩
    · intro x hx y hy
      rcases List.mem_append.1 hx with h1 | h1
      · exact h.le x h1 y (by simp only[List.cons_append,List.mem_cons];exact .inr hy)
      · rw[List.mem_singleton.1 h1];exact hall y hy
theorem MI.right{l O A B:List (List UInt8)}(h:MI l O A B)(hA:0<A.length)(hB:0<B.length)(hc:¬Lib.compareBytes (A.getD 0 []) (B.getD 0 [])≤0):MI l (O++ [B.getD 0 []]) A (B.drop 1):=by
  match A,B,hA,hB,h,hc with
  | a :: A,b :: B,_,_,h,hc=>
    simp only[List.getD_cons_zero,List.drop_succ_cons,List.drop_zero]at hc ⊢
    have hp:=List.pairwise_cons.1 h.ascA
    have hq:=List.pairwise_cons.1 h.ascB
    have hba:Lib.compareBytes b a≤0:=by have:=Fl a b;omega
    have hall:∀y∈a :: A++B,Lib.compareBytes b y≤0:=fun y hy=>by
      rcases List.mem_append.1 hy with h1 | h1
      · rcases List.mem_cons.1 h1 with rfl | h1
        · exact hba
        · exact Ew hba (hp.1 y h1)
      · exact hq.1 y h1
    refine⟨?_,?_,h.ascA,hq.2,?_⟩
    · refine List.Perm.trans ?_ h.perm
      rw[List.append_assoc]
      refine List.Perm.append_left O ?_
      simp only[List.singleton_append]
      exact(List.perm_middle (l₁:=a :: A) (l₂:=B) (a:=b)).symm
    · unfold Cy
      rw[List.pairwise_append]
      exact⟨h.ascO,by simp,fun x hx y hy=>by rw[List.mem_singleton.1 hy];exact h.le x hx b (by simp)⟩
    · intro x hx y hy
      rcases List.mem_append.1 hx with h1 | h1
      · exact h.le x h1 y (by
          rcases List.mem_append.1 hy with h2 | h2
          · exact List.mem_append_left _ h2
          · exact List.mem_append_right _ (by simp[h2]))
      · rw[List.mem_singleton.1 h1];exact hall y hy
theorem MI.done{l O A B:List (List UInt8)}(h:MI l O A B)(he:A.length=0∨B.length=0):((O++A)++B).Perm l∧Cy ((O++A)++B):=by
  refine⟨by rw[List.append_assoc];exact h.perm,?_⟩
  rw[List.append_assoc]
  unfold Cy
  rw[List.pairwise_append]
  refine⟨h.ascO,?_,h.le⟩
  rcases he with he | he
  · rw[List.eq_nil_of_length_eq_zero he,List.nil_append];exact h.ascB
  · rw[List.eq_nil_of_length_eq_zero he,List.append_nil];exact h.ascA
theorem Oh{l:List (List UInt8)}(h:l.length<2):Cy l:=by
  match l,h with
  | [],_=>exact List.Pairwise.nil
  | [a],_=>simp[Cy]
end
open Go.RowKit
set_option maxRecDepth 100000
theorem pk6_ig38:∃z,(Tryd.prog.info? 38).map (fun i=>(i.zero,i.size,i.bytes))=some (some z,32,32)∧z.cells.size=32:=Gl (by kernel_rfl)
theorem Iv:AA Tryd.prog 56:=fun _ _=>by kernel_rfl
theorem PS:AA Tryd.prog 57:=fun _ _=>by kernel_rfl
theorem PT(c0 c1 c2 c3 c4 c5 c6 c7 c8 c9 c10 c11 c12 c13 c14 c15 c16 c17 c18 c19 c20 c21 c22 c23 c24 c25 c26 c27 c28 c29 c30 c31:Value)(w:World):(Instr.buildSlice 47 1 #[(0, .agg #[c0,c1,c2,c3,c4,c5,c6,c7,c8,c9,c10,c11,c12,c13,c14,c15,c16,c17,c18,c19,c20,c21,c22,c23,c24,c25,c26,c27,c28,c29,c30,c31])]).run Tryd.prog w = .ok (.slice (some ⟨w.heap.size,0,none⟩) 1 1) (w.alloc (.cells #[c0,c1,c2,c3,c4,c5,c6,c7,c8,c9,c10,c11,c12,c13,c14,c15,c16,c17,c18,c19,c20,c21,c22,c23,c24,c25,c26,c27,c28,c29,c30,c31] 38)):=by kernel_rfl
theorem Le:∀(cs:Array Value),cs.size=32→∀w:World,(Instr.buildSlice 47 1 #[(0, .agg cs)]).run Tryd.prog w = .ok (.slice (some ⟨w.heap.size,0,none⟩) 1 1) (w.alloc (.cells cs 38))
 | ⟨[c0,c1,c2,c3,c4,c5,c6,c7,c8,c9,c10,c11,c12,c13,c14,c15,c16,c17,c18,c19,c20,c21,c22,c23,c24,c25,c26,c27,c28,c29,c30,c31]⟩,_,w=>PT c0 c1 c2 c3 c4 c5 c6 c7 c8 c9 c10 c11 c12 c13 c14 c15 c16 c17 c18 c19 c20 c21 c22 c23 c24 c25 c26 c27 c28 c29 c30 c31 w
theorem Na(n:Nat)(ih:∀l:List Bs,l.length<n→∀(w:World) (v:Value),RG 32 Lib.byteCells w v l→Calls Tryd.prog 56 #[v, .func (.func 57) #[] #[]] w fun e w' =>∃v' m,e = .returned v' ∧OG w.heap.size 38 32 Lib.byteCells w' v' m∧m.Perm l∧Cy m∧Ext w w')(l:List Bs)(hn:l.length=n)(hlim:l.length≤1048576)(w:World)(v:Value)(hr:RG 32 Lib.byteCells w v l):
  Calls Tryd.prog 56 #[v, .func (.func 57) #[] #[]] w fun e w' =>∃v' m,e = .returned v' ∧OG w.heap.size 38 32 Lib.byteCells w' v' m∧m.Perm l∧Cy m∧Ext w w' :=by
 refine gG (args:= [v, .func (.func 57) #[] #[]]) Tryd.func56 rfl 68 rfl rfl ?_
 have hE:=Ext.refl w
 refine gS (Yk.lenRG Lc (RG.of hr rfl) (gS (Yk.eqI (a:=(l.length:Nat)) (b:=(2:Nat)) rfl rfl (Ah _ _ _ _) ?_)))
 refine cD rfl (fun a2=> ?_) fun a2=> ?_
 ·refine gS (Yk.appendRG _ _ w.heap.size _ 32 Lc pk6_ig38.choose_spec.1 pk6_ig38.choose_spec.2 Lc ([]) (l) (RG.nilOwn _ _ _) (RG.of hr (vr v rfl)) (fun _ _=>Ai _) (by simp only[List.length_nil];omega) (by simp only[List.length_nil];omega) hE.size fun v5 w6 bm al=> ?_)
  have al:Grew w w6 (.slice none 0 0) v5:=al
  have hx_:Ext w w6:=Ext.of (by have:=al.by_;exact this)
  refine Bx rfl (vr v5 rfl) ?_
  have hE:=hE.trans hx_
  exact⟨_,l,rfl,OG.base (Bo bm (List.nil_append l)) (by omega),List.Perm.refl _,Oh a2,hE⟩
 refine gR ?_
 refine Gv [Is (v),Is (v),Is (NI l.length),Is (NI ((l.length)/(2))),fun x _=>RG 32 (Lib.byteCells) w x (l.take ((l.length)/(2))),Is (.func (.func 57) #[] #[]),fun x w' =>∃m,RG 32 Lib.byteCells w' x m∧m.Perm (l.take ((l.length)/(2)))∧Cy m,Is (v),Is (v),Is (NI l.length),Is (NI ((l.length)/(2))),fun x _=>RG 32 (Lib.byteCells) w x (l.drop ((l.length)/(2))),Is (.func (.func 57) #[] #[]),fun x w' =>∃m,RG 32 Lib.byteCells w' x m∧m.Perm (l.drop ((l.length)/(2)))∧Cy m,fun x w' =>∃m,RG 32 Lib.byteCells w' x m∧m.Perm (l.take ((l.length)/(2)))∧Cy m,fun x w' =>∃m,RG 32 Lib.byteCells w' x m∧m.Perm (l.drop ((l.length)/(2)))∧Cy m] (by kernel_rfl) [13,14,15,16,17,18,19,20,21,22,23,24,25,26,5,6] (by kernel_rfl) (by kernel_rfl) (Rq ⟨(fun _ _ _ h _=>h),Stab.is _,(fun _ _ _ ⟨m,h1,h2⟩ k=>⟨m,h1.keep k,h2⟩),(Rq ⟨(fun _ _ _ h _=>h),Stab.is _,(fun _ _ _ ⟨m,h1,h2⟩ k=>⟨m,h1.keep k,h2⟩),(fun _ _ _ ⟨m,h1,h2⟩ k=>⟨m,h1.keep k,h2⟩),(fun _ _ _ ⟨m,h1,h2⟩ k=>⟨m,h1.keep k,h2⟩),trivial⟩)⟩) ?bn ?hQ1003
 case bn=>
  refine⟨?_,?_,?_,?_,?_,?_,?_,?_,?_,?_,?_,?_,?_,?_,?_,?_,trivial⟩
  ·refine Aj rfl fun σ w1 hC h=> ?_
   have s:σ 0=v:=(AI (h 0 (by decide))).trans rfl
   exact Yk.move s ⟨Ext.refl _,rfl⟩
  ·refine Aj rfl fun σ w1 hC h=> ?_
   have s:σ 0=v:=(AI (h 0 (by decide))).trans rfl
   exact Yk.move s ⟨Ext.refl _,rfl⟩
  ·refine Aj rfl fun σ w1 hC h=> ?_
   have bo:=AI (h 14 (by decide))
   exact Yk.lenRG Lc (RG.of (hr.keep hC) bo) ⟨Ext.refl _,rfl⟩
  ·refine Aj rfl fun σ w1 hC h=> ?_
   have bp:=AI (h 15 (by decide))
   exact Yk.bin (xv:=NI l.length) (yv:=NI 2) bp rfl rfl (Cn _ _ _ (by omega) (by omega)) ⟨Ext.refl _,rfl⟩
  ·refine Aj rfl fun σ w1 hC h=> ?_
   have bq:=AI (h 13 (by decide))
   have br:=AI (h 16 (by decide))
   exact Yk.sliceHiW Lc Og bq hr br (by omega) fun v h _=>⟨Ext.refl _,h⟩
  ·refine Aj rfl fun σ w1 hC h=> ?_
   have e1:σ 1 = .func (.func 57) #[] #[]:=(AI (h 1 (by decide))).trans rfl
   exact Yk.move e1 ⟨Ext.refl _,rfl⟩
  ·refine Aj rfl fun σ w1 hC h=> ?_
   have bs:(fun x _=>RG 32 (Lib.byteCells) w x (l.take ((l.length)/(2)))) (σ 17) w1:=h 17 (by decide)
   have bt:=AI (h 18 (by decide))
   refine Yk.callA2 Iv rfl bt ((ih (l.take ((l.length)/(2))) (by have hlen_:=List.length_take_le (l.length/2) l;first | (simp only[List.length_take];omega) | (simp only[List.length_drop];omega)) _ _ (RG.keep bs hC)).mono ?_)
   rintro e w2 ⟨_,m,rfl,h1,h2,h3,h4⟩
   exact⟨_,rfl,h4,m,RG.ofOwn h1,h2,h3⟩
  ·refine Aj rfl fun σ w1 hC h=> ?_
   have s:σ 0=v:=(AI (h 0 (by decide))).trans rfl
   exact Yk.move s ⟨Ext.refl _,rfl⟩
  ·refine Aj rfl fun σ w1 hC h=> ?_
   have s:σ 0=v:=(AI (h 0 (by decide))).trans rfl
   exact Yk.move s ⟨Ext.refl _,rfl⟩
  ·refine Aj rfl fun σ w1 hC h=> ?_
   have bu:=AI (h 21 (by decide))
   exact Yk.lenRG Lc (RG.of (hr.keep hC) bu) ⟨Ext.refl _,rfl⟩
  ·refine Aj rfl fun σ w1 hC h=> ?_
   have bv:=AI (h 22 (by decide))
   exact Yk.bin (xv:=NI l.length) (yv:=NI 2) bv rfl rfl (Cn _ _ _ (by omega) (by omega)) ⟨Ext.refl _,rfl⟩
  ·refine Aj rfl fun σ w1 hC h=> ?_
   have bw:=AI (h 20 (by decide))
   have bx:=AI (h 23 (by decide))
   exact Yk.sliceLoW Lc Og bw hr bx (by omega) fun v h _=>⟨Ext.refl _,h⟩
  ·refine Aj rfl fun σ w1 hC h=> ?_
   have e1:σ 1 = .func (.func 57) #[] #[]:=(AI (h 1 (by decide))).trans rfl
   exact Yk.move e1 ⟨Ext.refl _,rfl⟩
  ·refine Aj rfl fun σ w1 hC h=> ?_
   have bz:(fun x _=>RG 32 (Lib.byteCells) w x (l.drop ((l.length)/(2)))) (σ 24) w1:=h 24 (by decide)
   have b0:=AI (h 25 (by decide))
   refine Yk.callA2 Iv rfl b0 ((ih (l.drop ((l.length)/(2))) (by have hlen_:=List.length_take_le (l.length/2) l;first | (simp only[List.length_take];omega) | (simp only[List.length_drop];omega)) _ _ (RG.keep bz hC)).mono ?_)
   rintro e w2 ⟨_,m,rfl,h1,h2,h3,h4⟩
   exact⟨_,rfl,h4,m,RG.ofOwn h1,h2,h3⟩
  ·refine Aj rfl fun σ w1 hC h=> ?_
   have b1:(fun x w' =>∃m,RG 32 Lib.byteCells w' x m∧m.Perm (l.take ((l.length)/(2)))∧Cy m) (σ 19) w1:=h 19 (by decide)
   exact Yk.assign rfl ⟨Ext.refl _,b1⟩
  ·refine Aj rfl fun σ w1 hC h=> ?_
   have b2:(fun x w' =>∃m,RG 32 Lib.byteCells w' x m∧m.Perm (l.drop ((l.length)/(2)))∧Cy m) (σ 26) w1:=h 26 (by decide)
   exact Yk.assign rfl ⟨Ext.refl _,b2⟩
 intro ab g a5 he hf
 obtain⟨-,-,-,-,-,-,-,-,-,-,-,-,-,-,k5,k6,-⟩:=hf
 obtain⟨p,q,r,-⟩:=he.hold [(0,v),(1, .func (.func 57) #[] #[]),(4,(Value.slice none 0 0))] ⟨rfl,rfl,rfl,trivial⟩ rfl
 clear he
 have k5:(fun x w' =>∃m,RG 32 Lib.byteCells w' x m∧m.Perm (l.take ((l.length)/(2)))∧Cy m) (ab 5) g:=k5
 obtain⟨b3,i⟩:∃v,ab 5=v:=⟨_,rfl⟩
 rw[i]at k5
 have b4:=k5;clear k5
 obtain⟨A,b5,b6,ha17⟩:=b4
 have k6:(fun x w' =>∃m,RG 32 Lib.byteCells w' x m∧m.Perm (l.drop ((l.length)/(2)))∧Cy m) (ab 6) g:=k6
 obtain⟨b7,j⟩:∃v,ab 6=v:=⟨_,rfl⟩
 rw[j]at k6
 have b8:=k6;clear k6
 obtain⟨B,b9,ca,ha22⟩:=b8
 have hr:=hr.keep a5
 refine gX (gS (Yk.lenRG Lc (RG.of hr p) ?_))
 have f:=Ext.refl g
 have hE:=hE.trans a5
 have t:=hE.size
 refine gS (Yk.makeG (enc:=Lib.byteCells) g.heap.size _ 32 Lc pk6_ig38.choose_spec.1 rfl rfl (by omega) (by omega) (Nat.le_refl _) fun cb c5 a6 a7=> ?_)
 have hE:=hE.trans a7
 have f:=f.trans a7
 refine gL (fun(ρ:Ae) (wz:World)=>∃va:Value,∃vb:Value,∃Al:List Bs,∃Bl:List Bs,∃Ol:List Bs,∃vo:Value,ρ 0=(v:Value)∧ρ 1=(.func (.func 57) #[] #[]:Value)∧ρ 4=((Value.slice none 0 0):Value)∧ρ 5=(va:Value)∧ρ 6=(vb:Value)∧ρ 7=(vo:Value)∧Ext w wz∧Ext g wz∧RG 32 Lib.byteCells g va Al∧RG 32 Lib.byteCells g vb Bl∧OG g.heap.size 38 32 (Lib.byteCells) wz vo Ol∧(MI l Ol Al Bl)∧True) (fun ρ _=>Be (ρ 5)+Be (ρ 6)) ⟨b3,b7,A,B,[],cb,p,q,r,i,j,rfl,hE,f,b5,b9,a6,MI.start b6 ca ha17 ha22,trivial⟩ ?_
 clear a6
 clear hE
 rintro ac a8 ⟨va,vb,Al,Bl,Ol,vo,p,q,r,i,j,o,hE,f,hfa,hfb,hfo,hMI,-⟩
 have q5:=i
 have q6:=j
 have qa:=hfa.sliceLen
 have qb:=hfb.sliceLen
 have hla:=hMI.perm.length_eq
 simp only[List.length_append]at hla
 by_cases hga:0<Al.length
 ·by_cases hgb:0<Bl.length
  ·refine gS (Yk.lenRG Lc (RG.of (hfa.keep f) i) (gS (Yk.eqI (a:=(Al.length:Nat)) (b:=(0:Nat)) rfl rfl (Av _ _ _ _) (kT (hga) (gS (Yk.lenRG Lc (RG.of (hfb.keep f) j) (gS (Yk.eqI (a:=(Bl.length:Nat)) (b:=(0:Nat)) rfl rfl (Av _ _ _ _) (kT (hgb) (gS (Yk.pickT rfl rfl (cT rfl (Bw [0,1,2,3,4,5,6,7,8] [7] [] fun c6 an=> ?_)))))))))))))
   have f:=f.trans an
   have a9:(Lib.byteCells (Al.getD (0) ([]:List UInt8))).length=32:=(RG.elem (hfa.keep f) ([]:List UInt8) (by omega))
   refine yA (Yk.atRG Lc Og (by decide) ([]:List UInt8) (RG.of (hfa.keep f) i) rfl (by omega) fun c7 ad=>(ys (Yk.loadPR (PR.of ad rfl) QJ rfl (by rw[a9];exact N2) zz) ?_))
   have ba:(Lib.byteCells (Bl.getD (0) ([]:List UInt8))).length=32:=(RG.elem (hfb.keep f) ([]:List UInt8) (by omega))
   refine yA (Yk.atRG Lc Og (by decide) ([]:List UInt8) (RG.of (hfb.keep f) j) rfl (by omega) fun c8 ae=>(ys (Yk.loadPR (PR.of ae rfl) QJ rfl (by rw[ba];exact N2) zz) (yC (Yk.clo PS (caps:= #[]) q #[AB (Al.getD (0) ([]:List UInt8)),AB (Bl.getD (0) ([]:List UInt8))] (by simp only[List.map_toArray,List.map_cons,List.map_nil,List.append_toArray,List.cons_append,List.nil_append];exact congrArg List.toArray (QE rfl rfl)) ((F5 _ (Al.getD (0) ([]:List UInt8)) (Bl.getD (0) ([]:List UInt8)) ((As (a9))) ((As (ba)))).mono ?_)))))
   rintro e c ⟨rfl,u⟩
   refine⟨_,rfl,?_⟩
   have ad:=PR.keep ad u
   have ae:=PR.keep ae u
   refine ys (Yk.eqI rfl rfl (RL _ .i64 (Lib.compareBytes (Al.getD (0) ([]:List UInt8)) (Bl.getD (0) ([]:List UInt8)):Int) ((0:Nat):Int)) zz) ?_
   clear ad
   clear ae
   refine cD rfl (fun ao=> ?_) fun ao=> ?_
   ·refine gR ?_
    have hZ1:=an.trans u
    have hfo:=hfo.keep hZ1
    have cc:∀k,Value.ownBlock vo=some k→g.heap.size≤k:=fun k hk=>(hfo.2.lt k hk).1
    have f:=f.trans u
    have hsz_:g.heap.size≤c.heap.size:=f.size
    refine DZ (Value.ownBlock vo) [5] [0] (fun m=>if m=5 then [0,2,4]else []) (fun m=>if m=5 then [0,2,4,5,8]else []) [fun x w' =>E3 g.heap.size c.heap.size 38 32 (Lib.byteCells) (Value.ownBlock vo) (Ol) x w',Is (va),fun x w' =>PR (Lib.byteCells (Al.getD (0) ([]:List UInt8))) x w',Is (AB (Al.getD (0) ([]:List UInt8))),fun x w' =>RG 32 (Lib.byteCells) w' x ([(Al.getD (0) ([]:List UInt8))]),fun x w' =>E3 g.heap.size c.heap.size 38 32 (Lib.byteCells) (Value.ownBlock vo) ((Ol)++ [(Al.getD (0) ([]:List UInt8))]) x w',Is (va),fun x _=>RG 32 (Lib.byteCells) g x (Al.drop (1)),fun x w' =>E3 g.heap.size c.heap.size 38 32 (Lib.byteCells) (Value.ownBlock vo) ((Ol)++ [(Al.getD (0) ([]:List UInt8))]) x w',fun x _=>RG 32 (Lib.byteCells) g x (Al.drop (1))] (by kernel_rfl) [47,48,49,50,51,52,53,54,7,5] (by kernel_rfl) (by kernel_rfl) (by kernel_rfl) (by kernel_rfl) (by kernel_rfl) rfl ⟨(fun _ _ _ h k=>⟨OG.keep h.1 k,h.2⟩),Stab.is _,(fun _ _ _ h k=>PR.keep h k),Stab.is _,(fun _ _ _ h k=>RG.keep h k),(fun _ _ _ h k=>⟨OG.keep h.1 k,h.2⟩),Stab.is _,(fun _ _ _ h _=>h),(fun _ _ _ h k=>⟨OG.keep h.1 k,h.2⟩),(fun _ _ _ h _=>h),trivial⟩ ⟨⟨.inl rfl, .inr (Stab.is _), .inl rfl, .inr (Stab.is _), .inl rfl, .inl rfl, .inr (Stab.is _), .inr ((fun _ _ _ h _=>h)), .inl rfl, .inr ((fun _ _ _ h _=>h)),trivial⟩,trivial⟩ ?cd ?hQ2007
    case cd=>
     refine⟨?_,?_,?_,?_,?_,?_,?_,?_,?_,?_,trivial⟩
     ·refine Aj rfl fun σ w1 hC h=> ?_
      have hX:Ext c w1:=hC
      have hC:BX c.heap.size (Value.ownBlock vo) c w1:=BX.ofExt hX (Nat.le_refl _)
      have e7:=(AI (h 7 (by decide))).trans o
      exact Yk.move e7 ⟨Ext.refl _,OG.keep hfo hX,fun k hk=> .inl hk⟩
     ·refine Aj rfl fun σ w1 hC h=> ?_
      have hC:BX c.heap.size (Value.ownBlock vo) c w1:=hC
      have e5:=(AI (h 5 (by decide))).trans i
      exact Yk.move e5 ⟨Ext.refl _,rfl⟩
     ·refine Aj rfl fun σ w1 hC h=> ?_
      have hC:BX c.heap.size (Value.ownBlock vo) c w1:=hC
      have ce:=AI (h 48 (by decide))
      exact Yk.atRG Lc Og (by decide) ([]:List UInt8) (RG.of (hfa.keep (Db f hC (by omega) (fun k hk=>by have:=cc k hk;omega))) ce) (vr (NI 0) rfl) (by omega) fun v h=>⟨Ext.refl _,h⟩
     ·refine Aj rfl fun σ w1 hC h=> ?_
      have hC:BX c.heap.size (Value.ownBlock vo) c w1:=hC
      have cf:(fun x w' =>PR (Lib.byteCells (Al.getD (0) ([]:List UInt8))) x w') (σ 49) w1:=h 49 (by decide)
      exact Yk.loadPR cf QJ rfl (by rw[RG.elem hfa ([]:List UInt8) (by omega)];exact N2) ⟨Ext.refl _,rfl⟩
     ·refine Aj rfl fun σ w1 hC h=> ?_
      have hC:BX c.heap.size (Value.ownBlock vo) c w1:=hC
      have cg:=AI (h 50 (by decide))
      exact Yk.lit1G (a:=(Al.getD (0) ([]:List UInt8))) (enc:=Lib.byteCells) cg (by rw[Lib.byteCells_length];exact(As (RG.elem hfa ([]:List UInt8) (by omega)))) Le fun v w2 h hx=>⟨hx,h⟩
     ·refine Aj rfl fun σ w1 hC h=> ?_
      have hC:BX c.heap.size (Value.ownBlock vo) c w1:=hC
      have ar:(fun x w' =>E3 g.heap.size c.heap.size 38 32 (Lib.byteCells) (Value.ownBlock vo) (Ol) x w') (σ 47) w1:=h 47 (by decide)
      have ch:(fun x w' =>RG 32 (Lib.byteCells) w' x ([(Al.getD (0) ([]:List UInt8))])) (σ 51) w1:=h 51 (by decide)
      exact Yk.appendRG _ _ g.heap.size _ 32 Lc pk6_ig38.choose_spec.1 pk6_ig38.choose_spec.2 Lc (Ol) ([(Al.getD (0) ([]:List UInt8))]) ar.1 ch (fun _ _=>Ai _) (by simp only[List.length_cons,List.length_nil];omega) (by simp only[List.length_cons,List.length_nil];omega) (Nat.le_trans hsz_ hC.size) fun v w2 ho hg=>⟨BX.ofGrown hg.by_ hC.size ar.2,ho,fun k hk=>(hg.fresh k hk).elim (ar.2 k) (fun x=> .inr (Nat.le_trans hC.size x))⟩
     ·refine Aj rfl fun σ w1 hC h=> ?_
      have hC:BX c.heap.size (Value.ownBlock vo) c w1:=hC
      have e5:=(AI (h 5 (by decide))).trans i
      exact Yk.move e5 ⟨Ext.refl _,rfl⟩
     ·refine Aj rfl fun σ w1 hC h=> ?_
      have hC:BX c.heap.size (Value.ownBlock vo) c w1:=hC
      have ci:=AI (h 53 (by decide))
      exact Yk.sliceLoW Lc Og ci hfa (vr (NI 1) rfl) (by omega) fun v h _=>⟨Ext.refl _,h⟩
     ·refine Aj rfl fun σ w1 hC h=> ?_
      have hC:BX c.heap.size (Value.ownBlock vo) c w1:=hC
      have cj:(fun x w' =>E3 g.heap.size c.heap.size 38 32 (Lib.byteCells) (Value.ownBlock vo) ((Ol)++ [(Al.getD (0) ([]:List UInt8))]) x w') (σ 52) w1:=h 52 (by decide)
      exact Yk.assign rfl ⟨Ext.refl _,cj⟩
     ·refine Aj rfl fun σ w1 hC h=> ?_
      have hC:BX c.heap.size (Value.ownBlock vo) c w1:=hC
      have ck:(fun x _=>RG 32 (Lib.byteCells) g x (Al.drop (1))) (σ 54) w1:=h 54 (by decide)
      exact Yk.assign rfl ⟨Ext.refl _,ck⟩
    intro y au cl he hf
    obtain⟨-,-,-,-,-,-,-,-,k7,k5,-⟩:=hf
    obtain⟨p,q,r,j,cm,-⟩:=he.hold [(0,_),(1,_),(4,_),(6,_),(37, .bool (true))] ⟨p,q,r,j,rfl,trivial⟩ rfl
    clear he
    have k7:(fun x w' =>E3 g.heap.size c.heap.size 38 32 (Lib.byteCells) (Value.ownBlock vo) ((Ol)++ [(Al.getD (0) ([]:List UInt8))]) x w') (y 7) au:=k7
    obtain⟨bb,o⟩:∃v,y 7=v:=⟨_,rfl⟩
    rw[o]at k7
    have bc:Grew c au vo bb:=⟨cl.grown,k7.2⟩
    have cn:=k7.1;clear k7
    have hE:=hE.trans hZ1
    have hE:=Af hE bc hfo.2 t
    have f:=Af f bc hfo.2 (Nat.le_refl _)
    clear hfo
    have k5:(fun x _=>RG 32 (Lib.byteCells) g x (Al.drop (1))) (y 5) au:=k5
    obtain⟨co,i⟩:∃v,y 5=v:=⟨_,rfl⟩
    rw[i]at k5
    have bd:=k5;clear k5
    refine gX (gK (And.intro ⟨co,vb,Al.drop (1),Bl,(Ol)++ [(Al.getD (0) ([]:List UInt8))],bb,p,q,r,i,j,o,hE,f,bd,hfb,cn,hMI.left (by omega) (by omega) ao,trivial⟩ ?_))
    show Be (y 5)+Be (y 6)<Be (ac 5)+Be (ac 6)
    rw[i,j,q5,q6]
    have n5:=bd.sliceLen
    have n6:=hfb.sliceLen
    try rw[n5]
    try rw[n6]
    try rw[qa]
    try rw[qb]
    simp only[List.length_drop]
    omega
   refine gR ?_
   have hZ2:=an.trans u
   have hfo:=hfo.keep hZ2
   have cp:∀k,Value.ownBlock vo=some k→g.heap.size≤k:=fun k hk=>(hfo.2.lt k hk).1
   have f:=f.trans u
   have hsz_:g.heap.size≤c.heap.size:=f.size
   refine DZ (Value.ownBlock vo) [5] [0] (fun m=>if m=5 then [0,2,4]else []) (fun m=>if m=5 then [0,2,4,5,8]else []) [fun x w' =>E3 g.heap.size c.heap.size 38 32 (Lib.byteCells) (Value.ownBlock vo) (Ol) x w',Is (vb),fun x w' =>PR (Lib.byteCells (Bl.getD (0) ([]:List UInt8))) x w',Is (AB (Bl.getD (0) ([]:List UInt8))),fun x w' =>RG 32 (Lib.byteCells) w' x ([(Bl.getD (0) ([]:List UInt8))]),fun x w' =>E3 g.heap.size c.heap.size 38 32 (Lib.byteCells) (Value.ownBlock vo) ((Ol)++ [(Bl.getD (0) ([]:List UInt8))]) x w',Is (vb),fun x _=>RG 32 (Lib.byteCells) g x (Bl.drop (1)),fun x w' =>E3 g.heap.size c.heap.size 38 32 (Lib.byteCells) (Value.ownBlock vo) ((Ol)++ [(Bl.getD (0) ([]:List UInt8))]) x w',fun x _=>RG 32 (Lib.byteCells) g x (Bl.drop (1))] (by kernel_rfl) [55,56,57,58,59,60,61,62,7,6] (by kernel_rfl) (by kernel_rfl) (by kernel_rfl) (by kernel_rfl) (by kernel_rfl) rfl ⟨(fun _ _ _ h k=>⟨OG.keep h.1 k,h.2⟩),Stab.is _,(fun _ _ _ h k=>PR.keep h k),Stab.is _,(fun _ _ _ h k=>RG.keep h k),(fun _ _ _ h k=>⟨OG.keep h.1 k,h.2⟩),Stab.is _,(fun _ _ _ h _=>h),(fun _ _ _ h k=>⟨OG.keep h.1 k,h.2⟩),(fun _ _ _ h _=>h),trivial⟩ ⟨⟨.inl rfl, .inr (Stab.is _), .inl rfl, .inr (Stab.is _), .inl rfl, .inl rfl, .inr (Stab.is _), .inr ((fun _ _ _ h _=>h)), .inl rfl, .inr ((fun _ _ _ h _=>h)),trivial⟩,trivial⟩ ?cq ?hQ3008
   case cq=>
    refine⟨?_,?_,?_,?_,?_,?_,?_,?_,?_,?_,trivial⟩
    ·refine Aj rfl fun σ w1 hC h=> ?_
     have hX:Ext c w1:=hC
     have hC:BX c.heap.size (Value.ownBlock vo) c w1:=BX.ofExt hX (Nat.le_refl _)
     have e7:=(AI (h 7 (by decide))).trans o
     exact Yk.move e7 ⟨Ext.refl _,OG.keep hfo hX,fun k hk=> .inl hk⟩
    ·refine Aj rfl fun σ w1 hC h=> ?_
     have hC:BX c.heap.size (Value.ownBlock vo) c w1:=hC
     have e6:=(AI (h 6 (by decide))).trans j
     exact Yk.move e6 ⟨Ext.refl _,rfl⟩
    ·refine Aj rfl fun σ w1 hC h=> ?_
     have hC:BX c.heap.size (Value.ownBlock vo) c w1:=hC
     have cr:=AI (h 56 (by decide))
     exact Yk.atRG Lc Og (by decide) ([]:List UInt8) (RG.of (hfb.keep (Db f hC (by omega) (fun k hk=>by have:=cp k hk;omega))) cr) (vr (NI 0) rfl) (by omega) fun v h=>⟨Ext.refl _,h⟩
    ·refine Aj rfl fun σ w1 hC h=> ?_
     have hC:BX c.heap.size (Value.ownBlock vo) c w1:=hC
     have cs:(fun x w' =>PR (Lib.byteCells (Bl.getD (0) ([]:List UInt8))) x w') (σ 57) w1:=h 57 (by decide)
     exact Yk.loadPR cs QJ rfl (by rw[RG.elem hfb ([]:List UInt8) (by omega)];exact N2) ⟨Ext.refl _,rfl⟩
    ·refine Aj rfl fun σ w1 hC h=> ?_
     have hC:BX c.heap.size (Value.ownBlock vo) c w1:=hC
     have ct:=AI (h 58 (by decide))
     exact Yk.lit1G (a:=(Bl.getD (0) ([]:List UInt8))) (enc:=Lib.byteCells) ct (by rw[Lib.byteCells_length];exact(As (RG.elem hfb ([]:List UInt8) (by omega)))) Le fun v w2 h hx=>⟨hx,h⟩
    ·refine Aj rfl fun σ w1 hC h=> ?_
     have hC:BX c.heap.size (Value.ownBlock vo) c w1:=hC
     have ay:(fun x w' =>E3 g.heap.size c.heap.size 38 32 (Lib.byteCells) (Value.ownBlock vo) (Ol) x w') (σ 55) w1:=h 55 (by decide)
     have cu:(fun x w' =>RG 32 (Lib.byteCells) w' x ([(Bl.getD (0) ([]:List UInt8))])) (σ 59) w1:=h 59 (by decide)
     exact Yk.appendRG _ _ g.heap.size _ 32 Lc pk6_ig38.choose_spec.1 pk6_ig38.choose_spec.2 Lc (Ol) ([(Bl.getD (0) ([]:List UInt8))]) ay.1 cu (fun _ _=>Ai _) (by simp only[List.length_cons,List.length_nil];omega) (by simp only[List.length_cons,List.length_nil];omega) (Nat.le_trans hsz_ hC.size) fun v w2 ho hg=>⟨BX.ofGrown hg.by_ hC.size ay.2,ho,fun k hk=>(hg.fresh k hk).elim (ay.2 k) (fun x=> .inr (Nat.le_trans hC.size x))⟩
    ·refine Aj rfl fun σ w1 hC h=> ?_
     have hC:BX c.heap.size (Value.ownBlock vo) c w1:=hC
     have e6:=(AI (h 6 (by decide))).trans j
     exact Yk.move e6 ⟨Ext.refl _,rfl⟩
    ·refine Aj rfl fun σ w1 hC h=> ?_
     have hC:BX c.heap.size (Value.ownBlock vo) c w1:=hC
     have cv:=AI (h 61 (by decide))
     exact Yk.sliceLoW Lc Og cv hfb (vr (NI 1) rfl) (by omega) fun v h _=>⟨Ext.refl _,h⟩
    ·refine Aj rfl fun σ w1 hC h=> ?_
     have hC:BX c.heap.size (Value.ownBlock vo) c w1:=hC
     have cw:(fun x w' =>E3 g.heap.size c.heap.size 38 32 (Lib.byteCells) (Value.ownBlock vo) ((Ol)++ [(Bl.getD (0) ([]:List UInt8))]) x w') (σ 60) w1:=h 60 (by decide)
     exact Yk.assign rfl ⟨Ext.refl _,cw⟩
    ·refine Aj rfl fun σ w1 hC h=> ?_
     have hC:BX c.heap.size (Value.ownBlock vo) c w1:=hC
     have cx:(fun x _=>RG 32 (Lib.byteCells) g x (Bl.drop (1))) (σ 62) w1:=h 62 (by decide)
     exact Yk.assign rfl ⟨Ext.refl _,cx⟩
   intro z az cy he hf
   obtain⟨-,-,-,-,-,-,-,-,k7,k6,-⟩:=hf
   obtain⟨p,q,r,i,cm,-⟩:=he.hold [(0,_),(1,_),(4,_),(5,_),(37, .bool (true))] ⟨p,q,r,i,rfl,trivial⟩ rfl
   clear he
   have k7:(fun x w' =>E3 g.heap.size c.heap.size 38 32 (Lib.byteCells) (Value.ownBlock vo) ((Ol)++ [(Bl.getD (0) ([]:List UInt8))]) x w') (z 7) az:=k7
   obtain⟨be,o⟩:∃v,z 7=v:=⟨_,rfl⟩
   rw[o]at k7
   have bf:Grew c az vo be:=⟨cy.grown,k7.2⟩
   have cz:=k7.1;clear k7
   have hE:=hE.trans hZ2
   have hE:=Af hE bf hfo.2 t
   have f:=Af f bf hfo.2 (Nat.le_refl _)
   clear hfo
   have k6:(fun x _=>RG 32 (Lib.byteCells) g x (Bl.drop (1))) (z 6) az:=k6
   obtain⟨c0,j⟩:∃v,z 6=v:=⟨_,rfl⟩
   rw[j]at k6
   have bg:=k6;clear k6
   refine gX (gK (And.intro ⟨va,c0,Al,Bl.drop (1),(Ol)++ [(Bl.getD (0) ([]:List UInt8))],be,p,q,r,i,j,o,hE,f,hfa,bg,cz,hMI.right (by omega) (by omega) ao,trivial⟩ ?_))
   show Be (z 5)+Be (z 6)<Be (ac 5)+Be (ac 6)
   rw[i,j,q5,q6]
   have n5:=hfa.sliceLen
   have n6:=bg.sliceLen
   try rw[n5]
   try rw[n6]
   try rw[qa]
   try rw[qb]
   simp only[List.length_drop]
   omega
  refine gS (Yk.lenRG Lc (RG.of (hfa.keep f) i) (gS (Yk.eqI (a:=(Al.length:Nat)) (b:=(0:Nat)) rfl rfl (Av _ _ _ _) (kT (hga) (gS (Yk.lenRG Lc (RG.of (hfb.keep f) j) (gS (Yk.eqI (a:=(Bl.length:Nat)) (b:=(0:Nat)) rfl rfl (Av _ _ _ _) (kF (hgb) (gS (Yk.pickT rfl rfl (cF rfl (gS (Yk.appendRG _ _ g.heap.size _ 32 Lc pk6_ig38.choose_spec.1 pk6_ig38.choose_spec.2 Lc (Ol) (Al) (OG.of hfo o) (RG.of (hfa.keep f) i) (fun _ _=>Ai _) (by omega) (by omega) f.size fun a0 bh af ag=> ?_))))))))))))))
  have ag:Grew a8 bh vo a0:= .eqv o ag
  have hE:=Af hE ag hfo.2 t
  have f:=Af f ag hfo.2 (Nat.le_refl _)
  clear hfo
  refine gS (Yk.appendRG _ _ g.heap.size _ 32 Lc pk6_ig38.choose_spec.1 pk6_ig38.choose_spec.2 Lc ((Ol)++Al) (Bl) (OG.of af (vr a0 rfl)) (RG.of (hfb.keep f) j) (fun _ _=>Ai _) (by simp only[List.length_append];omega) (by simp only[List.length_append];omega) f.size fun bi c1 c2 ah=> ?_)
  have ah:Grew bh c1 a0 bi:=ah
  have hE:=Af hE ah af.2 t
  have f:=Af f ah af.2 (Nat.le_refl _)
  clear af
  refine Bx rfl (vr bi rfl) ?_
  obtain⟨hpm,hasc⟩:=hMI.done (by omega)
  exact⟨_,_,rfl,OG.base c2 (by omega),hpm,hasc,hE⟩
 refine gS (Yk.lenRG Lc (RG.of (hfa.keep f) i) (gS (Yk.eqI (a:=(Al.length:Nat)) (b:=(0:Nat)) rfl rfl (Av _ _ _ _) (kF (hga) (gS (Yk.pickF rfl rfl (cF rfl (gS (Yk.appendRG _ _ g.heap.size _ 32 Lc pk6_ig38.choose_spec.1 pk6_ig38.choose_spec.2 Lc (Ol) (Al) (OG.of hfo o) (RG.of (hfa.keep f) i) (fun _ _=>Ai _) (by omega) (by omega) f.size fun a1 bj ai aj=> ?_)))))))))
 have aj:Grew a8 bj vo a1:= .eqv o aj
 have hE:=Af hE aj hfo.2 t
 have f:=Af f aj hfo.2 (Nat.le_refl _)
 clear hfo
 refine gS (Yk.appendRG _ _ g.heap.size _ 32 Lc pk6_ig38.choose_spec.1 pk6_ig38.choose_spec.2 Lc ((Ol)++Al) (Bl) (OG.of ai (vr a1 rfl)) (RG.of (hfb.keep f) j) (fun _ _=>Ai _) (by simp only[List.length_append];omega) (by simp only[List.length_append];omega) f.size fun bk c3 c4 ak=> ?_)
 have ak:Grew bj c3 a1 bk:=ak
 have hE:=Af hE ak ai.2 t
 have f:=Af f ak ai.2 (Nat.le_refl _)
 clear ai
 refine Bx rfl (vr bk rfl) ?_
 obtain⟨hpm,hasc⟩:=hMI.done (by omega)
 exact⟨_,_,rfl,OG.base c4 (by omega),hpm,hasc,hE⟩

theorem Oi:∀(n:Nat) (l:List Bs),l.length=n→l.length≤1048576→∀(w:World) (v:Value),RG 32 Lib.byteCells w v l→Calls Tryd.prog 56 #[v, .func (.func 57) #[] #[]] w fun e w' =>∃v' m,e = .returned v' ∧OG w.heap.size 38 32 Lib.byteCells w' v' m∧m.Perm l∧Cy m∧Ext w w' :=by
 intro n
 induction n using Nat.strongRecOn with
 | _ n ih=>exact fun l hn hlim w v hr=>Na n (fun l' hl w v hr=>ih l'.length hl l' rfl (by omega) w v hr) l hn hlim w v hr

theorem PU(w:World)(v:Value)(l:List Bs)(hlim:l.length≤1048576)(hr:RG 32 Lib.byteCells w v l):
  Calls Tryd.prog 28 #[v] w fun e w' =>∃v',e = .returned v' ∧OG w.heap.size 38 32 Lib.byteCells w' v' (Ar l)∧Ext w w' :=by
 refine gG (args:= [v]) Tryd.func28 rfl 5 rfl rfl ?_
 have hE:=Ext.refl w
 refine gS (Yk.callA2 Iv rfl rfl ((Oi _ l rfl hlim _ v hr).mono ?_))
 rintro e g ⟨a,m4,rfl,b,c,ha7,f⟩
 refine⟨_,rfl,?_⟩
 have hms:=JJ ha7 c
 subst hms
 refine Bx rfl (vr a rfl) ?_
 have hE:=hE.trans f
 exact⟨_,rfl,b,hE⟩
open Go.RowKit
set_option maxHeartbeats 400000 in
theorem C5(w:World)(B:Nat)(v:Value)(l:List UInt8)(hown:w.ownsRow B 5 1 v l.length (Lib.byteCells l))(hB:B≤w.heap.size)(n:Nat)(hn:n≤9223372036854775807)(hl:l.length+16≤140737488355328):
    Calls Tryd.prog 52 #[v, .int .i64 n] w fun e w' =>∃v',e = .returned v' ∧w'.ownsRow B 5 1 v' (l++Lib.uvarint n).length (Lib.byteCells (l++Lib.uvarint n))∧Grew w w' v v' :=by
  obtain⟨i0,hi,a,b,c⟩:=info_parts IP
  have h9:=A8 n (by omega)
  go_enter Tryd.func52,Tryd.ntmps52
  go_wp2_with fail
  refine(Mx w (.slice none 0 0) [] (RB.nil w) (by simp) n hn).mono ?_
  rintro e w1 ⟨f,rfl,h1⟩
  have g:w1.ownsRow B 5 1 v l.length (Lib.byteCells l):=Stab.own _ _ _ _ _ _ _ _ hown h1.ext
  have hs:=h1.rb.src EX
  have hE:=h1.ext
  rw[List.nil_append]at hs
  have hz:=h1.ext.size
  go_wp2_with (at_builtin;refine Cj _ rfl _ _ 24 24 rfl B 5 i0 (.int .u8 0) 1 1 EX hi a b c rfl _ _ _ rfl g f _ _ rfl hs ?c1 ?c2 ?c3 ?_)
  case c1=>unfold maxLen;omega
  case c2=>omega
  case c3=>omega
  intro v' h hown' hgrow
  go_wp2
  go_ret
  exact⟨v',rfl,by rw[List.length_append,Lib.byteCells_append];exact hown',Grew.after hE hgrow⟩
def Cu:List UInt8→List UInt8→Nat
  | a :: u,b :: z=>if a=b then Cu u z+1 else 0
  | _,_=>0
theorem PV{a b:List UInt8}{i:Nat}(h1:i<a.length)(h2:i<b.length)(h:a.getD i 0=b.getD i 0):Cu (a.drop i) (b.drop i)=Cu (a.drop (i+1)) (b.drop (i+1))+1:=by
  rw[List.drop_eq_getElem_cons h1,List.drop_eq_getElem_cons h2]
  rw[Cu,if_pos (by simpa [List.getD,h1,h2] using h)]
theorem Ry{a b:List UInt8}{i:Nat}(h1:i<a.length)(h2:i<b.length)(h:a.getD i 0≠b.getD i 0):Cu (a.drop i) (b.drop i)=0:=by
  rw[List.drop_eq_getElem_cons h1,List.drop_eq_getElem_cons h2]
  unfold Cu
  rw[if_neg (by simpa [List.getD,h1,h2] using h)]
theorem PW{a b:List UInt8}{i:Nat}(h:a.length≤i):Cu (a.drop i) (b.drop i)=0:=by
  rw[List.drop_of_length_le h]
  unfold Cu
  rfl
theorem PX{a b:List UInt8}{i:Nat}(h:b.length≤i):Cu (a.drop i) (b.drop i)=0:=by
  rw[List.drop_of_length_le h]
  cases a.drop i <;> rfl
theorem IS:∀a b:List UInt8,Cu a b≤a.length∧Cu a b≤b.length
  | [],b=>by simp[Cu]
  | a :: u,[]=>by simp[Cu]
  | a :: u,b :: z=>by
    unfold Cu
    have:=IS u z
    split <;> simp <;> omega
theorem KK(w:World)(v:Value)(l:List UInt8)(hr:RB w v l)(a:Nat)(ha:a≤l.length)(h:Ax 0 (l.drop a)=none):
    Calls Tryd.prog 63 #[v, .int .i64 a] w fun e w' =>e = .returned (.tuple #[.int .i64 0, .int .i64 0, .int .i64 6])∧Ext w w' :=
  (Eb w v l hr a ha).mono fun e w' ⟨h1,h2⟩=>by
    rw[h]at h1
    exact⟨h1,h2▸Ext.refl w⟩
theorem Hi(w:World)(v:Value)(l:List UInt8)(hr:RB w v l)(a:Nat)(ha:a≤l.length)(x k:Nat)(h:Ax 0 (l.drop a)=some (x,k)):
    Calls Tryd.prog 63 #[v, .int .i64 a] w fun e w' =>e = .returned (.tuple #[.int .i64 (x:Nat), .int .i64 ((a+k:Nat):Int), .int .i64 0])∧Ext w w' :=
  (Eb w v l hr a ha).mono fun e w' ⟨h1,h2⟩=>by
    rw[h]at h1
    exact⟨h1,h2▸Ext.refl w⟩
theorem Bj{l:List UInt8}{a x k:Nat}(ha:a≤l.length)(h:Ax 0 (l.drop a)=some (x,k)):x<9223372036854775808∧a+k≤l.length∧1≤k:=by
  have h1:=GA _ _ _ h
  have h2:=He _ _ _ h
  have h3:k≤9:=by have:=h1.2.2;simp at this;omega
  have h4:128^k≤128^9:=Nat.pow_le_pow_right (by decide) h3
  have h5:=h1.2.1
  rw[List.length_drop]at h5
  exact⟨Nat.lt_of_lt_of_le h2 h4,by omega,h1.1⟩
open Go.RowKit
set_option maxRecDepth 100000
theorem Nb(w:World)(va vb:Value)(a b:List UInt8)(hra:RB w va a)(hrb:RB w vb b)(hal:a.length≤4611686018427387904):
  Calls Tryd.prog 55 #[va,vb] w fun e w' =>e = .returned (NI (Cu a b))∧Ext w w' :=by
 refine gG (args:= [va,vb]) Tryd.func55 rfl 30 rfl rfl ?_
 have hE:=Ext.refl w
 refine gL (fun(ρ:Ae) (wz:World)=>∃i:Nat,ρ 0=(va:Value)∧ρ 1=(vb:Value)∧ρ 4=(NI 0:Value)∧ρ 5=(NI i:Value)∧Ext w wz∧(i≤a.length)∧(i≤b.length)∧(Cu a b=i+Cu (a.drop i) (b.drop i))∧True) (fun ρ _=>a.length-(intOf (ρ 5)).toNat) ⟨0,rfl,rfl,rfl,rfl,hE,Nat.zero_le _,Nat.zero_le _,by simp,trivial⟩ ?_
 clear hE
 rintro p v ⟨i,f,g,q,c,hE,hia,hib,hlc,-⟩
 have q5:=c
 by_cases h1:i<a.length
 ·by_cases h2:i<b.length
  ·by_cases h3:a.getD i 0=b.getD i 0
   ·refine Bw [0,1,2,3,4,5,6,7,8,9,10,11,12,13,14,15,16,17,18,19,20] [] [] fun x r=> ?_
    have hE:=hE.trans r
    refine ys (Yk.lenRB EX (RB.of (hra.keep hE) f) zz) (ys (Yk.eqI (a:=(i:Nat)) (b:=(a.length:Nat)) c rfl (Ah _ _ _ _) zz) (kT (h1) (ys (Yk.lenRB EX (RB.of (hrb.keep hE) g) zz) (ys (Yk.eqI (a:=(i:Nat)) (b:=(b.length:Nat)) c rfl (Ah _ _ _ _) zz) (kT (h2) (ys (Yk.pickT rfl rfl zz) (yA (Yk.atRB (l:=a) (i:=i) EX M4 (RB.of (hra.keep hE) f) c (h1) fun y k=>(ys (Yk.loadC u5 rfl (PCell.of k rfl) zz) (yA (Yk.atRB (l:=b) (i:=i) EX M4 (RB.of (hrb.keep hE) g) c (h2) fun z m=>(ys (Yk.loadC u5 rfl (PCell.of m rfl) zz) (ys (Yk.eqI (a:=((a.getD (i) 0).toNat:Nat)) (b:=((b.getD (i) 0).toNat:Nat)) rfl rfl (AO _ _ _ _) zz) (kT (congrArg UInt8.toNat h3) (ys (Yk.pickT rfl rfl zz) ?_)))))))))))))))
    clear k
    clear m
    refine cT rfl (gS (Yk.bin (xv:=NI i) (yv:=NI 1) c rfl rfl (Ac _ _ _ (by omega)) (gK (And.intro ⟨i+1,f,g,q,rfl,hE,by omega,by omega,by rw[hlc,PV h1 h2 h3];omega,trivial⟩ ?_))))
    show a.length-(intOf (NI ((i)+(1)))).toNat<a.length-(intOf (p 5)).toNat
    rw[q5]
    simp only[intOf,Int.toNat_natCast];omega
   have j:=Ry h1 h2 h3
   refine Bw [0,1,2,3,4,5,6,7,8,9,10,11,12,13,14,15,16,17,18,19,20] [] [] fun aa s=> ?_
   have hE:=hE.trans s
   refine ys (Yk.lenRB EX (RB.of (hra.keep hE) f) zz) (ys (Yk.eqI (a:=(i:Nat)) (b:=(a.length:Nat)) c rfl (Ah _ _ _ _) zz) (kT (h1) (ys (Yk.lenRB EX (RB.of (hrb.keep hE) g) zz) (ys (Yk.eqI (a:=(i:Nat)) (b:=(b.length:Nat)) c rfl (Ah _ _ _ _) zz) (kT (h2) (ys (Yk.pickT rfl rfl zz) (yA (Yk.atRB (l:=a) (i:=i) EX M4 (RB.of (hra.keep hE) f) c (h1) fun ab n=>(ys (Yk.loadC u5 rfl (PCell.of n rfl) zz) (yA (Yk.atRB (l:=b) (i:=i) EX M4 (RB.of (hrb.keep hE) g) c (h2) fun ac o=>(ys (Yk.loadC u5 rfl (PCell.of o rfl) zz) (ys (Yk.eqI (a:=((a.getD (i) 0).toNat:Nat)) (b:=((b.getD (i) 0).toNat:Nat)) rfl rfl (AO _ _ _ _) zz) (kF (fun h=>h3 (UInt8.toNat_inj.1 h)) (ys (Yk.pickT rfl rfl zz) ?_)))))))))))))))
   clear n
   clear o
   refine cF rfl (Bx rfl c ?_)
   rw[hlc,j]
   exact⟨rfl,hE⟩
  have j:=PX (a:=a) (i:=i) (b:=b) (by omega)
  refine Bw [0,1,2,3,4,5,6,7,8,9,10,11,12,13,14,15,16,17,18,19,20] [] [] fun ad t=> ?_
  have hE:=hE.trans t
  refine ys (Yk.lenRB EX (RB.of (hra.keep hE) f) zz) (ys (Yk.eqI (a:=(i:Nat)) (b:=(a.length:Nat)) c rfl (Ah _ _ _ _) zz) (kT (h1) (ys (Yk.lenRB EX (RB.of (hrb.keep hE) g) zz) (ys (Yk.eqI (a:=(i:Nat)) (b:=(b.length:Nat)) c rfl (Ah _ _ _ _) zz) (kF (by omega) (ys (Yk.pickT rfl rfl zz) (ys (Yk.pickF rfl rfl zz) (cF rfl (Bx rfl c ?_)))))))))
  rw[hlc,j]
  exact⟨rfl,hE⟩
 have j:=PW (a:=a) (i:=i) (b:=b) (by omega)
 refine Bw [0,1,2,3,4,5,6,7,8,9,10,11,12,13,14,15,16,17,18,19,20] [] [] fun ae u=> ?_
 have hE:=hE.trans u
 refine ys (Yk.lenRB EX (RB.of (hra.keep hE) f) zz) (ys (Yk.eqI (a:=(i:Nat)) (b:=(a.length:Nat)) c rfl (Ah _ _ _ _) zz) (kF (by omega) (ys (Yk.pickF rfl rfl zz) (ys (Yk.pickF rfl rfl zz) (cF rfl (Bx rfl c ?_))))))
 rw[hlc,j]
 exact⟨rfl,hE⟩
end Go.Proofs.YtcegdjpdnlaleaaDoor
