/- Part 6 of what stands behind these statements: laws and walks of the functions that are reached. Conditions: those that each theorem names. -/
import Derived.Test.YtcegdjpdnlaleaaDoorO5
set_option linter.unusedVariables false
set_option linter.unusedSimpArgs false
namespace Go.Proofs.YtcegdjpdnlaleaaDoor
open Go.RowKit
theorem Kd:∀ {l:List Nat} {F:Bs} (_:F.length=4*l.length),l.flatMap Az=F↔∀i,i<l.length→Az (l.getD i 0)=(F.drop (4*i)).take 4
  | [],F,h=>by
    have:F= []:=List.eq_nil_of_length_eq_zero h
    subst this
    exact⟨fun _ i hi=>absurd hi (Nat.not_lt_zero _),fun _=>rfl⟩
  | a :: l,F,h=>by
    rw[List.length_cons]at h
    have ih:=Kd (l:=l) (F:=F.drop 4) (by rw[List.length_drop];omega)
    have b:(F.take 4).length=4:=by rw[List.length_take];omega
    rw[List.flatMap_cons]
    constructor
    · intro e i hi
      have e:=e.trans (List.take_append_drop 4 F).symm
      obtain⟨c,f⟩:=List.append_inj e (by rw[CM,b])
      cases i with
      | zero=>rw[Nat.mul_zero,List.drop_zero];exact c
      | succ i=>
        have:=ih.1 f i (by rw[List.length_cons]at hi;omega)
        rw[List.drop_drop]at this
        rw[List.getD_cons_succ,this,Nat.mul_succ,Nat.add_comm]
    · intro e
      have h0:=e 0 (by rw[List.length_cons];omega)
      rw[Nat.mul_zero,List.drop_zero]at h0
      have h1:=ih.2 fun i hi=>by
        have:=e (i+1) (by rw[List.length_cons];omega)
        rw[List.getD_cons_succ]at this
        rw[this,List.drop_drop,Nat.mul_succ,Nat.add_comm]
      have h0:Az a=F.take 4:=h0
      rw[h0,h1,List.take_append_drop]
theorem Qr{y:Bs}{x:Nat}(hy:4≤y.length)(hx:x<2^32):Az x=y.take 4↔BI y=x:=by
  constructor
  · intro e
    have:=Fe x hx (y.drop 4)
    rwa [e,List.take_append_drop]at this
  · intro e
    rw[←e]
    exact fourP_numP y hy
theorem fan_iff{b:Bs}{f:Nat}{ids:List Bs}(hl:f+1024≤b.length)(hs:ids.length<2^32):(AK ids).flatMap Az=(b.drop f).take 1024↔Js b f ids=true:=by
  have h256:(AK ids).length=256:=by unfold AK;rw[List.length_map,List.length_range]
  have hv:∀i,i<256→(AK ids).getD i 0<2^32:=fun i hi=>by
    have hm:=getD_mem (l:=AK ids) 0 (by rw[h256];exact hi)
    unfold AK at hm
    obtain⟨c,_,hc⟩:=List.mem_map.1 hm
    unfold AK
    rw[←hc]
    exact Nat.lt_of_le_of_lt List.countP_le_length hs
  rw[Kd (by rw[h256,List.length_take,List.length_drop];omega),h256]
  have key:∀i,i<256→(Az ((AK ids).getD i 0)=(((b.drop f).take 1024).drop (4*i)).take 4↔BI (b.drop (f+4*i))=(AK ids).getD i 0):=fun i hi=>by
    rw[List.drop_take,List.drop_drop,List.take_take,show min 4 (1024-4*i)=4 by omega]
    exact Qr (by rw[List.length_drop];omega) (hv i hi)
  exact⟨fun h=>fanB_of fun i hi=>(key i hi).1 (h i hi),fun h i hi=>(key i hi).2 (MJ h hi)⟩
theorem RxRel.row{t:Bs}{es:List Ent}{n:Nat}{s:B2}{x:IxS Ent}(R:RxRel t es n s x)(ht:t.length=36*n){k:Nat}(hk:k<n):DA s.ids s.pl (s.ids.getD k [])=(t.drop (36*k)).take 36:=by
  have hp:Gt s.ids s.pl (s.ids.getD k [])=s.pl.getD k 0:=by
    unfold Gt
    rw[CC s.ids s.pl k _ (s.pl.getD k 0) (Dx R.asc) (Cv [] (by rw[R.li];exact hk)) (Cv 0 (by rw[R.lp];exact hk))]
    rfl
  obtain⟨h1,h2⟩:=R.rid k hk
  unfold DA
  rw[hp,h2,h1]
  unfold AX Bh
  rw[fourP_numP _ (by rw[List.length_drop,List.length_drop,ht];omega),←List.take_add]
theorem RxRel.rows{t:Bs}{es:List Ent}{n:Nat}{s:B2}{x:IxS Ent}(R:RxRel t es n s x)(ht:t.length=36*n):∀k,k≤n→(s.ids.take k).flatMap (DA s.ids s.pl)=t.take (36*k)
  | 0,_=>rfl
  | k+1,hk=>by
    rw[HJ _ (by rw[R.li];omega),R.rows ht k (by omega),R.row ht (by omega),Nat.mul_succ,List.take_add]
theorem RxRel.behind{b:Bs}{f n:Nat}{es:List Ent}{s:B2}{x:IxS Ent}(R:RxRel ((b.drop (f+1024)).take (b.length-36-(f+1024))) es n s x)(hb:f+1024+36*n+36=b.length)(hf:f=BI (b.drop (b.length-36)))(hn:n<2^32):
    behindR s.ids s.pl f=(b.take (b.length-32)).drop f↔Js b f s.ids=true:=by
  have ht:((b.drop (f+1024)).take (b.length-36-(f+1024))).length=36*n:=by rw[List.length_take,List.length_drop];omega
  have hrows:=R.rows ht n (Nat.le_refl _)
  rw[List.take_of_length_le (by rw[R.li];exact Nat.le_refl _),List.take_of_length_le (by rw[ht];exact Nat.le_refl _)]at hrows
  have hz:Az f=(b.drop (b.length-36)).take 4:=by
    have:=fourP_numP (b.drop (b.length-36)) (by rw[List.length_drop];omega)
    rwa [←hf]at this
  have hreg:(b.take (b.length-32)).drop f=(b.drop f).take 1024++(b.drop (f+1024)).take (b.length-36-(f+1024))++(b.drop (b.length-36)).take 4:=by
    rw[List.drop_take,show b.length-32-f=1024+(b.length-36-(f+1024))+4 by omega,List.take_add,List.take_add,List.drop_drop,List.drop_drop,show f+(1024+(b.length-36-(f+1024)))=b.length-36 by omega]
  rw[←fan_iff (by omega) (by rw[R.li];exact hn),hreg]
  unfold behindR
  rw[NF R.asc,hrows,hz]
  exact⟨fun h=>List.append_cancel_right (List.append_cancel_right h),fun h=>by rw[h]⟩
theorem Ih{α:Type}:∀ {l m:List α},l.Nodup→(∀x∈l,x∈m)→m.length≤l.length→∀x∈m,x∈l
  | [],m,_,_,h,x,hx=>by
    have:m= []:=List.eq_nil_of_length_eq_zero (Nat.le_zero.1 h)
    rw[this]at hx;cases hx
  | a :: l,m,hn,hs,h,x,hx=>by
    classical
    obtain⟨b,c⟩:=List.nodup_cons.1 hn
    by_cases e:x=a
    · exact e▸List.mem_cons_self
    · have ha:=hs a List.mem_cons_self
      refine List.mem_cons_of_mem _ (Ih (m:=m.erase a) c (fun y hy=> ?_) ?_ x ((List.mem_erase_of_ne e).2 hx))
      · exact(List.mem_erase_of_ne (fun f=>b (by rw[←f];exact hy))).2 (hs y (List.mem_cons_of_mem _ hy))
      · rw[List.length_erase_of_mem ha]
        rw[List.length_cons]at h
        omega
theorem RxRel.cover{t:Bs}{es:List Ent}{n:Nat}{s:B2}{x:IxS Ent}(R:RxRel t es n s x)(hn:es.length=n):∀e∈es,e∈s.en:=by
  refine Ih ?_ R.mem (by rw[R.le,hn];exact Nat.le_refl _)
  have hm:s.en.map Ent.pos=s.pl:=by
    refine List.ext_getElem (by rw[List.length_map,R.le,R.lp]) fun j h1 h2=> ?_
    rw[List.length_map]at h1
    have:=R.pos j (by rw[←R.le];exact h1)
    rw[List.getD_eq_getElem?_getD,List.getElem?_eq_getElem h1,List.getD_eq_getElem?_getD,List.getElem?_eq_getElem h2]at this
    rw[List.getElem_map]
    exact this
  have:=R.nd
  rw[←hm]at this
  exact List.Pairwise.of_map _ (fun a b h e=>h (congrArg _ e)) this
theorem RxRel.isSome{t:Bs}{es:List Ent}{n:Nat}{s:B2}{x:IxS Ent}(R:RxRel t es n s x)(k:Bs):(x.M k).isSome=true↔k∈s.ids:=by
  by_cases h:k∈s.ids
  · obtain⟨j,hj,rfl⟩:=List.mem_iff_getElem.1 h
    have:=R.M j (by rw[←R.li];exact hj)
    rw[List.getD_eq_getElem?_getD,List.getElem?_eq_getElem hj,Option.getD_some]at this
    rw[this]
    exact⟨fun _=>h,fun _=>rfl⟩
  · rw[R.N k h]
    exact⟨fun e=>(by cases e),fun e=>absurd e h⟩
def Gu(s:B2):Prop:=∀e∈s.en,e.based=true→e.base∈s.ids
instance (s:B2):Decidable (Gu s):=inferInstanceAs (Decidable (∀e∈s.en,e.based=true→e.base∈s.ids))
theorem RxRel.bases{t:Bs}{es:List Ent}{n:Nat}{s:B2}{x:IxS Ent}(R:RxRel t es n s x)(hn:es.length=n):FG es x.M=true↔Gu s:=by
  unfold FG
  rw[List.all_eq_true]
  constructor
  · intro h e he hb
    have:=h e (R.mem e he)
    rw[hb]at this
    exact(R.isSome _).1 (by simpa using this)
  · intro h e he
    cases hb:e.based with
    | false=>rfl
    | true=>rw[(R.isSome _).2 (h e (R.cover hn e he) hb)];rfl
def entR(s:B2)(k:Bs):Ent:=((s.ids.zip s.en).lookup k).getD dEnt.1
theorem RxRel.ent{t:Bs}{es:List Ent}{n:Nat}{s:B2}{x:IxS Ent}(R:RxRel t es n s x):entOf x.M=entR s:=by
  funext k
  unfold entOf entR
  congr 1
  by_cases h:k∈s.ids
  · obtain⟨j,hj,rfl⟩:=List.mem_iff_getElem.1 h
    have hjn:j<n:=by rw[←R.li];exact hj
    have:=R.M j hjn
    rw[List.getD_eq_getElem?_getD,List.getElem?_eq_getElem hj,Option.getD_some]at this
    rw[this,CC s.ids s.en j _ (s.en.getD j dEnt.1) (Dx R.asc) (List.getElem?_eq_getElem hj) (Cv _ (by rw[R.le];exact hjn))]
  · rw[R.N k h,CA _ _ _ h]
theorem RxRel.entAt{t:Bs}{es:List Ent}{n:Nat}{s:B2}{x:IxS Ent}(R:RxRel t es n s x){j:Nat}(hj:j<n):entR s (s.ids.getD j [])=s.en.getD j dEnt.1:=by
  rw[←R.ent]
  unfold entOf
  rw[R.M j hj];rfl
def Ee(b:Bs)(f n:Nat)(es:List Ent):Option B2:=
  (D7 ((b.drop (f+1024)).take (b.length-36-(f+1024))) es n).bind fun s=>if behindR s.ids s.pl f=(b.take (b.length-32)).drop f then(if Gu s then some s else none)else none
def FI(b:Bs)(n first f:Nat):Option B2:=(A9 b n first f).bind (Ee b f n)
def DT(b:Bs)(f n first:Nat):Option B2:=
  if b.getD 0 0=80∧first≤f∧f≤b.length-36∧n≤b.length-36 then(if b.length-36-f=1024+36*n then FI b n first f else none)else none
def BC(b:Bs):Option B2:=(Ax 0 (b.drop 1)).bind fun x=>DT b (BI (b.drop (b.length-36))) x.1 (1+x.2)
def QM(o:Option B2):Except Nat Bu:=match o with | none=> .error 6 | some s=>En (entR s) s.ids
theorem Rg{b:Bs}{f n:Nat}{es:List Ent}(hb:f+1024+36*n+36=b.length)(hf:f=BI (b.drop (b.length-36)))(hn:n<2^32)(he:es.length=n):Fk b f es=QM (Ee b f n es):=by
  unfold Fk Ee
  subst he
  rcases Jc ((b.drop (f+1024)).take (b.length-36-(f+1024))) es es.length with ⟨h1,h2⟩ | ⟨s,x,h1,h2,R⟩
  · rw[h1,h2];rfl
  · rw[h1,h2,Option.bind_some]
    show GL b f es x=_
    unfold GL
    rw[R.ids]
    by_cases q:Js b f s.ids=true
    · rw[if_pos q,if_pos ((R.behind hb hf hn).2 q)]
      by_cases q2:FG es x.M=true
      · rw[if_pos q2,if_pos ((R.bases rfl).1 q2),R.ent];rfl
      · rw[if_neg q2,if_neg (fun h=>q2 ((R.bases rfl).2 h))];rfl
    · rw[if_neg q,if_neg (fun h=>q ((R.behind hb hf hn).1 h))];rfl
theorem NG{b:Bs}(h36:36≤b.length)(hl:b.length≤1048576):Ci b=QM (BC b):=by
  unfold Ci BC
  cases Ax 0 (b.drop 1)with
  | none=>rfl
  | some x=>
    rw[Option.bind_some]
    show GN b _ _ _=_
    unfold GN DT
    by_cases q:b.getD 0 0=80∧1+x.2≤BI (b.drop (b.length-36))∧BI (b.drop (b.length-36))≤b.length-36∧x.1≤b.length-36
    · rw[if_pos q,if_pos q]
      by_cases q2:b.length-36-BI (b.drop (b.length-36))=1024+36*x.1
      · rw[if_pos q2,if_pos q2]
        unfold GM FI
        cases he:A9 b x.1 (1+x.2) (BI (b.drop (b.length-36)))with
        | none=>rfl
        | some es=>
          rw[Option.bind_some]
          exact Rg (by omega) rfl (by omega) (DQ he (by omega)).1
      · rw[if_neg q2,if_neg q2];rfl
    · rw[if_neg q,if_neg q];rfl
def Ef(E:Bs→Ent)(id:Bs)(s:Nat × List Bs × List Nat):Except Nat (Nat × List Bs × List Nat):=
  match AC E 50 (E id)with
  | none=> .error 17
  | some d=>match AZ E (d+1) id with
    | none=> .error 6
    | some y=>if Sha.sum y.1=id then(if s.1+y.1.length≤4194304 then .ok (s.1+y.1.length,s.2.1++ [y.1],s.2.2++ [d])else .error 2)else .error 18
def Eu(E:Bs→Ent)(ids:List Bs):Nat→Except Nat (Nat × List Bs × List Nat)
  | 0=> .ok (0,[],[])
  | i+1=>match Eu E ids i with
    | .error e=> .error e
    | .ok s=>Ef E (ids.getD i []) s
theorem HP{E:Bs→Ent}{ids:List Bs}{i:Nat}{s:Nat × List Bs × List Nat}(h:Eu E ids i = .ok s):Eu E ids (i+1)=Ef E (ids.getD i []) s:=by
  show(match Eu E ids i with | .error e=>_ | .ok s=>_)=_
  rw[h]
theorem GR{E:Bs→Ent}{ids:List Bs}{i:Nat}{e:Nat}(h:Eu E ids i = .error e):∀n,i≤n→Eu E ids n = .error e
  | 0,hn=>by(obtain rfl:i=0:=by omega);exact h
  | n+1,hn=>by
    by_cases e:i=n+1
    · subst e;exact h
    · show(match Eu E ids n with | .error e=>_ | .ok s=>_)=_
      rw[GR h n (by omega)]
structure RQ (ids : List Bs) (i : Nat) (s : Nat × List Bs × List Nat) (o : G3) : Prop where
  total:o.total=s.1
  la:s.2.1.length=i
  ld:s.2.2.length=i
  O:∀j,j<i→o.O (ids.getD j [])=some (s.2.1.getD j [],s.2.2.getD j 0)
theorem Pp{E:Bs→Ent}{ids:List Bs}(hnd:ids.Nodup):∀i,i≤ids.length→(∃e,Eu E ids i = .error e∧C9 E ids i = .error e)∨∃s o,Eu E ids i = .ok s∧C9 E ids i = .ok o∧RQ ids i s o
  | 0,_=> .inr ⟨_,_,rfl,rfl,rfl,rfl,rfl,fun j hj=>absurd hj (Nat.not_lt_zero _)⟩
  | i+1,hi=>by
    rcases Pp hnd i (by omega)with ⟨e,h1,h2⟩ | ⟨s,o,h1,h2,R⟩
    · exact .inl ⟨e,GR h1 _ (Nat.le_succ i),FY h2 1⟩
    · rw[HP h1,EI h2]
      unfold Ef Df
      cases AC E 50 (E (ids.getD i []))with
      | none=>exact .inl ⟨17,rfl,rfl⟩
      | some d=>
        dsimp only
        cases AZ E (d+1) (ids.getD i [])with
        | none=>exact .inl ⟨6,rfl,rfl⟩
        | some y=>
          dsimp only
          by_cases q:Sha.sum y.1=ids.getD i []
          · rw[if_pos q,if_pos q,R.total]
            by_cases q2:s.1+y.1.length≤4194304
            · rw[if_pos q2,if_pos q2]
              refine .inr ⟨_,_,rfl,rfl,rfl,?_,?_,fun j hj=> ?_⟩
              · show(s.2.1++ [y.1]).length=_;rw[List.length_append,R.la];rfl
              · show(s.2.2++ [d]).length=_;rw[List.length_append,R.ld];rfl
              · show updM o.O (ids.getD i []) (some (y.1,d)) (ids.getD j [])=some ((s.2.1++ [y.1]).getD j [],(s.2.2++ [d]).getD j 0)
                unfold updM
                by_cases e:j=i
                · subst e
                  rw[if_pos rfl,CQ R.la,CQ R.ld]
                · rw[CP (by rw[R.la];omega),CP (by rw[R.ld];omega),if_neg]
                  · exact R.O j (by omega)
                  · intro h
                    rw[List.getD_eq_getElem?_getD,List.getD_eq_getElem?_getD,List.getElem?_eq_getElem (show j<ids.length by omega),List.getElem?_eq_getElem (show i<ids.length by omega)]at h
                    exact List.pairwise_iff_getElem.1 hnd j i (by omega) (by omega) (by omega) h
            · rw[if_neg q2,if_neg q2];exact .inl ⟨2,rfl,rfl⟩
          · rw[if_neg q,if_neg q];exact .inl ⟨18,rfl,rfl⟩
def C7(s:B2):Except Nat (List Bs × List Bs × List Nat):=match Eu (entR s) s.ids s.ids.length with | .error e=> .error e | .ok y=> .ok (s.ids,y.2.1,y.2.2)
def Co(b:Bs):Except Nat (List Bs × List Bs × List Nat):=if 1048576<b.length then .error 2 else if b.length<36 then .error 6 else if Sha.sum (b.take (b.length-32))=b.drop (b.length-32)then(match BC b with | none=> .error 6 | some s=>C7 s)else .error 18
theorem NH{b:Bs}{s:B2}(h:BC b=some s):∃t es n x,RxRel t es n s x:=by
  unfold BC at h
  obtain⟨x,_,h⟩:=Option.bind_eq_some_iff.1 h
  unfold DT at h
  split at h
  · split at h
    · unfold FI at h
      obtain⟨es,_,h⟩:=Option.bind_eq_some_iff.1 h
      unfold Ee at h
      obtain⟨s',h1,h⟩:=Option.bind_eq_some_iff.1 h
      split at h
      · split at h
        · cases h
          rcases Jc _ es x.1 with ⟨h2,_⟩ | ⟨s2,x2,h2,_,R⟩
          · rw[h1]at h2;cases h2
          · rw[h1]at h2;cases h2;exact⟨_,_,_,_,R⟩
        · cases h
      · cases h
    · cases h
  · cases h
theorem NJ(b:Bs):(∃e,Co b = .error e∧openP b = .error e)∨∃ids all dep O,Co b = .ok (ids,all,dep)∧openP b = .ok (ids,O)∧all.length=ids.length∧dep.length=ids.length∧∀j,j<ids.length→O (ids.getD j [])=some (all.getD j [],dep.getD j 0):=by
  unfold Co openP
  by_cases h1:1048576<b.length
  · rw[if_pos h1,if_pos h1];exact .inl ⟨2,rfl,rfl⟩
  · rw[if_neg h1,if_neg h1]
    by_cases h2:b.length<36
    · rw[if_pos h2,if_pos h2];exact .inl ⟨6,rfl,rfl⟩
    · rw[if_neg h2,if_neg h2]
      by_cases h3:Sha.sum (b.take (b.length-32))=b.drop (b.length-32)
      · rw[if_pos h3,if_pos h3,NG (by omega) (by omega)]
        cases hp:BC b with
        | none=>exact .inl ⟨6,rfl,rfl⟩
        | some s=>
          obtain⟨t,es,n,x,R⟩:=NH hp
          show(∃e,C7 s = .error e∧En (entR s) s.ids = .error e)∨_
          unfold C7 En
          rcases Pp (E:=entR s) (Dx R.asc) s.ids.length (Nat.le_refl _)with ⟨e,k1,k2⟩ | ⟨y,o,k1,k2,Q⟩
          · rw[k1,k2];exact .inl ⟨e,rfl,rfl⟩
          · rw[k1,k2]
            exact .inr ⟨s.ids,y.2.1,y.2.2,o.O,(by show C7 s=_;unfold C7;rw[k1]),(by show En (entR s) s.ids=_;unfold En;rw[k2]),Q.la,Q.ld,Q.O⟩
      · rw[if_neg h3,if_neg h3];exact .inl ⟨18,rfl,rfl⟩
open Go.RowKit
structure RdP (ids : List Bs) (xs : List Ad) (E : Bs → Ent) : Prop where
  len:ids.length=xs.length
  le:xs.length≤65536
  e:∀j,j<xs.length→E (ids.getD j [])=(xs.getD j dEnt).1
  b:∀x∈xs,x.1.based=true→x.1.base∈ids
  m:∀x∈xs,x.1.bytes.length≤1048576
theorem Jd{ids:List Bs}{id:Bs}(h:id∈ids):ids.getD (ids.idxOf id) []=id:=by
  have hl:=List.idxOf_lt_length_iff.2 h
  rw[List.getD_eq_getElem?_getD,List.getElem?_eq_getElem hl]
  exact List.getElem_idxOf hl
theorem RdP.at_{ids:List Bs}{xs:List Ad}{E:Bs→Ent}(h:RdP ids xs E){id:Bs}(hm:id∈ids):ids.idxOf id<xs.length∧E id=(xs.getD (ids.idxOf id) dEnt).1:=by
  have hl:=List.idxOf_lt_length_iff.2 hm
  rw[h.len]at hl
  refine⟨hl,?_⟩
  have:=h.e _ hl
  rwa [Jd hm]at this
def E5(E:Bs→Ent)(e:Ent):Int:=match AC E 50 e with | none=> -1 | some d=>(d:Int)
theorem Pq{E:Bs→Ent}{e a:Ent}{n:Nat}(hs:(AC E (50-n) e).map (· + n)=AC E 50 a)(hb:e.based=true)(hn:50<n+1):E5 E a = -1:=by
  rw[show 50-n=0 by omega,DN hb]at hs
  unfold E5
  rw[←hs];rfl
theorem Pr{E:Bs→Ent}{e a:Ent}{n:Nat}(hs:(AC E (50-n) e).map (· + n)=AC E 50 a)(hb:¬e.based=true):E5 E a=(n:Int):=by
  rw[Dd (by simpa using hb)]at hs
  unfold E5
  rw[←hs]
  show((0+n:Nat):Int)=_
  rw[Nat.zero_add]
theorem Qs{ids:List Bs}{xs:List Ad}{E:Bs→Ent}(h:RdP ids xs E){c n:Nat}{a:Ent}(hc:c<xs.length)(hs:(AC E (50-n) (xs.getD c dEnt).1).map (· + n)=AC E 50 a)(hb:(xs.getD c dEnt).1.based=true)(hn:¬50<n+1):
    ids.idxOf (xs.getD c dEnt).1.base<xs.length∧(AC E (50-(n+1)) (xs.getD (ids.idxOf (xs.getD c dEnt).1.base) dEnt).1).map (· + (n+1))=AC E 50 a:=by
  have hm:=h.b _ (getD_mem dEnt hc) hb
  obtain⟨h1,h2⟩:=h.at_ hm
  refine⟨h1,?_⟩
  rw[←hs,←h2,show 50-n=50-(n+1)+1 by omega,I4 hb]
theorem Rh{E:Bs→Ent}{e:Ent}(h:¬E5 E e<0):∃d,AC E 50 e=some d∧E5 E e=d∧AC E d e=some d∧d≤50:=by
  unfold E5 at h ⊢
  cases hd:AC E 50 e with
  | none=>rw[hd]at h;exact absurd (by decide) h
  | some d=>exact⟨d,rfl,rfl,EE _ _ _ _ hd (Nat.le_refl _),GO hd⟩
theorem Qt{E:Bs→Ent}{e:Ent}(h:E5 E e<0):AC E 50 e=none:=by
  unfold E5 at h
  cases hd:AC E 50 e with
  | none=>rfl
  | some d=>rw[hd]at h;exact absurd h (by show ¬(d:Int)<0;omega)
def ByR(w:World)(E:Bs→Ent)(d:Nat)(id:Bs)(v:Value)(c:Bool):Prop:=match AZ E (d+1) id with | none=>c=false | some y=>c=true∧RB w v y.1
theorem ByR.none{w:World}{E:Bs→Ent}{d:Nat}{id:Bs}{v:Value}{c:Bool}(h:AZ E (d+1) id=none)(e:c=false):ByR w E d id v c:=by unfold ByR;rw[h];exact e
theorem ByR.some{w:World}{E:Bs→Ent}{d:Nat}{id:Bs}{v:Value}{c:Bool}{y:Bs × Nat}(h:AZ E (d+1) id=some y)(e:c=true)(hr:RB w v y.1):ByR w E d id v c:=by unfold ByR;rw[h];exact⟨e,hr⟩
theorem ByR.cases{w:World}{E:Bs→Ent}{d:Nat}{id:Bs}{v:Value}{c:Bool}(h:ByR w E d id v c):(AZ E (d+1) id = .none∧c=false)∨∃b k,AZ E (d+1) id = .some (b,k)∧c=true∧RB w v b:=by
  unfold ByR at h
  cases hc:AZ E (d+1) id with
  | none=>rw[hc]at h;exact .inl ⟨rfl,h⟩
  | some y=>rw[hc]at h;exact .inr ⟨y.1,y.2,rfl,h⟩
theorem NK{cs cs' :List Value}{v:Value}{w:World}(h:PR cs v w)(e:cs=cs'):PR cs' v w:=e▸h
theorem HQ{x:Ad}(h:x.1.base.length=32):((entC x).drop 2).take 32=Lib.byteCells x.1.base:=by
  unfold entC
  rw[List.drop_succ_cons,List.drop_succ_cons,List.drop_zero,List.take_append_of_le_length (by rw[Lib.byteCells_length,h];exact Nat.le_refl _),List.take_of_length_le (by rw[Lib.byteCells_length,h];exact Nat.le_refl _)]
theorem NL{P:Program}{t:TypeId}{b:Bs}(hi:(P.info? t).map (·.size)=some 32)(h:b.length=32):(P.info? t).map (·.size)=some (Lib.byteCells b).length:=by rw[Lib.byteCells_length,h];exact hi
open Go.RowKit
set_option maxRecDepth 100000
theorem IH:AA Tryd.prog 60:=fun _ _=>by kernel_rfl
theorem Qu:AA Tryd.prog 61:=fun _ _=>by kernel_rfl
set_option maxHeartbeats 1600000
theorem Je(w:World)(vi vp:Value)(ids:List Bs)(places:List Nat)(n:Nat)(hr:RG 32 Lib.byteCells w vi ids)(hs:RG 1 Dz w vp places)(hll:ids.length=places.length)(b7:ids.length≤4096)(hnd:ids.Nodup)(h32:∀id∈ids,id.length=32)(hpl:∀p∈places,p<9223372036854775808)(hn:n<9223372036854775808):
  Calls Tryd.prog 35 #[NI n,vi,vp] w fun e w' =>∃v',e = .returned v' ∧NewB 5 w w' v' (behindR ids places n):=by
 refine gG (args:= [NI n,vi,vp]) Tryd.func35 rfl 78 rfl rfl ?_
 have hE:=Ext.refl w
 have hrow0:w.ownsRow w.heap.size 5 1 (Value.slice none 0 0) ([]:List UInt8).length (Lib.byteCells ([]:List UInt8)):=World.ownsRow_nil _ _ _ 1
 refine gL (fun(ρ:Ae) (wz:World)=>∃c:Nat,∃va:Value,ρ 0=(NI n:Value)∧ρ 1=(vi:Value)∧ρ 2=(vp:Value)∧ρ 6=((Value.slice none 0 0):Value)∧ρ 8=(NI c:Value)∧ρ 7=(va:Value)∧Ext w wz∧wz.ownsRow w.heap.size 5 1 va (((AK ids).take c).flatMap Az:List UInt8).length (Lib.byteCells (((AK ids).take c).flatMap Az))∧(c≤256)∧True) (fun ρ _=>256-(intOf (ρ 8)).toNat) ⟨0,(Value.slice none 0 0),rfl,rfl,rfl,rfl,rfl,rfl,hE,Bn hrow0 ((by simp)),Nat.zero_le _,trivial⟩ ?_
 clear hrow0
 clear hE
 rintro bd w6 ⟨c,va,k,g,o,r,h,j,hE,hr_va,hc,-⟩
 have q8:=h
 by_cases hlt:c<256
 ·have hA:(((AK ids).take c).flatMap Az).length≤1024:=by rw[FU,List.length_take];omega
  refine gS (Yk.eqI (a:=(c:Nat)) (b:=(256:Nat)) h rfl (Ah _ _ _ _) (kT (hlt) (cT rfl (gL (fun(ρ:Ae) (wz:World)=>∃k1:Nat,ρ 0=(NI n:Value)∧ρ 1=(vi:Value)∧ρ 2=(vp:Value)∧ρ 6=((Value.slice none 0 0):Value)∧ρ 7=(va:Value)∧ρ 8=(NI c:Value)∧ρ 15=(.bool (true):Value)∧ρ 10=(NI k1:Value)∧ρ 9=(NI ((ids.take k1).countP fun id=>decide (DJ id≤c)):Value)∧Ext w wz∧wz.ownsRow w.heap.size 5 1 va (((AK ids).take c).flatMap Az:List UInt8).length (Lib.byteCells (((AK ids).take c).flatMap Az))∧(k1≤ids.length)∧True) (fun ρ _=>ids.length-(intOf (ρ 10)).toNat) ⟨0,k,g,o,r,j,h,rfl,rfl,rfl,hE,hr_va,Nat.zero_le _,trivial⟩ ?_))))
  clear hE hr_va
  rintro ar b8 ⟨k1,k,g,o,r,j,h,z,aa,T9,hE,hr_va,hk,-⟩
  have q10:=aa
  by_cases s:k1<ids.length
  ·have hcn:=ND ids c k1 s
   have hcl:((ids.take k1).countP fun id=>decide (DJ id≤c))≤k1:=Nat.le_trans List.countP_le_length (by rw[List.length_take];omega)
   by_cases q1:DJ (ids.getD k1 [])≤c
   ·rw[if_pos q1]at hcn
    refine gS (Yk.lenRG Lc (RG.of (hr.keep hE) g) (gS (Yk.eqI (a:=(k1:Nat)) (b:=(ids.length:Nat)) aa rfl (Ah _ _ _ _) (kT (s) (cT rfl ?_)))))
    have be:(Lib.byteCells (ids.getD (k1) ([]:List UInt8))).length=32:=(RG.elem (hr.keep hE) ([]:List UInt8) (by omega))
    refine gS (Yk.atRG Lc Og (by decide) ([]:List UInt8) (RG.of (hr.keep hE) g) aa (by omega) fun b9 au=>(gS (Yk.atArrPR (l:=ids.getD (k1) ([]:List UInt8)) (i:=0) QJ M4 (PR.of au rfl) rfl (by decide) (by rw[(As be)];first | decide | omega) fun ca av=>(gS (Yk.loadC u5 rfl (PCell.of av rfl) (gS (Yk.convI u5 PJ rfl (Dq .i64 ((ids.getD (k1) ([]:List UInt8)).getD (0) 0) (fun n hn=>Bz n (by omega))) (gS (Yk.eqI (a:=(((ids.getD (k1) ([]:List UInt8)).getD (0) 0).toNat:Nat)) (b:=(c:Nat)) rfl h (BU _ _ _ _) (kT (q1) ?_))))))))))
    clear au
    clear av
    refine cT rfl (gS (Yk.bin (xv:=NI ((ids.take k1).countP fun id=>decide (DJ id≤c))) (yv:=NI 1) T9 rfl rfl (Ac _ _ _ (by omega)) (gS (Yk.bin (xv:=NI k1) (yv:=NI 1) aa rfl rfl (Ac _ _ _ (by omega)) (gK (And.intro ⟨k1+1,k,g,o,r,j,h,z,rfl,rfl.trans (congrArg (fun n:Nat=>NI n) hcn.symm),hE,hr_va,by omega,trivial⟩ ?_))))))
    show ids.length-(intOf (NI ((k1)+(1)))).toNat<ids.length-(intOf (ar 10)).toNat
    rw[q10]
    simp only[intOf,Int.toNat_natCast];omega
   rw[if_neg q1]at hcn
   refine gS (Yk.lenRG Lc (RG.of (hr.keep hE) g) (gS (Yk.eqI (a:=(k1:Nat)) (b:=(ids.length:Nat)) aa rfl (Ah _ _ _ _) (kT (s) (cT rfl ?_)))))
   have bf:(Lib.byteCells (ids.getD (k1) ([]:List UInt8))).length=32:=(RG.elem (hr.keep hE) ([]:List UInt8) (by omega))
   refine gS (Yk.atRG Lc Og (by decide) ([]:List UInt8) (RG.of (hr.keep hE) g) aa (by omega) fun cb aw=>(gS (Yk.atArrPR (l:=ids.getD (k1) ([]:List UInt8)) (i:=0) QJ M4 (PR.of aw rfl) rfl (by decide) (by rw[(As bf)];first | decide | omega) fun cc ax=>(gS (Yk.loadC u5 rfl (PCell.of ax rfl) (gS (Yk.convI u5 PJ rfl (Dq .i64 ((ids.getD (k1) ([]:List UInt8)).getD (0) 0) (fun n hn=>Bz n (by omega))) (gS (Yk.eqI (a:=(((ids.getD (k1) ([]:List UInt8)).getD (0) 0).toNat:Nat)) (b:=(c:Nat)) rfl h (BU _ _ _ _) (kF (q1) ?_))))))))))
   clear aw
   clear ax
   refine cF rfl (gS (Yk.bin (xv:=NI k1) (yv:=NI 1) aa rfl rfl (Ac _ _ _ (by omega)) (gK (And.intro ⟨k1+1,k,g,o,r,j,h,z,rfl,T9.trans (congrArg (fun n:Nat=>NI n) hcn.symm),hE,hr_va,by omega,trivial⟩ ?_))))
   show ids.length-(intOf (NI ((k1)+(1)))).toNat<ids.length-(intOf (ar 10)).toNat
   rw[q10]
   simp only[intOf,Int.toNat_natCast];omega
  refine gS (Yk.lenRG Lc (RG.of (hr.keep hE) g) (gS (Yk.eqI (a:=(k1:Nat)) (b:=(ids.length:Nat)) aa rfl (Ah _ _ _ _) (kF (s) (cF rfl (gS (Yk.callA1 IH T9 ((Ga _ ((ids.take k1).countP fun id=>decide (DJ id≤c)) (Nat.lt_of_le_of_lt (Nat.le_trans List.countP_le_length (by rw[List.length_take];exact Nat.min_le_left _ _)) (show k1<9223372036854775808 by omega))).mono ?_))))))))
  rintro e bg ⟨ay,rfl,ag⟩
  refine⟨_,rfl,?_⟩
  have cd:=hE.size
  have bh:Am va ay:=B3 hr_va ag.own
  have aj:=ag.own
  have hE:=hE.trans ag.ext
  have hr_va:=Stab.own _ _ _ _ _ _ _ _ hr_va ag.ext
  refine gS (Yk.appendRB _ _ w.heap.size (.int .u8 0) EX IP rfl EX (((AK ids).take c).flatMap Az) (Az ((ids.take k1).countP fun id=>decide (DJ id≤c))) (BA hr_va j) (RB.of (RB.ofOwn aj) (vr ay rfl)) (by rw[CM];omega) hE.size fun az bi bj ah=> ?_)
  have ah:Grew bg bi va az:= .eqv j ah
  have hE:=Af hE ah hr_va (Nat.le_refl _)
  have aj:=B7 aj ah bh
  clear hr_va
  refine gS (Yk.bin (xv:=NI c) (yv:=NI 1) h rfl rfl (Ac _ _ _ (by omega)) (gK (And.intro ⟨c+1,az,k,g,o,r,rfl,rfl,hE,Bn bj ((by rw[show k1=ids.length by omega,List.take_length];exact(Pl ids c hlt).symm)),by omega,trivial⟩ ?_)))
  show 256-(intOf (NI ((c)+(1)))).toNat<256-(intOf (bd 8)).toNat
  rw[q8]
  simp only[intOf,Int.toNat_natCast];omega
 refine gS (Yk.eqI (a:=(c:Nat)) (b:=(256:Nat)) h rfl (Ah _ _ _ _) (kF (hlt) (cF rfl (gS (Yk.callA1 Qu g ((Mf _ vi ids (hr.keep hE) (by omega)).mono ?_))))))
 rintro e ce ⟨v,rfl,f,a0⟩
 refine⟨_,rfl,?_⟩
 have cf:=hE.size
 have bk:Am va v:=B3 hr_va f.2
 have hE:=hE.trans a0
 have hr_va:=Stab.own _ _ _ _ _ _ _ _ hr_va a0
 refine gL (fun(ρ:Ae) (wz:World)=>∃q:Nat,∃vb:Value,ρ 0=(NI n:Value)∧ρ 1=(vi:Value)∧ρ 2=(vp:Value)∧ρ 6=((Value.slice none 0 0):Value)∧ρ 8=(NI c:Value)∧ρ 11=(v:Value)∧ρ 15=(.bool (false):Value)∧ρ 12=(NI q:Value)∧ρ 7=(vb:Value)∧Ext w wz∧OG w6.heap.size 38 32 (Lib.byteCells) wz v (Ar ids)∧wz.ownsRow w.heap.size 5 1 vb ((AK ids).flatMap Az++((Ar ids).take q).flatMap (DA ids places):List UInt8).length (Lib.byteCells ((AK ids).flatMap Az++((Ar ids).take q).flatMap (DA ids places)))∧(q≤ids.length)∧(Am vb v)∧True) (fun ρ _=>ids.length-(intOf (ρ 12)).toNat) ⟨0,va,k,g,o,r,h,rfl,rfl,rfl,j,hE,f,Bn hr_va ((by rw[show c=256 by omega,List.take_of_length_le (by rw[Bi];exact Nat.le_refl _)];simp)),Nat.zero_le _,bk,trivial⟩ ?_
 clear hr_va
 clear hE f
 rintro bm bn ⟨q,vb,k,g,o,r,h,u,z,t,j,hE,f,hr_vb,hq,hap_vb_v53,-⟩
 have q12:=t
 by_cases hlt:q<ids.length
 ·have hX:((Ar ids).getD (q) ([]:List UInt8))∈ids:=DS.1 (getD_mem [] (by rw[BL];exact hlt))
  have hX32:(((Ar ids).getD (q) ([]:List UInt8))).length=32:=h32 _ hX
  have hR:((AK ids).flatMap Az++((Ar ids).take q).flatMap (DA ids places)).length≤1024+36*q:=by rw[List.length_append,FU,Bi,E4 36 (fun x hx=>LH (h32 _ (DS.1 (List.mem_of_mem_take hx)))),List.length_take];omega
  refine gS (Yk.lenRG Lc (RG.of (RG.ofOwn f) u) (gS (Yk.eqI (a:=(q:Nat)) (b:=(((Ar ids)).length:Nat)) t rfl (Ah _ _ _ _) (kT (by rw[BL];exact hlt) (cT rfl ?_)))))
  have bo:(Lib.byteCells (((Ar ids)).getD (q) ([]:List UInt8))).length=32:=(RG.elem (RG.ofOwn f) ([]:List UInt8) (by rw[BL];omega))
  refine gS (Yk.atRG Lc Og (by decide) ([]:List UInt8) (RG.of (RG.ofOwn f) u) t (by rw[BL];omega) fun cg a1=>(gS (Yk.slicePR (l:=((Ar ids)).getD (q) ([]:List UInt8)) QJ M4 (PR.of a1 rfl) (As bo) (by decide) fun bp a2=>(gS (Yk.appendRB _ _ w.heap.size (.int .u8 0) EX IP rfl EX ((AK ids).flatMap Az++((Ar ids).take q).flatMap (DA ids places)) (((Ar ids)).getD (q) ([]:List UInt8)) (BA hr_vb j) (RB.of a2 (vr bp rfl)) (by rw[hX32];omega) hE.size fun ak bq a3 ac=> ?_)))))
  have ac:Grew bn bq vb ak:= .eqv j ac
  have br:Am ak v:=AJ ac hap_vb_v53 f.2
  have hE:=Af hE ac hr_vb (Nat.le_refl _)
  have f:=A4 f ac hap_vb_v53
  clear a1
  clear a2
  clear hr_vb
  refine gL (fun(ρ:Ae) (wz:World)=>∃m:Nat,∃vc:Value,ρ 0=(NI n:Value)∧ρ 1=(vi:Value)∧ρ 2=(vp:Value)∧ρ 6=((Value.slice none 0 0):Value)∧ρ 8=(NI c:Value)∧ρ 11=(v:Value)∧ρ 12=(NI q:Value)∧ρ 15=(.bool (false):Value)∧ρ 43=(.bool (true):Value)∧ρ 13=(NI m:Value)∧ρ 7=(vc:Value)∧Ext w wz∧OG w6.heap.size 38 32 (Lib.byteCells) wz v (Ar ids)∧wz.ownsRow w.heap.size 5 1 vc ((AK ids).flatMap Az++((Ar ids).take q).flatMap (DA ids places)++D6 ids places ((Ar ids).getD (q) ([]:List UInt8)) m:List UInt8).length (Lib.byteCells ((AK ids).flatMap Az++((Ar ids).take q).flatMap (DA ids places)++D6 ids places ((Ar ids).getD (q) ([]:List UInt8)) m))∧(m≤ids.length)∧(Am vc v)∧True) (fun ρ _=>ids.length-(intOf (ρ 13)).toNat) ⟨0,ak,k,g,o,r,h,u,t,z,rfl,rfl,rfl,hE,f,Bn a3 ((by rw[Pm])),Nat.zero_le _,br,trivial⟩ ?_
  clear a3
  clear hE f
  rintro a4 ch ⟨m,vc,k,g,o,r,h,u,t,z,a5,y,j,hE,f,hr_vc,hm,hap_vc_v53,-⟩
  have q13:=y
  by_cases s:m<ids.length
  ·have hel:(ids.getD m []).length=32:=As (RG.elem hr [] s)
   have hRK:((AK ids).flatMap Az++((Ar ids).take q).flatMap (DA ids places)++D6 ids places ((Ar ids).getD (q) ([]:List UInt8)) m).length≤1100+36*q:=by rw[List.length_append];have:=Qq ids places m hX32;omega
   have hpm:places.getD m 0<9223372036854775808:=hpl _ (getD_mem 0 (by omega))
   by_cases q1:ids.getD m []=((Ar ids).getD (q) ([]:List UInt8))
   ·refine gS (Yk.lenRG Lc (RG.of (hr.keep hE) g) (gS (Yk.eqI (a:=(m:Nat)) (b:=(ids.length:Nat)) y rfl (Ah _ _ _ _) (kT (s) (cT rfl (Bw [0,1,2,3,4,5,6,7,8] [] [] fun ci al=> ?_))))))
    have hE:=hE.trans al
    have bs:(Lib.byteCells (ids.getD (m) ([]:List UInt8))).length=32:=(RG.elem (hr.keep hE) ([]:List UInt8) (by omega))
    refine yA (Yk.atRG Lc Og (by decide) ([]:List UInt8) (RG.of (hr.keep hE) g) y (by omega) fun cj a6=>(ys (Yk.loadPR (PR.of a6 rfl) QJ rfl (by rw[bs];exact N2) zz) ?_))
    have f:=f.keep al
    have bt:(Lib.byteCells (((Ar ids)).getD (q) ([]:List UInt8))).length=32:=(RG.elem (RG.ofOwn f) ([]:List UInt8) (by rw[BL];omega))
    refine yA (Yk.atRG Lc Og (by decide) ([]:List UInt8) (RG.of (RG.ofOwn f) u) t (by rw[BL];omega) fun ck a7=>(ys (Yk.loadPR (PR.of a7 rfl) QJ rfl (by rw[bt];exact N2) zz) (ys (Yk.eqArr (l1:=(ids.getD (m) ([]:List UInt8))) (l2:=(((Ar ids)).getD (q) ([]:List UInt8))) QJ u5 M4 O0 rfl rfl (hel) (hX32) zz) (kT (q1) ?_))))
    clear a6
    clear a7
    refine cT rfl ?_
    have cl:(Dz (places.getD (m) 0)).length=1:=(RG.elem (hs.keep hE) 0 (by omega))
    refine gS (Yk.atRG JM Gk (by decide) 0 (RG.of (hs.keep hE) o) y (by omega) fun cm bu=>(gS (Yk.loadC PJ rfl (PR.cell (PR.of bu rfl) rfl) (gS (Yk.callA1 IH rfl ((Ga _ (places.getD (m) 0) (hpm)).mono ?_))))))
    rintro e bv ⟨a8,rfl,ad⟩
    refine⟨_,rfl,?_⟩
    have cn:=hE.size
    have hr_vc:=Stab.own _ _ _ _ _ _ _ _ hr_vc al
    have bw:Am vc a8:=B3 hr_vc ad.own
    have am:=ad.own
    have hE:=hE.trans ad.ext
    have hr_vc:=Stab.own _ _ _ _ _ _ _ _ hr_vc ad.ext
    refine gS (Yk.appendRB _ _ w.heap.size (.int .u8 0) EX IP rfl EX ((AK ids).flatMap Az++((Ar ids).take q).flatMap (DA ids places)++D6 ids places ((Ar ids).getD (q) ([]:List UInt8)) m) (Az (places.getD (m) 0)) (BA hr_vc j) (RB.of (RB.ofOwn am) (vr a8 rfl)) (by rw[CM];omega) hE.size fun an bx bz ab=> ?_)
    have ab:Grew bv bx vc an:= .eqv j ab
    have f:=f.keep ad.ext
    have b0:Am an v:=AJ ab hap_vc_v53 f.2
    have hE:=Af hE ab hr_vc (Nat.le_refl _)
    have f:=A4 f ab hap_vc_v53
    have am:=B7 am ab bw
    clear hr_vc
    refine gS (Yk.bin (xv:=NI m) (yv:=NI 1) y rfl rfl (Ac _ _ _ (by omega)) (gK (And.intro ⟨m+1,an,k,g,o,r,h,u,t,z,a5,rfl,rfl,hE,f,Bn bz ((by rw[Qo hnd hll s q1,List.append_assoc])),by omega,b0,trivial⟩ ?_)))
    show ids.length-(intOf (NI ((m)+(1)))).toNat<ids.length-(intOf (a4 13)).toNat
    rw[q13]
    simp only[intOf,Int.toNat_natCast];omega
   refine gS (Yk.lenRG Lc (RG.of (hr.keep hE) g) (gS (Yk.eqI (a:=(m:Nat)) (b:=(ids.length:Nat)) y rfl (Ah _ _ _ _) (kT (s) (cT rfl (Bw [0,1,2,3,4,5,6,7,8] [] [] fun co ao=> ?_))))))
   have hE:=hE.trans ao
   have b1:(Lib.byteCells (ids.getD (m) ([]:List UInt8))).length=32:=(RG.elem (hr.keep hE) ([]:List UInt8) (by omega))
   refine yA (Yk.atRG Lc Og (by decide) ([]:List UInt8) (RG.of (hr.keep hE) g) y (by omega) fun cp a9=>(ys (Yk.loadPR (PR.of a9 rfl) QJ rfl (by rw[b1];exact N2) zz) ?_))
   have f:=f.keep ao
   have b2:(Lib.byteCells (((Ar ids)).getD (q) ([]:List UInt8))).length=32:=(RG.elem (RG.ofOwn f) ([]:List UInt8) (by rw[BL];omega))
   refine yA (Yk.atRG Lc Og (by decide) ([]:List UInt8) (RG.of (RG.ofOwn f) u) t (by rw[BL];omega) fun cq ba=>(ys (Yk.loadPR (PR.of ba rfl) QJ rfl (by rw[b2];exact N2) zz) (ys (Yk.eqArr (l1:=(ids.getD (m) ([]:List UInt8))) (l2:=(((Ar ids)).getD (q) ([]:List UInt8))) QJ u5 M4 O0 rfl rfl (hel) (hX32) zz) (kF (q1) ?_))))
   clear a9
   clear ba
   have hr_vc:=Stab.own _ _ _ _ _ _ _ _ hr_vc ao
   refine cF rfl (gS (Yk.bin (xv:=NI m) (yv:=NI 1) y rfl rfl (Ac _ _ _ (by omega)) (gK (And.intro ⟨m+1,vc,k,g,o,r,h,u,t,z,a5,rfl,j,hE,f,Bn hr_vc ((by rw[Pn s q1])),by omega,hap_vc_v53,trivial⟩ ?_))))
   show ids.length-(intOf (NI ((m)+(1)))).toNat<ids.length-(intOf (a4 13)).toNat
   rw[q13]
   simp only[intOf,Int.toNat_natCast];omega
  refine gS (Yk.lenRG Lc (RG.of (hr.keep hE) g) (gS (Yk.eqI (a:=(m:Nat)) (b:=(ids.length:Nat)) y rfl (Ah _ _ _ _) (kF (s) (cF rfl (gS (Yk.bin (xv:=NI q) (yv:=NI 1) t rfl rfl (Ac _ _ _ (by omega)) (gK (And.intro ⟨q+1,vc,k,g,o,r,h,u,z,rfl,j,hE,f,Bn hr_vc ((by rw[Qp hX (by omega),HJ (DA ids places) (show q<(Ar ids).length by rw[BL];exact hlt),List.append_assoc])),by omega,hap_vc_v53,trivial⟩ ?_)))))))))
  show ids.length-(intOf (NI ((q)+(1)))).toNat<ids.length-(intOf (bm 12)).toNat
  rw[q12]
  simp only[intOf,Int.toNat_natCast];omega
 refine gS (Yk.lenRG Lc (RG.of (RG.ofOwn f) u) (gS (Yk.eqI (a:=(q:Nat)) (b:=(((Ar ids)).length:Nat)) t rfl (Ah _ _ _ _) (kF (by rw[BL];exact hlt) (cF rfl (gS (Yk.callA1 IH k ((Ga _ (n) (by omega)).mono ?_))))))))
 rintro e b3 ⟨bb,rfl,ae⟩
 refine⟨_,rfl,?_⟩
 have cr:=hE.size
 have b4:Am vb bb:=B3 hr_vb ae.own
 have ap:=ae.own
 have hE:=hE.trans ae.ext
 have hr_vb:=Stab.own _ _ _ _ _ _ _ _ hr_vb ae.ext
 refine gS (Yk.appendRB _ _ w.heap.size (.int .u8 0) EX IP rfl EX ((AK ids).flatMap Az++((Ar ids).take q).flatMap (DA ids places)) (Az (n)) (BA hr_vb j) (RB.of (RB.ofOwn ap) (vr bb rfl)) (by rw[CM,List.length_append,FU,Bi,E4 36 (fun x hx=>LH (h32 _ (DS.1 (List.mem_of_mem_take hx)))),List.length_take];omega) hE.size fun bc b5 b6 af=> ?_)
 have af:Grew b3 b5 vb bc:= .eqv j af
 have f:=f.keep ae.ext
 have hE:=Af hE af hr_vb (Nat.le_refl _)
 have f:=A4 f af hap_vb_v53
 have ap:=B7 ap af b4
 clear hr_vb
 refine Bx rfl (vr bc rfl) ?_
 have hqe:q=ids.length:=by omega
 have hfin:=b6
 rw[hqe]at hfin
 rw[List.take_of_length_le (by rw[BL];exact Nat.le_refl _)]at hfin
 exact⟨_,rfl,⟨hfin,hE.grown⟩⟩
open Go.RowKit
set_option maxRecDepth 100000
theorem GS(l:List UInt8)(a m:Nat):(l.drop a).getD m 0=l.getD (a+m) 0:=by simp[List.getD_eq_getElem?_getD]
open Go.RowKit
def Ev:List UInt8→Nat
  | []=>0
  | c :: r=>c.toNat%128+128*Ev r
theorem GT:∀(k j:Nat) (l:List UInt8),(∀t,t<k→128≤(l.getD t 0).toNat)→k<l.length→(l.getD k 0).toNat<128→j+k≤8→¬((l.getD k 0).toNat=0∧0<j+k)→Ax j l=some (Ev (l.take (k+1)),k+1)
  | _,_,[],_,h,_,_,_=>by simp at h
  | 0,j,c :: r,_,_,h2,_,h4=>by
    simp only[List.getD_cons_zero]at h2 h4
    unfold Ax
    rw[if_neg (by omega),if_neg (by simpa using h4)]
    rw[List.take_succ_cons,List.take_zero,Ev,Ev,Nat.mul_zero,Nat.add_zero,Nat.mod_eq_of_lt h2]
  | k+1,j,c :: r,h1,h0,h2,h3,h4=>by
    have hc:=h1 0 (by omega)
    simp only[List.getD_cons_zero]at hc
    simp only[List.getD_cons_succ]at h2 h4
    unfold Ax
    rw[if_pos hc,if_neg (by omega),GT k (j+1) r (fun t ht=>by have:=h1 (t+1) (by omega);simpa only[List.getD_cons_succ] using this) (by simpa using h0) h2 (by omega) (by rw[show j+1+k=j+(k+1) by omega];exact h4)]
    have hl:=c.toNat_lt
    simp only[Option.map_some,List.take_succ_cons,Ev]
    rw[show c.toNat%128=c.toNat-128 by omega]
theorem Ii:∀(k j:Nat) (l:List UInt8),(∀t,t<k→128≤(l.getD t 0).toNat)→k<l.length→(l.getD k 0).toNat=0→0<j+k→Ax j l=none
  | _,_,[],_,h,_,_=>by simp at h
  | 0,j,c :: r,_,_,h2,h4=>by
    simp only[List.getD_cons_zero]at h2
    unfold Ax
    rw[if_neg (by omega),if_pos ⟨h2,by omega⟩]
  | k+1,j,c :: r,h1,h0,h2,h4=>by
    have hc:=h1 0 (by omega)
    simp only[List.getD_cons_zero]at hc
    simp only[List.getD_cons_succ]at h2
    unfold Ax
    rw[if_pos hc]
    split
    · rfl
    · rw[Ii k (j+1) r (fun t ht=>by have:=h1 (t+1) (by omega);simpa only[List.getD_cons_succ] using this) (by simpa using h0) h2 (by omega)]
      rfl
theorem Gb:∀(k j:Nat) (l:List UInt8),j≤8→(∀t,t<k→128≤(l.getD t 0).toNat)→(l.length≤k∨9≤j+k)→Ax j l=none
  | _,j,[],_,_,_=>by simp[Ax]
  | 0,j,c :: r,hj,_,h=>by simp at h;omega
  | k+1,j,c :: r,hj,h1,h=>by
    have hc:=h1 0 (by omega)
    simp only[List.getD_cons_zero]at hc
    unfold Ax
    rw[if_pos hc]
    split
    · rfl
    · rw[Gb k (j+1) r (by omega) (fun t ht=>by have:=h1 (t+1) (by omega);simpa only[List.getD_cons_succ] using this) (by simp at h;omega)]
      rfl
theorem Ke(l:List UInt8)(i k:Nat)(hi:i<k)(hk:k≤l.length):Ev ((l.take k).drop i)=(l.getD i 0).toNat%128+128*Ev ((l.take k).drop (i+1)):=by
  have hl:i<(l.take k).length:=by rw[List.length_take];omega
  rw[List.drop_eq_getElem_cons hl,Ev]
  congr 2
  simp[List.getD,show i<l.length by omega]
theorem Jw:∀l:List UInt8,Ev l<128^l.length
  | []=>by simp[Ev]
  | c :: r=>by
    have:=Jw r
    rw[Ev,List.length_cons,Nat.pow_succ]
    omega
open Go.RowKit
set_option maxRecDepth 100000
theorem MU(t:TypeId)(a:Nat)(h:a<9223372036854775808):Go.binOp .sub t (.int .i64 (a:Int)) (NI 1)=pure (.int .i64 ((a:Int)-1)):=by
 by_cases ha:1≤a
 ·rw[Ay t a 1 h ha]
  congr 2
  omega
 ·have:a=0:=by omega
  subst this
  rfl
theorem BH(w:World)(v:Value)(l:List UInt8)(hr:RB w v l)(a:Nat)(ha:a≤l.length)(hl:l.length≤1073741824):
  Calls Tryd.prog 81 #[v,NI a] w fun e w' =>e = .returned (DH a (Ax 0 (l.drop a)))∧Ext w w' :=by
 refine gG (args:= [v,NI a]) Tryd.func81 rfl 71 rfl rfl ?_
 have hE:=Ext.refl w
 refine gS (Yk.eqI (a:=(a:Nat)) (b:=(0:Nat)) rfl rfl (Ah _ _ _ _) (kF (by omega) (gS (Yk.lenRB EX (RB.of (hr.keep hE) rfl) (gS (Yk.eqI (a:=(a:Nat)) (b:=(l.length:Nat)) rfl rfl (Av _ _ _ _) (kF (by omega) (gS (Yk.pickF rfl rfl (cF rfl (gL (fun(ρ:Ae) (wz:World)=>∃j:Nat,ρ 0=(v:Value)∧ρ 1=(NI a:Value)∧ρ 17=(.bool (false):Value)∧ρ 7=(NI (j+1):Value)∧Ext w wz∧(j≤9)∧(j≤l.length-a)∧(∀t,t<j→128≤((l.drop a).getD t 0).toNat)∧True) (fun ρ _=>10-(intOf (ρ 7)).toNat) ⟨0,rfl,rfl,rfl,rfl,hE,by omega,by omega,fun t ht=>by omega,trivial⟩ ?_)))))))))))
 clear hE
 rintro aa w7 ⟨j,g,f,k,c,hE,hj,hjl,hbig,-⟩
 have q7:=c
 by_cases g1:j<9
 ·by_cases g2:j<l.length-a
  ·have hix:l.getD (a+(j+1)-1) 0=(l.drop a).getD j 0:=by rw[GS];congr 1
   have hld:(l.drop a).length=l.length-a:=List.length_drop
   refine gS (Yk.eqI (a:=(j+1:Nat)) (b:=(9:Nat)) c rfl (BU _ _ _ _) (kT (by omega) (gS (Yk.lenRB EX (RB.of (hr.keep hE) g) (gS (Yk.bin (xv:=NI l.length) (yv:=NI a) rfl f rfl (Ay _ _ _ (by omega) (by omega)) (gS (Yk.eqI (a:=(j+1:Nat)) (b:=((l.length)-(a):Nat)) c rfl (BU _ _ _ _) (kT (by omega) (gS (Yk.pickT rfl rfl (cT rfl (gS (Yk.bin (xv:=NI a) (yv:=NI (j+1)) f c rfl (Ac _ _ _ (by omega)) (gS (Yk.bin (xv:=NI ((a)+(j+1))) (yv:=NI 1) rfl rfl rfl (Ay _ _ _ (by omega) (by omega)) (gS (Yk.atRB (l:=l) (i:=((a)+(j+1))-(1)) EX M4 (RB.of (hr.keep hE) g) rfl (by omega) fun af q=>(gS (Yk.loadC u5 rfl (PCell.of q rfl) (gS (Yk.eqI (a:=((l.getD (((a)+(j+1))-(1)) 0).toNat:Nat)) (b:=(128:Nat)) rfl rfl (DB _ _ _ _) ?_))))))))))))))))))))))
   clear q
   refine cD rfl (fun r=> ?_) fun r=> ?_
   ·refine gS (Yk.bin (xv:=NI (j+1)) (yv:=NI 1) c rfl rfl (Ac _ _ _ (by omega)) (gK (And.intro ⟨j+1,g,f,k,rfl,hE,by omega,by omega,fun t ht=>by by_cases e:t=j;(rw[e,←hix];exact r);exact hbig t (by omega),trivial⟩ ?_)))
    show 10-(intOf (NI ((j+1)+(1)))).toNat<10-(intOf (aa 7)).toNat
    rw[q7]
    simp only[intOf,Int.toNat_natCast];omega
   by_cases z1:1<j+1
   ·refine gS (Yk.eqI (a:=(j+1:Nat)) (b:=(1:Nat)) c rfl (Av _ _ _ _) (kT (z1) (gS (Yk.bin (xv:=NI a) (yv:=NI (j+1)) f c rfl (Ac _ _ _ (by omega)) (gS (Yk.bin (xv:=NI ((a)+(j+1))) (yv:=NI 1) rfl rfl rfl (Ay _ _ _ (by omega) (by omega)) (gS (Yk.atRB (l:=l) (i:=((a)+(j+1))-(1)) EX M4 (RB.of (hr.keep hE) g) rfl (by omega) fun ag s=>(gS (Yk.loadC u5 rfl (PCell.of s rfl) (gS (Yk.eqI (a:=((l.getD (((a)+(j+1))-(1)) 0).toNat:Nat)) (b:=(0:Nat)) rfl rfl (AO _ _ _ _) (gS (Yk.pickT rfl rfl ?_))))))))))))))
    clear s
    refine cD rfl (fun u=> ?_) fun u=> ?_
    ·refine EB rfl (vr (NI 0) rfl) (vr (NI 0) rfl) (vr (NI 6) rfl) ?_
     have hno:Ax 0 (l.drop a)=none:=Ii j 0 _ hbig (by omega) (by rw[←hix];exact u) (by omega)
     rw[hno]
     exact⟨rfl,hE⟩
    refine gS (Yk.bin (xv:=NI (j+1)) (yv:=NI 1) c rfl rfl (Ay _ _ _ (by omega) (by omega)) (gL (fun(ρ:Ae) (wz:World)=>∃i:Nat,∃n:Nat,ρ 0=(v:Value)∧ρ 1=(NI a:Value)∧ρ 7=(NI (j+1):Value)∧ρ 17=(.bool (false):Value)∧ρ 27=(.bool (true):Value)∧ρ 9=(.int .i64 ((i:Int)-1:Int):Value)∧ρ 8=(NI n:Value)∧Ext w wz∧(i≤j+1)∧(n=Ev (((l.drop a).take (j+1)).drop i))∧True) (fun ρ _=>((match ((ρ 9):Value)with | .int _ z=>z+1 | _=>0):Int).toNat) ⟨j+1,0,g,f,c,k,rfl,(show _=_ from rfl.trans (congrArg (Value.int .i64) (by omega))),rfl,hE,Nat.le_refl _,by rw[List.drop_of_length_le (by rw[List.length_take];omega)];rfl,trivial⟩ ?_))
    clear hE
    rintro ab ah ⟨i,n,g,f,c,k,o,h,m,hE,hij,hn,-⟩
    have q9:=h
    refine gS (Yk.eqI h rfl (Gy _ .i64 ((i:Int)-1:Int) ((0:Nat):Int)) ?_)
    refine cD rfl (fun p=> ?_) fun p=> ?_
    ·have hi1:1≤i:=by omega
     have hvl:=Jw (((l.drop a).take (j+1)).drop i)
     have hpw:128^(((l.drop a).take (j+1)).drop i).length≤128^8:=Nat.pow_le_pow_right (by decide) (by rw[List.length_drop,List.length_take];omega)
     have hnb:n<128^8:=by rw[hn];exact Nat.lt_of_lt_of_le hvl hpw
     have h:=h.trans (congrArg (Value.int .i64) (show((i:Int)-1:Int)=((i-1:Nat):Int) by omega))
     refine gS (Yk.bin (xv:=NI n) (yv:=NI 128) m rfl rfl (A0 _ _ _ (by omega)) (gS (Yk.bin (xv:=NI a) (yv:=NI (i-1)) f h rfl (Ac _ _ _ (by omega)) (gS (Yk.atRB (l:=l) (i:=(a)+(i-1)) EX M4 (RB.of (hr.keep hE) g) rfl (by omega) fun ai x=>(gS (Yk.loadC u5 rfl (PCell.of x rfl) (gS (Yk.convI u5 PJ rfl (Dq .i64 (l.getD ((a)+(i-1)) 0) (fun n hn=>Bz n (by omega))) (gS (Yk.bin (xv:=NI ((l.getD ((a)+(i-1)) 0).toNat)) (yv:=NI 128) rfl rfl rfl (CR _ _ _ (by decide)) (gS (Yk.bin (xv:=NI ((n)*(128))) (yv:=NI (((l.getD ((a)+(i-1)) 0).toNat)%(128))) rfl rfl rfl (Ac _ _ _ (by omega)) ?_)))))))))))))
     clear x
     refine gS (Yk.bin (xv:=NI (i-1)) (yv:=NI 1) h rfl rfl (MU _ (i-1) (by omega)) (gK (And.intro ⟨i-1,n*128+(l.getD (a+(i-1)) 0).toNat%128,g,f,c,k,o,rfl,rfl,hE,by omega,by rw[Ke _ (i-1) (j+1) (by omega) (by omega),show i-1+1=i by omega,←hn,GS];omega,trivial⟩ ?_)))
     show((match ((.int .i64 (((i-1:Nat):Int)-1:Int)):Value)with | .int _ z=>z+1 | _=>0):Int).toNat<((match ((ab 9):Value)with | .int _ z=>z+1 | _=>0):Int).toNat
     rw[q9]
     simp only[Int.sub_add_cancel];omega
    have hi0:i=0:=by omega
    refine gS (Yk.bin (xv:=NI a) (yv:=NI (j+1)) f c rfl (Ac _ _ _ (by omega)) (EB rfl m (vr (NI ((a)+(j+1))) rfl) (vr (NI 0) rfl) ?_))
    have hyes:Ax 0 (l.drop a)=some (Ev ((l.drop a).take (j+1)),j+1):=GT j 0 _ hbig (by omega) (by rw[←hix];omega) (by omega) (by rw[←hix];omega)
    rw[hi0,List.drop_zero]at hn
    rw[hyes,←hn]
    exact⟨rfl,hE⟩
   refine gS (Yk.eqI (a:=(j+1:Nat)) (b:=(1:Nat)) c rfl (Av _ _ _ _) (kF (z1) (gS (Yk.pickF rfl rfl (cF rfl (gS (Yk.bin (xv:=NI (j+1)) (yv:=NI 1) c rfl rfl (Ay _ _ _ (by omega) (by omega)) (gL (fun(ρ:Ae) (wz:World)=>∃i:Nat,∃n:Nat,ρ 0=(v:Value)∧ρ 1=(NI a:Value)∧ρ 7=(NI (j+1):Value)∧ρ 17=(.bool (false):Value)∧ρ 27=(.bool (true):Value)∧ρ 49=(.bool (false):Value)∧ρ 9=(.int .i64 ((i:Int)-1:Int):Value)∧ρ 8=(NI n:Value)∧Ext w wz∧(i≤j+1)∧(n=Ev (((l.drop a).take (j+1)).drop i))∧True) (fun ρ _=>((match ((ρ 9):Value)with | .int _ z=>z+1 | _=>0):Int).toNat) ⟨j+1,0,g,f,c,k,rfl,rfl,(show _=_ from rfl.trans (congrArg (Value.int .i64) (by omega))),rfl,hE,Nat.le_refl _,by rw[List.drop_of_length_le (by rw[List.length_take];omega)];rfl,trivial⟩ ?_))))))))
   clear hE
   rintro ac aj ⟨i,n,g,f,c,k,o,ad,h,m,hE,hij,hn,-⟩
   have q9:=h
   refine gS (Yk.eqI h rfl (Gy _ .i64 ((i:Int)-1:Int) ((0:Nat):Int)) ?_)
   refine cD rfl (fun p=> ?_) fun p=> ?_
   ·have hi1:1≤i:=by omega
    have hvl:=Jw (((l.drop a).take (j+1)).drop i)
    have hpw:128^(((l.drop a).take (j+1)).drop i).length≤128^8:=Nat.pow_le_pow_right (by decide) (by rw[List.length_drop,List.length_take];omega)
    have hnb:n<128^8:=by rw[hn];exact Nat.lt_of_lt_of_le hvl hpw
    have h:=h.trans (congrArg (Value.int .i64) (show((i:Int)-1:Int)=((i-1:Nat):Int) by omega))
    refine gS (Yk.bin (xv:=NI n) (yv:=NI 128) m rfl rfl (A0 _ _ _ (by omega)) (gS (Yk.bin (xv:=NI a) (yv:=NI (i-1)) f h rfl (Ac _ _ _ (by omega)) (gS (Yk.atRB (l:=l) (i:=(a)+(i-1)) EX M4 (RB.of (hr.keep hE) g) rfl (by omega) fun ak y=>(gS (Yk.loadC u5 rfl (PCell.of y rfl) (gS (Yk.convI u5 PJ rfl (Dq .i64 (l.getD ((a)+(i-1)) 0) (fun n hn=>Bz n (by omega))) (gS (Yk.bin (xv:=NI ((l.getD ((a)+(i-1)) 0).toNat)) (yv:=NI 128) rfl rfl rfl (CR _ _ _ (by decide)) (gS (Yk.bin (xv:=NI ((n)*(128))) (yv:=NI (((l.getD ((a)+(i-1)) 0).toNat)%(128))) rfl rfl rfl (Ac _ _ _ (by omega)) ?_)))))))))))))
    clear y
    refine gS (Yk.bin (xv:=NI (i-1)) (yv:=NI 1) h rfl rfl (MU _ (i-1) (by omega)) (gK (And.intro ⟨i-1,n*128+(l.getD (a+(i-1)) 0).toNat%128,g,f,c,k,o,ad,rfl,rfl,hE,by omega,by rw[Ke _ (i-1) (j+1) (by omega) (by omega),show i-1+1=i by omega,←hn,GS];omega,trivial⟩ ?_)))
    show((match ((.int .i64 (((i-1:Nat):Int)-1:Int)):Value)with | .int _ z=>z+1 | _=>0):Int).toNat<((match ((ac 9):Value)with | .int _ z=>z+1 | _=>0):Int).toNat
    rw[q9]
    simp only[Int.sub_add_cancel];omega
   have hi0:i=0:=by omega
   refine gS (Yk.bin (xv:=NI a) (yv:=NI (j+1)) f c rfl (Ac _ _ _ (by omega)) (EB rfl m (vr (NI ((a)+(j+1))) rfl) (vr (NI 0) rfl) ?_))
   have hyes:Ax 0 (l.drop a)=some (Ev ((l.drop a).take (j+1)),j+1):=GT j 0 _ hbig (by omega) (by rw[←hix];omega) (by omega) (by rw[←hix];omega)
   rw[hi0,List.drop_zero]at hn
   rw[hyes,←hn]
   exact⟨rfl,hE⟩
  have hno:Ax 0 (l.drop a)=none:=Gb j 0 _ (by omega) hbig (.inl (by rw[List.length_drop];omega))
  refine gS (Yk.eqI (a:=(j+1:Nat)) (b:=(9:Nat)) c rfl (BU _ _ _ _) (kT (by omega) (gS (Yk.lenRB EX (RB.of (hr.keep hE) g) (gS (Yk.bin (xv:=NI l.length) (yv:=NI a) rfl f rfl (Ay _ _ _ (by omega) (by omega)) (gS (Yk.eqI (a:=(j+1:Nat)) (b:=((l.length)-(a):Nat)) c rfl (BU _ _ _ _) (kF (by omega) (gS (Yk.pickT rfl rfl (cF rfl (EB rfl (vr (NI 0) rfl) (vr (NI 0) rfl) (vr (NI 6) rfl) ?_)))))))))))))
  rw[hno]
  exact⟨rfl,hE⟩
 have hno:Ax 0 (l.drop a)=none:=Gb j 0 _ (by omega) hbig (.inr (by omega))
 refine gS (Yk.eqI (a:=(j+1:Nat)) (b:=(9:Nat)) c rfl (BU _ _ _ _) (kF (by omega) (gS (Yk.pickF rfl rfl (cF rfl (EB rfl (vr (NI 0) rfl) (vr (NI 0) rfl) (vr (NI 6) rfl) ?_))))))
 rw[hno]
 exact⟨rfl,hE⟩
open Go.RowKit
def AU(l:Bs)(a mx:Nat):Bs × Nat × Nat:=
  match Ax 0 (l.drop a)with
  | none=>([],0,6)
  | some x=>if mx<x.1 then([],0,2)else if l.length-(a+x.2)<x.1 then([],0,6)else((l.drop (a+x.2)).take x.1,a+x.2+x.1,0)
theorem KE{l:Bs}{a mx:Nat}(h:Ax 0 (l.drop a)=none):AU l a mx=([],0,6):=by unfold AU;rw[h]
theorem KF{l:Bs}{a mx n k:Nat}(h:Ax 0 (l.drop a)=some (n,k)):AU l a mx=if mx<n then([],0,2)else if l.length-(a+k)<n then([],0,6)else((l.drop (a+k)).take n,a+k+n,0):=by unfold AU;rw[h]
theorem KG(l:Bs)(a n:Nat):(l.drop a).take (a+n-a)=(l.drop a).take n:=by rw[Nat.add_sub_cancel_left]
theorem Kf(b:Bs)(a fin:Nat)(ha:a≤(b.take fin).length):(match By b a fin with | none=>(AU (b.take fin) a 1048576).2.2≠0 | some x=>AU (b.take fin) a 1048576=(x.1,x.2,0)):=by
  unfold By AU
  cases h:Ax 0 ((b.take fin).drop a)with
  | none=>simp
  | some x=>
    dsimp only
    have hb:=Bj (x:=x.1) (k:=x.2) ha h
    by_cases h1:1048576<x.1
    · rw[if_pos h1,if_pos h1];simp
    · rw[if_neg h1,if_neg h1]
      by_cases h2:(b.take fin).length<a+x.2+x.1
      · rw[if_pos h2,if_pos (by omega)];simp
      · rw[if_neg h2,if_neg (by omega)]
def Jf(l:Bs)(a i:Nat):Bs:=(l.drop a).take i++List.replicate (32-i) 0
theorem Ri{l:Bs}{a i:Nat}(hi:i≤32)(ha:a+32≤l.length):(Jf l a i).length=32:=by
  unfold Jf
  rw[List.length_append,List.length_take,List.length_drop,List.length_replicate]
  omega
theorem Qv{l:Bs}{a i:Nat}(hi:i<32)(ha:a+32≤l.length):(Jf l a i).set i (l.getD (a+i) 0)=Jf l a (i+1):=by
  unfold Jf
  have hl:((l.drop a).take i).length=i:=by rw[List.length_take,List.length_drop];omega
  rw[List.set_append_right _ _ (by omega),hl,Nat.sub_self,show 32-i=(32-(i+1))+1 by omega,List.replicate_succ,List.set_cons_zero,List.take_succ_eq_append_getElem (by rw[List.length_drop];omega),List.append_assoc,List.getElem_drop,List.getD_eq_getElem?_getD,List.getElem?_eq_getElem (by omega)]
  rfl
theorem Rl(l:Bs)(a:Nat):Jf l a 32=(l.drop a).take 32:=by unfold Jf;simp
def Dt(l:Bs)(a:Nat):Bs × Nat × Nat:=if l.length<a then(List.replicate 32 0,0,1)else if l.length-a<32 then(List.replicate 32 0,0,6)else((l.drop a).take 32,a+32,0)
theorem Qw{ids:List Bs}{id:Bs}{i:Nat}(hi:i<ids.length)(h1:id∉ids.take i)(h2:ids.getD i []=id):ids.idxOf id=i:=by
  have hg:ids[i]=id:=by rw[List.getD_eq_getElem?_getD,List.getElem?_eq_getElem hi]at h2;exact h2
  have e:ids=ids.take i++id :: ids.drop (i+1):=by
    rw[←hg,←List.drop_eq_getElem_cons hi,List.take_append_drop]
  refine(congrArg (List.idxOf id) e).trans ?_
  rw[List.idxOf_append,if_neg h1,List.idxOf_cons_self,List.length_take]
  omega
open Go.RowKit
theorem NM{es:List Ent}{p k:Nat}(h:(es.getD k dEnt.1).pos=p):B1 es p (k+1)=(k:Int):=if_pos h
theorem Mg{es:List Ent}{p k:Nat}(h:¬(es.getD k dEnt.1).pos=p):B1 es p (k+1)=B1 es p k:=if_neg h
def Du(es:List Ent)(pl:List Nat)(p k:Nat):Int:=if p∈pl.take k then -1 else B1 es p es.length
theorem Mh(es:List Ent)(pl:List Nat)(p:Nat):Du es pl p 0=B1 es p es.length:=by unfold Du;simp
theorem E6{pl:List Nat}{p k:Nat}(hk:k<pl.length):p∈pl.take (k+1)↔p∈pl.take k∨p=pl.getD k 0:=by
  rw[List.take_succ_eq_append_getElem hk,List.mem_append,List.mem_singleton,List.getD_eq_getElem?_getD,List.getElem?_eq_getElem hk];rfl
theorem NN{es:List Ent}{pl:List Nat}{p k:Nat}(hk:k<pl.length)(h:pl.getD k 0=p):Du es pl p (k+1) = -1:=if_pos ((E6 hk).2 (.inr h.symm))
theorem Mi{es:List Ent}{pl:List Nat}{p k:Nat}(hk:k<pl.length)(h:¬pl.getD k 0=p):Du es pl p (k+1)=Du es pl p k:=by
  unfold Du
  by_cases q:p∈pl.take k
  · rw[if_pos q,if_pos ((E6 hk).2 (.inl q))]
  · rw[if_neg q,if_neg (fun hm=>((E6 hk).1 hm).elim q (fun e=>h e.symm))]
theorem NO{es:List Ent}{pl:List Nat}{p k:Nat}(hk:pl.length≤k):Du es pl p k=Cw es pl p:=by
  unfold Du Cw
  rw[List.take_of_length_le hk]
theorem DU(xs:List Ad)(k:Nat):(xs.map Prod.fst).getD k dEnt.1=(xs.getD k dEnt).1:=by
  rw[List.getD_eq_getElem?_getD,List.getD_eq_getElem?_getD,List.getElem?_map]
  cases xs[k]? <;> rfl
theorem Ps{es:List Ent}{pl:List Nat}{p:Nat}(h:0≤Cw es pl p):(Cw es pl p).toNat<es.length:=by
  unfold Cw at h ⊢
  split at h
  · omega
  · rename_i q
    rw[if_neg q]
    have:=(HK es p es.length).2
    omega
def ParR(w:World)(o:Option B2)(vi ve:Value)(c:Bool):Prop:=match o with | none=>c=false∧vi = .slice none 0 0∧ve = .slice none 0 0 | some s=>c=true∧RG 32 Lib.byteCells w vi s.ids∧∃xs,RG 35 entC w ve xs∧EntsOk w xs∧xs.map Prod.fst=s.en
theorem ParR.none{w:World}{o:Option B2}{c:Bool}(h:o = .none)(e:c=false):ParR w o (.slice none 0 0) (.slice none 0 0) c:=by subst h;exact⟨e,rfl,rfl⟩
theorem ParR.some{w:World}{o:Option B2}{s:B2}{vi ve:Value}{c:Bool}(h:o = .some s)(e:c=true)(h1:RG 32 Lib.byteCells w vi s.ids){xs:List Ad}(h2:RG 35 entC w ve xs)(h3:EntsOk w xs)(h4:xs.map Prod.fst=s.en):ParR w o vi ve c:=by subst h;exact⟨e,h1,xs,h2,h3,h4⟩
theorem NP{b:Bs}{s:B2}(h:BC b=some s)(hb:b.length≤1048576){xs:List Ad}(hx:xs.map Prod.fst=s.en):RdP s.ids xs (entR s)∧F2 s.ids:=by
  unfold BC at h
  obtain⟨⟨n,q⟩,_,h⟩:=Option.bind_eq_some_iff.1 h
  unfold DT at h
  split at h
  · split at h
    · rename_i h1 hn
      unfold FI at h
      obtain⟨es,he,h⟩:=Option.bind_eq_some_iff.1 h
      obtain⟨hl,hm⟩:=DQ he (by have:=h1.2.2.1;omega)
      unfold Ee at h
      obtain⟨s',h2,h⟩:=Option.bind_eq_some_iff.1 h
      split at h
      · split at h
        · rename_i hbas
          cases h
          rcases Jc _ es n with ⟨h3,_⟩ | ⟨s2,x2,h3,_,R⟩
          · rw[h2]at h3;cases h3
          · rw[h2]at h3;cases h3
            have hxl:xs.length=n:=by rw[←R.le,←hx,List.length_map]
            refine⟨⟨by rw[R.li,hxl],by rw[hxl];dsimp only at hn;omega,fun j hj=> ?_,fun x hxm hb=> ?_,fun x hxm=> ?_⟩,R.asc⟩
            · rw[R.entAt (by rw[←hxl];exact hj),←hx,DU]
            · exact hbas _ (hx▸List.mem_map_of_mem hxm) hb
            · have:=hm _ (R.mem _ (hx▸List.mem_map_of_mem hxm));omega
        · cases h
      · cases h
    · cases h
  · cases h
theorem Jg{ids:List Bs}{ys:List Ad}{j:Nat}(hj:j<ys.length)(h:∀y∈ys.take j,y.1.based=true→y.1.base∈ids)(h' :(ys.getD j dEnt).1.based=true→(ys.getD j dEnt).1.base∈ids):∀y∈ys.take (j+1),y.1.based=true→y.1.base∈ids:=fun y hy=>by
  rw[List.take_succ_eq_append_getElem hj]at hy
  rcases List.mem_append.1 hy with hy | hy
  · exact h y hy
  · rw[List.mem_singleton.1 hy]
    rw[List.getD_eq_getElem?_getD,List.getElem?_eq_getElem hj]at h'
    exact h'
theorem Pu{s:B2}{ys:List Ad}(hy:ys.map Prod.fst=s.en)(h:∀y∈ys,y.1.based=true→y.1.base∈s.ids):Gu s:=fun e he hb=>by
  rw[←hy]at he
  obtain⟨y,hm,rfl⟩:=List.mem_map.1 he
  exact h y hm hb
theorem Pv{s:B2}{ys:List Ad}(hy:ys.map Prod.fst=s.en){j:Nat}(hj:j<ys.length)(hb:(ys.getD j dEnt).1.based=true)(h:(ys.getD j dEnt).1.base∉s.ids):¬Gu s:=fun q=>h (q _ (hy▸List.mem_map_of_mem (getD_mem dEnt hj)) hb)
theorem Kg{xs ys:List Ad}(h:∀y∈ys,y∈xs){k:Nat}(hk:k<xs.length):∀y∈ys++ [xs.getD k dEnt],y∈xs:=fun y hy=>by
  rcases List.mem_append.1 hy with hy | hy
  · exact h y hy
  · rw[List.mem_singleton.1 hy];exact getD_mem dEnt hk
theorem two_one{a b:Value}(ha:a.oneCell' =true)(hb:b.oneCell' =true):∀u∈ [a,b],u.oneCell' =true:=fun u hu=>by
  rcases List.mem_cons.1 hu with rfl | hu
  · exact ha
  · rw[List.mem_singleton.1 hu];exact hb
theorem rx_rel{T:Bs}{es:List Ent}{i:Nat}{s:B2}(h:D7 T es i=some s):∃x,RxRel T es i s x:=by
  rcases Jc T es i with ⟨h1,_⟩ | ⟨s2,x,h1,_,R⟩
  · rw[h]at h1;cases h1
  · rw[h]at h1;cases h1;exact⟨x,R⟩
theorem RH{b T:Bs}{f n i:Nat}(hb:f+1024+36*n+36=b.length)(hT:T=(b.drop (f+1024)).take (b.length-36-(f+1024)))(hi:i<n):
    Dt (b.drop (f+1024+36*i)) 0=(AX T i,32,0)∧BI ((b.drop (f+1024+36*i)).drop 32)=Bh T i∧(AX T i).length=32:=by
  have hTl:T.length=36*n:=by rw[hT,List.length_take,List.length_drop];omega
  have hd:T.drop (36*i)=(b.drop (f+1024+36*i)).take (36*n-36*i):=by
    rw[hT,List.drop_take,List.drop_drop,show b.length-36-(f+1024)-36*i=36*n-36*i by omega]
  refine⟨?_,?_,rowId_len hTl hi⟩
  · unfold Dt
    rw[if_neg (by omega),if_neg (by rw[List.length_drop];omega)]
    unfold AX
    rw[hd,List.take_take,show min 32 (36*n-36*i)=32 by omega,List.drop_zero]
  · unfold Bh
    rw[hd,List.drop_take]
    have e:∀k,k<4→((b.drop (f+1024+36*i)).drop 32).getD k 0=(((b.drop (f+1024+36*i)).drop 32).take (36*n-36*i-32)).getD k 0:=fun k hk=>by
      rw[List.getD_eq_getElem?_getD,List.getD_eq_getElem?_getD,List.getElem?_take_of_lt (by omega)]
    unfold BI
    rw[e 0 (by omega),e 1 (by omega),e 2 (by omega),e 3 (by omega)]
theorem QN{T:Bs}{es:List Ent}{n:Nat}{s:B2}{x:IxS Ent}(R:RxRel T es n s x):∀p∈s.pl,p<9223372036854775808:=fun p hp=>by
  obtain⟨j,hj,rfl⟩:=List.mem_iff_getElem.1 hp
  have:=(R.rid j (by rw[←R.lp];exact hj)).2
  rw[List.getD_eq_getElem?_getD,List.getElem?_eq_getElem hj]at this
  rw[show s.pl[j]=Bh T j from this]
  unfold Bh
  exact Nat.lt_trans (QY _) (by decide)
theorem Pw{b:Bs}{f n:Nat}{es:List Ent}{s:B2}(h:D7 ((b.drop (f+1024)).take (b.length-36-(f+1024))) es n=some s):Ee b f n es=if behindR s.ids s.pl f=(b.take (b.length-32)).drop f then(if Gu s then some s else none)else none:=by
  unfold Ee
  rw[h];rfl
theorem Kh{b:Bs}{f n:Nat}{es:List Ent}(h:D7 ((b.drop (f+1024)).take (b.length-36-(f+1024))) es n=none):Ee b f n es=none:=by
  unfold Ee
  rw[h];rfl
theorem Px{w:World}{g:Nat}{T:TypeId}{fr:Nat × Nat}(hb:w.heap[g]? =some (.cells ([(Value.slice none 0 0),(Value.slice none 0 0)]).toArray T fr)):Dm w g:=fun j x hc=>by
  unfold World.cell? at hc
  rw[hb]at hc
  match j,hc with
  | 0,hc=>simp at hc
  | 1,hc=>simp at hc
  | j+2,hc=>simp at hc
theorem EntsOk.keepN{w w' :World}{b:Nat}{xs:List Ad}(h:EntsOk w xs)(hm:Dm w b)(hg:w.grownBy w' (some b)):EntsOk w' xs:=fun x hx=>⟨(h x hx).1.keepN hm hg,(h x hx).2⟩
open Go.RowKit
set_option maxRecDepth 100000
theorem GU:AA Tryd.prog 81:=fun _ _=>by kernel_rfl
set_option maxHeartbeats 1600000
theorem D5(w:World)(v:Value)(l:Bs)(hr:RB w v l)(a mx:Nat)(ha:a≤l.length)(hl:l.length≤1073741824):
  Calls Tryd.prog 91 #[v,NI a,NI mx] w fun e w' =>e = .returned (.tuple #[St (AU l a mx).1,NI (AU l a mx).2.1,NI (AU l a mx).2.2])∧Ext w w' :=by
 refine gG (args:= [v,NI a,NI mx]) Tryd.func91 rfl 41 rfl rfl ?_
 have hE:=Ext.refl w
 rcases hgl:Ax 0 (l.drop a)with _ | ⟨n,k⟩
 ·have hR:=KE (mx:=mx) hgl
  refine gS (Yk.callA2 GU rfl rfl (((show Calls _ _ _ _ (fun e c=>e = .returned (.tuple #[NI 0,NI 0,NI 6])∧Ext _ c)from by have h:=BH _ v (l) (hr.keep hE) (a) (by omega) (by omega);rw[hgl]at h;exact h)).mono ?_))
  rintro e o ⟨rfl,f⟩
  refine⟨_,rfl,?_⟩
  refine gS (Yk.extract (vs:= [NI 0,NI 0,NI 6]) rfl rfl (gS (Yk.extract (vs:= [NI 0,NI 0,NI 6]) rfl rfl (gS (Yk.extract (vs:= [NI 0,NI 0,NI 6]) rfl rfl (gS (Yk.eqI (a:=(6:Nat)) (b:=(0:Nat)) rfl rfl (AF _ _ _ _) (kT (by decide) (cT rfl (EB rfl (vr (St (([]:List UInt8))) rfl) (vr (NI 0) rfl) (vr (NI 6) rfl) ?_))))))))))
  have hE:=hE.trans f
  exact⟨by rw[hR],hE⟩
 have hR:=KF (mx:=mx) hgl
 obtain⟨p,hak,q⟩:=Bj ha hgl
 by_cases q1:mx<n
 ·rw[if_pos q1]at hR
  refine gS (Yk.callA2 GU rfl rfl (((show Calls _ _ _ _ (fun e c=>e = .returned (.tuple #[NI n,NI (a+k),NI 0])∧Ext _ c)from by have h:=BH _ v (l) (hr.keep hE) (a) (by omega) (by omega);rw[hgl]at h;exact h)).mono ?_))
  rintro e r ⟨rfl,g⟩
  refine⟨_,rfl,?_⟩
  refine gS (Yk.extract (vs:= [NI n,NI (a+k),NI 0]) rfl rfl (gS (Yk.extract (vs:= [NI n,NI (a+k),NI 0]) rfl rfl (gS (Yk.extract (vs:= [NI n,NI (a+k),NI 0]) rfl rfl (gS (Yk.eqI (a:=(0:Nat)) (b:=(0:Nat)) rfl rfl (AF _ _ _ _) (kF (by decide) (cF rfl (gS (Yk.eqI (a:=(n:Nat)) (b:=(mx:Nat)) rfl rfl (Av _ _ _ _) (kT (q1) (cT rfl (EB rfl (vr (St (([]:List UInt8))) rfl) (vr (NI 0) rfl) (vr (NI 2) rfl) ?_))))))))))))))
  have hE:=hE.trans g
  exact⟨by rw[hR],hE⟩
 rw[if_neg q1]at hR
 by_cases q2:l.length-(a+k)<n
 ·rw[if_pos q2]at hR
  refine gS (Yk.callA2 GU rfl rfl (((show Calls _ _ _ _ (fun e c=>e = .returned (.tuple #[NI n,NI (a+k),NI 0])∧Ext _ c)from by have h:=BH _ v (l) (hr.keep hE) (a) (by omega) (by omega);rw[hgl]at h;exact h)).mono ?_))
  rintro e s ⟨rfl,i⟩
  refine⟨_,rfl,?_⟩
  have hE:=hE.trans i
  refine gS (Yk.extract (vs:= [NI n,NI (a+k),NI 0]) rfl rfl (gS (Yk.extract (vs:= [NI n,NI (a+k),NI 0]) rfl rfl (gS (Yk.extract (vs:= [NI n,NI (a+k),NI 0]) rfl rfl (gS (Yk.eqI (a:=(0:Nat)) (b:=(0:Nat)) rfl rfl (AF _ _ _ _) (kF (by decide) (cF rfl (gS (Yk.eqI (a:=(n:Nat)) (b:=(mx:Nat)) rfl rfl (Av _ _ _ _) (kF (q1) (cF rfl (gS (Yk.lenRB EX (RB.of (hr.keep hE) rfl) (gS (Yk.bin (xv:=NI l.length) (yv:=NI (a+k)) rfl rfl rfl (Ay _ _ _ (by omega) (by omega)) (gS (Yk.eqI (a:=(n:Nat)) (b:=((l.length)-(a+k):Nat)) rfl rfl (Av _ _ _ _) (kT (q2) (cT rfl (EB rfl (vr (St (([]:List UInt8))) rfl) (vr (NI 0) rfl) (vr (NI 6) rfl) ?_))))))))))))))))))))))
  exact⟨by rw[hR],hE⟩
 rw[if_neg q2]at hR
 refine gS (Yk.callA2 GU rfl rfl (((show Calls _ _ _ _ (fun e c=>e = .returned (.tuple #[NI n,NI (a+k),NI 0])∧Ext _ c)from by have h:=BH _ v (l) (hr.keep hE) (a) (by omega) (by omega);rw[hgl]at h;exact h)).mono ?_))
 rintro e t ⟨rfl,j⟩
 refine⟨_,rfl,?_⟩
 have hE:=hE.trans j
 refine gS (Yk.extract (vs:= [NI n,NI (a+k),NI 0]) rfl rfl (gS (Yk.extract (vs:= [NI n,NI (a+k),NI 0]) rfl rfl (gS (Yk.extract (vs:= [NI n,NI (a+k),NI 0]) rfl rfl (gS (Yk.eqI (a:=(0:Nat)) (b:=(0:Nat)) rfl rfl (AF _ _ _ _) (kF (by decide) (cF rfl (gS (Yk.eqI (a:=(n:Nat)) (b:=(mx:Nat)) rfl rfl (Av _ _ _ _) (kF (q1) (cF rfl (gS (Yk.lenRB EX (RB.of (hr.keep hE) rfl) (gS (Yk.bin (xv:=NI l.length) (yv:=NI (a+k)) rfl rfl rfl (Ay _ _ _ (by omega) (by omega)) (gS (Yk.eqI (a:=(n:Nat)) (b:=((l.length)-(a+k):Nat)) rfl rfl (Av _ _ _ _) (kF (q2) (cF rfl (gS (Yk.bin (xv:=NI (a+k)) (yv:=NI n) rfl rfl rfl (Ac _ _ _ (by omega)) (gS (Yk.sliceLH (xs:=l) (l:=a+k) (n:=(a+k)+(n)) EX M4 rfl (hr.keep hE) rfl rfl (by omega) (by omega) fun u m ha38=>(gS (Yk.convRB EX u5 MH (RB.of m rfl) (gS (Yk.bin (xv:=NI (a+k)) (yv:=NI n) rfl rfl rfl (Ac _ _ _ (by omega)) (EB rfl (vr (St ((l.drop (a+k)).take (((a+k)+(n))-(a+k)))) rfl) (vr (NI ((a+k)+(n))) rfl) (vr (NI 0) rfl) ?_))))))))))))))))))))))))))))))
 exact⟨by rw[hR,←KG l (a+k) n],hE⟩

theorem EJ(w:World)(v:Value)(l:Bs)(hr:RB w v l)(a:Nat)(ha:a<4611686018427387904)(hl:l.length≤1073741824):
  Calls Tryd.prog 83 #[v,NI a] w fun e w' =>e = .returned (.tuple #[AB (Dt l a).1,NI (Dt l a).2.1,NI (Dt l a).2.2])∧Ext w w' :=by
 refine gG (args:= [v,NI a]) Tryd.func83 rfl 39 rfl rfl ?_
 have hE:=Ext.refl w
 refine gS (Yk.alloc PP fun j n aq t ae ar=> ?_)
 have c:=t;clear t
 have au:j<n.heap.size:=by omega
 refine gS (Yk.alloc PP fun k af o u g av=> ?_)
 have f:=Ext.refl n
 have hE:=hE.trans ae
 have ag:=hE.size
 have m:=u;clear u
 have aw:k<af.heap.size:=by omega
 by_cases q1:l.length<a
 ·have hR:Dt l a=_:=if_pos q1
  have x:=Aw (bl c) o
  have c:=eb g c
  have hE:=hE.trans g
  refine gS (Yk.eqI (a:=(a:Nat)) (b:=(0:Nat)) rfl rfl (Ah _ _ _ _) (kF (by omega) (gS (Yk.lenRB EX (RB.of (hr.keep hE) rfl) (gS (Yk.eqI (a:=(a:Nat)) (b:=(l.length:Nat)) rfl rfl (Av _ _ _ _) (kT (q1) (gS (Yk.pickF rfl rfl (cT rfl (gS (Yk.loadAll rfl m QJ rfl (by exact Ag List.length_replicate) (gS (Yk.storeAll (vr (PQ j 0) rfl) (vr (AB (List.replicate 32 0)) rfl) c (by exact BQ List.length_replicate List.length_replicate) (by exact Ag List.length_replicate) (Ai _) fun ax y ah ay=> ?_))))))))))))))
  clear c
  have c:=y;clear y
  have az:=bl c
  refine Rs rfl (ResF.row rfl c QJ rfl (by first | exact Ag hXl | exact Ag List.length_replicate)) (vr (NI 0) rfl) (vr (NI 1) rfl) ?_
  rw[hR]
  have hE:=Aa hE ah (Nat.le_trans (Nat.le_refl _) (by omega))
  exact⟨rfl,hE⟩
 by_cases q2:l.length-a<32
 ·have hR:Dt l a=_:=(if_neg q1).trans (if_pos q2)
  have x:=Aw (bl c) o
  have c:=eb g c
  have hE:=hE.trans g
  refine gS (Yk.eqI (a:=(a:Nat)) (b:=(0:Nat)) rfl rfl (Ah _ _ _ _) (kF (by omega) (gS (Yk.lenRB EX (RB.of (hr.keep hE) rfl) (gS (Yk.eqI (a:=(a:Nat)) (b:=(l.length:Nat)) rfl rfl (Av _ _ _ _) (kF (q1) (gS (Yk.pickF rfl rfl (cF rfl (gS (Yk.lenRB EX (RB.of (hr.keep hE) rfl) (gS (Yk.bin (xv:=NI l.length) (yv:=NI a) rfl rfl rfl (Ay _ _ _ (by omega) (by omega)) (gS (Yk.eqI (a:=((l.length)-(a):Nat)) (b:=(32:Nat)) rfl rfl (Ah _ _ _ _) (kT (q2) (cT rfl (gS (Yk.loadAll rfl m QJ rfl (by exact Ag List.length_replicate) (gS (Yk.storeAll (vr (PQ j 0) rfl) (vr (AB (List.replicate 32 0)) rfl) c (by exact BQ List.length_replicate List.length_replicate) (by exact Ag List.length_replicate) (Ai _) fun a0 z ai a1=> ?_))))))))))))))))))))))
  clear c
  have c:=z;clear z
  have a2:=bl c
  refine Rs rfl (ResF.row rfl c QJ rfl (by first | exact Ag hXl | exact Ag List.length_replicate)) (vr (NI 0) rfl) (vr (NI 6) rfl) ?_
  rw[hR]
  have hE:=Aa hE ai (Nat.le_trans (Nat.le_refl _) (by omega))
  exact⟨rfl,hE⟩
 have hR:Dt l a=_:=(if_neg q1).trans (if_neg q2)
 have x:=Aw (bl c) o
 have c:=eb g c
 have hE:=hE.trans g
 have f:=f.trans g
 refine gS (Yk.eqI (a:=(a:Nat)) (b:=(0:Nat)) rfl rfl (Ah _ _ _ _) (kF (by omega) (gS (Yk.lenRB EX (RB.of (hr.keep hE) rfl) (gS (Yk.eqI (a:=(a:Nat)) (b:=(l.length:Nat)) rfl rfl (Av _ _ _ _) (kF (q1) (gS (Yk.pickF rfl rfl (cF rfl (gS (Yk.lenRB EX (RB.of (hr.keep hE) rfl) (gS (Yk.bin (xv:=NI l.length) (yv:=NI a) rfl rfl rfl (Ay _ _ _ (by omega) (by omega)) (gS (Yk.eqI (a:=((l.length)-(a):Nat)) (b:=(32:Nat)) rfl rfl (Ah _ _ _ _) (kF (q2) (cF rfl (gL (fun(ρ:Ae) (wz:World)=>∃i:Nat,ρ 0=(v:Value)∧ρ 1=(NI a:Value)∧ρ 4=(PQ j 0:Value)∧ρ 5=(NI 0:Value)∧ρ 6=(NI 0:Value)∧ρ 7=(PQ k 0:Value)∧ρ 16=(.bool (false):Value)∧ρ 22=(.bool (false):Value)∧ρ 8=(NI i:Value)∧Ext w wz∧wz.heap[j]? =some (.cells (Lib.byteCells (List.replicate 32 0)).toArray 38 (0,0))∧Ext n wz∧wz.heap[k]? =some (.cells (Lib.byteCells (Jf l a i)).toArray 38 (0,0))∧(i≤32)∧True) (fun ρ _=>32-(intOf (ρ 8)).toNat) ⟨0,rfl,rfl,rfl,rfl,rfl,rfl,rfl,rfl,rfl,hE,c,f,AE m (congrArg Lib.byteCells (by unfold Jf;simp)),Nat.zero_le _,trivial⟩ ?_)))))))))))))))))))
 clear m
 clear hE c
 rintro aj ak ⟨i,T0,p,q,T5,T6,r,an,ao,h,hE,c,f,hb21l,hi,-⟩
 have q8:=h
 by_cases hlt:i<32
 ·have hil:=Ri (l:=l) (a:=a) hi (by omega)
  refine gS (Yk.eqI (a:=(i:Nat)) (b:=(32:Nat)) h rfl (Ah _ _ _ _) (kT (hlt) (cT rfl (gS (Yk.bin (xv:=NI a) (yv:=NI i) p h rfl (Ac _ _ _ (by omega)) (gS (Yk.atRB (l:=l) (i:=(a)+(i)) EX M4 (RB.of (hr.keep hE) T0) rfl (by omega) fun a3 ab=>(gS (Yk.loadC u5 rfl (PCell.of ab rfl) (gS (Yk.atArr0 (i:=i) QJ M4 r h (by omega) (gS (Yk.storeB8 (i:=i) (v:=l.getD ((a)+(i)) 0) rfl rfl hb21l (by rw[hil];omega) Ru fun a4 ac s a5=> ?_)))))))))))))
  clear ab
  clear hb21l
  have hb21l:=ac;clear ac
  have a6:=bl hb21l
  have hE:=Aa hE s (Nat.le_trans ag (by omega))
  have c:=kb s c (by omega)
  have f:=Aa f s (Nat.le_trans (Nat.le_refl _) (by omega))
  refine gS (Yk.bin (xv:=NI i) (yv:=NI 1) h rfl rfl (Ac _ _ _ (by omega)) (gK (And.intro ⟨i+1,T0,p,q,T5,T6,r,an,ao,rfl,hE,c,f,AE hb21l (congrArg Lib.byteCells (Qv hlt (by omega))),by omega,trivial⟩ ?_)))
  show 32-(intOf (NI ((i)+(1)))).toNat<32-(intOf (aj 8)).toNat
  rw[q8]
  simp only[intOf,Int.toNat_natCast];omega
 have hi32:i=32:=by omega
 obtain⟨X,hX⟩:∃X,X=(l.drop a).take 32:=⟨_,rfl⟩
 have hXl:X.length=32:=by rw[hX,List.length_take,List.length_drop];omega
 have hb21l:ak.heap[k]? =some (.cells (Lib.byteCells X).toArray 38 (0,0)):=AE hb21l (congrArg Lib.byteCells (by rw[hi32,Rl,hX]))
 refine gS (Yk.eqI (a:=(i:Nat)) (b:=(32:Nat)) h rfl (Ah _ _ _ _) (kF (hlt) (cF rfl (gS (Yk.loadAll r hb21l QJ rfl (by exact Ag hXl) (gS (Yk.bin (xv:=NI a) (yv:=NI 32) p rfl rfl (Ac _ _ _ (by omega)) (gS (Yk.storeAll q (vr (AB X) rfl) c (by exact BQ hXl List.length_replicate) (by exact Ag hXl) (Ai _) fun a7 ad ap a8=> ?_)))))))))
 clear f
 clear c
 have c:=ad;clear ad
 have a9:=bl c
 refine Rs rfl (ResF.row q c QJ rfl (by first | exact Ag hXl | exact Ag List.length_replicate)) (vr (NI ((a)+(32))) rfl) (vr (NI 0) rfl) ?_
 rw[hR,←hX]
 have hE:=Aa hE ap (Nat.le_trans (Nat.le_refl _) (by omega))
 exact⟨rfl,hE⟩
open Go.RowKit
set_option maxRecDepth 100000
theorem E1(z0:Int)(z1:Bool)(w:World):(Instr.build 151 #[(0, .int .i64 z0),(1, .bool z1)]).run Tryd.prog w = .ok (.agg (Value.int .i64 z0 :: Value.bool z1 :: (Lib.byteCells (List.replicate 32 0)++ [Value.slice none 0 0])).toArray) w:=by kernel_rfl
theorem E2{d:Option Tmp}{ty:TypeId}{pos:String}{af:Array Edge}{gd:Option (Nat × Bool)}(σ:Operand→Value)(w:World):(execOp σ ⟨d, .alloc 151,ty,pos,af,gd⟩).run Tryd.prog w = .ok (.value (PQ w.heap.size 0)) (w.alloc (.cells (entC dEnt).toArray 151)):=by kernel_rfl
theorem Dn:(Tryd.prog.info? 151).map (·.size)=some 35:=by kernel_rfl
theorem Eg:A6 Tryd.prog 151 1 1:=fun b o w=>by simp[go_sem]
theorem II:AA Tryd.prog 83:=fun _ _=>by kernel_rfl
theorem Ij:A6 Tryd.prog 151 2 2:=fun b o w=>by simp[go_sem]
theorem GV:AA Tryd.prog 91:=fun _ _=>by kernel_rfl
theorem Ik:A6 Tryd.prog 151 3 34:=fun b o w=>by simp[go_sem]
theorem Ki:∃fs,Tryd.prog.underlying 151=some (.struct fs):=DF (by kernel_rfl)
theorem Py(c0 c1 c2 c3 c4 c5 c6 c7 c8 c9 c10 c11 c12 c13 c14 c15 c16 c17 c18 c19 c20 c21 c22 c23 c24 c25 c26 c27 c28 c29 c30 c31 c32 c33 c34:Value)(w:World):(Instr.buildSlice 128 1 #[(0, .agg #[c0,c1,c2,c3,c4,c5,c6,c7,c8,c9,c10,c11,c12,c13,c14,c15,c16,c17,c18,c19,c20,c21,c22,c23,c24,c25,c26,c27,c28,c29,c30,c31,c32,c33,c34])]).run Tryd.prog w = .ok (.slice (some ⟨w.heap.size,0,none⟩) 1 1) (w.alloc (.cells #[c0,c1,c2,c3,c4,c5,c6,c7,c8,c9,c10,c11,c12,c13,c14,c15,c16,c17,c18,c19,c20,c21,c22,c23,c24,c25,c26,c27,c28,c29,c30,c31,c32,c33,c34] 151)):=by kernel_rfl
theorem Kj:∀(cs:Array Value),cs.size=35→∀w:World,(Instr.buildSlice 128 1 #[(0, .agg cs)]).run Tryd.prog w = .ok (.slice (some ⟨w.heap.size,0,none⟩) 1 1) (w.alloc (.cells cs 151))
 | ⟨c0 :: c1 :: c2 :: c3 :: c4 :: c5 :: c6 :: c7 :: c8 :: c9 :: c10 :: c11 :: c12 :: c13 :: c14 :: c15 :: c16 :: c17 :: c18 :: c19 :: c20 :: c21 :: c22 :: c23 :: c24 :: c25 :: c26 :: c27 :: c28 :: c29 :: c30 :: c31 :: c32 :: c33 :: c34 :: []⟩,_,w=>Py c0 c1 c2 c3 c4 c5 c6 c7 c8 c9 c10 c11 c12 c13 c14 c15 c16 c17 c18 c19 c20 c21 c22 c23 c24 c25 c26 c27 c28 c29 c30 c31 c32 c33 c34 w
theorem rf6_ig151:∃z,(Tryd.prog.info? 151).map (fun i=>(i.zero,i.size,i.bytes))=some (some z,35,72)∧z.cells.size=35:=Gl (by kernel_rfl)
theorem F3:Tryd.prog.underlying 128=some (.slice 151):=by kernel_rfl
set_option maxHeartbeats 1600000
theorem Jx(w:World)(v:Value)(b:Bs)(hr:RB w v b)(n first fin:Nat)(hff:first≤fin)(hf:fin≤b.length)(hn:n≤1048576)(hb:b.length≤1048576):
  Calls Tryd.prog 82 #[v,NI n,NI first,NI fin] w fun e w' =>∃x c,e = .returned (.tuple #[x, .bool c])∧Ext w w' ∧((c=false∧A9 b n first fin=none)∨(c=true∧∃es:List Ad,A9 b n first fin=some (es.map Prod.fst)∧RG 35 entC w' x es∧EntsOk w' es)):=by
 refine gG (args:= [v,NI n,NI first,NI fin]) Tryd.func82 rfl 82 rfl rfl ?_
 have hE:=Ext.refl w
 have hen0:OG w.heap.size 151 35 entC w (Value.slice none 0 0) ([]:List Ad):=OG.nil _ _ _ _ _
 refine gL (fun(ρ:Ae) (wz:World)=>∃i:Nat,∃es:List Ad,∃p:Nat,∃va:Value,ρ 0=(v:Value)∧ρ 1=(NI n:Value)∧ρ 3=(NI fin:Value)∧ρ 11=(NI i:Value)∧ρ 2=(NI p:Value)∧ρ 10=(va:Value)∧Ext w wz∧EntsIn wz va es∧OG w.heap.size 151 35 (entC) wz va (es)∧(Cd b fin first i=some (es.map Prod.fst,p))∧(i≤n)∧(p≤fin)∧(es.length=i)∧True) (fun ρ _=>n-(intOf (ρ 11)).toNat) ⟨0,[],first,(Value.slice none 0 0),rfl,rfl,rfl,rfl,rfl,rfl,hE,EntsIn.nil _ _,Bo hen0 (rfl),rfl,Nat.zero_le _,by omega,rfl,trivial⟩ ?_
 clear hen0
 clear hE
 rintro bh w6 ⟨i,es,p,va,j,T1,q,au,f,ah,hE,hEn,hr_va,hs,hi,hp,hil,-⟩
 have q11:=au
 refine gS (Yk.eqI (a:=(i:Nat)) (b:=(n:Nat)) au T1 (Ah _ _ _ _) ?_)
 refine cD rfl (fun bi=> ?_) fun bi=> ?_
 ·have hil0:i<n:=bi
  have hst:=Fg hs
  have hlen:(b.take fin).length=fin:=by rw[List.length_take];omega
  by_cases hlt:p<fin
  ·by_cases hle:(b.getD p 0).toNat≤1
   ·have hO1:=JY ⟨hlt,hle⟩
    by_cases h1:b.getD p 0=1
    ·rw[if_pos h1]at hO1
     have h1n:(b.getD p 0).toNat=1:=by rw[h1];rfl
     by_cases hg:fin-(p+1)<32
     ·rw[if_pos hg]at hO1
      have hI:Dt (b.take fin) (p+1)=(List.replicate 32 0,0,6):=by unfold Dt;rw[hlen,if_neg (by omega),if_pos hg]
      refine gS (Yk.eqI (a:=(p:Nat)) (b:=(fin:Nat)) f q (DB _ _ _ _) (kF (Nat.not_le.2 hlt) (gS (Yk.atRB (l:=b) (i:=p) EX M4 (RB.of (hr.keep hE) j) f (by omega) fun el bj=>(gS (Yk.loadC u5 rfl (PCell.of bj rfl) (gS (Yk.eqI (a:=((b.getD (p) 0).toNat:Nat)) (b:=(1:Nat)) rfl rfl (Av _ _ _ _) (kF (by have:=hle;omega) (gS (Yk.pickF rfl rfl ?_)))))))))))
      clear bj
      refine cF rfl (gS (Yk.atRB (l:=b) (i:=p) EX M4 (RB.of (hr.keep hE) j) f (by omega) fun em bk=>(gS (Yk.loadC u5 rfl (PCell.of bk rfl) (gS (Yk.eqI (a:=((b.getD (p) 0).toNat:Nat)) (b:=(1:Nat)) rfl rfl (AO _ _ _ _) (kT (h1n) (gS (Yk.build2 f (vr (.bool (true)) rfl) (fun w=>E1 (p:Int) true w) (gS (Yk.alloc E2 fun bm c0 en bn c1 eo=> ?_)))))))))))
      have af:=Ext.refl w6
      have ep:=hE.size
      have ae:=bn;clear bn
      have eq:bm<c0.heap.size:=by omega
      refine gS (Yk.storeAll (vr (PQ bm 0) rfl) (vr (.agg (entC ((⟨p,true,List.replicate 32 0,[]⟩, .slice none 0 0))).toArray) rfl) ae (AW (x:=((⟨p,true,List.replicate 32 0,[]⟩, .slice none 0 0):Ad)) (y:=dEnt) (by simp) (by simp[dEnt])) (AP (x:=((⟨p,true,List.replicate 32 0,[]⟩, .slice none 0 0):Ad)) Dn (by simp)) (AS (x:=((⟨p,true,List.replicate 32 0,[]⟩, .slice none 0 0):Ad)) rfl) fun er bo c2 et=> ?_)
      clear ae
      have ae:=bo;clear bo
      have eu:=bl ae
      clear bk
      have af:=af.trans c1
      have af:=Aa af c2 (Nat.le_trans (Nat.le_refl _) (by omega))
      have hE:=hE.trans af
      refine gS (Yk.bin (xv:=NI p) (yv:=NI 1) f rfl rfl (Ac _ _ _ (by omega)) (gS (Yk.fieldAt Eg rfl (gS (Yk.cell1 IB rfl rfl (cellAt ae (show(entC ((⟨p,true,List.replicate 32 0,[]⟩, .slice none 0 0)))[1]? =some (.bool (true):Value)from rfl)) (cT rfl (gS (Yk.sliceHi (xs:=b) (n:=fin) EX M4 j (hr.keep hE) q (by omega) fun c3 c4 ha40=>(gS (Yk.callA2 II rfl rfl (((show Calls _ _ _ _ (fun e w2=>e = .returned (.tuple #[AB (List.replicate 32 0),NI 0,NI 6])∧Ext _ w2)from by have h:=EJ _ c3 (b.take fin) c4 (p+1) (by omega) (by omega);rw[hI]at h;exact h)).mono ?_)))))))))))
      rintro e ew ⟨rfl,a7⟩
      refine⟨_,rfl,?_⟩
      refine gS (Yk.extract (vs:= [AB (List.replicate 32 0),NI 0,NI 6]) rfl rfl (gS (Yk.extract (vs:= [AB (List.replicate 32 0),NI 0,NI 6]) rfl rfl (gS (Yk.extract (vs:= [AB (List.replicate 32 0),NI 0,NI 6]) rfl rfl (gS (Yk.alloc PP fun bp c5 c6 bq c7 ex=> ?_)))))))
      have hE:=hE.trans a7
      have af:=af.trans a7
      have c8:=hE.size
      have ae:=eb a7 ae
      have ey:=Aw (bl ae) c6
      have av:=bq;clear bq
      have ez:bp<c5.heap.size:=by omega
      refine gS (Yk.storeAll (vr (PQ bp 0) rfl) (vr (AB (List.replicate 32 0)) rfl) av (by exact BQ List.length_replicate List.length_replicate) (by exact Ag List.length_replicate) (Ai _) fun e0 br c9 e1=> ?_)
      clear av
      have av:=br;clear br
      have e2:=bl av
      refine gS (Yk.eqI (a:=(6:Nat)) (b:=(0:Nat)) rfl rfl (AF _ _ _ _) (kT (by decide) (cT rfl (BO rfl (vr (Value.slice none 0 0) rfl) (vr (.bool (false)) rfl) ?_))))
      have u:=B6 (show Cd b fin first (i+1)=none by rw[hst,hO1];rfl) (n-(i+1))
      rw[show i+1+(n-(i+1))=n by omega]at u
      have hE:=hE.trans c7
      have hE:=Aa hE c9 (Nat.le_trans c8 (by omega))
      exact⟨_,false,rfl,hE, .inl ⟨rfl,by unfold A9;rw[u];rfl⟩⟩
     rw[if_neg hg]at hO1
     have ac:(((b.take fin).drop (p+1)).take 32).length=32:=by rw[List.length_take,List.length_drop,hlen];omega
     have hI:Dt (b.take fin) (p+1)=(((b.take fin).drop (p+1)).take 32,p+1+32,0):=by unfold Dt;rw[hlen,if_neg (by omega),if_neg hg]
     have hTR:=Kf b (p+33) fin (by omega)
     rcases hT:By b (p+33) fin with _ | ⟨ts,tn⟩
     ·rw[hT]at hTR hO1
      have hTR:(AU (b.take fin) (p+33) 1048576).2.2≠0:=hTR
      refine gS (Yk.eqI (a:=(p:Nat)) (b:=(fin:Nat)) f q (DB _ _ _ _) (kF (Nat.not_le.2 hlt) (gS (Yk.atRB (l:=b) (i:=p) EX M4 (RB.of (hr.keep hE) j) f (by omega) fun e3 bs=>(gS (Yk.loadC u5 rfl (PCell.of bs rfl) (gS (Yk.eqI (a:=((b.getD (p) 0).toNat:Nat)) (b:=(1:Nat)) rfl rfl (Av _ _ _ _) (kF (by have:=hle;omega) (gS (Yk.pickF rfl rfl ?_)))))))))))
      clear bs
      refine cF rfl (gS (Yk.atRB (l:=b) (i:=p) EX M4 (RB.of (hr.keep hE) j) f (by omega) fun e4 bt=>(gS (Yk.loadC u5 rfl (PCell.of bt rfl) (gS (Yk.eqI (a:=((b.getD (p) 0).toNat:Nat)) (b:=(1:Nat)) rfl rfl (AO _ _ _ _) (kT (h1n) (gS (Yk.build2 f (vr (.bool (true)) rfl) (fun w=>E1 (p:Int) true w) (gS (Yk.alloc E2 fun bu da e5 bv db e6=> ?_)))))))))))
      have ag:=Ext.refl w6
      have dc:=hE.size
      have t:=bv;clear bv
      have e7:bu<da.heap.size:=by omega
      refine gS (Yk.storeAll (vr (PQ bu 0) rfl) (vr (.agg (entC ((⟨p,true,List.replicate 32 0,[]⟩, .slice none 0 0))).toArray) rfl) t (AW (x:=((⟨p,true,List.replicate 32 0,[]⟩, .slice none 0 0):Ad)) (y:=dEnt) (by simp) (by simp[dEnt])) (AP (x:=((⟨p,true,List.replicate 32 0,[]⟩, .slice none 0 0):Ad)) Dn (by simp)) (AS (x:=((⟨p,true,List.replicate 32 0,[]⟩, .slice none 0 0):Ad)) rfl) fun e8 bw dd e9=> ?_)
      clear t
      have t:=bw;clear bw
      have fa:=bl t
      clear bt
      have ag:=ag.trans db
      have ag:=Aa ag dd (Nat.le_trans (Nat.le_refl _) (by omega))
      have hE:=hE.trans ag
      refine gS (Yk.bin (xv:=NI p) (yv:=NI 1) f rfl rfl (Ac _ _ _ (by omega)) (gS (Yk.fieldAt Eg rfl (gS (Yk.cell1 IB rfl rfl (cellAt t (show(entC ((⟨p,true,List.replicate 32 0,[]⟩, .slice none 0 0)))[1]? =some (.bool (true):Value)from rfl)) (cT rfl (gS (Yk.sliceHi (xs:=b) (n:=fin) EX M4 j (hr.keep hE) q (by omega) fun de df ha97=>(gS (Yk.callA2 II rfl rfl (((show Calls _ _ _ _ (fun e w2=>e = .returned (.tuple #[AB (((b.take fin).drop (p+1)).take 32),NI (p+1+32),NI 0])∧Ext _ w2)from by have h:=EJ _ de (b.take fin) df (p+1) (by omega) (by omega);rw[hI]at h;exact h)).mono ?_)))))))))))
      rintro e fb ⟨rfl,a8⟩
      refine⟨_,rfl,?_⟩
      refine gS (Yk.extract (vs:= [AB (((b.take fin).drop (p+1)).take 32),NI (p+1+32),NI 0]) rfl rfl (gS (Yk.extract (vs:= [AB (((b.take fin).drop (p+1)).take 32),NI (p+1+32),NI 0]) rfl rfl (gS (Yk.extract (vs:= [AB (((b.take fin).drop (p+1)).take 32),NI (p+1+32),NI 0]) rfl rfl (gS (Yk.alloc PP fun bx dg dh bz b0 fc=> ?_)))))))
      have hE:=hE.trans a8
      have ag:=ag.trans a8
      have di:=hE.size
      have t:=eb a8 t
      have fd:=Aw (bl t) dh
      have am:=bz;clear bz
      have fe:bx<dg.heap.size:=by omega
      refine gS (Yk.storeAll (vr (PQ bx 0) rfl) (vr (AB (((b.take fin).drop (p+1)).take 32)) rfl) am (by exact BQ ac List.length_replicate) (by exact Ag ac) (Ai _) fun ff b1 b2 fg=> ?_)
      clear am
      have am:=b1;clear b1
      have fh:=bl am
      have t:=eb b0 t
      have t:=kb b2 t (by omega)
      refine gS (Yk.eqI (a:=(0:Nat)) (b:=(0:Nat)) rfl rfl (AF _ _ _ _) (kF (by decide) (cF rfl (gS (Yk.loadAll rfl am QJ rfl (by exact Ag ac) (gS (Yk.fieldAt Ij rfl (gS (Yk.entBase (B:=List.replicate 32 0) (B' :=((b.take fin).drop (p+1)).take 32) rfl rfl t (by simp) ac N2 fun fi b3 dj fj=> ?_)))))))))
      clear t
      have t:=b3;clear b3
      have fk:=bl t
      have hE:=hE.trans b0
      have hE:=Aa hE b2 (Nat.le_trans di (by omega))
      have hE:=Aa hE dj (Nat.le_trans dc (by omega))
      refine gS (Yk.sliceHi (xs:=b) (n:=fin) EX M4 j (hr.keep hE) q (by omega) fun dk dl ha130=>(gS (Yk.callA3 GV rfl rfl rfl ((D5 _ dk (b.take fin) dl (p+33) 1048576 (by omega) (by omega)).mono ?_))))
      rintro e fl ⟨rfl,dm⟩
      refine⟨_,rfl,?_⟩
      refine gS (Yk.extract (vs:= [St ((AU (b.take fin) (p+33) 1048576).1),NI ((AU (b.take fin) (p+33) 1048576).2.1),NI ((AU (b.take fin) (p+33) 1048576).2.2)]) rfl rfl (gS (Yk.extract (vs:= [St ((AU (b.take fin) (p+33) 1048576).1),NI ((AU (b.take fin) (p+33) 1048576).2.1),NI ((AU (b.take fin) (p+33) 1048576).2.2)]) rfl rfl (gS (Yk.extract (vs:= [St ((AU (b.take fin) (p+33) 1048576).1),NI ((AU (b.take fin) (p+33) 1048576).2.1),NI ((AU (b.take fin) (p+33) 1048576).2.2)]) rfl rfl (gS (Yk.eqI (a:=((AU (b.take fin) (p+33) 1048576).2.2:Nat)) (b:=(0:Nat)) rfl rfl (AF _ _ _ _) (kT (hTR) (cT rfl (BO rfl (vr (Value.slice none 0 0) rfl) (vr (.bool (false)) rfl) ?_))))))))))
      have u:=B6 (show Cd b fin first (i+1)=none by rw[hst,hO1];rfl) (n-(i+1))
      rw[show i+1+(n-(i+1))=n by omega]at u
      have hE:=hE.trans dm
      exact⟨_,false,rfl,hE, .inl ⟨rfl,by unfold A9;rw[u];rfl⟩⟩
     rw[hT]at hTR hO1
     have hTR:AU (b.take fin) (p+33) 1048576=(ts,tn,0):=hTR
     have hO:entOne b fin p=some (⟨p,true,((b.take fin).drop (p+1)).take 32,ts⟩,tn):=hO1
     refine gS (Yk.eqI (a:=(p:Nat)) (b:=(fin:Nat)) f q (DB _ _ _ _) (kF (Nat.not_le.2 hlt) (gS (Yk.atRB (l:=b) (i:=p) EX M4 (RB.of (hr.keep hE) j) f (by omega) fun fm b4=>(gS (Yk.loadC u5 rfl (PCell.of b4 rfl) (gS (Yk.eqI (a:=((b.getD (p) 0).toNat:Nat)) (b:=(1:Nat)) rfl rfl (Av _ _ _ _) (kF (by have:=hle;omega) (gS (Yk.pickF rfl rfl ?_)))))))))))
     clear b4
     refine cF rfl (gS (Yk.atRB (l:=b) (i:=p) EX M4 (RB.of (hr.keep hE) j) f (by omega) fun fn b5=>(gS (Yk.loadC u5 rfl (PCell.of b5 rfl) (gS (Yk.eqI (a:=((b.getD (p) 0).toNat:Nat)) (b:=(1:Nat)) rfl rfl (AO _ _ _ _) (kT (h1n) (gS (Yk.build2 f (vr (.bool (true)) rfl) (fun w=>E1 (p:Int) true w) (gS (Yk.alloc E2 fun aw dn fo b6 dp fp=> ?_)))))))))))
     have m:=Ext.refl w6
     have b7:=hE.size
     have a9:OB va aw:=AQ hr_va.2 (by omega)
     have g:=b6;clear b6
     have fq:aw<dn.heap.size:=by omega
     refine gS (Yk.storeAll (vr (PQ aw 0) rfl) (vr (.agg (entC ((⟨p,true,List.replicate 32 0,[]⟩, .slice none 0 0))).toArray) rfl) g (AW (x:=((⟨p,true,List.replicate 32 0,[]⟩, .slice none 0 0):Ad)) (y:=dEnt) (by simp) (by simp[dEnt])) (AP (x:=((⟨p,true,List.replicate 32 0,[]⟩, .slice none 0 0):Ad)) Dn (by simp)) (AS (x:=((⟨p,true,List.replicate 32 0,[]⟩, .slice none 0 0):Ad)) rfl) fun fr b8 dq fs=> ?_)
     clear g
     have g:=b8;clear b8
     have ft:=bl g
     clear b5
     have m:=m.trans dp
     have m:=Aa m dq (Nat.le_trans (Nat.le_refl _) (by omega))
     have hE:=hE.trans m
     refine gS (Yk.bin (xv:=NI p) (yv:=NI 1) f rfl rfl (Ac _ _ _ (by omega)) (gS (Yk.fieldAt Eg rfl (gS (Yk.cell1 IB rfl rfl (cellAt g (show(entC ((⟨p,true,List.replicate 32 0,[]⟩, .slice none 0 0)))[1]? =some (.bool (true):Value)from rfl)) (cT rfl (gS (Yk.sliceHi (xs:=b) (n:=fin) EX M4 j (hr.keep hE) q (by omega) fun dr ds ha167=>(gS (Yk.callA2 II rfl rfl (((show Calls _ _ _ _ (fun e w2=>e = .returned (.tuple #[AB (((b.take fin).drop (p+1)).take 32),NI (p+1+32),NI 0])∧Ext _ w2)from by have h:=EJ _ dr (b.take fin) ds (p+1) (by omega) (by omega);rw[hI]at h;exact h)).mono ?_)))))))))))
     rintro e fu ⟨rfl,ba⟩
     refine⟨_,rfl,?_⟩
     refine gS (Yk.extract (vs:= [AB (((b.take fin).drop (p+1)).take 32),NI (p+1+32),NI 0]) rfl rfl (gS (Yk.extract (vs:= [AB (((b.take fin).drop (p+1)).take 32),NI (p+1+32),NI 0]) rfl rfl (gS (Yk.extract (vs:= [AB (((b.take fin).drop (p+1)).take 32),NI (p+1+32),NI 0]) rfl rfl (gS (Yk.alloc PP fun bb dt du b9 ax fv=> ?_)))))))
     have hE:=hE.trans ba
     have m:=m.trans ba
     have dv:=hE.size
     have dw:=m.size
     have g:=eb ba g
     have fw:=Aw (bl g) du
     have hr_va:=hr_va.keep m
     have ca:OB va bb:=AQ hr_va.2 (by omega)
     have r:=b9;clear b9
     have fx:bb<dt.heap.size:=by omega
     refine gS (Yk.storeAll (vr (PQ bb 0) rfl) (vr (AB (((b.take fin).drop (p+1)).take 32)) rfl) r (by exact BQ ac List.length_replicate) (by exact Ag ac) (Ai _) fun fy cb ay fz=> ?_)
     clear r
     have r:=cb;clear cb
     have f0:=bl r
     have g:=eb ax g
     have g:=kb ay g (by omega)
     refine gS (Yk.eqI (a:=(0:Nat)) (b:=(0:Nat)) rfl rfl (AF _ _ _ _) (kF (by decide) (cF rfl (gS (Yk.loadAll rfl r QJ rfl (by exact Ag ac) (gS (Yk.fieldAt Ij rfl (gS (Yk.entBase (B:=List.replicate 32 0) (B' :=((b.take fin).drop (p+1)).take 32) rfl rfl g (by simp) ac N2 fun f1 cc az f2=> ?_)))))))))
     clear g
     have g:=cc;clear cc
     have f3:=bl g
     have hE:=hE.trans ax
     have hE:=Aa hE ay (Nat.le_trans dv (by omega))
     have hE:=Aa hE az (Nat.le_trans b7 (by omega))
     refine gS (Yk.sliceHi (xs:=b) (n:=fin) EX M4 j (hr.keep hE) q (by omega) fun dx cd ha200=>(gS (Yk.callA3 GV rfl rfl rfl (((show Calls _ _ _ _ (fun e w2=>e = .returned (.tuple #[St (ts),NI tn,NI 0])∧Ext _ w2)from by have h:=D5 _ dx (b.take fin) cd (p+33) 1048576 (by omega) (by omega);rw[hTR]at h;exact h)).mono ?_))))
     rintro e dy ⟨rfl,a0⟩
     refine⟨_,rfl,?_⟩
     refine gS (Yk.extract (vs:= [St (ts),NI tn,NI 0]) rfl rfl (gS (Yk.extract (vs:= [St (ts),NI tn,NI 0]) rfl rfl (gS (Yk.extract (vs:= [St (ts),NI tn,NI 0]) rfl rfl (gS (Yk.eqI (a:=(0:Nat)) (b:=(0:Nat)) rfl rfl (AF _ _ _ _) (kF (by decide) (cF rfl (gS (Yk.convStr MH EX u5 rfl (by have:=Ex hT hf;omega) fun z dz ai a1 bc=> ?_)))))))))))
     have r:=kb az r (by omega)
     have r:=eb a0 r
     have g:=eb a0 g
     have d0:OB z aw:=fun e=>by have h1:=(bc _ e).1;have h2:=(bl g);omega
     have hr_va:=hr_va.keep ax
     have hr_va:=OG.kept hr_va ay ca
     have hr_va:=OG.kept hr_va az a9
     have hr_va:=hr_va.keep a0
     have hva:∀k,Value.ownBlock va=some k→k<dy.heap.size:=fun k hk=>((hr_va).2.lt k hk).2
     have hkv:∀k,Value.ownBlock z=some k→k<dz.heap.size∧OB va k:=fun k hk=>⟨(bc k hk).2,fun e=>by have h1:=hva k e;have h2:=(bc k hk).1;omega⟩
     have g:=eb a1 g
     refine gS (Yk.fieldAt Ik rfl (gS (Yk.entVal (s:= []) (s' :=ts) rfl rfl g ac IT ai fun ce cf an f4=> ?_)))
     clear cd
     clear g
     have g:=cf;clear cf
     have f5:=bl g
     have hkv2:∀k,Value.ownBlock z=some k→k<ce.heap.size∧OB va k:=fun k hk=>⟨by have:=(hkv k hk).1;omega,(hkv k hk).2⟩
     have m:=m.trans ax
     have m:=Aa m ay (Nat.le_trans dw (by omega))
     have m:=Aa m az (Nat.le_trans (Nat.le_refl _) (by omega))
     have hZ1:=a0.trans a1
     have m:=m.trans hZ1
     have m:=Aa m an (Nat.le_trans (Nat.le_refl _) (by omega))
     have ai:=RB.kept ai an (.inr d0)
     have hEn:EntsIn ce va (es++ [((⟨p,true,((b.take fin).drop (p+1)).take 32,ts⟩,z):Ad)]):=EntsIn.snoc (hEn.keep m) ai ac hkv2
     have hone_:=AS (x:=((⟨p,true,((b.take fin).drop (p+1)).take 32,ts⟩,z):Ad)) (RB.one ai).2
     refine gS (Yk.loadAll rfl g (Ki).choose_spec rfl (AP (x:=((⟨p,true,((b.take fin).drop (p+1)).take 32,ts⟩,z):Ad)) Dn ac) (gS (Yk.lit1G (a:=((⟨p,true,((b.take fin).drop (p+1)).take 32,ts⟩,z))) (enc:=entC) (vr (.agg (entC ((⟨p,true,((b.take fin).drop (p+1)).take 32,ts⟩,z))).toArray) rfl) ((C6 (x:=((⟨p,true,((b.take fin).drop (p+1)).take 32,ts⟩,z):Ad)) ac)) Kj fun d1 cg ch ao=> ?_)))
     have hEn:EntsIn cg va (es++ [((⟨p,true,((b.take fin).drop (p+1)).take 32,ts⟩,z):Ad)]):=(hEn.keep ao)
     have hE:=hE.trans hZ1
     have hE:=Aa hE an (Nat.le_trans b7 (by omega))
     have hE:=hE.trans ao
     have hr_va:=hr_va.keep a1
     have hr_va:=OG.kept hr_va an a9
     have hr_va:=hr_va.keep ao
     refine gS (Yk.appendRG _ _ w.heap.size _ 72 F3 rf6_ig151.choose_spec.1 rf6_ig151.choose_spec.2 F3 (es) ([((⟨p,true,((b.take fin).drop (p+1)).take 32,ts⟩,z))]) (OG.of hr_va ah) (RG.of ch (vr d1 rfl)) (fun y hy=>by rw[List.mem_singleton.1 hy];exact hone_) (by simp only[List.length_cons,List.length_nil];omega) (by simp only[List.length_cons,List.length_nil];omega) hE.size fun bd ci d2 aj=> ?_)
     have hEn_:=hEn
     have aj:Grew cg ci va bd:= .eqv ah aj
     have g:=eb ao g
     have r:=eb a1 r
     have r:=kb an r (by omega)
     have r:=eb ao r
     have hE:=Af hE aj hr_va.2 (Nat.le_refl _)
     have r:=Ak r aj ca
     clear ai
     have g:=Ak g aj a9
     clear ch
     clear hr_va
     have hEn:EntsIn ci bd (es++ [((⟨p,true,((b.take fin).drop (p+1)).take 32,ts⟩,z):Ad)]):=EntsIn.grew hEn_ aj;clear hEn_
     refine gS (Yk.bin (xv:=NI i) (yv:=NI 1) au rfl rfl (Ac _ _ _ (by omega)) (gK (And.intro ⟨i+1,es++ [(⟨p,true,((b.take fin).drop (p+1)).take 32,ts⟩,z)],tn,bd,j,T1,q,rfl,rfl,rfl,hE,hEn,Bo d2 (rfl),by rw[hst,hO,List.map_append];rfl,by omega,(Fh hO hf).1,by rw[List.length_append,hil];rfl,trivial⟩ ?_)))
     show n-(intOf (NI ((i)+(1)))).toNat<n-(intOf (bh 11)).toNat
     rw[q11]
     simp only[intOf,Int.toNat_natCast];omega
    rw[if_neg h1]at hO1
    have h1n:¬(b.getD p 0).toNat=1:=fun h=>h1 (UInt8.toNat_inj.1 (by rw[h];rfl))
    have hTR:=Kf b (p+1) fin (by omega)
    rcases hT:By b (p+1) fin with _ | ⟨ts,tn⟩
    ·rw[hT]at hTR hO1
     have hTR:(AU (b.take fin) (p+1) 1048576).2.2≠0:=hTR
     refine gS (Yk.eqI (a:=(p:Nat)) (b:=(fin:Nat)) f q (DB _ _ _ _) (kF (Nat.not_le.2 hlt) (gS (Yk.atRB (l:=b) (i:=p) EX M4 (RB.of (hr.keep hE) j) f (by omega) fun f6 cj=>(gS (Yk.loadC u5 rfl (PCell.of cj rfl) (gS (Yk.eqI (a:=((b.getD (p) 0).toNat:Nat)) (b:=(1:Nat)) rfl rfl (Av _ _ _ _) (kF (by have:=hle;omega) (gS (Yk.pickF rfl rfl ?_)))))))))))
     clear cj
     refine cF rfl (gS (Yk.atRB (l:=b) (i:=p) EX M4 (RB.of (hr.keep hE) j) f (by omega) fun f7 ck=>(gS (Yk.loadC u5 rfl (PCell.of ck rfl) (gS (Yk.eqI (a:=((b.getD (p) 0).toNat:Nat)) (b:=(1:Nat)) rfl rfl (AO _ _ _ _) (kF (h1n) (gS (Yk.build2 f (vr (.bool (false)) rfl) (fun w=>E1 (p:Int) false w) (gS (Yk.alloc E2 fun cl d3 f8 cm d4 f9=> ?_)))))))))))
     have ap:=Ext.refl w6
     have ga:=hE.size
     have aq:=cm;clear cm
     have gb:cl<d3.heap.size:=by omega
     refine gS (Yk.storeAll (vr (PQ cl 0) rfl) (vr (.agg (entC ((⟨p,false,List.replicate 32 0,[]⟩, .slice none 0 0))).toArray) rfl) aq (AW (x:=((⟨p,false,List.replicate 32 0,[]⟩, .slice none 0 0):Ad)) (y:=dEnt) (by simp) (by simp[dEnt])) (AP (x:=((⟨p,false,List.replicate 32 0,[]⟩, .slice none 0 0):Ad)) Dn (by simp)) (AS (x:=((⟨p,false,List.replicate 32 0,[]⟩, .slice none 0 0):Ad)) rfl) fun gc cn d5 gd=> ?_)
     clear aq
     have aq:=cn;clear cn
     have ge:=bl aq
     clear ck
     have ap:=ap.trans d4
     have ap:=Aa ap d5 (Nat.le_trans (Nat.le_refl _) (by omega))
     have hE:=hE.trans ap
     refine gS (Yk.bin (xv:=NI p) (yv:=NI 1) f rfl rfl (Ac _ _ _ (by omega)) (gS (Yk.fieldAt Eg rfl (gS (Yk.cell1 IB rfl rfl (cellAt aq (show(entC ((⟨p,false,List.replicate 32 0,[]⟩, .slice none 0 0)))[1]? =some (.bool (false):Value)from rfl)) (cF rfl (gS (Yk.sliceHi (xs:=b) (n:=fin) EX M4 j (hr.keep hE) q (by omega) fun d6 d7 ha260=>(gS (Yk.callA3 GV rfl rfl rfl ((D5 _ d6 (b.take fin) d7 (p+1) 1048576 (by omega) (by omega)).mono ?_)))))))))))
     rintro e gf ⟨rfl,d8⟩
     refine⟨_,rfl,?_⟩
     refine gS (Yk.extract (vs:= [St ((AU (b.take fin) (p+1) 1048576).1),NI ((AU (b.take fin) (p+1) 1048576).2.1),NI ((AU (b.take fin) (p+1) 1048576).2.2)]) rfl rfl (gS (Yk.extract (vs:= [St ((AU (b.take fin) (p+1) 1048576).1),NI ((AU (b.take fin) (p+1) 1048576).2.1),NI ((AU (b.take fin) (p+1) 1048576).2.2)]) rfl rfl (gS (Yk.extract (vs:= [St ((AU (b.take fin) (p+1) 1048576).1),NI ((AU (b.take fin) (p+1) 1048576).2.1),NI ((AU (b.take fin) (p+1) 1048576).2.2)]) rfl rfl (gS (Yk.eqI (a:=((AU (b.take fin) (p+1) 1048576).2.2:Nat)) (b:=(0:Nat)) rfl rfl (AF _ _ _ _) (kT (hTR) (cT rfl (BO rfl (vr (Value.slice none 0 0) rfl) (vr (.bool (false)) rfl) ?_))))))))))
     have u:=B6 (show Cd b fin first (i+1)=none by rw[hst,hO1];rfl) (n-(i+1))
     rw[show i+1+(n-(i+1))=n by omega]at u
     have hE:=hE.trans d8
     exact⟨_,false,rfl,hE, .inl ⟨rfl,by unfold A9;rw[u];rfl⟩⟩
    rw[hT]at hTR hO1
    have hTR:AU (b.take fin) (p+1) 1048576=(ts,tn,0):=hTR
    have hO:entOne b fin p=some (⟨p,false,List.replicate 32 0,ts⟩,tn):=hO1
    refine gS (Yk.eqI (a:=(p:Nat)) (b:=(fin:Nat)) f q (DB _ _ _ _) (kF (Nat.not_le.2 hlt) (gS (Yk.atRB (l:=b) (i:=p) EX M4 (RB.of (hr.keep hE) j) f (by omega) fun gg co=>(gS (Yk.loadC u5 rfl (PCell.of co rfl) (gS (Yk.eqI (a:=((b.getD (p) 0).toNat:Nat)) (b:=(1:Nat)) rfl rfl (Av _ _ _ _) (kF (by have:=hle;omega) (gS (Yk.pickF rfl rfl ?_)))))))))))
    clear co
    refine cF rfl (gS (Yk.atRB (l:=b) (i:=p) EX M4 (RB.of (hr.keep hE) j) f (by omega) fun gh cp=>(gS (Yk.loadC u5 rfl (PCell.of cp rfl) (gS (Yk.eqI (a:=((b.getD (p) 0).toNat:Nat)) (b:=(1:Nat)) rfl rfl (AO _ _ _ _) (kF (h1n) (gS (Yk.build2 f (vr (.bool (false)) rfl) (fun w=>E1 (p:Int) false w) (gS (Yk.alloc E2 fun a2 d9 gi cq ea gj=> ?_)))))))))))
    have aa:=Ext.refl w6
    have ec:=hE.size
    have cr:OB va a2:=AQ hr_va.2 (by omega)
    have o:=cq;clear cq
    have gk:a2<d9.heap.size:=by omega
    refine gS (Yk.storeAll (vr (PQ a2 0) rfl) (vr (.agg (entC ((⟨p,false,List.replicate 32 0,[]⟩, .slice none 0 0))).toArray) rfl) o (AW (x:=((⟨p,false,List.replicate 32 0,[]⟩, .slice none 0 0):Ad)) (y:=dEnt) (by simp) (by simp[dEnt])) (AP (x:=((⟨p,false,List.replicate 32 0,[]⟩, .slice none 0 0):Ad)) Dn (by simp)) (AS (x:=((⟨p,false,List.replicate 32 0,[]⟩, .slice none 0 0):Ad)) rfl) fun gl cs ed gm=> ?_)
    clear o
    have o:=cs;clear cs
    have gn:=bl o
    clear cp
    have aa:=aa.trans ea
    have aa:=Aa aa ed (Nat.le_trans (Nat.le_refl _) (by omega))
    have hE:=hE.trans aa
    refine gS (Yk.bin (xv:=NI p) (yv:=NI 1) f rfl rfl (Ac _ _ _ (by omega)) (gS (Yk.fieldAt Eg rfl (gS (Yk.cell1 IB rfl rfl (cellAt o (show(entC ((⟨p,false,List.replicate 32 0,[]⟩, .slice none 0 0)))[1]? =some (.bool (false):Value)from rfl)) (cF rfl (gS (Yk.sliceHi (xs:=b) (n:=fin) EX M4 j (hr.keep hE) q (by omega) fun ee ct ha297=>(gS (Yk.callA3 GV rfl rfl rfl (((show Calls _ _ _ _ (fun e w2=>e = .returned (.tuple #[St (ts),NI tn,NI 0])∧Ext _ w2)from by have h:=D5 _ ee (b.take fin) ct (p+1) 1048576 (by omega) (by omega);rw[hTR]at h;exact h)).mono ?_)))))))))))
    rintro e ef ⟨rfl,be⟩
    refine⟨_,rfl,?_⟩
    refine gS (Yk.extract (vs:= [St (ts),NI tn,NI 0]) rfl rfl (gS (Yk.extract (vs:= [St (ts),NI tn,NI 0]) rfl rfl (gS (Yk.extract (vs:= [St (ts),NI tn,NI 0]) rfl rfl (gS (Yk.eqI (a:=(0:Nat)) (b:=(0:Nat)) rfl rfl (AF _ _ _ _) (kF (by decide) (cF rfl (gS (Yk.convStr MH EX u5 rfl (by have:=Ex hT hf;omega) fun ab eg ak a3 bf=> ?_)))))))))))
    have o:=eb be o
    have eh:OB ab a2:=fun e=>by have h1:=(bf _ e).1;have h2:=(bl o);omega
    have aa:=aa.trans be
    have hr_va:=hr_va.keep aa
    have hva:∀k,Value.ownBlock va=some k→k<ef.heap.size:=fun k hk=>((hr_va).2.lt k hk).2
    have hkv:∀k,Value.ownBlock ab=some k→k<eg.heap.size∧OB va k:=fun k hk=>⟨(bf k hk).2,fun e=>by have h1:=hva k e;have h2:=(bf k hk).1;omega⟩
    have o:=eb a3 o
    refine gS (Yk.fieldAt Ik rfl (gS (Yk.entVal (s:= []) (s' :=ts) rfl rfl o (by simp) IT ak fun cu cv a4 go=> ?_)))
    clear ct
    clear o
    have o:=cv;clear cv
    have gp:=bl o
    have hkv2:∀k,Value.ownBlock ab=some k→k<cu.heap.size∧OB va k:=fun k hk=>⟨by have:=(hkv k hk).1;omega,(hkv k hk).2⟩
    have aa:=aa.trans a3
    have aa:=Aa aa a4 (Nat.le_trans (Nat.le_refl _) (by omega))
    have ak:=RB.kept ak a4 (.inr eh)
    have hEn:EntsIn cu va (es++ [((⟨p,false,List.replicate 32 0,ts⟩,ab):Ad)]):=EntsIn.snoc (hEn.keep aa) ak (by simp) hkv2
    have hone_:=AS (x:=((⟨p,false,List.replicate 32 0,ts⟩,ab):Ad)) (RB.one ak).2
    refine gS (Yk.loadAll rfl o (Ki).choose_spec rfl (AP (x:=((⟨p,false,List.replicate 32 0,ts⟩,ab):Ad)) Dn (by simp)) (gS (Yk.lit1G (a:=((⟨p,false,List.replicate 32 0,ts⟩,ab))) (enc:=entC) (vr (.agg (entC ((⟨p,false,List.replicate 32 0,ts⟩,ab))).toArray) rfl) ((C6 (x:=((⟨p,false,List.replicate 32 0,ts⟩,ab):Ad)) (by simp))) Kj fun ei cw cx a5=> ?_)))
    have hEn:EntsIn cw va (es++ [((⟨p,false,List.replicate 32 0,ts⟩,ab):Ad)]):=(hEn.keep a5)
    have hE:=hE.trans (be.trans a3)
    have hE:=Aa hE a4 (Nat.le_trans ec (by omega))
    have hE:=hE.trans a5
    have hr_va:=hr_va.keep a3
    have hr_va:=OG.kept hr_va a4 cr
    have hr_va:=hr_va.keep a5
    refine gS (Yk.appendRG _ _ w.heap.size _ 72 F3 rf6_ig151.choose_spec.1 rf6_ig151.choose_spec.2 F3 (es) ([((⟨p,false,List.replicate 32 0,ts⟩,ab))]) (OG.of hr_va ah) (RG.of cx (vr ei rfl)) (fun y hy=>by rw[List.mem_singleton.1 hy];exact hone_) (by simp only[List.length_cons,List.length_nil];omega) (by simp only[List.length_cons,List.length_nil];omega) hE.size fun bg cy ej ar=> ?_)
    have hEn_:=hEn
    have ar:Grew cw cy va bg:= .eqv ah ar
    have o:=eb a5 o
    have hE:=Af hE ar hr_va.2 (Nat.le_refl _)
    clear ak
    have o:=Ak o ar cr
    clear cx
    clear hr_va
    have hEn:EntsIn cy bg (es++ [((⟨p,false,List.replicate 32 0,ts⟩,ab):Ad)]):=EntsIn.grew hEn_ ar;clear hEn_
    refine gS (Yk.bin (xv:=NI i) (yv:=NI 1) au rfl rfl (Ac _ _ _ (by omega)) (gK (And.intro ⟨i+1,es++ [(⟨p,false,List.replicate 32 0,ts⟩,ab)],tn,bg,j,T1,q,rfl,rfl,rfl,hE,hEn,Bo ej (rfl),by rw[hst,hO,List.map_append];rfl,by omega,(Fh hO hf).1,by rw[List.length_append,hil];rfl,trivial⟩ ?_)))
    show n-(intOf (NI ((i)+(1)))).toNat<n-(intOf (bh 11)).toNat
    rw[q11]
    simp only[intOf,Int.toNat_natCast];omega
   have hO1:entOne b fin p=none:=by unfold entOne;rw[if_neg (fun h=>hle h.2)]
   refine gS (Yk.eqI (a:=(p:Nat)) (b:=(fin:Nat)) f q (DB _ _ _ _) (kF (Nat.not_le.2 hlt) (gS (Yk.atRB (l:=b) (i:=p) EX M4 (RB.of (hr.keep hE) j) f (by omega) fun gq cz=>(gS (Yk.loadC u5 rfl (PCell.of cz rfl) (gS (Yk.eqI (a:=((b.getD (p) 0).toNat:Nat)) (b:=(1:Nat)) rfl rfl (Av _ _ _ _) (kT (by have:=hle;omega) (gS (Yk.pickF rfl rfl ?_)))))))))))
   clear cz
   refine cT rfl (BO rfl (vr (Value.slice none 0 0) rfl) (vr (.bool (false)) rfl) ?_)
   have u:=B6 (show Cd b fin first (i+1)=none by rw[hst,hO1];rfl) (n-(i+1))
   rw[show i+1+(n-(i+1))=n by omega]at u
   exact⟨_,false,rfl,hE, .inl ⟨rfl,by unfold A9;rw[u];rfl⟩⟩
  have hO1:entOne b fin p=none:=by unfold entOne;rw[if_neg (fun h=>hlt h.1)]
  refine gS (Yk.eqI (a:=(p:Nat)) (b:=(fin:Nat)) f q (DB _ _ _ _) (kT (Nat.le_of_not_lt hlt) (gS (Yk.pickT rfl rfl (cT rfl (BO rfl (vr (Value.slice none 0 0) rfl) (vr (.bool (false)) rfl) ?_))))))
  have u:=B6 (show Cd b fin first (i+1)=none by rw[hst,hO1];rfl) (n-(i+1))
  rw[show i+1+(n-(i+1))=n by omega]at u
  exact⟨_,false,rfl,hE, .inl ⟨rfl,by unfold A9;rw[u];rfl⟩⟩
 have hin:i=n:=by omega
 by_cases hpf:p=fin
 ·refine gS (Yk.eqI (a:=(p:Nat)) (b:=(fin:Nat)) f q (AO _ _ _ _) (kT (hpf) (BO rfl ah (vr (.bool (true)) rfl) ?_)))
  exact⟨_,true,rfl,hE, .inr ⟨rfl,es,by unfold A9;rw[←hin,hs];exact if_pos hpf,RG.ofOwn hr_va,hEn.ok⟩⟩
 refine gS (Yk.eqI (a:=(p:Nat)) (b:=(fin:Nat)) f q (AO _ _ _ _) (kF (hpf) (BO rfl ah (vr (.bool (false)) rfl) ?_)))
 exact⟨_,false,rfl,hE, .inl ⟨rfl,by unfold A9;rw[←hin,hs];exact if_neg hpf⟩⟩
open Go.RowKit
set_option maxRecDepth 100000
theorem GW(w:World)(v:Value)(l:List UInt8)(hr:RB w v l)(a:Nat)(ha:a≤l.length)(hl:l.length≤1073741824)(h:Ax 0 (l.drop a)=none):
  Calls Tryd.prog 81 #[v, .int .i64 a] w fun e w' =>e = .returned (.tuple #[.int .i64 0, .int .i64 0, .int .i64 6])∧Ext w w' :=
 (BH w v l hr a ha hl).mono fun e w' ⟨h1,h2⟩=>by
  rw[h]at h1
  exact⟨h1,h2⟩
theorem BV(w:World)(v:Value)(l:List UInt8)(hr:RB w v l)(a:Nat)(ha:a≤l.length)(hl:l.length≤1073741824)(x k:Nat)(h:Ax 0 (l.drop a)=some (x,k)):
  Calls Tryd.prog 81 #[v, .int .i64 a] w fun e w' =>e = .returned (.tuple #[.int .i64 (x:Nat),NI (a+k), .int .i64 0])∧Ext w w' :=
 (BH w v l hr a ha hl).mono fun e w' ⟨h1,h2⟩=>by
  rw[h]at h1
  exact⟨h1,h2⟩

theorem HT(w:World)(v:Value)(D:List UInt8)(hr:RB w v D)(hlen:D.length≤1073741824):
  Calls Tryd.prog 92 #[v] w fun e w' =>e = .returned (Lg (Cg D))∧Ext w w' :=by
 refine gG (args:= [v]) Tryd.func92 rfl 31 rfl rfl ?_
 have hE:=Ext.refl w
 rcases hgxa:Ax 0 (D.drop (0))with _ | ⟨xa,ka⟩
 ·refine gS (Yk.callA2 GU rfl rfl ((GW _ v D (hr.keep hE) (0) (by omega) hlen hgxa).mono ?_))
  rintro e j ⟨rfl,c⟩
  refine⟨_,rfl,?_⟩
  have hE:=hE.trans c
  refine gS (Yk.extract (vs:= [NI 0,NI 0,NI 6]) rfl rfl (gS (Yk.extract (vs:= [NI 0,NI 0,NI 6]) rfl rfl (gS (Yk.extract (vs:= [NI 0,NI 0,NI 6]) rfl rfl (gS (Yk.eqI (a:=(6:Nat)) (b:=(0:Nat)) rfl rfl (AF _ _ _ _) (kT (by decide) (cT rfl (FP (v:= .tuple #[NI 0,NI 0,NI 0,NI 6]) (vs:= [NI 0,NI 0,NI 0,NI 6]) rfl rfl ⟨rfl,rfl,rfl,rfl,trivial⟩ ?_))))))))))
  refine⟨?_,hE⟩
  rw[Cg,hgxa]
  rfl
 have hqxa:=Bj (a:=0) (by omega) hgxa
 rcases hgxb:Ax 0 (D.drop (0+ka))with _ | ⟨xb,kb⟩
 ·refine gS (Yk.callA2 GU rfl rfl ((BV _ v D (hr.keep hE) (0) (by omega) hlen xa ka hgxa).mono ?_))
  rintro e k ⟨rfl,f⟩
  refine⟨_,rfl,?_⟩
  have hE:=hE.trans f
  refine gS (Yk.extract (vs:= [NI xa,NI ((0)+ka),NI 0]) rfl rfl (gS (Yk.extract (vs:= [NI xa,NI ((0)+ka),NI 0]) rfl rfl (gS (Yk.extract (vs:= [NI xa,NI ((0)+ka),NI 0]) rfl rfl (gS (Yk.eqI (a:=(0:Nat)) (b:=(0:Nat)) rfl rfl (AF _ _ _ _) (kF (by decide) (cF rfl (gS (Yk.callA2 GU rfl rfl ((GW _ v D (hr.keep hE) ((0)+ka) (by omega) hlen hgxb).mono ?_))))))))))))
  rintro e l ⟨rfl,g⟩
  refine⟨_,rfl,?_⟩
  have hE:=hE.trans g
  refine gS (Yk.extract (vs:= [NI 0,NI 0,NI 6]) rfl rfl (gS (Yk.extract (vs:= [NI 0,NI 0,NI 6]) rfl rfl (gS (Yk.extract (vs:= [NI 0,NI 0,NI 6]) rfl rfl (gS (Yk.eqI (a:=(6:Nat)) (b:=(0:Nat)) rfl rfl (AF _ _ _ _) (kT (by decide) (cT rfl (FP (v:= .tuple #[NI 0,NI 0,NI 0,NI 6]) (vs:= [NI 0,NI 0,NI 0,NI 6]) rfl rfl ⟨rfl,rfl,rfl,rfl,trivial⟩ ?_))))))))))
  refine⟨?_,hE⟩
  rw[Cg,hgxa];simp only;rw[hgxb]
  rfl
 have hqxb:=Bj (a:=0+ka) (by omega) hgxb
 refine gS (Yk.callA2 GU rfl rfl ((BV _ v D (hr.keep hE) (0) (by omega) hlen xa ka hgxa).mono ?_))
 rintro e m ⟨rfl,h⟩
 refine⟨_,rfl,?_⟩
 have hE:=hE.trans h
 refine gS (Yk.extract (vs:= [NI xa,NI ((0)+ka),NI 0]) rfl rfl (gS (Yk.extract (vs:= [NI xa,NI ((0)+ka),NI 0]) rfl rfl (gS (Yk.extract (vs:= [NI xa,NI ((0)+ka),NI 0]) rfl rfl (gS (Yk.eqI (a:=(0:Nat)) (b:=(0:Nat)) rfl rfl (AF _ _ _ _) (kF (by decide) (cF rfl (gS (Yk.callA2 GU rfl rfl ((BV _ v D (hr.keep hE) ((0)+ka) (by omega) hlen xb kb hgxb).mono ?_))))))))))))
 rintro e n ⟨rfl,i⟩
 refine⟨_,rfl,?_⟩
 have hE:=hE.trans i
 refine gS (Yk.extract (vs:= [NI xb,NI (((0)+ka)+kb),NI 0]) rfl rfl (gS (Yk.extract (vs:= [NI xb,NI (((0)+ka)+kb),NI 0]) rfl rfl (gS (Yk.extract (vs:= [NI xb,NI (((0)+ka)+kb),NI 0]) rfl rfl (gS (Yk.eqI (a:=(0:Nat)) (b:=(0:Nat)) rfl rfl (AF _ _ _ _) (kF (by decide) (cF rfl (FP (v:= .tuple #[NI xa,NI xb,NI (((0)+ka)+kb),NI 0]) (vs:= [NI xa,NI xb,NI (((0)+ka)+kb),NI 0]) rfl rfl ⟨rfl,rfl,rfl,rfl,trivial⟩ ?_))))))))))
 refine⟨?_,hE⟩
 rw[Cg,hgxa];simp only;rw[hgxb]
 rfl
open Go.RowKit
set_option maxRecDepth 100000
theorem LI{B D:List UInt8}{i x k:Nat}(h:Ax 0 (D.drop i)=some (x,k))(s:x/2<1):A2 B D i=none:=by
 rw[A2,h]
 simp only
 split
 ·split
  ·rfl
  ·rw[CF,if_pos (.inl s)]
 ·rw[CF,if_pos (.inl s)]
theorem Mj{B D:List UInt8}{i x k z:Nat}(h:Ax 0 (D.drop i)=some (x,k))(s:z<x/2):A2 B D i=none∨∃b nx,A2 B D i=some (b,nx)∧z<b.length:=by
 have hl:∀(F:List UInt8) (p nx:Nat),CF F p (x/2) nx=none∨∃b n,CF F p (x/2) nx=some (b,n)∧z<b.length:=fun F p nx=>by
  unfold CF
  split
  ·exact .inl rfl
  ·exact .inr ⟨_,_,rfl,by rw[List.length_take,List.length_drop];omega⟩
 rw[A2,h]
 simp only
 split
 ·split
  ·exact .inl rfl
  ·exact hl _ _ _
 ·exact hl _ _ _
theorem CW{B D o:List UInt8}{sb f i:Nat}(hi:i<D.length)(h:A2 B D i=none∨∃b nx,A2 B D i=some (b,nx)∧sb-o.length<b.length):A1 B D sb (f+1) i o=none:=by
 rw[A1,if_pos hi]
 rcases h with h | ⟨b,nx,h,hb⟩
 ·rw[h]
 ·rw[h]
  simp only
  rw[if_pos hb]
theorem Jh:AA Tryd.prog 92:=fun _ _=>by kernel_rfl
theorem Mk(w:World)(v:Value)(D:List UInt8)(hr:RB w v D)(hlen:D.length≤1073741824)(h:Cg D=none):
  Calls Tryd.prog 92 #[v] w fun e w' =>e = .returned (.tuple #[NI 0,NI 0,NI 0,NI 6])∧Ext w w' :=by
 have:=HT w v D hr hlen
 rw[h]at this
 exact this
theorem LJ(w:World)(v:Value)(D:List UInt8)(hr:RB w v D)(hlen:D.length≤1073741824)(a b n:Nat)(h:Cg D=some (a,b,n)):
  Calls Tryd.prog 92 #[v] w fun e w' =>e = .returned (.tuple #[NI a,NI b,NI n,NI 0])∧Ext w w' :=by
 have:=HT w v D hr hlen
 rw[h]at this
 exact this

theorem LK(w:World)(vb v:Value)(B D:List UInt8)(hrb:RB w vb B)(hr:RB w v D)(hB:B.length≤1048576)(hlen:D.length≤1073741824):
  Calls Tryd.prog 85 #[vb,v] w fun e w' =>∃v',e = .returned (.tuple #[v',NI (Au B D).2])∧RB w' v' (Au B D).1∧Ext w w' ∧∀k,Value.ownBlock v' =some k→w.heap.size≤k∧k<w'.heap.size:=by
 refine gG (args:= [vb,v]) Tryd.func85 rfl 118 rfl rfl ?_
 have hE:=Ext.refl w
 rcases hsz:Cg D with _ | ⟨sa,sb,sn⟩
 ·refine gS (Yk.callA1 Jh rfl ((Mk _ v D (hr.keep hE) hlen hsz).mono ?_))
  rintro e w4 ⟨rfl,au⟩
  refine⟨_,rfl,?_⟩
  refine gS (Yk.extract (vs:= [NI 0,NI 0,NI 0,NI 6]) rfl rfl (gS (Yk.extract (vs:= [NI 0,NI 0,NI 0,NI 6]) rfl rfl (gS (Yk.extract (vs:= [NI 0,NI 0,NI 0,NI 6]) rfl rfl (gS (Yk.extract (vs:= [NI 0,NI 0,NI 0,NI 6]) rfl rfl (gS (Yk.eqI (a:=(6:Nat)) (b:=(0:Nat)) rfl rfl (AF _ _ _ _) (kT (by decide) (cT rfl (BO rfl (vr (Value.slice none 0 0) rfl) (vr (NI 6) rfl) ?_))))))))))))
  have hP:Au B D=([],6):=by rw[Au,hsz]
  rw[hP]
  have hE:=hE.trans au
  exact⟨_,rfl,RB.nil _,hE,(fun k hk=>by cases hk)⟩
 have hsb:=Hl hsz
 refine gS (Yk.callA1 Jh rfl ((LJ _ v D (hr.keep hE) hlen sa sb sn hsz).mono ?_))
 rintro e av ⟨rfl,z⟩
 refine⟨_,rfl,?_⟩
 refine gS (Yk.extract (vs:= [NI sa,NI sb,NI sn,NI 0]) rfl rfl (gS (Yk.extract (vs:= [NI sa,NI sb,NI sn,NI 0]) rfl rfl (gS (Yk.extract (vs:= [NI sa,NI sb,NI sn,NI 0]) rfl rfl (gS (Yk.extract (vs:= [NI sa,NI sb,NI sn,NI 0]) rfl rfl (gS (Yk.eqI (a:=(0:Nat)) (b:=(0:Nat)) rfl rfl (AF _ _ _ _) (kF (by decide) (cF rfl (gS (Yk.eqI (a:=(sb:Nat)) (b:=(262144:Nat)) rfl rfl (Av _ _ _ _) ?_)))))))))))))
 refine cD rfl (fun h=> ?_) fun h=> ?_
 ·refine BO rfl (vr (Value.slice none 0 0) rfl) (vr (NI 2) rfl) ?_
  have hP:Au B D=([],2):=by rw[Au,hsz];simp only;rw[if_pos h]
  rw[hP]
  have hE:=hE.trans z
  exact⟨_,rfl,RB.nil _,hE,(fun k hk=>by cases hk)⟩
 have hE:=hE.trans z
 refine gS (Yk.lenRB EX (RB.of (hrb.keep hE) rfl) (gS (Yk.eqI (a:=(sa:Nat)) (b:=(B.length:Nat)) rfl rfl (AF _ _ _ _) ?_)))
 refine cD rfl (fun q=> ?_) fun q=> ?_
 ·refine BO rfl (vr (Value.slice none 0 0) rfl) (vr (NI 6) rfl) ?_
  have hP:Au B D=([],6):=by rw[Au,hsz];simp only;rw[if_neg h,if_pos q]
  rw[hP]
  exact⟨_,rfl,RB.nil _,hE,(fun k hk=>by cases hk)⟩
 have hoN:w.ownsRow w.heap.size 5 1 (Value.slice none 0 0) ([]:List UInt8).length (Lib.byteCells ([]:List UInt8)):=World.ownsRow_nil _ _ _ 1
 have hoN:av.ownsRow w.heap.size 5 1 (Value.slice none 0 0) ([]:List UInt8).length (Lib.byteCells ([]:List UInt8)):=World.ownsRow_nil _ _ _ 1
 refine gL (fun(ρ:Ae) (wz:World)=>∃i:Nat,∃f:Nat,∃o:List UInt8,∃vo:Value,ρ 0=(vb:Value)∧ρ 1=(v:Value)∧ρ 6=(NI sa:Value)∧ρ 7=(NI sb:Value)∧ρ 9=(NI 0:Value)∧ρ 26=(.bool (false):Value)∧ρ 8=(NI i:Value)∧ρ 10=(vo:Value)∧Ext w wz∧wz.ownsRow w.heap.size 5 1 vo o.length (Lib.byteCells (o))∧(A1 B D sb f i o=A1 B D sb (D.length+1) sn [])∧(D.length<i+f)∧(i≤D.length)∧(o.length≤sb)∧True) (fun ρ _=>D.length-(intOf (ρ 8)).toNat) ⟨sn,D.length+1,[],(Value.slice none 0 0),rfl,rfl,rfl,rfl,rfl,rfl,rfl,rfl,hE,Bn hoN (rfl),rfl,by omega,by omega,by simp,trivial⟩ ?_
 clear hoN
 clear hE
 rintro aa ba ⟨i,f,o,vo,t,c,T6,s,T9,ad,r,g,hE,ho_vo,hgo,hf,hi,hos,-⟩
 have q8:=r
 have ql10:=Cs ho_vo
 obtain⟨f',rfl⟩:∃f',f=f' +1:=⟨f-1,by omega⟩
 refine gS (Yk.lenRB EX (RB.of (hr.keep hE) c) (gS (Yk.eqI (a:=(i:Nat)) (b:=(D.length:Nat)) r rfl (Ah _ _ _ _) ?_)))
 refine cD rfl (fun j=> ?_) fun j=> ?_
 ·rcases hgx:Ax 0 (D.drop i)with _ | ⟨x,k⟩
  ·have hfail:A1 B D sb (f' +1) i o=none:=CW j (.inl (by rw[A2,hgx]))
   refine gS (Yk.callA2 GU c r ((GW _ v D (hr.keep hE) (i) (by omega) hlen hgx).mono ?_))
   rintro e bb ⟨rfl,aw⟩
   refine⟨_,rfl,?_⟩
   refine gS (Yk.extract (vs:= [NI 0,NI 0,NI 6]) rfl rfl (gS (Yk.extract (vs:= [NI 0,NI 0,NI 6]) rfl rfl (gS (Yk.extract (vs:= [NI 0,NI 0,NI 6]) rfl rfl (gS (Yk.bin (xv:=NI 0) (yv:=NI 2) rfl rfl rfl (Cn _ _ _ (by omega) (by omega)) (gS (Yk.eqI (a:=(6:Nat)) (b:=(0:Nat)) rfl rfl (AF _ _ _ _) (kT (by decide) (gS (Yk.pickT rfl rfl (gS (Yk.pickT rfl rfl (cT rfl (BO rfl (vr (Value.slice none 0 0) rfl) (vr (NI 6) rfl) ?_))))))))))))))))
   rw[hfail]at hgo
   have hP:Au B D=([],6):=by rw[Au,hsz];simp only;rw[if_neg h,if_neg q,←hgo]
   rw[hP]
   have hE:=hE.trans aw
   exact⟨_,rfl,RB.nil _,hE,(fun k hk=>by cases hk)⟩
  have hqx:=Bj (a:=i) (by omega) hgx
  by_cases s1:x/2<1
  ·have hfail:A1 B D sb (f' +1) i o=none:=CW j (.inl (LI hgx s1))
   refine gS (Yk.callA2 GU c r ((BV _ v D (hr.keep hE) (i) (by omega) hlen x k hgx).mono ?_))
   rintro e bc ⟨rfl,ax⟩
   refine⟨_,rfl,?_⟩
   refine gS (Yk.extract (vs:= [NI x,NI ((i)+k),NI 0]) rfl rfl (gS (Yk.extract (vs:= [NI x,NI ((i)+k),NI 0]) rfl rfl (gS (Yk.extract (vs:= [NI x,NI ((i)+k),NI 0]) rfl rfl (gS (Yk.bin (xv:=NI x) (yv:=NI 2) rfl rfl rfl (Cn _ _ _ (by omega) (by omega)) (gS (Yk.eqI (a:=(0:Nat)) (b:=(0:Nat)) rfl rfl (AF _ _ _ _) (kF (by decide) (gS (Yk.eqI (a:=((x)/(2):Nat)) (b:=(1:Nat)) rfl rfl (Ah _ _ _ _) (kT (s1) (gS (Yk.pickF rfl rfl (gS (Yk.pickT rfl rfl (cT rfl (BO rfl (vr (Value.slice none 0 0) rfl) (vr (NI 6) rfl) ?_)))))))))))))))))))
   rw[hfail]at hgo
   have hP:Au B D=([],6):=by rw[Au,hsz];simp only;rw[if_neg h,if_neg q,←hgo]
   rw[hP]
   have hE:=hE.trans ax
   exact⟨_,rfl,RB.nil _,hE,(fun k hk=>by cases hk)⟩
  by_cases s2:sb-o.length<x/2
  ·have hfail:A1 B D sb (f' +1) i o=none:=CW j (Mj hgx s2)
   refine gS (Yk.callA2 GU c r ((BV _ v D (hr.keep hE) (i) (by omega) hlen x k hgx).mono ?_))
   rintro e bd ⟨rfl,ae⟩
   refine⟨_,rfl,?_⟩
   have ho_vo:=Stab.own _ _ _ _ _ _ _ _ ho_vo ae
   refine gS (Yk.extract (vs:= [NI x,NI ((i)+k),NI 0]) rfl rfl (gS (Yk.extract (vs:= [NI x,NI ((i)+k),NI 0]) rfl rfl (gS (Yk.extract (vs:= [NI x,NI ((i)+k),NI 0]) rfl rfl (gS (Yk.bin (xv:=NI x) (yv:=NI 2) rfl rfl rfl (Cn _ _ _ (by omega) (by omega)) (gS (Yk.eqI (a:=(0:Nat)) (b:=(0:Nat)) rfl rfl (AF _ _ _ _) (kF (by decide) (gS (Yk.eqI (a:=((x)/(2):Nat)) (b:=(1:Nat)) rfl rfl (Ah _ _ _ _) (kF (s1) (gS (Yk.pickF rfl rfl (gS (Yk.lenRB EX (RB.of (RB.ofOwn ho_vo) g) (gS (Yk.bin (xv:=NI sb) (yv:=NI o.length) s rfl rfl (Ay _ _ _ (by omega) (by omega)) (gS (Yk.eqI (a:=((x)/(2):Nat)) (b:=((sb)-(o.length):Nat)) rfl rfl (Av _ _ _ _) (kT (s2) (gS (Yk.pickF rfl rfl (cT rfl (BO rfl (vr (Value.slice none 0 0) rfl) (vr (NI 6) rfl) ?_))))))))))))))))))))))))))
   rw[hfail]at hgo
   have hP:Au B D=([],6):=by rw[Au,hsz];simp only;rw[if_neg h,if_neg q,←hgo]
   rw[hP]
   have hE:=hE.trans ae
   exact⟨_,rfl,RB.nil _,hE,(fun k hk=>by cases hk)⟩
  by_cases he:x%2=0
  ·by_cases e1:D.length-(i+k)<x/2
   ·have hfail:A1 B D sb (f' +1) i o=none:=CW j (.inl (by rw[A2,hgx];simp only;rw[if_neg (by omega),CF,if_pos (by omega)]))
    refine gS (Yk.callA2 GU c r ((BV _ v D (hr.keep hE) (i) (by omega) hlen x k hgx).mono ?_))
    rintro e be ⟨rfl,ag⟩
    refine⟨_,rfl,?_⟩
    have hE:=hE.trans ag
    have ho_vo:=Stab.own _ _ _ _ _ _ _ _ ho_vo ag
    refine gS (Yk.extract (vs:= [NI x,NI ((i)+k),NI 0]) rfl rfl (gS (Yk.extract (vs:= [NI x,NI ((i)+k),NI 0]) rfl rfl (gS (Yk.extract (vs:= [NI x,NI ((i)+k),NI 0]) rfl rfl (gS (Yk.bin (xv:=NI x) (yv:=NI 2) rfl rfl rfl (Cn _ _ _ (by omega) (by omega)) (gS (Yk.eqI (a:=(0:Nat)) (b:=(0:Nat)) rfl rfl (AF _ _ _ _) (kF (by decide) (gS (Yk.eqI (a:=((x)/(2):Nat)) (b:=(1:Nat)) rfl rfl (Ah _ _ _ _) (kF (s1) (gS (Yk.pickF rfl rfl (gS (Yk.lenRB EX (RB.of (RB.ofOwn ho_vo) g) (gS (Yk.bin (xv:=NI sb) (yv:=NI o.length) s rfl rfl (Ay _ _ _ (by omega) (by omega)) (gS (Yk.eqI (a:=((x)/(2):Nat)) (b:=((sb)-(o.length):Nat)) rfl rfl (Av _ _ _ _) (kF (s2) (gS (Yk.pickF rfl rfl (cF rfl (gS (Yk.bin (xv:=NI x) (yv:=NI 2) rfl rfl rfl (CR _ _ _ (by omega)) (gS (Yk.eqI (a:=((x)%(2):Nat)) (b:=(0:Nat)) rfl rfl (AO _ _ _ _) (kT (he) (cT rfl (gS (Yk.lenRB EX (RB.of (hr.keep hE) c) ?_)))))))))))))))))))))))))))))))))
    refine gS (Yk.bin (xv:=NI D.length) (yv:=NI ((i)+k)) rfl rfl rfl (Ay _ _ _ (by omega) (by omega)) (gS (Yk.eqI (a:=((x)/(2):Nat)) (b:=((D.length)-((i)+k):Nat)) rfl rfl (Av _ _ _ _) (kT (e1) (cT rfl (BO rfl (vr (Value.slice none 0 0) rfl) (vr (NI 6) rfl) ?_))))))
    rw[hfail]at hgo
    have hP:Au B D=([],6):=by rw[Au,hsz];simp only;rw[if_neg h,if_neg q,←hgo]
    rw[hP]
    exact⟨_,rfl,RB.nil _,hE,(fun k hk=>by cases hk)⟩
   have hpc:A2 B D i=some ((D.drop (i+k)).take (x/2),i+k+x/2):=by rw[A2,hgx];simp only;rw[if_neg (by omega),CF,if_neg (by omega)]
   have hbl:((D.drop (i+k)).take (x/2)).length=x/2:=by rw[List.length_take,List.length_drop];omega
   refine gS (Yk.callA2 GU c r ((BV _ v D (hr.keep hE) (i) (by omega) hlen x k hgx).mono ?_))
   rintro e ay ⟨rfl,ah⟩
   refine⟨_,rfl,?_⟩
   have hE:=hE.trans ah
   have ho_vo:=Stab.own _ _ _ _ _ _ _ _ ho_vo ah
   refine gS (Yk.extract (vs:= [NI x,NI ((i)+k),NI 0]) rfl rfl (gS (Yk.extract (vs:= [NI x,NI ((i)+k),NI 0]) rfl rfl (gS (Yk.extract (vs:= [NI x,NI ((i)+k),NI 0]) rfl rfl (gS (Yk.bin (xv:=NI x) (yv:=NI 2) rfl rfl rfl (Cn _ _ _ (by omega) (by omega)) (gS (Yk.eqI (a:=(0:Nat)) (b:=(0:Nat)) rfl rfl (AF _ _ _ _) (kF (by decide) (gS (Yk.eqI (a:=((x)/(2):Nat)) (b:=(1:Nat)) rfl rfl (Ah _ _ _ _) (kF (s1) (gS (Yk.pickF rfl rfl (gS (Yk.lenRB EX (RB.of (RB.ofOwn ho_vo) g) (gS (Yk.bin (xv:=NI sb) (yv:=NI o.length) s rfl rfl (Ay _ _ _ (by omega) (by omega)) (gS (Yk.eqI (a:=((x)/(2):Nat)) (b:=((sb)-(o.length):Nat)) rfl rfl (Av _ _ _ _) (kF (s2) (gS (Yk.pickF rfl rfl (cF rfl (gS (Yk.bin (xv:=NI x) (yv:=NI 2) rfl rfl rfl (CR _ _ _ (by omega)) (gS (Yk.eqI (a:=((x)%(2):Nat)) (b:=(0:Nat)) rfl rfl (AO _ _ _ _) (kT (he) (cT rfl (gS (Yk.lenRB EX (RB.of (hr.keep hE) c) ?_)))))))))))))))))))))))))))))))))
   refine gS (Yk.bin (xv:=NI D.length) (yv:=NI ((i)+k)) rfl rfl rfl (Ay _ _ _ (by omega) (by omega)) (gS (Yk.eqI (a:=((x)/(2):Nat)) (b:=((D.length)-((i)+k):Nat)) rfl rfl (Av _ _ _ _) (kF (e1) (cF rfl (gS (Yk.bin (xv:=NI ((i)+k)) (yv:=NI ((x)/(2))) rfl rfl rfl (Ac _ _ _ (by omega)) (gS (Yk.sliceLH (xs:=D) (l:=(i)+k) (n:=((i)+k)+((x)/(2))) EX M4 c (hr.keep hE) rfl rfl (by omega) (by omega) fun az ai ha70=>(gS (Yk.appendRB _ _ w.heap.size (.int .u8 0) EX IP rfl EX (o) ((D.drop ((i)+k)).take ((((i)+k)+((x)/(2)))-((i)+k))) (BA ho_vo g) (RB.of ai (vr az rfl)) (by rw[List.length_take,List.length_drop];omega) hE.size fun aj a0 a1 u=> ?_)))))))))))
   have u:Grew ay a0 vo aj:= .eqv g u
   have hE:=Af hE u ho_vo (Nat.le_refl _)
   clear ai
   clear ho_vo
   refine gS (Yk.bin (xv:=NI ((i)+k)) (yv:=NI ((x)/(2))) rfl rfl rfl (Ac _ _ _ (by omega)) (gK (And.intro ⟨i+k+x/2,f',o++(D.drop (i+k)).take (x/2),aj,t,c,T6,s,T9,ad,rfl,rfl,hE,Bn a1 (by simp only[Nat.add_sub_cancel_left]),by rw[A1,if_pos j,hpc]at hgo;simp only at hgo;rw[if_neg (by rw[hbl];omega)]at hgo;exact hgo,by omega,by omega,by rw[List.length_append,hbl];omega,trivial⟩ ?_)))
   show D.length-(intOf (NI (((i)+k)+((x)/(2))))).toNat<D.length-(intOf (aa 8)).toNat
   rw[q8]
   simp only[intOf,Int.toNat_natCast];omega
  rcases hgp:Ax 0 (D.drop (i+k))with _ | ⟨p,m⟩
  ·have hfail:A1 B D sb (f' +1) i o=none:=CW j (.inl (by rw[A2,hgx];simp only;rw[if_pos (by omega),hgp]))
   refine gS (Yk.callA2 GU c r ((BV _ v D (hr.keep hE) (i) (by omega) hlen x k hgx).mono ?_))
   rintro e bf ⟨rfl,ak⟩
   refine⟨_,rfl,?_⟩
   have hE:=hE.trans ak
   have ho_vo:=Stab.own _ _ _ _ _ _ _ _ ho_vo ak
   refine gS (Yk.extract (vs:= [NI x,NI ((i)+k),NI 0]) rfl rfl (gS (Yk.extract (vs:= [NI x,NI ((i)+k),NI 0]) rfl rfl (gS (Yk.extract (vs:= [NI x,NI ((i)+k),NI 0]) rfl rfl (gS (Yk.bin (xv:=NI x) (yv:=NI 2) rfl rfl rfl (Cn _ _ _ (by omega) (by omega)) (gS (Yk.eqI (a:=(0:Nat)) (b:=(0:Nat)) rfl rfl (AF _ _ _ _) (kF (by decide) (gS (Yk.eqI (a:=((x)/(2):Nat)) (b:=(1:Nat)) rfl rfl (Ah _ _ _ _) (kF (s1) (gS (Yk.pickF rfl rfl (gS (Yk.lenRB EX (RB.of (RB.ofOwn ho_vo) g) (gS (Yk.bin (xv:=NI sb) (yv:=NI o.length) s rfl rfl (Ay _ _ _ (by omega) (by omega)) (gS (Yk.eqI (a:=((x)/(2):Nat)) (b:=((sb)-(o.length):Nat)) rfl rfl (Av _ _ _ _) (kF (s2) (gS (Yk.pickF rfl rfl (cF rfl (gS (Yk.bin (xv:=NI x) (yv:=NI 2) rfl rfl rfl (CR _ _ _ (by omega)) (gS (Yk.eqI (a:=((x)%(2):Nat)) (b:=(0:Nat)) rfl rfl (AO _ _ _ _) (kF (he) (cF rfl (gS (Yk.callA2 GU c rfl ?_)))))))))))))))))))))))))))))))))
   refine(GW _ v D (hr.keep hE) ((i)+k) (by omega) hlen hgp).mono ?_
   rintro e bg ⟨rfl,a2⟩
   refine⟨_,rfl,?_⟩
   refine gS (Yk.extract (vs:= [NI 0,NI 0,NI 6]) rfl rfl (gS (Yk.extract (vs:= [NI 0,NI 0,NI 6]) rfl rfl (gS (Yk.extract (vs:= [NI 0,NI 0,NI 6]) rfl rfl (gS (Yk.eqI (a:=(6:Nat)) (b:=(0:Nat)) rfl rfl (AF _ _ _ _) (kT (by decide) (gS (Yk.pickT rfl rfl (gS (Yk.pickT rfl rfl (cT rfl (BO rfl (vr (Value.slice none 0 0) rfl) (vr (NI 6) rfl) ?_))))))))))))))
   rw[hfail]at hgo
   have hP:Au B D=([],6):=by rw[Au,hsz];simp only;rw[if_neg h,if_neg q,←hgo]
   rw[hP]
   have hE:=hE.trans a2
   exact⟨_,rfl,RB.nil _,hE,(fun k hk=>by cases hk)⟩
  have hqp:=Bj (a:=i+k) (by omega) hgp
  by_cases o1:B.length<p
  ·have hfail:A1 B D sb (f' +1) i o=none:=CW j (.inl (by rw[A2,hgx];simp only;rw[if_pos (by omega),hgp];simp only;rw[CF,if_pos (by omega)]))
   refine gS (Yk.callA2 GU c r ((BV _ v D (hr.keep hE) (i) (by omega) hlen x k hgx).mono ?_))
   rintro e bh ⟨rfl,al⟩
   refine⟨_,rfl,?_⟩
   have hE:=hE.trans al
   have ho_vo:=Stab.own _ _ _ _ _ _ _ _ ho_vo al
   refine gS (Yk.extract (vs:= [NI x,NI ((i)+k),NI 0]) rfl rfl (gS (Yk.extract (vs:= [NI x,NI ((i)+k),NI 0]) rfl rfl (gS (Yk.extract (vs:= [NI x,NI ((i)+k),NI 0]) rfl rfl (gS (Yk.bin (xv:=NI x) (yv:=NI 2) rfl rfl rfl (Cn _ _ _ (by omega) (by omega)) (gS (Yk.eqI (a:=(0:Nat)) (b:=(0:Nat)) rfl rfl (AF _ _ _ _) (kF (by decide) (gS (Yk.eqI (a:=((x)/(2):Nat)) (b:=(1:Nat)) rfl rfl (Ah _ _ _ _) (kF (s1) (gS (Yk.pickF rfl rfl (gS (Yk.lenRB EX (RB.of (RB.ofOwn ho_vo) g) (gS (Yk.bin (xv:=NI sb) (yv:=NI o.length) s rfl rfl (Ay _ _ _ (by omega) (by omega)) (gS (Yk.eqI (a:=((x)/(2):Nat)) (b:=((sb)-(o.length):Nat)) rfl rfl (Av _ _ _ _) (kF (s2) (gS (Yk.pickF rfl rfl (cF rfl (gS (Yk.bin (xv:=NI x) (yv:=NI 2) rfl rfl rfl (CR _ _ _ (by omega)) (gS (Yk.eqI (a:=((x)%(2):Nat)) (b:=(0:Nat)) rfl rfl (AO _ _ _ _) (kF (he) (cF rfl (gS (Yk.callA2 GU c rfl ?_)))))))))))))))))))))))))))))))))
   refine(BV _ v D (hr.keep hE) ((i)+k) (by omega) hlen p m hgp).mono ?_
   rintro e bi ⟨rfl,a3⟩
   refine⟨_,rfl,?_⟩
   have hE:=hE.trans a3
   refine gS (Yk.extract (vs:= [NI p,NI (((i)+k)+m),NI 0]) rfl rfl (gS (Yk.extract (vs:= [NI p,NI (((i)+k)+m),NI 0]) rfl rfl (gS (Yk.extract (vs:= [NI p,NI (((i)+k)+m),NI 0]) rfl rfl (gS (Yk.eqI (a:=(0:Nat)) (b:=(0:Nat)) rfl rfl (AF _ _ _ _) (kF (by decide) (gS (Yk.lenRB EX (RB.of (hrb.keep hE) t) (gS (Yk.eqI (a:=(p:Nat)) (b:=(B.length:Nat)) rfl rfl (Av _ _ _ _) (kT (o1) (gS (Yk.pickF rfl rfl (gS (Yk.pickT rfl rfl (cT rfl (BO rfl (vr (Value.slice none 0 0) rfl) (vr (NI 6) rfl) ?_)))))))))))))))))))
   rw[hfail]at hgo
   have hP:Au B D=([],6):=by rw[Au,hsz];simp only;rw[if_neg h,if_neg q,←hgo]
   rw[hP]
   exact⟨_,rfl,RB.nil _,hE,(fun k hk=>by cases hk)⟩
  by_cases o2:B.length-p<x/2
  ·have hfail:A1 B D sb (f' +1) i o=none:=CW j (.inl (by rw[A2,hgx];simp only;rw[if_pos (by omega),hgp];simp only;rw[CF,if_pos (by omega)]))
   refine gS (Yk.callA2 GU c r ((BV _ v D (hr.keep hE) (i) (by omega) hlen x k hgx).mono ?_))
   rintro e bj ⟨rfl,am⟩
   refine⟨_,rfl,?_⟩
   have hE:=hE.trans am
   have ho_vo:=Stab.own _ _ _ _ _ _ _ _ ho_vo am
   refine gS (Yk.extract (vs:= [NI x,NI ((i)+k),NI 0]) rfl rfl (gS (Yk.extract (vs:= [NI x,NI ((i)+k),NI 0]) rfl rfl (gS (Yk.extract (vs:= [NI x,NI ((i)+k),NI 0]) rfl rfl (gS (Yk.bin (xv:=NI x) (yv:=NI 2) rfl rfl rfl (Cn _ _ _ (by omega) (by omega)) (gS (Yk.eqI (a:=(0:Nat)) (b:=(0:Nat)) rfl rfl (AF _ _ _ _) (kF (by decide) (gS (Yk.eqI (a:=((x)/(2):Nat)) (b:=(1:Nat)) rfl rfl (Ah _ _ _ _) (kF (s1) (gS (Yk.pickF rfl rfl (gS (Yk.lenRB EX (RB.of (RB.ofOwn ho_vo) g) (gS (Yk.bin (xv:=NI sb) (yv:=NI o.length) s rfl rfl (Ay _ _ _ (by omega) (by omega)) (gS (Yk.eqI (a:=((x)/(2):Nat)) (b:=((sb)-(o.length):Nat)) rfl rfl (Av _ _ _ _) (kF (s2) (gS (Yk.pickF rfl rfl (cF rfl (gS (Yk.bin (xv:=NI x) (yv:=NI 2) rfl rfl rfl (CR _ _ _ (by omega)) (gS (Yk.eqI (a:=((x)%(2):Nat)) (b:=(0:Nat)) rfl rfl (AO _ _ _ _) (kF (he) (cF rfl (gS (Yk.callA2 GU c rfl ?_)))))))))))))))))))))))))))))))))
   refine(BV _ v D (hr.keep hE) ((i)+k) (by omega) hlen p m hgp).mono ?_
   rintro e bk ⟨rfl,a4⟩
   refine⟨_,rfl,?_⟩
   have hE:=hE.trans a4
   refine gS (Yk.extract (vs:= [NI p,NI (((i)+k)+m),NI 0]) rfl rfl (gS (Yk.extract (vs:= [NI p,NI (((i)+k)+m),NI 0]) rfl rfl (gS (Yk.extract (vs:= [NI p,NI (((i)+k)+m),NI 0]) rfl rfl (gS (Yk.eqI (a:=(0:Nat)) (b:=(0:Nat)) rfl rfl (AF _ _ _ _) (kF (by decide) (gS (Yk.lenRB EX (RB.of (hrb.keep hE) t) (gS (Yk.eqI (a:=(p:Nat)) (b:=(B.length:Nat)) rfl rfl (Av _ _ _ _) (kF (o1) (gS (Yk.pickF rfl rfl (gS (Yk.lenRB EX (RB.of (hrb.keep hE) t) (gS (Yk.bin (xv:=NI B.length) (yv:=NI p) rfl rfl rfl (Ay _ _ _ (by omega) (by omega)) (gS (Yk.eqI (a:=((x)/(2):Nat)) (b:=((B.length)-(p):Nat)) rfl rfl (Av _ _ _ _) (kT (o2) (gS (Yk.pickF rfl rfl (cT rfl (BO rfl (vr (Value.slice none 0 0) rfl) (vr (NI 6) rfl) ?_))))))))))))))))))))))))))
   rw[hfail]at hgo
   have hP:Au B D=([],6):=by rw[Au,hsz];simp only;rw[if_neg h,if_neg q,←hgo]
   rw[hP]
   exact⟨_,rfl,RB.nil _,hE,(fun k hk=>by cases hk)⟩
  have hpc:A2 B D i=some ((B.drop p).take (x/2),i+k+m):=by rw[A2,hgx];simp only;rw[if_pos (by omega),hgp];simp only;rw[CF,if_neg (by omega)]
  have hbl:((B.drop p).take (x/2)).length=x/2:=by rw[List.length_take,List.length_drop];omega
  refine gS (Yk.callA2 GU c r ((BV _ v D (hr.keep hE) (i) (by omega) hlen x k hgx).mono ?_))
  rintro e bm ⟨rfl,an⟩
  refine⟨_,rfl,?_⟩
  have hE:=hE.trans an
  have ho_vo:=Stab.own _ _ _ _ _ _ _ _ ho_vo an
  refine gS (Yk.extract (vs:= [NI x,NI ((i)+k),NI 0]) rfl rfl (gS (Yk.extract (vs:= [NI x,NI ((i)+k),NI 0]) rfl rfl (gS (Yk.extract (vs:= [NI x,NI ((i)+k),NI 0]) rfl rfl (gS (Yk.bin (xv:=NI x) (yv:=NI 2) rfl rfl rfl (Cn _ _ _ (by omega) (by omega)) (gS (Yk.eqI (a:=(0:Nat)) (b:=(0:Nat)) rfl rfl (AF _ _ _ _) (kF (by decide) (gS (Yk.eqI (a:=((x)/(2):Nat)) (b:=(1:Nat)) rfl rfl (Ah _ _ _ _) (kF (s1) (gS (Yk.pickF rfl rfl (gS (Yk.lenRB EX (RB.of (RB.ofOwn ho_vo) g) (gS (Yk.bin (xv:=NI sb) (yv:=NI o.length) s rfl rfl (Ay _ _ _ (by omega) (by omega)) (gS (Yk.eqI (a:=((x)/(2):Nat)) (b:=((sb)-(o.length):Nat)) rfl rfl (Av _ _ _ _) (kF (s2) (gS (Yk.pickF rfl rfl (cF rfl (gS (Yk.bin (xv:=NI x) (yv:=NI 2) rfl rfl rfl (CR _ _ _ (by omega)) (gS (Yk.eqI (a:=((x)%(2):Nat)) (b:=(0:Nat)) rfl rfl (AO _ _ _ _) (kF (he) (cF rfl (gS (Yk.callA2 GU c rfl ?_)))))))))))))))))))))))))))))))))
  refine(BV _ v D (hr.keep hE) ((i)+k) (by omega) hlen p m hgp).mono ?_
  rintro e a5 ⟨rfl,ao⟩
  refine⟨_,rfl,?_⟩
  have hE:=hE.trans ao
  have ho_vo:=Stab.own _ _ _ _ _ _ _ _ ho_vo ao
  refine gS (Yk.extract (vs:= [NI p,NI (((i)+k)+m),NI 0]) rfl rfl (gS (Yk.extract (vs:= [NI p,NI (((i)+k)+m),NI 0]) rfl rfl (gS (Yk.extract (vs:= [NI p,NI (((i)+k)+m),NI 0]) rfl rfl (gS (Yk.eqI (a:=(0:Nat)) (b:=(0:Nat)) rfl rfl (AF _ _ _ _) (kF (by decide) (gS (Yk.lenRB EX (RB.of (hrb.keep hE) t) (gS (Yk.eqI (a:=(p:Nat)) (b:=(B.length:Nat)) rfl rfl (Av _ _ _ _) (kF (o1) (gS (Yk.pickF rfl rfl (gS (Yk.lenRB EX (RB.of (hrb.keep hE) t) (gS (Yk.bin (xv:=NI B.length) (yv:=NI p) rfl rfl rfl (Ay _ _ _ (by omega) (by omega)) (gS (Yk.eqI (a:=((x)/(2):Nat)) (b:=((B.length)-(p):Nat)) rfl rfl (Av _ _ _ _) (kF (o2) (gS (Yk.pickF rfl rfl (cF rfl (gS (Yk.bin (xv:=NI p) (yv:=NI ((x)/(2))) rfl rfl rfl (Ac _ _ _ (by omega)) (gS (Yk.sliceLH (xs:=B) (l:=p) (n:=(p)+((x)/(2))) EX M4 t (hrb.keep hE) rfl rfl (by omega) (by omega) fun a6 ap ha134=>(gS (Yk.appendRB _ _ w.heap.size (.int .u8 0) EX IP rfl EX (o) ((B.drop (p)).take (((p)+((x)/(2)))-(p))) (BA ho_vo g) (RB.of ap (vr a6 rfl)) (by rw[List.length_take,List.length_drop];omega) hE.size fun aq a7 a8 y=> ?_)))))))))))))))))))))))))))))))
  have y:Grew a5 a7 vo aq:= .eqv g y
  have hE:=Af hE y ho_vo (Nat.le_refl _)
  clear ap
  clear ho_vo
  refine gK (And.intro ⟨i+k+m,f',o++(B.drop p).take (x/2),aq,t,c,T6,s,T9,ad,rfl,rfl,hE,Bn a8 (by simp only[Nat.add_sub_cancel_left]),by rw[A1,if_pos j,hpc]at hgo;simp only at hgo;rw[if_neg (by rw[hbl];omega)]at hgo;exact hgo,by omega,by omega,by rw[List.length_append,hbl];omega,trivial⟩ ?_)
  show D.length-(intOf (NI (((i)+k)+m))).toNat<D.length-(intOf (aa 8)).toNat
  rw[q8]
  simp only[intOf,Int.toNat_natCast];omega
 refine gS (Yk.lenRB EX (RB.of (RB.ofOwn ho_vo) g) (gS (Yk.eqI (a:=(o.length:Nat)) (b:=(sb:Nat)) rfl s (AF _ _ _ _) ?_)))
 refine cD rfl (fun ar=> ?_) fun ar=> ?_
 ·refine BO rfl (vr (Value.slice none 0 0) rfl) (vr (NI 6) rfl) ?_
  rw[A1,if_neg j,if_neg ar]at hgo
  have hP:Au B D=([],6):=by rw[Au,hsz];simp only;rw[if_neg h,if_neg q,←hgo]
  rw[hP]
  exact⟨_,rfl,RB.nil _,hE,(fun k hk=>by cases hk)⟩
 refine BO rfl g (vr (NI 0) rfl) ?_
 rw[A1,if_neg j,if_pos (by omega)]at hgo
 have hP:Au B D=(o,0):=by rw[Au,hsz];simp only;rw[if_neg h,if_neg q,←hgo]
 rw[hP]
 exact⟨_,rfl,RB.ofOwn ho_vo,hE,(ho_vo).lt⟩

open Go.RowKit
set_option maxRecDepth 100000
theorem Eh:A6 Tryd.prog 130 0 0:=fun b o w=>by simp[go_sem]
theorem GX:(Tryd.prog.info? 130).map (·.size)=some 2:=by kernel_rfl
theorem C8:A6 Tryd.prog 130 1 1:=fun b o w=>by simp[go_sem]
theorem Do:∀w' :World,(sizeOf 151).run Tryd.prog w' = .ok 35 w' :=fun _=>by kernel_rfl
theorem HU:∃fs,Tryd.prog.underlying 130=some (.struct fs):=DF (by kernel_rfl)
theorem LL:AA Tryd.prog 84:=fun _ _=>by kernel_rfl
theorem Qx:AA Tryd.prog 72:=fun _ _=>by kernel_rfl
theorem Qy:AA Tryd.prog 85:=fun _ _=>by kernel_rfl
set_option maxHeartbeats 1600000
theorem HV(w:World)(vi ve:Value)(ids:List Bs)(hi_:RG 32 Lib.byteCells w vi ids)(hll:ids.length≤65536)(id:Bs)(hid:id.length=32)(hm:id∈ids):
  Calls Tryd.prog 84 #[.agg ([vi,ve]).toArray,AB id] w fun e w' =>e = .returned (NI (ids.idxOf id))∧Ext w w' :=by
 refine gG (args:= [.agg ([vi,ve]).toArray,AB id]) Tryd.func84 rfl 21 rfl rfl ?_
 have hE:=Ext.refl w
 refine gS (Yk.box (vr (.agg ([vi,ve]).toArray) rfl) fun l m ae r v af=> ?_)
 have c:=r;clear r
 have ag:l<m.heap.size:=by omega
 refine gS (Yk.box (vr (AB id) rfl) fun n x y s o ah=> ?_)
 have h:=Ext.refl m
 have hE:=hE.trans v
 have ai:=hE.size
 have f:=s;clear s
 have aj:n<x.heap.size:=by omega
 have ak:=Aw (bl c) y
 have c:=eb o c
 have hE:=hE.trans o
 have h:=h.trans o
 refine gL (fun(ρ:Ae) (wz:World)=>∃i:Nat,ρ 0=(.agg ([vi,ve]).toArray:Value)∧ρ 1=(AB id:Value)∧ρ 2=(PQ l 0:Value)∧ρ 3=(PQ n 0:Value)∧ρ 5=(NI i:Value)∧Ext w wz∧wz.heap[l]? =some (.cells ([vi,ve]).toArray 130 (0,0))∧Ext m wz∧wz.heap[n]? =some (.cells (Lib.byteCells id).toArray 38 (0,0))∧(i≤ids.length)∧(id∉ids.take i)∧True) (fun ρ _=>ids.length-(intOf (ρ 5)).toNat) ⟨0,rfl,rfl,rfl,rfl,rfl,hE,c,h,f,Nat.zero_le _,(by simp),trivial⟩ ?_
 clear hE c f
 rintro z al ⟨i,T0,T1,j,p,g,hE,c,h,f,hil,hni,-⟩
 have q5:=g
 by_cases hlt:i<ids.length
 ·have hel:(ids.getD i []).length=32:=As (RG.elem hi_ [] hlt)
  by_cases q1:ids.getD i []=id
  ·refine gS (Yk.fieldAt Eh j (gS (Yk.cell1 Lc rfl rfl (cellAt c rfl) (gS (Yk.lenRG Lc (RG.of (hi_.keep hE) rfl) (gS (Yk.eqI (a:=(i:Nat)) (b:=(ids.length:Nat)) g rfl (Ah _ _ _ _) (kT (hlt) (cT rfl (Bw [0,1,2,3,4,5,6] [] [] fun am q=> ?_))))))))))
   have c:=eb q c
   refine ys (Yk.fieldAt Eh j zz) (ys (Yk.cell1 Lc rfl rfl (cellAt c rfl) zz) ?_)
   have hE:=hE.trans q
   have ac:(Lib.byteCells (ids.getD (i) ([]:List UInt8))).length=32:=(RG.elem (hi_.keep hE) ([]:List UInt8) (hlt))
   have f:=eb q f
   refine yA (Yk.atRG Lc Og (by decide) ([]:List UInt8) (RG.of (hi_.keep hE) rfl) g (hlt) fun an t=>(ys (Yk.loadPR (PR.of t rfl) QJ rfl (by rw[ac];exact N2) zz) (ys (Yk.loadAll p f QJ rfl (by exact Ag hid) zz) (ys (Yk.eqArr (l1:=(ids.getD (i) ([]:List UInt8))) (l2:=id) QJ u5 M4 O0 rfl rfl (hel) (hid) zz) (kT (q1) ?_)))))
   clear t
   refine cT rfl (Bx rfl g ?_)
   exact⟨by rw[Qw hlt hni q1],hE⟩
  refine gS (Yk.fieldAt Eh j (gS (Yk.cell1 Lc rfl rfl (cellAt c rfl) (gS (Yk.lenRG Lc (RG.of (hi_.keep hE) rfl) (gS (Yk.eqI (a:=(i:Nat)) (b:=(ids.length:Nat)) g rfl (Ah _ _ _ _) (kT (hlt) (cT rfl (Bw [0,1,2,3,4,5,6] [] [] fun ao k=> ?_))))))))))
  have c:=eb k c
  refine ys (Yk.fieldAt Eh j zz) (ys (Yk.cell1 Lc rfl rfl (cellAt c rfl) zz) ?_)
  have hE:=hE.trans k
  have ad:(Lib.byteCells (ids.getD (i) ([]:List UInt8))).length=32:=(RG.elem (hi_.keep hE) ([]:List UInt8) (hlt))
  have f:=eb k f
  refine yA (Yk.atRG Lc Og (by decide) ([]:List UInt8) (RG.of (hi_.keep hE) rfl) g (hlt) fun ap u=>(ys (Yk.loadPR (PR.of u rfl) QJ rfl (by rw[ad];exact N2) zz) (ys (Yk.loadAll p f QJ rfl (by exact Ag hid) zz) (ys (Yk.eqArr (l1:=(ids.getD (i) ([]:List UInt8))) (l2:=id) QJ u5 M4 O0 rfl rfl (hel) (hid) zz) (kF (q1) ?_)))))
  clear u
  have h:=h.trans k
  refine cF rfl (gS (Yk.bin (xv:=NI i) (yv:=NI 1) g rfl rfl (Ac _ _ _ (by omega)) (gK (And.intro ⟨i+1,T0,T1,j,p,rfl,hE,c,h,f,by omega,MS hlt hni q1,trivial⟩ ?_))))
  show ids.length-(intOf (NI ((i)+(1)))).toNat<ids.length-(intOf (z 5)).toNat
  rw[q5]
  simp only[intOf,Int.toNat_natCast];omega
 refine gS (Yk.fieldAt Eh j (gS (Yk.cell1 Lc rfl rfl (cellAt c rfl) (gS (Yk.lenRG Lc (RG.of (hi_.keep hE) rfl) (gS (Yk.eqI (a:=(i:Nat)) (b:=(ids.length:Nat)) g rfl (Ah _ _ _ _) (kF (hlt) (cF rfl (Bx rfl (vr (.int .i64 (-1:Int)) rfl) ?_))))))))))
 rw[show i=ids.length by omega,List.take_length]at hni
 exact absurd hm hni

theorem G4(w:World)(vi ve:Value)(ids:List Bs)(xs:List Ad)(E:Bs→Ent)(hP:RdP ids xs E)(hi_:RG 32 Lib.byteCells w vi ids)(he_:RG 35 entC w ve xs)(ho_:EntsOk w xs)(i:Nat)(hlt:i<xs.length):
  Calls Tryd.prog 71 #[.agg ([vi,ve]).toArray,NI i] w fun e w' =>e = .returned (.int .i64 (E5 E (xs.getD i dEnt).1))∧Ext w w' :=by
 refine gG (args:= [.agg ([vi,ve]).toArray,NI i]) Tryd.func71 rfl 25 rfl rfl ?_
 have hE:=Ext.refl w
 refine gS (Yk.box (vr (.agg ([vi,ve]).toArray) rfl) fun p z af q aa ag=> ?_)
 have f:=q;clear q
 have ah:p<z.heap.size:=by omega
 have hE:=hE.trans aa
 refine gL (fun(ρ:Ae) (wz:World)=>∃c:Nat,∃n:Nat,ρ 0=(.agg ([vi,ve]).toArray:Value)∧ρ 2=(PQ p 0:Value)∧ρ 1=(NI c:Value)∧ρ 5=(NI n:Value)∧Ext w wz∧wz.heap[p]? =some (.cells ([vi,ve]).toArray 130 (0,0))∧(c<xs.length)∧(n≤50)∧((AC E (50-n) (xs.getD (c) dEnt).1).map (· + n)=AC E 50 (xs.getD i dEnt).1)∧True) (fun ρ _=>51-(intOf (ρ 5)).toNat) ⟨i,0,rfl,rfl,rfl,rfl,hE,f,hlt,Nat.zero_le _,(by simp),trivial⟩ ?_
 clear hE f
 rintro ab ai ⟨c,n,T0,g,h,j,hE,f,hc,hn,hs,-⟩
 have q5:=j
 have hX:=(ho_ _ (getD_mem dEnt hc)).2
 by_cases hbs:(xs.getD (c) dEnt).1.based=true
 ·by_cases qz5:50<n+1
  ·refine gS (Yk.fieldAt C8 g (gS (Yk.cell1 F3 rfl rfl (cellAt f rfl) ?_)))
   have aj:(entC (xs.getD (c) dEnt)).length=35:=(RG.elem (he_.keep hE) dEnt (hc))
   refine gS (Yk.atRG F3 Do (by decide) dEnt (RG.of (he_.keep hE) rfl) h (hc) fun ak r=>(gS (Yk.fieldPR (n:=1) Eg (PR.of r rfl) fun al s=>(gS (Yk.loadC IB rfl (PR.cell (PR.of s rfl) rfl) ?_)))))
   clear r
   clear s
   refine cT ((rfl).trans (congrArg Value.bool (hbs))) (gS (Yk.bin (xv:=NI n) (yv:=NI 1) j rfl rfl (Ac _ _ _ (by omega)) (gS (Yk.eqI (a:=((n)+(1):Nat)) (b:=(50:Nat)) rfl rfl (Av _ _ _ _) (kT (qz5) (cT rfl (Bx rfl (vr (.int .i64 (-1:Int)) rfl) ?_)))))))
   exact⟨by rw[Pq hs hbs qz5],hE⟩
  obtain⟨ad,ae⟩:=Qs hP hc hs hbs qz5
  have hbm:=hP.b _ (getD_mem dEnt hc) hbs
  refine gS (Yk.fieldAt C8 g (gS (Yk.cell1 F3 rfl rfl (cellAt f rfl) ?_)))
  have am:(entC (xs.getD (c) dEnt)).length=35:=(RG.elem (he_.keep hE) dEnt (hc))
  refine gS (Yk.atRG F3 Do (by decide) dEnt (RG.of (he_.keep hE) rfl) h (hc) fun an t=>(gS (Yk.fieldPR (n:=1) Eg (PR.of t rfl) fun ao u=>(gS (Yk.loadC IB rfl (PR.cell (PR.of u rfl) rfl) ?_)))))
  clear t
  clear u
  refine cT ((rfl).trans (congrArg Value.bool (hbs))) (gS (Yk.bin (xv:=NI n) (yv:=NI 1) j rfl rfl (Ac _ _ _ (by omega)) (gS (Yk.eqI (a:=((n)+(1):Nat)) (b:=(50:Nat)) rfl rfl (Av _ _ _ _) (kF (qz5) (cF rfl (Bw [0,1,2,3,4,5,6,7,8] [7,8] [] fun ap v=> ?_)))))))
  have f:=eb v f
  refine ys (Yk.loadAll g f (HU).choose_spec rfl ((show(Tryd.prog.info? 130).map (·.size)=some 2 from GX)) zz) (ys (Yk.fieldAt C8 g zz) (ys (Yk.cell1 F3 rfl rfl (cellAt f rfl) zz) ?_))
  have hE:=hE.trans v
  have aq:(entC (xs.getD (c) dEnt)).length=35:=(RG.elem (he_.keep hE) dEnt (hc))
  refine yA (Yk.atRG F3 Do (by decide) dEnt (RG.of (he_.keep hE) rfl) h (hc) fun ar k=>(yF (m:=32) Ij (PR.of k rfl) fun au l=>(ys (Yk.loadPR (NK (PR.of l rfl) (HQ hX)) QJ rfl (NL N2 hX) zz) (yC (Yk.callA2 LL rfl rfl ((HV _ vi ve ids (hi_.keep hE) (by rw[hP.len];exact hP.le) ((xs.getD (c) dEnt).1.base) hX hbm).mono ?_))))))
  rintro e av ⟨rfl,o⟩
  refine⟨_,rfl,?_⟩
  have k:=PR.keep k o
  have l:=PR.keep l o
  refine yC (Yk.assign rfl ?_)
  clear k
  clear l
  have hE:=hE.trans o
  have f:=eb o f
  refine gK (And.intro ⟨ids.idxOf (xs.getD (c) dEnt).1.base,n+1,T0,g,rfl,rfl,hE,f,ad,by omega,ae,trivial⟩ ?_)
  show 51-(intOf (NI ((n)+(1)))).toNat<51-(intOf (ab 5)).toNat
  rw[q5]
  simp only[intOf,Int.toNat_natCast];omega
 refine gS (Yk.fieldAt C8 g (gS (Yk.cell1 F3 rfl rfl (cellAt f rfl) ?_)))
 have aw:(entC (xs.getD (c) dEnt)).length=35:=(RG.elem (he_.keep hE) dEnt (hc))
 refine gS (Yk.atRG F3 Do (by decide) dEnt (RG.of (he_.keep hE) rfl) h (hc) fun ax x=>(gS (Yk.fieldPR (n:=1) Eg (PR.of x rfl) fun ay y=>(gS (Yk.loadC IB rfl (PR.cell (PR.of y rfl) rfl) ?_)))))
 clear x
 clear y
 refine cF ((rfl).trans (congrArg Value.bool (by simpa using hbs))) (Bx rfl j ?_)
 exact⟨by rw[Pr hs hbs],hE⟩

theorem Jy(vi ve:Value)(ids:List Bs)(xs:List Ad)(E:Bs→Ent)(hP:RdP ids xs E)(d:Nat)(ih:∀d1,d1<d→∀(w:World) (hi_:RG 32 Lib.byteCells w vi ids) (he_:RG 35 entC w ve xs) (ho_:EntsOk w xs) (i:Nat) (hlt:i<xs.length) (u:Nat) (hdp:AC E u (xs.getD i dEnt).1=some d1),Calls Tryd.prog 72 #[.agg ([vi,ve]).toArray,NI i] w fun e w' =>∃v c,e = .returned (.tuple #[v, .bool c])∧Ext w w' ∧ByR w' E d1 (ids.getD i []) v c∧((∃x∈xs,v=x.2)∨∀k,Value.ownBlock v=some k→w.heap.size≤k∧k<w'.heap.size))(w:World)(hi_:RG 32 Lib.byteCells w vi ids)(he_:RG 35 entC w ve xs)(ho_:EntsOk w xs)(i:Nat)(hlt:i<xs.length)(u:Nat)(hdp:AC E u (xs.getD i dEnt).1=some d):
  Calls Tryd.prog 72 #[.agg ([vi,ve]).toArray,NI i] w fun e w' =>∃v c,e = .returned (.tuple #[v, .bool c])∧Ext w w' ∧ByR w' E d (ids.getD i []) v c∧((∃x∈xs,v=x.2)∨∀k,Value.ownBlock v=some k→w.heap.size≤k∧k<w'.heap.size):=by
 refine gG (args:= [.agg ([vi,ve]).toArray,NI i]) Tryd.func72 rfl 46 rfl rfl ?_
 have hE:=Ext.refl w
 refine gS (Yk.box (vr (.agg ([vi,ve]).toArray) rfl) fun n2 r bc af z bd=> ?_)
 have j:=af;clear af
 have be:n2<r.heap.size:=by omega
 have hxo:=ho_ _ (getD_mem dEnt hlt)
 have hxr:=hxo.1
 have hX:=hxo.2
 have he0:=hP.e i hlt
 have hxm:=hP.m _ (getD_mem dEnt hlt)
 rcases hbx:(xs.getD (i) dEnt).1.based with _ | _
 ·have hcg:=EF (n:=d) (E:=E) (id:=ids.getD i []) (by rw[he0];exact hbx)
  rw[he0]at hcg
  by_cases qz:(xs.getD (i) dEnt).1.bytes.length≤262144
  ·rw[if_pos qz]at hcg
   refine gS (Yk.fieldAt C8 rfl (gS (Yk.cell1 F3 rfl rfl (cellAt j rfl) ?_)))
   have hE:=hE.trans z
   have aw:(entC (xs.getD (i) dEnt)).length=35:=(RG.elem (he_.keep hE) dEnt (hlt))
   refine gS (Yk.atRG F3 Do (by decide) dEnt (RG.of (he_.keep hE) rfl) rfl (hlt) fun bf ag=>(gS (Yk.loadPR (PR.of ag rfl) (Ki).choose_spec rfl (by rw[aw];exact Dn) (gS (Yk.alloc E2 fun ah ax bg ai ay bh=> ?_)))))
   have p:=Ext.refl r
   have bi:=hE.size
   have l:=ai;clear ai
   have bj:ah<ax.heap.size:=by omega
   refine gS (Yk.storeAll (vr (PQ ah 0) rfl) (vr (.agg (entC (xs.getD (i) dEnt)).toArray) rfl) l (AW (x:=((xs.getD (i) dEnt):Ad)) (y:=(dEnt:Ad)) hX (by simp[dEnt])) (AP (x:=((xs.getD (i) dEnt):Ad)) Dn hX) (AS (x:=((xs.getD (i) dEnt):Ad)) (RB.one hxr).2) fun bk aj az bm=> ?_)
   clear l
   have l:=aj;clear aj
   have bn:=bl l
   clear ag
   have p:=p.trans ay
   have p:=Aa p az (Nat.le_trans (Nat.le_refl _) (by omega))
   have hE:=hE.trans p
   refine gS (Yk.fieldAt Ik rfl (gS (Yk.cell1 EX rfl rfl (cellAt l (FB (x:=((xs.getD (i) dEnt):Ad)) hX)) (gS (Yk.fieldAt Eg rfl (gS (Yk.cell1 IB rfl rfl (cellAt l ((show(entC ((xs.getD (i) dEnt)))[1]? =some (.bool false:Value)from congrArg (fun b=>some (Value.bool b)) hbx))) (cF rfl (gS (Yk.lenRB EX (RB.of (hxr.keep hE) rfl) (gS (Yk.eqI (a:=(((xs.getD (i) dEnt).1.bytes:List UInt8).length:Nat)) (b:=(262144:Nat)) rfl rfl (BU _ _ _ _) (kT (qz) (BO rfl (vr (((xs.getD (i) dEnt)).2) rfl) (vr (.bool (true)) rfl) ?_))))))))))))))
   exact⟨_,_,rfl,hE,ByR.some hcg rfl (hxr.keep hE), .inl ⟨_,getD_mem dEnt hlt,rfl⟩⟩
  rw[if_neg qz]at hcg
  refine gS (Yk.fieldAt C8 rfl (gS (Yk.cell1 F3 rfl rfl (cellAt j rfl) ?_)))
  have hE:=hE.trans z
  have a0:(entC (xs.getD (i) dEnt)).length=35:=(RG.elem (he_.keep hE) dEnt (hlt))
  refine gS (Yk.atRG F3 Do (by decide) dEnt (RG.of (he_.keep hE) rfl) rfl (hlt) fun bo ak=>(gS (Yk.loadPR (PR.of ak rfl) (Ki).choose_spec rfl (by rw[a0];exact Dn) (gS (Yk.alloc E2 fun al a1 bp am a2 bq=> ?_)))))
  have q:=Ext.refl r
  have br:=hE.size
  have o:=am;clear am
  have bs:al<a1.heap.size:=by omega
  refine gS (Yk.storeAll (vr (PQ al 0) rfl) (vr (.agg (entC (xs.getD (i) dEnt)).toArray) rfl) o (AW (x:=((xs.getD (i) dEnt):Ad)) (y:=(dEnt:Ad)) hX (by simp[dEnt])) (AP (x:=((xs.getD (i) dEnt):Ad)) Dn hX) (AS (x:=((xs.getD (i) dEnt):Ad)) (RB.one hxr).2) fun bt an a3 bu=> ?_)
  clear o
  have o:=an;clear an
  have bv:=bl o
  clear ak
  have q:=q.trans a2
  have q:=Aa q a3 (Nat.le_trans (Nat.le_refl _) (by omega))
  have hE:=hE.trans q
  refine gS (Yk.fieldAt Ik rfl (gS (Yk.cell1 EX rfl rfl (cellAt o (FB (x:=((xs.getD (i) dEnt):Ad)) hX)) (gS (Yk.fieldAt Eg rfl (gS (Yk.cell1 IB rfl rfl (cellAt o ((show(entC ((xs.getD (i) dEnt)))[1]? =some (.bool false:Value)from congrArg (fun b=>some (Value.bool b)) hbx))) (cF rfl (gS (Yk.lenRB EX (RB.of (hxr.keep hE) rfl) (gS (Yk.eqI (a:=(((xs.getD (i) dEnt).1.bytes:List UInt8).length:Nat)) (b:=(262144:Nat)) rfl rfl (BU _ _ _ _) (kF (qz) (BO rfl (vr (((xs.getD (i) dEnt)).2) rfl) (vr (.bool (false)) rfl) ?_))))))))))))))
  exact⟨_,_,rfl,hE,ByR.none hcg rfl, .inl ⟨_,getD_mem dEnt hlt,rfl⟩⟩
 obtain⟨na_,d1,hd1,hdp1⟩:=Hy hbx hdp
 subst hd1
 have hcg:=Em (n:=d1+1) (E:=E) (id:=ids.getD i []) (by rw[he0];exact hbx)
 rw[he0]at hcg
 have hbm:=hP.b _ (getD_mem dEnt hlt) hbx
 obtain⟨a4,a5⟩:=hP.at_ hbm
 rw[a5]at hdp1
 have hgi:=Jd hbm
 refine gS (Yk.fieldAt C8 rfl (gS (Yk.cell1 F3 rfl rfl (cellAt j rfl) ?_)))
 have hE:=hE.trans z
 have a6:(entC (xs.getD (i) dEnt)).length=35:=(RG.elem (he_.keep hE) dEnt (hlt))
 refine gS (Yk.atRG F3 Do (by decide) dEnt (RG.of (he_.keep hE) rfl) rfl (hlt) fun bw ao=>(gS (Yk.loadPR (PR.of ao rfl) (Ki).choose_spec rfl (by rw[a6];exact Dn) (gS (Yk.alloc E2 fun ap a7 bx aq a8 bz=> ?_)))))
 have g:=Ext.refl r
 have b0:=hE.size
 have f:=aq;clear aq
 have b1:ap<a7.heap.size:=by omega
 refine gS (Yk.storeAll (vr (PQ ap 0) rfl) (vr (.agg (entC (xs.getD (i) dEnt)).toArray) rfl) f (AW (x:=((xs.getD (i) dEnt):Ad)) (y:=(dEnt:Ad)) hX (by simp[dEnt])) (AP (x:=((xs.getD (i) dEnt):Ad)) Dn hX) (AS (x:=((xs.getD (i) dEnt):Ad)) (RB.one hxr).2) fun b2 ar a9 b3=> ?_)
 clear f
 have f:=ar;clear ar
 have b4:=bl f
 clear ao
 refine gS (Yk.fieldAt Ik rfl (gS (Yk.cell1 EX rfl rfl (cellAt f (FB (x:=((xs.getD (i) dEnt):Ad)) hX)) (gS (Yk.fieldAt Eg rfl (gS (Yk.cell1 IB rfl rfl (cellAt f ((show(entC ((xs.getD (i) dEnt)))[1]? =some (.bool true:Value)from congrArg (fun b=>some (Value.bool b)) hbx))) (cT rfl (DC [0,1,2,3,4,5,6,7,8,9,10] [4,5] [] [0] fun ba au=> ?_)))))))))
 have s:=Ext.refl ba
 have g:=g.trans a8
 have g:=Aa g a9 (Nat.le_trans (Nat.le_refl _) (by omega))
 have g:=g.trans au
 have j:=eb g j
 have hE:=hE.trans g
 have f:=eb au f
 refine C3 s ?_
 refine yf (fun _ ⟨hZ,_⟩=>Yk.loadAll rfl (eb hZ j) (HU).choose_spec rfl ((show(Tryd.prog.info? 130).map (·.size)=some 2 from GX)) zz) (ys (Yk.loadAll rfl j (HU).choose_spec rfl ((show(Tryd.prog.info? 130).map (·.size)=some 2 from GX)) zz) (ys (Yk.fieldAt Ij rfl zz) (ys (Yk.loadPart rfl (Dk (x:=((xs.getD (i) dEnt):Ad)) f) QJ rfl (by rw[Lib.byteCells_length,hX];exact N2) zz) (yE (Yk.callA2 LL rfl rfl ((HV _ vi ve ids (hi_.keep hE) (by rw[hP.len];exact hP.le) (((xs.getD (i) dEnt)).1.base) hX hbm).mono ?_))))))
 rintro e b5 ⟨rfl,aa⟩
 refine⟨_,rfl,?_⟩
 have s:=s.trans aa
 refine⟨s,?_⟩
 have hE:=hE.trans aa
 refine yD rfl (Yk.callA2 Qx rfl rfl ((ih d1 (Nat.lt_succ_self _) _ (hi_.keep hE) (he_.keep hE) (ho_.keep hE) (ids.idxOf (xs.getD (i) dEnt).1.base) a4 na_ hdp1).mono ?_))
 rintro e b6 ⟨ab,c1,rfl,ac,hBy,-⟩
 refine⟨_,rfl,?_⟩
 refine ys (Yk.extract (vs:= [ab, .bool (c1)]) rfl rfl zz) (ys (Yk.extract (vs:= [ab, .bool (c1)]) rfl rfl zz) ?_)
 rw[hgi]at hBy
 rcases hBy.cases with ⟨hcb,rfl⟩ | ⟨bb,kk,hcb,rfl,hby⟩
 ·rw[hcb]at hcg
  refine gS (Yk.notB rfl (cT rfl (BO rfl (vr (Value.slice none 0 0) rfl) (vr (.bool (false)) rfl) ?_)))
  have hE:=hE.trans ac
  exact⟨_,_,rfl,hE,ByR.none hcg rfl, .inr (by intro k hk;cases hk)⟩
 rw[hcb]at hcg
 have hbl:=(EG hcb).1
 have hZ1:=aa.trans ac
 have f:=eb hZ1 f
 have hE:=hE.trans ac
 refine gS (Yk.notB rfl (cF rfl (gS (Yk.fieldAt Ik rfl (gS (Yk.cell1 EX rfl rfl (cellAt f (FB (x:=((xs.getD (i) dEnt):Ad)) hX)) (gS (Yk.callA2 Qy rfl rfl ((LK _ ab ((xs.getD (i) dEnt)).2 bb (xs.getD (i) dEnt).1.bytes hby (hxr.keep hE) (by omega) (by omega)).mono ?_)))))))))
 rintro e b7 ⟨t,rfl,ad,ae,hnw⟩
 refine⟨_,rfl,?_⟩
 have hsz_:=hE.size
 refine gS (Yk.extract (vs:= [t,NI ((Au bb (xs.getD (i) dEnt).1.bytes).2)]) rfl rfl (gS (Yk.extract (vs:= [t,NI ((Au bb (xs.getD (i) dEnt).1.bytes).2)]) rfl rfl ?_)))
 by_cases hap:(Au bb (xs.getD (i) dEnt).1.bytes).2=0
 ·by_cases qz:(Au bb (xs.getD (i) dEnt).1.bytes).1.length≤262144
  ·have hcf:=hcg.trans ((if_pos hap).trans (if_pos qz))
   refine gS (Yk.eqI (a:=((Au bb (xs.getD (i) dEnt).1.bytes).2:Nat)) (b:=(0:Nat)) rfl rfl (AF _ _ _ _) (kF (fun h=>h hap) (cF rfl (gS (Yk.lenRB EX (RB.of ad rfl) (gS (Yk.eqI (a:=(((Au bb (xs.getD (i) dEnt).1.bytes).1:List UInt8).length:Nat)) (b:=(262144:Nat)) rfl rfl (BU _ _ _ _) (kT (qz) (BO rfl (vr t rfl) (vr (.bool (true)) rfl) ?_)))))))))
   have hE:=hE.trans ae
   exact⟨_,_,rfl,hE,ByR.some hcf rfl ad,(.inr fun k hk=>⟨Nat.le_trans hsz_ (hnw k hk).1,(hnw k hk).2⟩)⟩
  have hcf:=hcg.trans ((if_pos hap).trans (if_neg qz))
  refine gS (Yk.eqI (a:=((Au bb (xs.getD (i) dEnt).1.bytes).2:Nat)) (b:=(0:Nat)) rfl rfl (AF _ _ _ _) (kF (fun h=>h hap) (cF rfl (gS (Yk.lenRB EX (RB.of ad rfl) (gS (Yk.eqI (a:=(((Au bb (xs.getD (i) dEnt).1.bytes).1:List UInt8).length:Nat)) (b:=(262144:Nat)) rfl rfl (BU _ _ _ _) (kF (qz) (BO rfl (vr t rfl) (vr (.bool (false)) rfl) ?_)))))))))
  have hE:=hE.trans ae
  exact⟨_,_,rfl,hE,ByR.none hcf rfl,(.inr fun k hk=>⟨Nat.le_trans hsz_ (hnw k hk).1,(hnw k hk).2⟩)⟩
 have hcf:=hcg.trans (if_neg hap)
 refine gS (Yk.eqI (a:=((Au bb (xs.getD (i) dEnt).1.bytes).2:Nat)) (b:=(0:Nat)) rfl rfl (AF _ _ _ _) (kT (hap) (cT rfl (BO rfl (vr (Value.slice none 0 0) rfl) (vr (.bool (false)) rfl) ?_))))
 have hE:=hE.trans ae
 exact⟨_,_,rfl,hE,ByR.none hcf rfl, .inr (by intro k hk;cases hk)⟩

theorem KH(vi ve:Value)(ids:List Bs)(xs:List Ad)(E:Bs→Ent)(hP:RdP ids xs E):∀(d:Nat) (w:World) (hi_:RG 32 Lib.byteCells w vi ids) (he_:RG 35 entC w ve xs) (ho_:EntsOk w xs) (i:Nat) (hlt:i<xs.length) (a:Nat) (hdp:AC E a (xs.getD i dEnt).1=some d),Calls Tryd.prog 72 #[.agg ([vi,ve]).toArray,NI i] w fun e w' =>∃v c,e = .returned (.tuple #[v, .bool c])∧Ext w w' ∧ByR w' E d (ids.getD i []) v c∧((∃x∈xs,v=x.2)∨∀k,Value.ownBlock v=some k→w.heap.size≤k∧k<w'.heap.size):=by
 intro d
 induction d using Nat.strongRecOn with
 | _ d ih=>exact Jy vi ve ids xs E hP d ih
open Go.RowKit
def vC(x:Value):List Value:= [x]
theorem RR{w:World}{v:Value}{l:Bs}(h:RB w v l)(hl:l≠ []):∀k,v.ownBlock=some k→k<w.heap.size:=fun k hk=>by
  obtain⟨h1,ao,cap,rfl,h2,h3,h4,h5⟩:=h
  cases ao with
  | none=>cases hk
  | some a=>
    cases l with
    | nil=>exact absurd rfl hl
    | cons x l=>
      have:=h5 a rfl 0 (B8 x) rfl
      have:=World.block_lt_of_cell? w _ this
      obtain⟨a1,a2,a3⟩:=a
      cases hk
      simpa [Addr.add] using this
structure ByIn (w : World) (va vd : Value) (vs : List Value) (ls : List Bs) : Prop where
  len:vs.length=ls.length
  at_:∀i,i<ls.length→RB w (vs.getD i undef) (ls.getD i [])∧(ls.getD i []= []∨∀k,(vs.getD i undef).ownBlock=some k→k<w.heap.size∧va.ownBlock≠some k∧vd.ownBlock≠some k)
theorem ByIn.keep{w w' :World}{va vd:Value}{vs:List Value}{ls:List Bs}(h:ByIn w va vd vs ls)(k:Ext w w'):ByIn w' va vd vs ls:=
  ⟨h.len,fun i hi=>⟨(h.at_ i hi).1.keep k,(h.at_ i hi).2.imp id fun q j hj=>⟨Nat.lt_of_lt_of_le (q j hj).1 k.size,(q j hj).2⟩⟩⟩
theorem ByIn.nil(w:World)(va vd:Value):ByIn w va vd [] []:=⟨rfl,fun i hi=>absurd hi (Nat.not_lt_zero _)⟩
theorem LM{w w' :World}{v x:Value}{l:Bs}(h:RB w x l)(hx:l= []∨∀k,x.ownBlock=some k→k<w.heap.size∧v.ownBlock≠some k){v' :Value}(g:Grew w w' v v'):RB w' x l:=by
  rcases hx with rfl | hx
  · obtain⟨h1,ao,cap,rfl,h2,h3,h4,h5⟩:=h
    exact⟨h1,ao,cap,rfl,h2,h3,h4,fun a _ j u hu=>by simp[Lib.byteCells]at hu⟩
  · exact Lp h (fun k hk=>(hx k hk).2) g
theorem ByIn.grewA{w w' :World}{va va' vd:Value}{vs:List Value}{ls:List Bs}(h:ByIn w va vd vs ls)(g:Grew w w' va va'):ByIn w' va' vd vs ls:=
  ⟨h.len,fun i hi=>⟨LM (h.at_ i hi).1 ((h.at_ i hi).2.imp id fun q j hj=>⟨(q j hj).1,(q j hj).2.1⟩) g,(h.at_ i hi).2.imp id fun q j hj=>⟨Nat.lt_of_lt_of_le (q j hj).1 g.by_.size,fun e=>(g.fresh j e).elim (fun z=>(q j hj).2.1 z) (fun z=>by have:=(q j hj).1;omega),(q j hj).2.2⟩⟩⟩
theorem ByIn.grewD{w w' :World}{va vd vd' :Value}{vs:List Value}{ls:List Bs}(h:ByIn w va vd vs ls)(g:Grew w w' vd vd'):ByIn w' va vd' vs ls:=
  ⟨h.len,fun i hi=>⟨LM (h.at_ i hi).1 ((h.at_ i hi).2.imp id fun q j hj=>⟨(q j hj).1,(q j hj).2.2⟩) g,(h.at_ i hi).2.imp id fun q j hj=>⟨Nat.lt_of_lt_of_le (q j hj).1 g.by_.size,(q j hj).2.1,fun e=>(g.fresh j e).elim (fun z=>(q j hj).2.2 z) (fun z=>by have:=(q j hj).1;omega)⟩⟩⟩
def ApB(w:World)(va vd v:Value)(l:Bs):Prop:=l= []∨∀k,v.ownBlock=some k→k<w.heap.size∧va.ownBlock≠some k∧vd.ownBlock≠some k
theorem ApB.keep{w w' :World}{va vd v:Value}{l:Bs}(h:ApB w va vd v l)(k:Ext w w'):ApB w' va vd v l:=h.imp id fun q j hj=>⟨Nat.lt_of_lt_of_le (q j hj).1 k.size,(q j hj).2⟩
theorem ByIn.snoc{w:World}{va vd v:Value}{vs:List Value}{ls:List Bs}{l:Bs}(h:ByIn w va vd vs ls)(hr:RB w v l)(hv:ApB w va vd v l):ByIn w va vd (vs++ [v]) (ls++ [l]):=by
  have hl:=h.len
  refine⟨by simp[hl],fun i hi=> ?_⟩
  rw[List.length_append,List.length_singleton]at hi
  by_cases q:i<ls.length
  · rw[CP (by omega),CP q]
    exact h.at_ i q
  · obtain rfl:i=ls.length:=by omega
    rw[CQ rfl,CQ hl]
    exact⟨hr,hv⟩
theorem ByIn.rb{w:World}{va vd:Value}{vs:List Value}{ls:List Bs}(h:ByIn w va vd vs ls):vs.length=ls.length∧∀i,i<ls.length→RB w (vs.getD i undef) (ls.getD i []):=⟨h.len,fun i hi=>(h.at_ i hi).1⟩
theorem RI{w1 wb wc:World}{xs:List Ad}{v va vd:Value}{bb:Bs}(hw1:EntsOk w1 xs)(hor:(∃x∈xs,v=x.2)∨∀k,v.ownBlock=some k→wb.heap.size≤k∧k<wc.heap.size) 
    (hva:∀k,va.ownBlock=some k→w1.heap.size≤k∧k<wb.heap.size) (hvd:∀k,vd.ownBlock=some k→w1.heap.size≤k∧k<wb.heap.size) (h1:w1.heap.size≤wc.heap.size) (hr:RB wc v bb):ApB wc va vd v bb:=by
  rcases hor with ⟨x,hx,rfl⟩ | hn
  · by_cases e:bb= []
    · exact .inl e
    · refine .inr fun k hk=> ?_
      have hl:x.1.bytes≠ []:=fun h=>by
        have h1:=RB.sliceLen (hw1 x hx).1
        have h2:=RB.sliceLen hr
        rw[h]at h1
        rw[h1]at h2
        exact e (List.eq_nil_of_length_eq_zero h2.symm)
      have:=RR (hw1 x hx).1 hl k hk
      exact⟨by omega,fun e=>by have:=(hva k e).1;omega,fun e=>by have:=(hvd k e).1;omega⟩
  · exact .inr fun k hk=>⟨(hn k hk).2,fun e=>by have:=(hva k e).2;have:=(hn k hk).1;omega,fun e=>by have:=(hvd k e).2;have:=(hn k hk).1;omega⟩
theorem ParR.one{w:World}{o:Option B2}{vi ve:Value}{c:Bool}(h:ParR w o vi ve c):∀u∈ [vi,ve],u.oneCell' =true:=by
  cases o with
  | none=>obtain⟨_,rfl,rfl⟩:=h;exact two_one rfl rfl
  | some s=>obtain⟨h0,h1,xs,h2,h3,h4⟩:=h;exact two_one h1.one.2 h2.one.2
theorem ParR.keep{w w' :World}{o:Option B2}{vi ve:Value}{c:Bool}(h:ParR w o vi ve c)(k:Ext w w'):ParR w' o vi ve c:=by
  cases o with
  | none=>exact h
  | some s=>obtain⟨h0,h1,xs,h2,h3,h4⟩:=h;exact⟨h0,h1.keep k,xs,h2.keep k,h3.keep k,h4⟩
theorem ParR.cases{w:World}{o:Option B2}{vi ve:Value}{c:Bool}(h:ParR w o vi ve c):(o = .none∧c=false)∨∃s xs,o = .some s∧c=true∧RG 32 Lib.byteCells w vi s.ids∧RG 35 entC w ve xs∧EntsOk w xs∧xs.map Prod.fst=s.en:=by
  cases o with
  | none=>exact .inl ⟨rfl,h.1⟩
  | some s=>obtain⟨h0,h1,xs,h2,h3,h4⟩:=h;exact .inr ⟨s,xs,rfl,h0,h1,h2,h3,h4⟩
abbrev MV:=Nat × List Bs × List Nat
theorem Pz{E:Bs→Ent}{ids:List Bs}:∀ {i:Nat} {o:MV},Eu E ids i = .ok o→o.2.1.length=i∧o.2.2.length=i∧o.1≤4194304
  | 0,o,h=>by cases h;exact⟨rfl,rfl,by decide⟩
  | i+1,o,h=>by
    cases h0:Eu E ids i with
    | error e=>rw[GR h0 (i+1) (Nat.le_succ i)]at h;cases h
    | ok o0=>
      have ih:=Pz h0
      rw[HP h0]at h
      unfold Ef at h
      split at h
      · cases h
      · split at h
        · cases h
        · split at h
          · split at h
            · rename_i hle
              cases h
              exact⟨by rw[List.length_append,ih.1];rfl,by rw[List.length_append,ih.2.1];rfl,hle⟩
            · cases h
          · cases h
theorem RZ{E:Bs→Ent}{id:Bs}{o:MV}{e:Ent}(he:E id=e)(h:AC E 50 e=none):Ef E id o = .error 17:=by unfold Ef;rw[he,h]
theorem R6{E:Bs→Ent}{id:Bs}{o:MV}{e:Ent}{d:Nat}(he:E id=e)(h:AC E 50 e=some d)(hc:AZ E (d+1) id=none):Ef E id o = .error 6:=by unfold Ef;rw[he,h];dsimp only;rw[hc]
theorem Rm{E:Bs→Ent}{id:Bs}{o:MV}{e:Ent}{d:Nat}{y:Bs × Nat}(he:E id=e)(h:AC E 50 e=some d)(hc:AZ E (d+1) id=some y):Ef E id o=if Sha.sum y.1=id then(if o.1+y.1.length≤4194304 then .ok (o.1+y.1.length,o.2.1++ [y.1],o.2.2++ [d])else .error 2)else .error 18:=by unfold Ef;rw[he,h];dsimp only;rw[hc]
theorem NQ{b:Bs}{s:B2}(h1:¬1048576<b.length)(h2:¬b.length<36)(h3:Sha.sum (b.take (b.length-32))=b.drop (b.length-32))(h4:BC b=some s):Co b=C7 s:=by
  unfold Co
  rw[if_neg h1,if_neg h2,if_pos h3,h4]
theorem NR{b:Bs}(h1:¬1048576<b.length)(h2:¬b.length<36)(h3:Sha.sum (b.take (b.length-32))=b.drop (b.length-32))(h4:BC b=none):Co b = .error 6:=by
  unfold Co
  rw[if_neg h1,if_neg h2,if_pos h3,h4]
theorem Ml{b:Bs}(h1:¬1048576<b.length)(h2:¬b.length<36)(h3:¬Sha.sum (b.take (b.length-32))=b.drop (b.length-32)):Co b = .error 18:=by
  unfold Co
  rw[if_neg h1,if_neg h2,if_neg h3]
theorem EK{s:B2}{i e:Nat}(hi:i≤s.ids.length)(h:Eu (entR s) s.ids i = .error e):C7 s = .error e:=by
  unfold C7
  rw[GR h _ hi]
theorem Mm{s:B2}{o:MV}(h:Eu (entR s) s.ids s.ids.length = .ok o):C7 s = .ok (s.ids,o.2.1,o.2.2):=by
  unfold C7
  rw[h]
def OpR(w:World)(r:Except Nat (List Bs × List Bs × List Nat))(vi va vd:Value)(ec:Nat):Prop:=match r with
  | .error e=>ec=e∧e≠0∧RG 32 Lib.byteCells w vi []
  | .ok y=>ec=0∧RG 32 Lib.byteCells w vi y.1∧(∃vs,RG 1 vC w va vs∧vs.length=y.2.1.length∧∀i,i<y.2.1.length→RB w (vs.getD i undef) (y.2.1.getD i []))∧RG 1 Dz w vd y.2.2
theorem OpR.err{w:World}{r:Except Nat (List Bs × List Bs × List Nat)}{vi va vd:Value}{e:Nat}(h:r = .error e)(h0:e≠0)(hr:RG 32 Lib.byteCells w vi []):OpR w r vi va vd e:=by subst h;exact⟨rfl,h0,hr⟩
theorem OpR.ok{w:World}{r:Except Nat (List Bs × List Bs × List Nat)}{vi va vd:Value}{ids all:List Bs}{dep:List Nat}(h:r = .ok (ids,all,dep))(h1:RG 32 Lib.byteCells w vi ids){vs:List Value}(h2:RG 1 vC w va vs)(h3:vs.length=all.length∧∀i,i<all.length→RB w (vs.getD i undef) (all.getD i []))(h4:RG 1 Dz w vd dep):OpR w r vi va vd 0:=by
  subst h;exact⟨rfl,h1,⟨vs,h2,h3⟩,h4⟩
open Go.RowKit
def R1(w:World)(vs:List Value)(ls:List Bs):Prop:=∀i,i<ls.length→RB w (vs.getD i undef) (ls.getD i [])
structure RS (w : World) (b : Bs) (v vi va vd : Value) (ids all : List Bs) (dep : List Nat) (vs : List Value) (g : Nat) : Prop where
  p:v = .pointer (some ⟨g,0,none⟩)
  rids:RG 32 Lib.byteCells w vi ids
  rall:RG 1 vC w va vs
  rows:R1 w vs all
  rdep:RG 1 Dz w vd dep
  la:all.length=ids.length
  ld:dep.length=ids.length
  lv:vs.length=ids.length
  same:idsQ (qOf (openP b))=ids
  get:∀j,j<ids.length→Ba (qOf (openP b)) (ids.getD j [])=((all.getD j [],dep.getD j 0),0)
theorem Rn{w:World}{b:Bs}{v vi va vd:Value}{ec:Nat}(hq:PackO w v (qOf (openP b)))(hO:OpR w (Co b) vi va vd ec):
    (Pk (openP b)=ec∧ec≠0∧v = .pointer none∧RG 32 Lib.byteCells w vi []∧idsQ (qOf (openP b))= [])∨(∃ids all dep vs g,Pk (openP b)=0∧ec=0∧RS w b v vi va vd ids all dep vs g):=by
  rcases NJ b with ⟨e,h1,h2⟩ | ⟨ids,all,dep,O,h1,h2,a,c,hO2⟩
  · rw[h1]at hO
    rw[h2]at hq ⊢
    obtain⟨rfl,h0,hr⟩:=hO
    exact .inl ⟨rfl,h0,hq,hr,rfl⟩
  · rw[h1]at hO
    rw[h2]at hq ⊢
    obtain⟨rfl,h3,⟨vs,h4,h5,h6⟩,h7⟩:=hO
    obtain⟨g,f,bo,O',rfl,h8,-⟩:=hq
    refine .inr ⟨ids,all,dep,vs,g,rfl,rfl,⟨rfl,h3,h4,h6,h7,a,c,by rw[h5];exact a,by rw[h2];rfl,fun j hj=> ?_⟩⟩
    rw[h2]
    show(match O (ids.getD j [])with | none=>_ | some x=>_)=_
    rw[hO2 j hj]
end Go.Proofs.YtcegdjpdnlaleaaDoor
