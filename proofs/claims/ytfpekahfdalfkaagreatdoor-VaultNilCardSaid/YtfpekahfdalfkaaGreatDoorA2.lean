/- Part 2 of what stands behind these statements: laws and walks of the functions that are reached. Conditions: those that each theorem names. -/
import Derived.Test.YtfpekahfdalfkaaGreatDoorA1
set_option linter.unusedVariables false
set_option linter.unusedSimpArgs false
namespace Go.Proofs.YtfpekahfdalfkaaGreatDoor
open _root_.Go renaming Value → AaR, World → AaS, TypeId → AaZ, Program → Abo, Edge → AbP, Operand → Aa5, IntKind → AbU, Code → Ac7, Oper → Abi, Func → AdH, Ending → Adc, FuncId → AcF, MapEntry → Acz, binOp → Abt
open _root_.Nat renaming le_refl → AaX, zero_add → Ab9, add_mul → Adm, add_assoc → Ac5, blt → Ac3, beq → Adj, eq_of_beq_eq_true → Ae0, ble → Afk, le_of_ble_eq_true → Aa9, lt_of_lt_of_le → AbL, mul_comm → AfS, mul_le_mul → Afl, pow_le_pow_right → AcY, shiftLeft_add_eq_or_of_lt → Afb, shiftLeft_eq → AfM, mul_le_mul_left → AdM, le_trans → AaV, le_add_right → Ac8, min → AdR, add_comm → AeD, sub_self → AcD, lt_succ_self → AeW, zero_le → Abs, mul_lt_mul_of_pos_right → Aed, or_lt_two_pow → AfB, add_sub_cancel_left → AcZ, mul_one → Agb, mul_le_mul_right → Aee, sub_zero → AgR, strongRecOn → Adr
open _root_.Go.World renaming ownsRow_nil → AbO, cell?_spot → AdI, cell? → Ade, ownsRow → Afx
open _root_.List renaming getElem?_eq_some_iff → Abn, getD_cons_zero → Aff, flatMap_cons → AbW, getElem?_append_left → AbN, getElem?_append_right → AbH, getD_eq_getElem?_getD → AaW, getElem?_eq_getElem → Aa2, getElem_mem → Acp, getElem?_take → AcV, getElem?_drop → Aew, eq_nil_of_length_eq_zero → AbC, mem_flatMap → AfR, mem_append → Abk, length_append → AaY, flatMap_append → AdL, contains_iff_mem → AcT, append_assoc → Abr, length → AeR, length_singleton → Abj, cons_append → AbS, length_drop → Abf, take_of_length_le → AbK, drop_eq_getElem_cons → Ab8, mem_of_getElem? → Ab0, map_append → Acj, map_cons → Abv, map_nil → AbG, nodup_append → Ac0, mem_map → AbD, mem_singleton → Aa6, mem_append_right → AcS, mem_append_left → AdB, map_set → AfP, getElem?_map → AcB, mem_iff_getElem → Aeg, getElem_set → AfT, getElem_map → Aeh, mem_eraseIdx_iff_getElem → Afc, eraseIdx_sublist → Ae2, nil_append → AbV, getD → AeY, drop_of_length_le → Ab4, replicate → Aa4, length_replicate → Abc, length_take → Abg, foldl_cons → AdT, set_cons_zero → AeE, range → Ab6, getElem?_eq_none → Ab3, set_append_right → Acg, replicate_succ → AgG, getElem?_set_self → Ad2, getElem?_set_ne → Agr, ext_getElem → AeU, mem_cons → AbF, not_mem_nil → AcN, map_toArray → Abx, map → Adw, size_toArray → Abe, length_map → Abh, drop_drop → Agi, take_append_of_le_length → Ad5, drop_append_of_le_length → Adg, take_append → AfV, drop_append → AeX, map_take → Afu, map_drop → Agx, length_cons → Abp, pairwise_cons → AbY, countP_le_length → Agj, length_set → Acv, take_succ_eq_append_getElem → Abu, singleton_append → Ad9, append_nil → AcK, drop_succ_cons → AdN, take_succ_cons → AdO, mem_of_mem_drop → Ags, mem_of_mem_take → Agt, append_of_mem → Adq, pairwise_append → Acd, nodup_cons → Ac2, all_eq_true → AbE, take_length → Acy, drop_zero → Adk, take_append_drop → Ad8, length_nil → Abw, length_take_le → AgH, append_toArray → Ac4, toArray → Acn
open _root_.Go.Addr renaming add → AcU, add_lit → Ack
open _root_.Go.Program renaming elem → Ad7, arrayLen → AfN
open _root_.Go.Sem renaming run_bind → Aa7, run_pure → Abb, run → Ae3
open _root_.Go.Result renaming andThen_ok → Aa3, andThen → AbM
open _root_.Go.Src renaming ofSlice → Afp
open _root_.Go.Region renaming wanted → Acf
open _root_.Array renaming replicate → AcC, getElem?_eq_some_iff → Abm, getElem?_setIfInBounds → Acu, length_toList → AcR
open _root_.Go.RowKit.Below renaming refl → AbJ, trans → Agc
open _root_.Go.Calls renaming mono → AdV
open _root_.Option renaming map_none → AcI, map_eq_some_iff → Ad1, getD_some → AbR, map_some → Aca, bind_some → Ac6, isNone_iff_eq_none → AfI
open _root_.Go.Instr renaming storeAt → Adu, sureAddr → Adi, lookup → AeC, mapUpdate → Af6, build → AcJ, buildSlice → Abz, mapEntry → Afn, entryStore → AfW, sliceAt → Ael
open _root_.Go.Value renaming cells → Aen, ownBlock → Aa1, int → AcM, slice → Aa0
open _root_.Go.Proofs.Tryz renaming prog → AaU, func128 → AgT, ntmps128 → AgA, func210 → AfU, ntmps210 → Afw
open _root_.Go.Lib renaming byteCells → AaT, hid → AcG, uvarint → Abd, uvarint_big → Af4, uvarint_small → Ad6, byteCells_append → Ae4, compareBytes → Abl, byteCells_length → Aa8
open _root_.Go.Exit renaming noGoto_ret → Af5
open _root_.Prod.mk renaming injEq → Afv
open _root_.Go.MapKept renaming IsKey → Aem, run_findKey → AgF, Stamped → Ae7, run_getObj_map → Ab5, run_setObj_map → AcO
open _root_.Go.ChangeMaps renaming modify_eq_set → Aec
open _root_.Go.WideElems renaming set_self → Agh
open _root_.Go.MapEntry renaming key → AgU
open _root_.Go.Builtin renaming delete_ → Af7
open _root_.Option.some renaming inj → AbB, injEq → AcA
open _root_.Go.World.grownBy renaming refl → Ace
open _root_.UInt32 renaming ofNat → Aey
open _root_.UInt8 renaming ofNat → AbQ, le_antisymm → AfC, not_lt → AeF, toNat_inj → Aes, toNat_lt → Afo
open _root_.Go.IntKind renaming wrap → Aex, bits → Ab7, signed → Adb
open _root_.Go.Op renaming intArith → Aeo
open _root_.And renaming intro → Aby
open _root_.Int renaming toNat_natCast → Aba, natCast_mul → Af3
open _root_.Go.Extern.Bytes renaming loadBytes → AeS, bytesOf → Aei
open _root_.Go.Extern.BytealgCompare renaming compare → Afd
open _root_.Go.Deferred renaming ofValue → AdG
open _root_.List.Perm renaming refl → Afm
open _root_.List.Pairwise renaming nil → AcQ
open _root_.List.cons renaming injEq → Ae6
open _root_.Bool renaming or_eq_true → Adf
open Go.RowKit
def RG{α:Type}(k:Nat)(enc:α→List AaR)(w:AaS)(v:AaR)(l:List α):Prop:=(∀x∈l,(enc x).length=k)∧Reads w k v l.length (l.flatMap enc)
def OG{α:Type}(base:Nat)(t:AaZ)(k:Nat)(enc:α→List AaR)(w:AaS)(v:AaR)(l:List α):Prop:=(∀x∈l,(enc x).length=k)∧w.ownsRow base t k v l.length (l.flatMap enc)
def PR(cs:List AaR)(v:AaR)(w:AaS):Prop:=∃b o,v = .pointer (some ⟨b,o,none⟩)∧w.rangeAt b o cs
section
variable {α : Type} {k base : Nat} {t : AaZ} {enc : α → List AaR} {w w' : AaS} {v x : AaR} {l : List α} {cs : List AaR}
theorem RG.keep(h:RG k enc w v l)(e:Ext w w'):RG k enc w' v l:=⟨h.1,h.2.keep e⟩
theorem OG.keep(h:OG base t k enc w v l)(e:Ext w w'):OG base t k enc w' v l:=⟨h.1,Stab.own _ _ _ _ _ _ _ _ h.2 e⟩
theorem OG.kept{g:Nat}(h:OG base t k enc w v l)(e:w.grownBy w' (some g))(hne:v.ownBlock≠some g):OG base t k enc w' v l:=⟨h.1,BI h.2 e hne⟩
theorem XU(h:RG k enc w v l)(e:x=v):RG k enc w x l:=by rw[e];exact h
theorem OG.of(h:OG base t k enc w v l)(e:x=v):OG base t k enc w x l:=by rw[e];exact h
theorem PR.keep(h:PR cs v w)(e:Ext w w'):PR cs v w' :=by
  obtain⟨b,o,h1,h2⟩:=h;exact⟨b,o,h1,fun j u hu=>Y3 e (h2 j u hu)⟩
theorem Yb(h:PR cs v w)(e:x=v):PR cs x w:=by rw[e];exact h
theorem RG.nil(k:Nat)(enc:α→List AaR)(w:AaS):RG k enc w (.slice none 0 0) []:=⟨by simp,by simp,none,0,rfl,AaX _,by simp[maxLen],fun _=>⟨rfl,rfl⟩,fun a h=>by cases h⟩
theorem OG.nil(base:Nat)(t:AaZ)(k:Nat)(enc:α→List AaR)(w:AaS):OG base t k enc w (.slice none 0 0) []:=⟨by simp,AbO w base t k⟩
theorem RG.sliceLen(h:RG k enc w v l):BD v=l.length:=by
  obtain⟨-,-,ao,cap,rfl,-⟩:=h;rfl
theorem RG.len(h:RG k enc w v l):∃ao c,v = .slice ao l.length c:=by
  obtain⟨-,-,ao,cap,rfl,-⟩:=h;exact⟨ao,cap,rfl⟩
theorem RG.lenLt(h:RG k enc w v l):l.length≤9223372036854775807:=by
  obtain⟨-,-,ao,cap,rfl,h2,h3,-⟩:=h;unfold maxLen at h3;omega
theorem XW(h:OG base t k enc w v l):RG k enc w v l:=by
  refine⟨h.1,h.2.1,?_⟩;have h' :=h.2;rcases h.2.2 with ⟨rfl,h0⟩ | ⟨g,cap,cur,rfl,hbg,hg,hnc,hcm,hcs,htake⟩
  · exact⟨none,0,by rw[h0],by omega,by simp[maxLen],fun _=>⟨h0,rfl⟩,fun a ha=>by cases ha⟩
  · exact⟨some ⟨g,0,none⟩,cap,rfl,hnc,hcm,(fun h=>by cases h),(fun a ha j u hu=>by cases ha;exact h'.cells rfl j u hu)⟩
theorem Jy(d:α):∀(l:List α),(∀x∈l,(enc x).length=k)→∀i,i<l.length→∀j u,(enc (l.getD i d))[j]? =some u→(l.flatMap enc)[i*k+j]? =some u
  | [],_,i,hi,_,_,_=>by simp at hi
  | a :: r,h,0,_,j,u,hu=>by
    have hj:=(Abn.1 hu).1;simp only[Aff]at hu hj;rw[AbW,Nat.zero_mul,Ab9,AbN hj];exact hu
  | a :: r,h,i+1,hi,j,u,hu=>by
    simp only[List.getD_cons_succ]at hu;have ih:=Jy d r (fun x hx=>h x (by simp[hx])) i (by simpa using hi) j u hu;rw[AbW,AbH (by rw[h a (by simp),Adm];omega),h a (by simp)];rw[show(i+1)*k+j-k=i*k+j by rw[Adm];omega];exact ih
theorem RG.rangeAt(d:α)(h:RG k enc w v l)(hk:0<k){i:Nat}(hi:i<l.length):∃b o c,v = .slice (some ⟨b,o,none⟩) l.length c∧w.rangeAt b (o+i*k) (enc (l.getD i d)):=by
  obtain⟨h1,h2,ao,cap,rfl,h3,h4,h5,h6⟩:=h;cases ao with
  | none=>have:=(h5 rfl).1;omega
  | some a=>
    obtain⟨b,o,sp⟩:=a;have hx:l.getD i d∈l:=by
      rw[AaW,Aa2 hi];exact Acp hi
    have hc:∀j u,(enc (l.getD i d))[j]? =some u→w.cell? ((⟨b,o,sp⟩:Addr).add (i*k+j))=some u:=fun j u hu=>h6 _ rfl _ _ (Jy d l h1 i hi j u hu);have e:=h1 (l.getD 0 d) (by rw[AaW,Aa2 (by omega)];exact Acp _);have h0:=h6 _ rfl _ _ (Jy d l h1 0 (by omega) 0 ((enc (l.getD 0 d))[0]'(by omega)) (by rw[Aa2]));have hsp:sp=none:=by
      have:=AdI h0
      simpa [AcU] using this
    subst hsp;refine⟨b,o,cap,rfl,fun j u hu=> ?_⟩;have:=hc j u hu;rw[Ack]at this;rw[Ac5];exact this
end
section
variable {P : Abo} {K : AaR → AaS → Prop} {ρ : Ad} {w : AaS} {d : Option Tmp} {ty : AaZ} {pos : String} {af : Array AbP} {gd : Option (Nat × Bool)}
variable {α : Type} {k : Nat} {enc : α → List AaR} {l : List α}
theorem X4{t e:AaZ}(ht:P.underlying t=some (.slice e))(he:∀w' :AaS,(sizeOf e).run P w' = .ok k w')(a:0<k){x y:Aa5}(dd:α)(h:RG k enc w (Aa ρ x) l){kd:AbU}{i:Nat}(hy:Aa ρ y = .int kd (i:Int))(hi:i<l.length) 
    (hk:∀v,PR (enc (l.getD i dd)) v w→K v w):Yk P K ((execOp (Aa ρ) ⟨d, .indexAddr t x y,ty,pos,af,gd⟩).run P w):=by
  obtain⟨b,o,c,hv,hr⟩:=h.rangeAt dd a hi;refine Yk.value (v:= .pointer (some ⟨b,o+i*k,none⟩)) (w' :=w) ?_ (hk _ ⟨b,_,rfl,hr⟩);have hE:P.elem t=e:=by simp[Ad7,ht]
  have hr:=run_indexAt_slice (P:=P) w t ⟨b,o,none⟩ l.length c kd (i:Int) (by rw[hE];exact ht);rw[if_pos (by omega),hE,he]at hr;unfold execOp;simp only[hv,hy,Aa7,hr,Aa3,Abb];simp[Ack]
theorem X1{t e:AaZ}(ht:P.underlying t=some (.slice e)){x:Aa5}{w0:AaS}(h:RG k enc w0 (Aa ρ x) l)(hk:K (NI l.length) w):Yk P K ((execOp (Aa ρ) ⟨d, .call ⟨.builtin .len,#[x],#[t]⟩,ty,pos,af,gd⟩).run P w):=by
  obtain⟨ao,c,hv⟩:=h.len;exact YO ht hv hk
theorem X9{t' :AaZ}{x:Aa5}{cs:List AaR}{de:TypeDesc}(h:PR cs (Aa ρ x) w)(hu:P.underlying t' =some de)(hd:de.isRow=true)(hi:(P.info? t').map (·.size)=some cs.length) 
    (hk:K (.agg cs.toArray) w):Yk P K ((execOp (Aa ρ) ⟨d, .load t' x,ty,pos,af,gd⟩).run P w):=by
  obtain⟨b,o,hx,hr⟩:=h;exact Yf hx hr hu hd hi hk
theorem ZW{s:AaZ}{f off n:Nat}(hf:A2 P s f off){x:Aa5}{cs:List AaR}(h:PR cs (Aa ρ x) w)(hk:∀v,PR ((cs.drop off).take n) v w→K v w):Yk P K ((execOp (Aa ρ) ⟨d, .fieldAddr s x f,ty,pos,af,gd⟩).run P w):=by
  obtain⟨b,o,hx,hr⟩:=h;refine Yk.fieldAt hf hx (hk _ ⟨b,o+off,rfl,fun j v hv=> ?_⟩);rw[AcV]at hv;split at hv
  · rw[Aew]at hv;have:=hr _ _ hv;rw[←Ac5]at this;exact this
  · cases hv
theorem PR.cell{cs:List AaR}{v u:AaR}(h:PR cs v w)(hc:cs[0]? =some u):PCell u v w:=by
  obtain⟨b,o,hx,hr⟩:=h;exact⟨_,hx,by have:=hr 0 u hc;simpa using this⟩
theorem RG.src{tx e' :AaZ}(hk:P.underlying tx=some (.slice e')){v:AaR}(h1:∀x∈l,∀u∈enc x,u.oneCell' =true)(h:RG k enc w v l):Src P k tx v l.length (l.flatMap enc) w:=by
  obtain⟨h0,h2,ao,cap,rfl,h3,h4,h5,h6⟩:=h;cases ao with
  | none=>
    obtain⟨h7,rfl⟩:=h5 rfl;have:l= []:=AbC h7;subst this;exact Src.ofNil w hk 0
  | some a=>exact Afp w hk a _ cap _ h2 (h6 a rfl) (fun u hu=>by
      obtain⟨x,hx,hxu⟩:=AfR.1 hu;exact h1 x hx u hxu)
theorem X2(s x:Aa5){t tx e e' :AaZ}(base:Nat)(z:AaR)(bytes:Nat)(ht:P.underlying t=some (.slice e))(hi:(P.info? e).map (fun i=>(i.zero,i.size,i.bytes))=some (some z,k,bytes))(hzs:z.cells.size=k)(hu:P.underlying tx=some (.slice e')) 
    (l m:List α) (hown:OG base e k enc w (Aa ρ s) l) (hsrc:RG k enc w (Aa ρ x) m) (h1:∀x∈m,∀u∈enc x,u.oneCell' =true) (hb:l.length+m.length≤281474976710656) (hbb:(l.length+m.length)*bytes≤140737488355328) (hbase:base≤w.heap.size)
    (h:∀v' w',OG base e k enc w' v' (l++m)→Grew w w' (Aa ρ s) v' →K v' w'):Yk P K ((execOp (Aa ρ) ⟨d, .call ⟨.builtin .append,#[s,x],#[t,tx]⟩,ty,pos,af,gd⟩).run P w):=
  Yk.append s x base e z k bytes ht hi hzs l.length (l.flatMap enc) hown.2 m.length (m.flatMap enc) (hsrc.src hu h1) (by unfold maxLen;omega) hbb hbase fun v' w' ho g=>h v' w' ⟨fun x hx=>(Abk.1 hx).elim (hown.1 x) (hsrc.1 x),by rw[AaY,AdL];exact ho⟩ g
theorem Aac{w:AaS}{b:Nat}{x:α}{t:AaZ}{fr:Nat × Nat}(hl:(enc x).length=k)(hb:w.heap[b]? =some (.cells (enc x).toArray t fr)):RG k enc w (.slice (some ⟨b,0,none⟩) 1 1) [x]:=
  ⟨by simpa using hl,by simpa using hl,some ⟨b,0,none⟩,1,rfl,AaX _,by simp[maxLen],(fun h=>by cases h),fun a ha j u hu=>by
    cases ha;rw[Ack,Ab9];exact cellAt hb (by simpa using hu)⟩
end
inductive Fr where
  | seq (y:Ac7)
  | block (id:Nat)
  | scope
  | fin (K:Ad→AaS→Prop)
def CD(P:Abo)(n:Nat)(Q:BE):List Fr→BE
  | []=>fun e ρ w=>match e with
    | .normal=>Q .ret ρ w
    | e=>Q e ρ w
  | .seq y :: k=>Gn (B0 P n y (CD P n Q k)) (CD P n Q k)
  | .block id :: k=>EG id (CD P n Q k)
  | .scope :: k=>OR (CD P n Q k)
  | .fin K :: k=>Gn K (CD P n Q k)
inductive MT where
  | code (c:Ac7)
  | ops (a:Array Abi) (l:List Abi)
  | pop
  | mix (l:List Abi) (cs pf fl:List Nat) (I:AaS→Prop) (r:List Nat)
inductive MK where
  | pure
  | here
  | float
inductive Tg where
  | op (a:Array Abi) (o:Abi) (r:List Abi) (k:List Fr) (ρ:Ad)
  | code (c:Ac7) (k:List Fr) (ρ:Ad)
  | fin (K:Ad→AaS→Prop) (k:List Fr) (ρ:Ad)
  | chain (l:List Abi) (cs pf fl:List Nat) (I:AaS→Prop) (i:Nat) (o:Abi) (r:List Nat) (k:List Fr) (ρ:Ad)
  | still (κ:MK) (l:List Abi) (cs pf fl:List Nat) (I:AaS→Prop) (i:Nat) (o:Abi) (r:List Nat) (k:List Fr) (ρ:Ad)
  | ret (ρ:Ad)
  | bad
def room(n:Nat):Option Tmp→Bool
  | some d=>Ac3 d n
  | none=>true
def Xs:Bool→Bool→Bool
  | true,true=>true
  | false,false=>true
  | _,_=>false
def Bd(n:Nat)(u:Bool):Nat→MT→List Fr→Ad→Tg
  | 0,_,_,_=> .bad
  | f+1, .code c,k,ρ=>match c with
    | .seq x y=>Bd n u f (.code x) (.seq y :: k) ρ
    | .block id x=>Bd n u f (.code x) (.block id :: k) ρ
    | .scope x=>Bd n u f (.code x) (.scope :: k) ρ
    | .skip=>Bd n u f .pop k ρ
    | .ret=> .ret ρ
    | .exit id=>match k with
      | []=> .bad
      | .block i :: k=>cond (Adj id i) (Bd n u f .pop k ρ) (Bd n u f (.code (.exit id)) k ρ)
      | _ :: k=>Bd n u f (.code (.exit id)) k ρ
    | .region _ a d=>cond d (.code c k ρ) (Bd n u f (.ops a a.toList) k ρ)
    | c=> .code c k ρ
  | f+1, .pop,k,ρ=>match k with
    | []=> .ret ρ
    | .seq y :: k=>Bd n u f (.code y) k ρ
    | .fin K :: k=> .fin K k ρ
    | _ :: k=>Bd n u f .pop k ρ
  | f+1, .ops a l,k,ρ=>match l with
    | []=>Bd n u f .pop k ρ
    | o :: r=>cond (room n o.dst) (match o.guard with
      | some (g,want)=>cond u (match (a[g]?).bind (·.dst)with
        | some d=>match ρ d with
          | .bool b=>match Xs b want with
            | true=>match o.op with
              | .move x=>Bd n u f (.ops a r) k (updO ρ o.dst (Aa ρ x))
              | .assign x=>Bd n u f (.ops a r) k (updO ρ o.dst (Aa ρ x))
              | _=> .op a { o with guard:=none } r k ρ
            | false=>Bd n u f (.ops a r) k (updO ρ o.dst undef)
          | _=> .op a o r k ρ
        | none=> .op a o r k ρ) (.op a o r k ρ)
      | none=>match o.op with
        | .move x=>Bd n u f (.ops a r) k (updO ρ o.dst (Aa ρ x))
        | .assign x=>Bd n u f (.ops a r) k (updO ρ o.dst (Aa ρ x))
        | _=> .op a o r k ρ) .bad
  | f+1, .mix l cs pf fl I r,k,ρ=>match r with
    | []=>Bd n u f .pop k ρ
    | i :: r=>match l[i]? with
      | none=> .bad
      | some o=>cond (Br l o ρ) (cond (cs.contains i) (.chain l cs pf fl I i o r k ρ) (match o.op with
        | .move x=>Bd n u f (.mix l cs pf fl I r) k (updO ρ o.dst (Aa ρ x))
        | .assign x=>Bd n u f (.mix l cs pf fl I r) k (updO ρ o.dst (Aa ρ x))
        | _=> .still (cond (pf.contains i) .pure (cond (fl.contains i) .float .here)) l cs pf fl I i o r k ρ))
        (Bd n u f (.mix l cs pf fl I r) k (updO ρ o.dst undef))
def JK(P:Abo)(n:Nat)(Q:BE)(k:List Fr)(ch:List PanicEntry)(w:AaS):Prop:=∀ρ,CD P n Q k (.panic ch) ρ w
def MU(P:Abo)(n:Nat)(Q:BE)(l:List Abi)(cs pf fl:List Nat)(I:AaS→Prop)(r:List Nat)(k:List Fr)(ρ:Ad)(w:AaS):Prop:=
  DP P l cs pf fl (JK P n Q k) (fun ρ w=>CD P n Q k .normal ρ w) r I ρ w
def A4(P:Abo)(n:Nat)(_:Bool)(Q:BE)(w:AaS):Tg→Prop
  | .op a o r k ρ=>room n o.dst=true→CB P a n (CD P n Q k) (o :: r) ρ w
  | .code c k ρ=>B0 P n c (CD P n Q k) ρ w
  | .fin K _ ρ=>K ρ w
  | .chain l cs pf fl I i o r k ρ=>l[i]? =some o→Br l o ρ=true→i∈cs→MU P n Q l cs pf fl I (i :: r) k ρ w
  | .still κ l cs pf fl I i o r k ρ=>l[i]? =some o→Br l o ρ=true→i∉cs→(match κ with | .pure=>ER l pf i=true | .here=>ER l pf i=false∧i∉fl | .float=>ER l pf i=false∧i∈fl)→MU P n Q l cs pf fl I (i :: r) k ρ w
  | .ret ρ=>Q .ret ρ w
  | .bad=>False
def CmdOk(P:Abo)(n:Nat)(Q:BE)(w:AaS)(k:List Fr)(ρ:Ad):MT→Prop
  | .code (.exit i)=>CD P n Q k (.exit i) ρ w
  | .code c=>B0 P n c (CD P n Q k) ρ w
  | .ops a l=>CB P a n (CD P n Q k) l ρ w
  | .pop=>CD P n Q k .normal ρ w
  | .mix l cs pf fl I r=>MU P n Q l cs pf fl I r k ρ w
section
variable {P : Abo} {n : Nat} {u : Bool} {Q : BE} {ρ : Ad} {w : AaS} {k : List Fr}
theorem Fq:∀ {d:Option Tmp},room n d=true→(match d with | some d=>Ac3 d n | none=>true)=true
  | some _,h=>h
  | none,_=>rfl
theorem CmdOk.wp{c:Ac7}(h:CmdOk P n Q w k ρ (.code c)):B0 P n c (CD P n Q k) ρ w:=by
  cases c with
  | exit i=>exact S5 h
  | _=>exact h
theorem Lw{Q:BE}{a:Array Abi}{dst:Option Tmp}{op:Op}{ty:AaZ}{pos:String}{af:Array AbP}{r:List Abi}{g:Nat}{want:Bool}{d:Tmp}(hg:(a[g]?).bind (·.dst)=some d)(hv:ρ d = .bool want) 
    (h:CB P a n Q (⟨dst,op,ty,pos,af,none⟩ :: r) ρ w):CB P a n Q (⟨dst,op,ty,pos,af,some (g,want)⟩ :: r) ρ w:=fun c hc=>by
  have h1:=h c hc;have hw:Acf ⟨dst,op,ty,pos,af,some (g,want)⟩ (yielded a c.tmps)=true:=by
    have:=H7 ((hc.get d).trans hv);simp only[Acf,yielded,hg];simp[this]
  unfold wpList at h1 ⊢;rw[if_pos hw];exact h1
theorem BK:∀(f:Nat) (u:Bool) (c:MT) (k:List Fr) (ρ:Ad),A4 P n u Q w (Bd n u f c k ρ)→CmdOk P n Q w k ρ c
  | 0,u,c,k,ρ,h=>h.elim
  | f+1,u, .code c,k,ρ,h=>by
    match c,h with
    | .seq x y,h=>exact OS (BK f u (.code x) (.seq y :: k) ρ h).wp
    | .block id x,h=>exact Q2 (BK f u (.code x) (.block id :: k) ρ h).wp
    | .scope x,h=>exact Q3 (BK f u (.code x) (.scope :: k) ρ h).wp
    | .skip,h=>exact DD (BK f u .pop k ρ h)
    | .ret,h=>
      have:∀k,CD P n Q k .ret ρ w=Q .ret ρ w:=fun k=>by
        induction k with
        | nil=>rfl
        | cons x k ih=>cases x <;> exact ih
      exact IT (by rw[this];exact h)
    | .exit id,h=>
      match k,h with
      | .block i :: k,h=>
        cases hb:Adj id i with
        | true=>
          obtain rfl:=Ae0 hb;unfold Bd at h;simp only[hb,cond_true]at h;exact MN (BK f u .pop k ρ h)
        | false=>
          unfold Bd at h;simp only[hb,cond_false]at h;exact Mj hb (BK f u (.code (.exit id)) k ρ h)
      | .seq y :: k,h=>exact BK f u (.code (.exit id)) k ρ h
      | .scope :: k,h=>exact BK f u (.code (.exit id)) k ρ h
      | .fin K :: k,h=>exact BK f u (.code (.exit id)) k ρ h
    | .region id a d,h=>
      cases d with
      | true=>exact h
      | false=>exact wt (l:=a.toList) (BK f u (.ops a a.toList) k ρ h)
    | .cond ..,h=>exact h
    | .loop ..,h=>exact h
    | .rangeFunc ..,h=>exact h
    | .label ..,h=>exact h
    | .goto ..,h=>exact h
    | .refuse ..,h=>exact h
  | f+1,u, .pop,k,ρ,h=>by
    match k,h with
    | [],h=>exact h
    | .seq y :: k,h=>exact(BK f u (.code y) k ρ h).wp
    | .fin K :: k,h=>exact h
    | .block i :: k,h=>exact BK f u .pop k ρ h
    | .scope :: k,h=>exact BK f u .pop k ρ h
  | f+1,u, .ops a l,k,ρ,h=>by
    match l,h with
    | [],h=>exact oZ (BK f u .pop k ρ h)
    | o :: r,h=>
      cases hr:room n o.dst with
      | false=>unfold Bd at h;simp only[hr,cond_false]at h;exact h.elim
      | true=>
        unfold Bd at h;simp only[hr,cond_true]at h;obtain⟨dst,op,ty,pos,af,gd⟩:=o;cases gd with
        | some g=>
          obtain⟨g,want⟩:=g;cases u with
          | false=>exact h hr
          | true=>
            cases hg:(a[g]?).bind (·.dst)with
            | none=>simp only[hg,cond_true]at h;exact h hr
            | some d=>
              simp only[hg,cond_true]at h;cases hv:ρ d with
              | bool b=>
                simp only[hv]at h;cases hb:Xs b want with
                | true=>
                  obtain rfl:b=want:=by cases b <;> cases want <;> first | rfl | cases hb
                  simp only[hb]at h;refine Lw hg hv ?_;cases op with
                  | move x=>exact oS (Fq hr) (Yk.move rfl (BK f true (.ops a r) k _ h))
                  | assign x=>exact oS (Fq hr) (Yk.assign rfl (BK f true (.ops a r) k _ h))
                  | _=>exact h hr
                | false=>
                  simp only[hb]at h;exact oN rfl (Fq hr) hg hv (by cases b <;> cases want <;> first | rfl | cases hb) (BK f true (.ops a r) k _ h)
              | _=>simp only[hv]at h;exact h hr
        | none=>
          cases op with
          | move x=>exact oS (Fq hr) (Yk.move rfl (BK f u (.ops a r) k _ h))
          | assign x=>exact oS (Fq hr) (Yk.assign rfl (BK f u (.ops a r) k _ h))
          | _=>exact h hr
  | f+1,u, .mix l cs pf fl I r,k,ρ,h=>by
    match r,h with
    | [],h=>exact BK f u .pop k ρ h
    | i :: r,h=>
      cases ho:l[i]? with
      | none=>unfold Bd at h;simp only[ho]at h;exact h.elim
      | some o=>
        unfold Bd at h;simp only[ho]at h;cases hw:Br l o ρ with
        | false=>
          simp only[hw,cond_false]at h;show DP _ _ _ _ _ _ _ _ _ _ _;unfold DP;rw[ho];simp only;rw[if_pos hw];exact BK f u (.mix l cs pf fl I r) k _ h
        | true=>
          simp only[hw,cond_true]at h;cases hc:cs.contains i with
          | true=>simp only[hc,cond_true]at h;exact h ho hw (AcT.1 hc)
          | false=>
            simp only[hc,cond_false]at h;have hc' :i∉cs:=fun x=>by rw[AcT.2 x]at hc;cases hc
            have mv:∀(v:AaR),(∀w',Yk P (fun x w'' =>x=v∧w'' =w') ((execOp (Aa ρ) o).run P w'))→A4 P n u Q w (Bd n u f (.mix l cs pf fl I r) k (updO ρ o.dst v))→MU P n Q l cs pf fl I (i :: r) k ρ w:=fun v hv h=>by
              show DP _ _ _ _ _ _ _ _ _ _ _;unfold DP;rw[ho];simp only;rw[if_neg (by rw[hw];simp),if_neg hc'];exact⟨v,fun w' _=>hv w',BK f u (.mix l cs pf fl I r) k _ h⟩
            have st:(match o.op with | .move _ | .assign _=>true | _=>false)=false→A4 P n u Q w (.still (cond (pf.contains i) .pure (cond (fl.contains i) .float .here)) l cs pf fl I i o r k ρ)→MU P n Q l cs pf fl I (i :: r) k ρ w:=fun hm h=>by
              refine h ho hw hc' ?_;cases hp:pf.contains i with
              | true=>show ER l pf i=true;unfold ER;rw[hp];rfl
              | false=>
                have hb:ER l pf i=false:=by unfold ER;rw[hp,ho];exact hm
                cases hf:fl.contains i with
                | true=>exact⟨hb,AcT.1 hf⟩
                | false=>exact⟨hb,fun x=>by rw[AcT.2 x]at hf;cases hf⟩
            obtain⟨dst,op,ty,pos,af,gd⟩:=o;cases op with
            | move x=>exact mv _ (fun w' =>Yk.move rfl ⟨rfl,rfl⟩) h
            | assign x=>exact mv _ (fun w' =>Yk.assign rfl ⟨rfl,rfl⟩) h
            | _=>exact st rfl h
theorem adv_ok{u:Bool}(f:Nat)(c:MT)(k:List Fr)(ρ:Ad)(h:A4 P n u Q w (Bd n u f c k ρ)):CmdOk P n Q w k ρ c:=BK f u c k ρ h
theorem Ev{ch:List PanicEntry}(h:Q (.panic ch) ρ w):∀k,CD P n Q k (.panic ch) ρ w
  | []=>h
  | x :: k=>by cases x <;> exact Ev h k
theorem gM{id:Nat}{l:List Abi}(ord cs pf fl:List Nat){I:AaS→Prop}(hm:P.follows .mixedOrders=true)(hg:Cy l n=true)(hb:Hg l cs pf fl ord=true)(hI:I w.drew) 
    (h:A4 P n u Q w.drew (Bd n u 1000 (.mix l cs pf fl I ord) k ρ)):A4 P n u Q w (.code (.region id l.toArray true) k ρ):=fun a ha=>by
  have h0:MInv P l cs pf fl ord n (JK P n Q k) (fun ρ w=>CD P n Q k .normal ρ w) [] ord I ρ (AcC l.length false) a w.drew:=
    ⟨by simp,fun i o _ h=>absurd h YB,ha.size,ha.defers,rfl,fun i _=>YB,(fun i hi=>by cases hi),fun t _=>ha.get t,hI,adv_ok _ _ _ _ h⟩
  obtain⟨u',r',ρ',hp,hr⟩:=h0.place hb;exact wp_region_any hm (Vh hg hb _ _ _ _ u' r' I ρ' (by simp) hp hr)
theorem CC{id:Nat}{l:List Abi}(ord cs pf:List Nat)(h:∀w1,Ext w w1→A4 P n u Q w1 (Bd n u 1000 (.mix l cs pf [] (fun _=>True) ord) k ρ))(hm:P.follows .mixedOrders=true:=by kernel_rfl)(hg:Cy l n=true:=by kernel_rfl)(hb:Hg l cs pf [] ord=true:=by kernel_rfl):A4 P n u Q w (.code (.region id l.toArray true) k ρ):=
  gM ord cs pf [] hm hg hb trivial (h _ (AbJ _ _).drew)
theorem DV{id:Nat}{l:List Abi}(ord cs pf fl:List Nat)(h:∀w1,Ext w w1→∃I:AaS→Prop,I w1∧A4 P n u Q w1 (Bd n u 1000 (.mix l cs pf fl I ord) k ρ))(hm:P.follows .mixedOrders=true:=by kernel_rfl)(hg:Cy l n=true:=by kernel_rfl)(hb:Hg l cs pf fl ord=true:=by kernel_rfl):A4 P n u Q w (.code (.region id l.toArray true) k ρ):=by
  obtain⟨I,hI,h⟩:=h _ (AbJ _ _).drew;exact gM ord cs pf fl hm hg hb hI h
theorem m2{l:List Abi}{ord cs pf fl:List Nat}{A B:AaS→Prop}(a:A w)(b:B w)(h:A4 P n u Q w (Bd n u 1000 (.mix l cs pf fl (fun w=>A w∧B w∧True) ord) k ρ)):∃I:AaS→Prop,I w∧A4 P n u Q w (Bd n u 1000 (.mix l cs pf fl I ord) k ρ):=⟨(fun w=>A w∧B w∧True),⟨a,b,trivial⟩,h⟩
theorem Xt{l:List Abi}{ord cs pf fl:List Nat}{g0:Nat}{o0:Obj}(b0:w.heap[g0]? =some o0)(h:A4 P n u Q w (Bd n u 1000 (.mix l cs pf fl (fun w=>w.heap[g0]? =some o0∧True) ord) k ρ)):∃I:AaS→Prop,I w∧A4 P n u Q w (Bd n u 1000 (.mix l cs pf fl I ord) k ρ):=⟨(fun w=>w.heap[g0]? =some o0∧True),⟨b0,trivial⟩,h⟩
theorem Xu{l:List Abi}{ord cs pf fl:List Nat}{g0:Nat}{o0:Obj}(b0:w.heap[g0]? =some o0){g1:Nat}{o1:Obj}(b1:w.heap[g1]? =some o1)(h:A4 P n u Q w (Bd n u 1000 (.mix l cs pf fl (fun w=>w.heap[g0]? =some o0∧w.heap[g1]? =some o1∧True) ord) k ρ)):∃I:AaS→Prop,I w∧A4 P n u Q w (Bd n u 1000 (.mix l cs pf fl I ord) k ρ):=⟨(fun w=>w.heap[g0]? =some o0∧w.heap[g1]? =some o1∧True),⟨b0,b1,trivial⟩,h⟩
theorem DQ{l:List Abi}{ord cs pf fl:List Nat}{x0:AaS}(a:Ext x0 w)(h:A4 P n u Q w (Bd n u 1000 (.mix l cs pf fl (fun w=>Ext x0 w∧True) ord) k ρ)):∃I:AaS→Prop,I w∧A4 P n u Q w (Bd n u 1000 (.mix l cs pf fl I ord) k ρ):=⟨(fun w=>Ext x0 w∧True),⟨a,trivial⟩,h⟩
section
variable {l : List Abi} {cs pf fl : List Nat} {I : AaS → Prop} {i : Nat} {o : Abi} {r : List Nat} {κ : MK}
theorem Eg{J:List PanicEntry→AaS→Prop}{K:Ad→AaS→Prop}(ho:l[i]? =some o)(hw:Br l o ρ=true)(hc:i∈cs) 
    (h:Yp P (fun v w' =>∃I' :AaS→Prop,I' w' ∧((∀x,I' x→I x)∨PF l fl r i=true)∧DP P l cs pf fl J K r I' (updO ρ o.dst v) w') J ((execOp (Aa ρ) o).run P w)):DP P l cs pf fl J K (i :: r) I ρ w:=by
  unfold DP;rw[ho];simp only;rw[if_neg (by rw[hw];simp),if_pos hc];exact h
theorem FL{J:List PanicEntry→AaS→Prop}{K:Ad→AaS→Prop}(ho:l[i]? =some o)(hw:Br l o ρ=true)(hc:i∉cs) 
    (v:AaR) (hv:∀w',K3 l pf fl I w i w' →Yk P (fun x w'' =>x=v∧w'' =w') ((execOp (Aa ρ) o).run P w')) (h:DP P l cs pf fl J K r I (updO ρ o.dst v) w):DP P l cs pf fl J K (i :: r) I ρ w:=by
  unfold DP;rw[ho];simp only;rw[if_neg (by rw[hw];simp),if_neg hc];exact⟨v,hv,h⟩
theorem zz{x:AaR}{w:AaS}:x=x∧w=w:=⟨rfl,rfl⟩
theorem yC(h:Yk P (fun v w' =>A4 P n u Q w' (Bd n u 1000 (.mix l cs pf [] (fun _=>True) r) k (updO ρ o.dst v))) ((execOp (Aa ρ) o).run P w)):A4 P n u Q w (.chain l cs pf [] I i o r k ρ):=fun ho hw hc=>
  Eg ho hw hc (.ofK (Yk.mono h fun _ _ h=>⟨fun _=>True,trivial, .inr rfl,adv_ok _ _ _ _ h⟩))
theorem UW{fn:AdH}{R:Adc→AaS→Prop}(h:Yp P (fun v w' =>A4 P n u (Cz P fn R) w' (Bd n u 1000 (.mix l cs pf [] (fun _=>True) r) k (updO ρ o.dst v))) (fun ch w' =>Cz P fn R (.panic ch) ρ w') ((execOp (Aa ρ) o).run P w)):A4 P n u (Cz P fn R) w (.chain l cs pf [] I i o r k ρ):=fun ho hw hc=>
  Eg ho hw hc (Zd h (fun _ _ h=>⟨fun _=>True,trivial, .inr rfl,adv_ok _ _ _ _ h⟩) fun _ _ h ρ' =>Ev (As (ρ:=ρ') h) _)
theorem yI(h:Yk P (fun v w' =>I w' ∧A4 P n u Q w' (Bd n u 1000 (.mix l cs pf fl I r) k (updO ρ o.dst v))) ((execOp (Aa ρ) o).run P w)):A4 P n u Q w (.chain l cs pf fl I i o r k ρ):=fun ho hw hc=>
  Eg ho hw hc (.ofK (Yk.mono h fun _ _ h=>⟨I,h.1, .inl fun _ h=>h,adv_ok _ _ _ _ h.2⟩))
theorem yE{w1:AaS}(h:Yk P (fun v w' =>Ext w1 w' ∧A4 P n u Q w' (Bd n u 1000 (.mix l cs pf fl (fun x=>Ext w' x∧True) r) k (updO ρ o.dst v))) ((execOp (Aa ρ) o).run P w)):A4 P n u Q w (.chain l cs pf fl (fun x=>Ext w1 x∧True) i o r k ρ):=fun ho hw hc=>
  Eg ho hw hc (.ofK (Yk.mono h fun _ w' h=>⟨fun x=>Ext w' x∧True,⟨Ext.refl _,trivial⟩, .inl fun _ e=>⟨h.1.trans e.1,trivial⟩,adv_ok _ _ _ _ h.2⟩))
theorem yD(hc:PF l fl r i=true)(h:Yk P (fun v w' =>A4 P n u Q w' (Bd n u 1000 (.mix l cs pf fl (fun _=>True) r) k (updO ρ o.dst v))) ((execOp (Aa ρ) o).run P w)):A4 P n u Q w (.chain l cs pf fl I i o r k ρ):=fun ho hw hi=>
  Eg ho hw hi (.ofK (Yk.mono h fun _ _ h=>⟨fun _=>True,trivial, .inr hc,adv_ok _ _ _ _ h⟩))
theorem XE{fn:AdH}{R:Adc→AaS→Prop}(hc:PF l fl r i=true)(h:Yp P (fun v w' =>A4 P n u (Cz P fn R) w' (Bd n u 1000 (.mix l cs pf fl (fun _=>True) r) k (updO ρ o.dst v))) (fun ch w' =>Cz P fn R (.panic ch) ρ w') ((execOp (Aa ρ) o).run P w)):A4 P n u (Cz P fn R) w (.chain l cs pf fl I i o r k ρ):=fun ho hw hi=>
  Eg ho hw hi (Zd h (fun _ _ h=>⟨fun _=>True,trivial, .inr hc,adv_ok _ _ _ _ h⟩) fun _ _ h ρ' =>Ev (As (ρ:=ρ') h) _)
theorem ys{v:AaR}(h:Yk P (fun x w'' =>x=v∧w'' =w) ((execOp (Aa ρ) o).run P w))(hn:A4 P n u Q w (Bd n u 1000 (.mix l cs pf fl I r) k (updO ρ o.dst v))):A4 P n u Q w (.still .here l cs pf fl I i o r k ρ):=fun ho hw hc hf=>
  FL ho hw hc v (fun w' hw' =>by
    rcases hw' with hp | hw'
    · rw[hf.1]at hp;cases hp
    · rw[if_neg hf.2]at hw';subst hw';exact h) (adv_ok _ _ _ _ hn)
theorem yp{v:AaR}(h:∀ {w' :AaS},Yk P (fun x w'' =>x=v∧w'' =w') ((execOp (Aa ρ) o).run P w'))(hn:A4 P n u Q w (Bd n u 1000 (.mix l cs pf fl I r) k (updO ρ o.dst v))):A4 P n u Q w (.still κ l cs pf fl I i o r k ρ):=fun ho hw hc _=>
  FL ho hw hc v (fun _ _=>h) (adv_ok _ _ _ _ hn)
theorem yf{v:AaR}(h:∀w',I w' →Yk P (fun x w'' =>x=v∧w'' =w') ((execOp (Aa ρ) o).run P w'))(hn:A4 P n u Q w (Bd n u 1000 (.mix l cs pf fl I r) k (updO ρ o.dst v))):A4 P n u Q w (.still .float l cs pf fl I i o r k ρ):=fun ho hw hc hf=>
  FL ho hw hc v (fun w' hw' =>by
    rcases hw' with hp | hw'
    · rw[hf.1]at hp;cases hp
    · rw[if_pos hf.2]at hw';exact h w' hw') (adv_ok _ _ _ _ hn)
theorem yA{dst:Option Tmp}{t:AaZ}{x y:Aa5}{ty:AaZ}{pos:String}{af:Array AbP}{gd:Option (Nat × Bool)}(h:Yk P (fun v _=>A4 P n u Q w (Bd n u 1000 (.mix l cs pf fl I r) k (updO ρ dst v))) ((execOp (Aa ρ) ⟨dst, .indexAddr t x y,ty,pos,af,gd⟩).run P w)):A4 P n u Q w (.still κ l cs pf fl I i ⟨dst, .indexAddr t x y,ty,pos,af,gd⟩ r k ρ):=fun ho hw hc _=>by
  obtain⟨v,hn,hv⟩:=Q7 (.indexAt _ _ _) h;exact FL ho hw hc v (fun w' _=>hv w') (adv_ok _ _ _ _ hn)
end
theorem gS{a:Array Abi}{dst:Option Tmp}{op:Op}{ty:AaZ}{pos:String}{af:Array AbP}{r:List Abi} 
    (h:Yk P (fun v w' =>A4 P n u Q w' (Bd n u 1000 (.ops a r) k (updO ρ dst v))) ((execOp (Aa ρ) ⟨dst,op,ty,pos,af,none⟩).run P w)):A4 P n u Q w (.op a ⟨dst,op,ty,pos,af,none⟩ r k ρ):=fun hr=>
  oS (Fq hr) (Yk.mono h fun _ _ h=>adv_ok _ _ _ _ h)
theorem gP{a:Array Abi}{dst:Option Tmp}{op:Op}{ty:AaZ}{pos:String}{af:Array AbP}{r:List Abi} 
    (h:Yp P (fun v w' =>A4 P n u Q w' (Bd n u 1000 (.ops a r) k (updO ρ dst v))) (fun ch w' =>Q (.panic ch) ρ w') ((execOp (Aa ρ) ⟨dst,op,ty,pos,af,none⟩).run P w)):A4 P n u Q w (.op a ⟨dst,op,ty,pos,af,none⟩ r k ρ):=fun hr=>by
  refine oP (Fq hr) ?_
  revert h
  generalize (execOp (Aa ρ) ⟨dst,op,ty,pos,af,none⟩).run P w=x
  intro h
  match x,h with
  | .ok (.value v) w',h=>exact adv_ok _ _ _ _ h
  | .ok .skip w',h=>exact adv_ok _ _ _ _ h
  | .halt (.panic v) w',h=>exact Ev h _
  | .ok (.enter f args) w',h=>
    refine AdV h ?_;intro e w'' hx
    match e,hx with
    | .returned v,hx=>exact adv_ok _ _ _ _ hx
    | .panicked ch,hx=>exact Ev hx _
theorem gY{a:Array Abi}{dst:Option Tmp}{op:Op}{ty:AaZ}{pos:String}{af:Array AbP}{r:List Abi}{g:Nat}{want:Bool}{d:Tmp}(hg:(a[g]?).bind (·.dst)=some d)(hv:ρ d = .bool want) 
    (h:A4 P n u Q w (Bd n u 1000 (.ops a (⟨dst,op,ty,pos,af,none⟩ :: r)) k ρ)):A4 P n u Q w (.op a ⟨dst,op,ty,pos,af,some (g,want)⟩ r k ρ):=fun _=>Lw hg hv (adv_ok _ _ _ _ h)
theorem gN{a:Array Abi}{o:Abi}{r:List Abi}{g:Nat}{want b:Bool}{d:Tmp}(hgd:o.guard=some (g,want))(hg:(a[g]?).bind (·.dst)=some d)(hv:ρ d = .bool b)(hb:(b==want)=false) 
    (h:A4 P n u Q w (Bd n u 1000 (.ops a r) k (updO ρ o.dst undef))):A4 P n u Q w (.op a o r k ρ):=fun hr=>oN hgd (Fq hr) hg hv hb (adv_ok _ _ _ _ h)
theorem kB{f:Nat}{c:MT}{d:Option Tmp}{b b' :Bool}(e:b=b')(h:A4 P n u Q w (Bd n u f c k (updO ρ d (.bool b')))):A4 P n u Q w (Bd n u f c k (updO ρ d (.bool b))):=e▸h
theorem kT{f:Nat}{c:MT}{d:Option Tmp}{p:Prop}[Decidable p](e:p)(h:A4 P n u Q w (Bd n u f c k (updO ρ d (.bool true)))):A4 P n u Q w (Bd n u f c k (updO ρ d (.bool (decide p)))):=kB (decide_eq_true e) h
theorem kF{f:Nat}{c:MT}{d:Option Tmp}{p:Prop}[Decidable p](e:¬p)(h:A4 P n u Q w (Bd n u f c k (updO ρ d (.bool false)))):A4 P n u Q w (Bd n u f c k (updO ρ d (.bool (decide p)))):=kB (decide_eq_false e) h
theorem gO{a:Array Abi}{o:Abi}{r:List Abi}(h:room n o.dst=true→CB P a n (CD P n Q k) (o :: r) ρ w):A4 P n u Q w (.op a o r k ρ):=h
theorem Q8{a:Array Abi}{l:List Abi}(h:A4 P n false Q w (Bd n false 1000 (.ops a l) k ρ)):CB P a n (CD P n Q k) l ρ w:=adv_ok _ _ _ _ h
theorem gX(h:A4 P n true Q w (Bd n true 1000 .pop k ρ)):CD P n Q k .normal ρ w:=adv_ok _ _ _ _ h
theorem gR{id:Nat}{a:Array Abi}(h:B0 P n (.region id a true) (CD P n Q k) ρ w):A4 P n u Q w (.code (.region id a true) k ρ):=h
theorem cT{c:Aa5}{x y:Ac7}(hc:Aa ρ c = .bool true)(h:A4 P n u Q w (Bd n u 1000 (.code x) k ρ)):A4 P n u Q w (.code (.cond c x y) k ρ):=EH hc (adv_ok _ _ _ _ h).wp
theorem cF{c:Aa5}{x y:Ac7}(hc:Aa ρ c = .bool false)(h:A4 P n u Q w (Bd n u 1000 (.code y) k ρ)):A4 P n u Q w (.code (.cond c x y) k ρ):=CJ hc (adv_ok _ _ _ _ h).wp
theorem cD{c:Aa5}{x y:Ac7}{p:Prop}[Decidable p](hc:Aa ρ c = .bool (decide p))(h1:p→A4 P n u Q w (Bd n u 1000 (.code x) k ρ))(h2:¬p→A4 P n u Q w (Bd n u 1000 (.code y) k ρ)):A4 P n u Q w (.code (.cond c x y) k ρ):=
  S6 p hc (fun h=>(adv_ok _ _ _ _ (h1 h)).wp) fun h=>(adv_ok _ _ _ _ (h2 h)).wp
theorem cB{c:Aa5}{x y:Ac7}(b:Bool)(hc:Aa ρ c = .bool b)(h1:b=true→A4 P n u Q w (Bd n u 1000 (.code x) k ρ))(h2:b=false→A4 P n u Q w (Bd n u 1000 (.code y) k ρ)):A4 P n u Q w (.code (.cond c x y) k ρ):=
  Q1 b hc (fun h=>(adv_ok _ _ _ _ (h1 h)).wp) fun h=>(adv_ok _ _ _ _ (h2 h)).wp
theorem gL{c:Ac7}(I:Ad→AaS→Prop)(μ:Ad→AaS→Nat)(h0:I ρ w) 
    (round:∀ρ w,I ρ w→A4 P n u Q w (Bd n u 1000 (.code c) (.fin (fun ρ' w' =>I ρ' w' ∧μ ρ' w' <μ ρ w) :: k) ρ)):A4 P n u Q w (.code (.loop c) k ρ):=
  S7 I μ h0 fun ρ w hI=>(adv_ok _ _ _ _ (round ρ w hI)).wp
theorem gK{K:Ad→AaS→Prop}(h:K ρ w):A4 P n u Q w (.fin K k ρ):=h
def Q9:Nat→List Fr→Option (Ac7 × List Fr)
  | 0, .seq y :: k=>some (y,k)
  | d+1,_ :: k=>Q9 d k
  | _,_=>none
theorem gJ{a:Array Abi}{o:Abi}{r:List Abi}(I:Ad→AaS→Prop)(d:Nat){y:Ac7}{k2:List Fr}(_:Q9 d k=some (y,k2))(hJ:∀ρ w,I ρ w→A4 P n u Q w (Bd n u 1000 (.code y) k2 ρ)) 
    (h:(∀ρ w,I ρ w→A4 P n u Q w (Bd n u 1000 (.code y) k2 ρ))→A4 P n u Q w (.op a o r k ρ)):A4 P n u Q w (.op a o r k ρ):=h hJ
def Mz(l:List AaR):Ad:=fun t=>l.getD t undef
theorem gG{f:AcF}{fn:AdH}{c:Ac7}{args:List AaR}{R:Adc→AaS→Prop}(hf:P.funcs[f]? =some fn)(hb:fn.body=some c)(m:Nat)(hm:fn.ntmps=m)(hn:Afk args.length m=true) 
    (h:A4 P m true (Cz P fn R) w (Bd m true 1000 (.code c) [] (Mz args))):Calls P f args.toArray w R:=
  Ib hf hb m hm (Aa9 hn) fun ρ hB=>by
    obtain rfl:ρ=Mz args:=funext hB.get;refine wpF_mono (adv_ok _ _ _ _ h).wp fun e ρ w hx=> ?_;cases e <;> exact hx
theorem UX{f:AcF}{fn:AdH}{c:Ac7}{args:List AaR}{R:Adc→AaS→Prop}(hf:P.funcs[f]? =some fn)(hb:fn.body=some c)(m:Nat)(hm:fn.ntmps=m)(hn:Afk args.length m=true) 
    (h:A4 P m false (Cz P fn R) w (Bd m false 1000 (.code c) [] (Mz args))):Calls P f args.toArray w R:=
  Ib hf hb m hm (Aa9 hn) fun ρ hB=>by
    obtain rfl:ρ=Mz args:=funext hB.get;refine wpF_mono (adv_ok _ _ _ _ h).wp fun e ρ w hx=> ?_;cases e <;> exact hx
theorem rt0{fn:AdH}{R:Adc→AaS→Prop}(hrs:fn.results = #[])(hR:R (.returned (.tuple #[])) w):A4 P n u (Cz P fn R) w (.ret ρ):=CK [] hrs [] _ rfl trivial hR
theorem Bn{fn:AdH}{R:Adc→AaS→Prop}{t:Tmp}{v:AaR}(hrs:fn.results = #[.tmp t])(h:ρ t=v)(hR:R (.returned v) w):A4 P n u (Cz P fn R) w (.ret ρ):=CK [.tmp t] hrs [v] v rfl ⟨h,trivial⟩ hR
theorem By{fn:AdH}{R:Adc→AaS→Prop}{t t2:Tmp}{v x:AaR}(hrs:fn.results = #[.tmp t, .tmp t2])(h:ρ t=v)(hx:ρ t2=x)(hR:R (.returned (.tuple #[v,x])) w):A4 P n u (Cz P fn R) w (.ret ρ):=CK [.tmp t, .tmp t2] hrs [v,x] _ rfl ⟨h,hx,trivial⟩ hR
theorem Jf{fn:AdH}{R:Adc→AaS→Prop}{t t2 t3:Tmp}{v x z:AaR}(hrs:fn.results = #[.tmp t, .tmp t2, .tmp t3])(h:ρ t=v)(hx:ρ t2=x)(hz:ρ t3=z)(hR:R (.returned (.tuple #[v,x,z])) w):A4 P n u (Cz P fn R) w (.ret ρ):=CK [.tmp t, .tmp t2, .tmp t3] hrs [v,x,z] _ rfl ⟨h,hx,hz,trivial⟩ hR
theorem Lx{fn:AdH}{R:Adc→AaS→Prop}{r:ResultVar}{v:AaR}(hrs:fn.results = #[r])(h:ResF P ρ w r v)(hR:R (.returned v) w):A4 P n u (Cz P fn R) w (.ret ρ):=CK [r] hrs [v] v rfl ⟨h,trivial⟩ hR
theorem MV{fn:AdH}{R:Adc→AaS→Prop}{r r2:ResultVar}{v x:AaR}(hrs:fn.results = #[r,r2])(h:ResF P ρ w r v)(hx:ResF P ρ w r2 x)(hR:R (.returned (.tuple #[v,x])) w):A4 P n u (Cz P fn R) w (.ret ρ):=CK [r,r2] hrs [v,x] _ rfl ⟨h,hx,trivial⟩ hR
theorem HQ{fn:AdH}{R:Adc→AaS→Prop}{r r2 r3:ResultVar}{v x z:AaR}(hrs:fn.results = #[r,r2,r3])(h:ResF P ρ w r v)(hx:ResF P ρ w r2 x)(hz:ResF P ρ w r3 z)(hR:R (.returned (.tuple #[v,x,z])) w):A4 P n u (Cz P fn R) w (.ret ρ):=CK [r,r2,r3] hrs [v,x,z] _ rfl ⟨h,hx,hz,trivial⟩ hR
theorem Wu{fn:AdH}{R:Adc→AaS→Prop}{rs:List ResultVar}{vs:List AaR}{v:AaR}(hrs:fn.results=rs.toArray)(hv:GU vs=v)(h:F3 P ρ w rs vs)(hR:R (.returned v) w):A4 P n u (Cz P fn R) w (.ret ρ):=CK rs hrs vs _ hv h hR
end
theorem AO{α:Type}{l:List α}{i:Nat}(d:α)(h:i<l.length):l.getD i d∈l:=by
  rw[AaW,Aa2 h];exact Acp h
theorem OG.low{α:Type}{b b' k:Nat}{t:AaZ}{enc:α→List AaR}{w:AaS}{v:AaR}{l:List α}(h:OG b t k enc w v l)(hb:b' ≤b):OG b' t k enc w v l:=⟨h.1,BH h.2 hb⟩
section
variable {P : Abo}
theorem Yt{K:AaR→AaS→Prop}{ρ:Tmp→AaR}{t e:AaZ}{n:Nat}(ht:P.underlying t=some (.array n e))(he:∀w' :AaS,(sizeOf e).run P w' = .ok 1 w'){x:Aa5}{d:Option Tmp}{ty:AaZ}{pos:String}{af:Array AbP}{gd:Option (Nat × Bool)}{w:AaS}{b o:Nat} 
    (hx:Aa ρ x = .pointer (some ⟨b,o,none⟩)) (hk:K (.slice (some ⟨b,o,none⟩) n n) w):Yk P K ((execOp (Aa ρ) ⟨d, .slice t x none none none,ty,pos,af,gd⟩).run P w):=by
  refine Yk.value (v:= .slice (some ⟨b,o,none⟩) n n) (w' :=w) ?_ hk;have hE:P.elem t=e:=by simp[Ad7,ht]
  have hN:P.arrayLen t=n:=by simp[AfN,ht]
  have hr:=run_sliceAt_array_all (P:=P) (w:=w) (t:=t) (a:=⟨b,o,none⟩) (by rw[hE,hN];exact ht);rw[hE,he,hN]at hr;unfold execOp;simp only[hx,AcI,Aa7,hr,Aa3,Abb];simp[slicedAt,Ack]
end
section
variable {P : Abo} {K : AaR → AaS → Prop} {ρ : Ad} {w : AaS} {d : Option Tmp} {ty : AaZ} {pos : String} {af : Array AbP} {gd : Option (Nat × Bool)}
theorem ZI{t' :AaZ}{x y:Aa5}{g o:Nat}{a m z cells:List AaR}{t:AaZ}(hx:Aa ρ x = .pointer (some ⟨g,o,none⟩))(hy:Aa ρ y = .agg cells.toArray)(hg:w.heap[g]? =some (.cells (a++m++z).toArray t (0,0)))(ha:a.length=o)(hm:m.length=cells.length)(hi:(P.info? t').map (·.size)=some cells.length)(h1:∀v∈cells,v.oneCell' =true) 
    (hk:∀w',w'.heap[g]? =some (.cells (a++cells++z).toArray t (0,0))→w.grownBy w' (some g)→w'.heap.size=w.heap.size→K undef w'):Yk P K ((execOp (Aa ρ) ⟨d, .store t' x y,ty,pos,af,gd⟩).run P w):=by
  have hst:=run_storeCells_at P g o t cells 0 (a++m++z).toArray w hg (by simp;omega) h1;have e:((a++m++z).toArray.toList.take (o+0)++cells++(a++m++z).toArray.toList.drop (o+0+cells.length))=a++cells++z:=by
    have b:(a++m++z).take o=a:=by rw[Abr,←ha,List.take_left'];rfl
    have c:(a++m++z).drop (o+cells.length)=z:=List.drop_left' (by rw[AaY];omega);rw[List.toList_toArray,Nat.add_zero,b,c]
  rw[e]at hst;have hr:(Adu t' (.pointer (some ⟨g,o,none⟩)) (.agg cells.toArray)).run P w = .ok () (w.setRow g (a++cells++z).toArray):=by
    cases hq:P.info? t' with
    | none=>simp[hq]at hi
    | some i=>
      have hsz:cells.length=i.size:=by simp[hq]at hi;omega
      simp[Adu,Adi,storeVar,sizeOf,typeInfo,hq,Aen,hsz]at hst ⊢;simp[hst]
  unfold execOp;simp only[hx,hy,hr,Aa7,Aa3,Abb];exact hk _ (setRow_heap w g (a++m++z).toArray _ t (0,0) hg) ⟨rfl,rfl,rfl,by simp,fun k _ hk=>setRow_other w g k _ (fun e=>hk (by rw[e]))⟩ (by simp)
end
theorem Bz{w:AaS}{α:Type}{b k:Nat}{e:AaZ}{enc:α→List AaR}{v:AaR}{l l' :List α}(h:OG b e k enc w v l)(e' :l=l'):OG b e k enc w v l' :=by rw[←e'];exact h
theorem F5:Tryz.prog.underlying 27=some (.slice 5):=by kernel_rfl
theorem Wv:Tryz.prog.underlying 9=some .string:=by kernel_rfl
theorem MA:(Tryz.prog.info? 5).map (fun i=>(i.zero,i.size,i.bytes))=some (some (.int .u8 0),1,1):=by kernel_rfl

theorem OV(w:AaS)(v:AaR)(l:List UInt8)(hr:RB w v l)(hl:l.length+16≤140737488355328):
    Calls AaU 179 #[v] w fun e w' =>∃v',e = .returned v' ∧NewB 5 w w' v' l:=by
  obtain⟨i0,hi,a,c,f⟩:=info_parts MA;have hsrc:∀w' :AaS,w.grownBy w' none→Src AaU 1 27 v l.length (AaT l) w' :=fun w' hg=>
    (hr.below (B:=w.heap.size) ((AbJ _ _).grown hg (AaX _) (fun k hk=>by cases hk)) rfl).src F5
  have HS:=AcG hsrc;clear hsrc;obtain⟨h1,ao,cap,rfl,h2,h3,h4,h5⟩:=hr;have h:l.length≤140737488355312:=by omega
  clear h1 h4 h5 hl;unfold maxLen at h3
  go_enter Tryz.func179,Tryz.ntmps179
  go_wp2_with (at_make;refine wpList_make_own _ rfl _ _ 27 rfl w.heap.size 5 i0 (.int .u8 0) 1 F5 hi a c _ _ _ (l.length+16) rfl rfl (by omega) ?b1 ?b2 ?b3 ?_)
  case b1=>rw[f];omega
  case b2=>unfold maxLen;omega
  case b3=>exact AaX _
  intro w1 hown hg;have g:=HS.out w1 hg
  go_wp2_with (at_builtin;refine CU _ rfl _ _ 27 27 rfl w.heap.size 5 i0 (.int .u8 0) 1 1 F5 hi a c f rfl _ _ _ rfl hown _ _ _ rfl g ?c1 ?c2 ?c3 ?_)
  case c1=>unfold maxLen;omega
  case c2=>omega
  case c3=>exact hg.size
  intro v' w2 hown2 hgrow
  go_wp2
  go_ret
  refine⟨v',rfl,by simpa using hown2,Ak hg hgrow.by_ (fun b hb=> ?_)⟩;simp[Aa1]at hb;omega

set_option maxRecDepth 100000 in
set_option maxHeartbeats 1000000 in
theorem Kc(B n x:Nat)(hx:x<18446744073709551616)(sv:AaR)(xs:List AaR)(w:AaS)(hown:w.ownsRow B 5 1 sv n xs)(hBw:B≤w.heap.size)(hlim:n+10≤140737488355328):
    Calls AaU 178 #[sv, .int .u64 x] w fun e w' =>∃v',e = .returned v' ∧w'.ownsRow B 5 1 v' (n+(Abd x).length) (xs++AaT (Abd x))∧Grew w w' sv v' :=by
  obtain⟨i0,hi,a,b,c⟩:=info_parts MA;have hlen:=Lib.uvarint_length64 hx
  go_enter Tryz.func178,Tryz.ntmps178
  go_wp2
  go_loopw [0,1] (fun vb vx wr=>∃(y:Nat) (pre:List UInt8),vx = .int .u64 y∧y≤x∧Abd x=pre++Abd y∧wr.ownsRow B 5 1 vb (n+pre.length) (xs++AaT pre)∧Grew w wr sv vb)
    (fun _ vx _=>(intOf vx).toNat)
  case atStart=>exact⟨x,[],rfl,AaX _,rfl,by simpa [AaT] using hown,Grew.refl _ _⟩
  case round=>
    obtain⟨y,pre,rfl,hy,hsplit,hown1,hnx⟩:=hrel;have hpl:pre.length+(Abd y).length≤10:=by
      have h2:=congrArg AeR hsplit;rw[AaY]at h2;omega
    have hyp:=Lib.uvarint_pos y;have hbw:=hnx.by_.size;by_cases h128:128≤y
    · have hor:bits .or .u8 ((y:Int)%256) 128=((y%128+128:Nat):Int):=by
        rw[Lib.u8_or128_any _ (by omega) (by omega)];omega
      go_wp2_with (at_builtin;refine CU _ rfl _ _ 27 27 rfl B 5 i0 (.int .u8 0) 1 1 F5 hi a b c rfl _ _ _ rfl (hown1.alloc _) (.slice (some ⟨wr.heap.size,0,none⟩) 1 1) 1 [_] rfl (Q0 F5 wr _ _ rfl) ?c1 ?c2 ?c3 ?_)
      case c1=>unfold maxLen;omega
      case c2=>omega
      case c3=>simp;omega
      intro v' w1 hown' hgrow;have hnx1:Grew w w1 sv v' :=(hnx.alloc _).trans hgrow
      go_wp2
      go_roundw
      case rel=>
        refine⟨y/128,pre++ [(y%128+128).toUInt8],by go_num,by omega,by rw[hsplit,Af4 h128];simp,?_,hnx1⟩;have ec:((y%128+128:Nat):Int)=(y:Int)%128+128:=by omega
        rw[Lib.byteCells_snoc pre (by omega),AaY,Abj,←Ac5,ec];exact hown'
      case measure=>simp[intOf];omega
    · have hsm:Abd y= [y.toUInt8]:=Ad6 (by omega)
      go_wp2_with (at_builtin;refine CU _ rfl _ _ 27 27 rfl B 5 i0 (.int .u8 0) 1 1 F5 hi a b c rfl _ _ _ rfl (hown1.alloc _) (.slice (some ⟨wr.heap.size,0,none⟩) 1 1) 1 [_] rfl (Q0 F5 wr _ _ rfl) ?d1 ?d2 ?d3 ?_)
      case d1=>unfold maxLen;omega
      case d2=>omega
      case d3=>simp;omega
      intro v' w1 hown' hgrow;have hnx1:Grew w w1 sv v' :=(hnx.alloc _).trans hgrow
      go_wp2
      go_ret
      refine⟨v',rfl,?_,hnx1⟩;rw[hsplit,hsm,Lib.byteCells_snoc pre (by omega),AaY,Abj,←Ac5];exact hown'

theorem Bg(n:Nat)(h:n<9223372036854775808):(Abd n).length≤9:=Lib.uvarint_length 8 n (AbL h (by decide))

theorem OW(w:AaS)(v:AaR)(l:List UInt8)(hr:RB w v l)(hl:l.length+16≤140737488355328)(n:Nat)(hn:n≤9223372036854775807):
    Calls AaU 177 #[v, .int .i64 n] w fun e w' =>∃v',e = .returned (.tuple #[v', .int .i64 0])∧NewB 5 w w' v' (l++Abd n):=by
  go_enter Tryz.func177,Tryz.ntmps177
  go_wp2_with fail
  refine(OV _ _ l hr hl).mono ?_;rintro e w1 ⟨a,rfl,h1⟩
  go_wp2_with fail
  refine(Kc w.heap.size l.length n (by omega) a _ w1 h1.own h1.by_.size (by omega)).mono ?_;rintro e w2 ⟨b,rfl,ho,g⟩
  go_wp2_with fail
  go_ret2
  exact⟨b,rfl,h1.more g ho⟩

def A1(k:Nat):List UInt8→Option (Nat × Nat)
  | []=>none
  | c :: r=>if 128≤c.toNat then(if 8≤k then none else(A1 (k+1) r).map (fun x=>(c.toNat-128+128*x.1,x.2+1)))
      else if c.toNat=0∧0<k then none else some (c.toNat,1)
theorem Hh:∀(l:List UInt8) (k:Nat) (x:Nat × Nat),A1 k l=some x→1≤x.2∧x.2≤l.length∧x.2+k≤max 9 (k+1)
  | [],k,x,h=>by simp[A1]at h
  | c :: r,k,x,h=>by
    unfold A1 at h;split at h
    · split at h
      · cases h
      · obtain⟨y,hy,rfl⟩:=Ad1.1 h;have:=Hh r (k+1) y hy;simp;omega
    · split at h
      · cases h
      · cases h;simp;omega
theorem Id:∀(l:List UInt8) (k:Nat) (x:Nat × Nat),A1 k l=some x→x.1<128^x.2
  | [],k,x,h=>by simp[A1]at h
  | c :: r,k,x,h=>by
    unfold A1 at h;split at h
    · split at h
      · cases h
      · obtain⟨y,hy,rfl⟩:=Ad1.1 h;have:=Id r (k+1) y hy;have hc:=c.toNat_lt;simp only[Nat.pow_succ];omega
    · split at h
      · cases h
      · cases h;simp;omega
theorem GY(rest:List UInt8):∀(m n k:Nat),n<128^(m+1)→m+k≤8→(0<k→0<n)→A1 k (Abd n++rest)=some (n,(Abd n).length)
  | m,n,k,hn,hk,h0=>by
    by_cases h:n<128
    · rw[Ad6 h];have:(n.toUInt8).toNat=n:=by simp[Nat.toUInt8,UInt8.toNat_ofNat'];omega
      simp only[AbS,A1,this];rw[if_neg (by omega),if_neg (by omega)];simp
    · have hb:((n%128+128).toUInt8).toNat=n%128+128:=by simp[Nat.toUInt8,UInt8.toNat_ofNat'];omega
      rw[Af4 (by omega)];simp only[AbS,A1,hb]
      match m,hn,hk with
      | 0,hn,_=>simp at hn;omega
      | m+1,hn,hk=>
        rw[if_pos (by omega),if_neg (by omega),GY rest m (n/128) (k+1) (by rw[Nat.pow_succ]at hn;exact Nat.div_lt_of_lt_mul (by rw[AfS];exact hn)) (by omega) (fun _=>by omega)];simp;omega
theorem PG:∀w' :AaS,(sizeOf 5).run AaU w' = .ok 1 w' :=fun _=>by kernel_rfl
def Ew(a:Nat):Option (Nat × Nat)→AaR
  | some x=> .tuple #[.int .i64 x.1, .int .i64 ↑(a+x.2), .int .i64 0]
  | none=> .tuple #[.int .i64 0, .int .i64 0, .int .i64 6]

theorem Hj(y k:Nat)(hy:y<128)(hk:k≤8):IntKind.u64.wrap ((y:Int)*2^(7*k))=((y*2^(7*k):Nat):Int):=by
  have h1:y*2^(7*k)≤127*2^56:=Afl (by omega) (AcY (by decide) (by omega));have e:((y:Int)*2^(7*k))=((y*2^(7*k):Nat):Int):=by push_cast;rfl
  rw[e];exact IntWalk.u64_in _ ⟨by omega,by omega⟩
theorem MW(out y k:Nat)(hout:out<2^(7*k))(hy:y<128)(hk:k≤8):bits .or .u64 (out:Int) ((y*2^(7*k):Nat):Int)=((out+2^(7*k)*y:Nat):Int):=by
  have h1:y*2^(7*k)≤127*2^56:=Afl (by omega) (AcY (by decide) (by omega));have h2:2^(7*k)≤2^56:=AcY (by decide) (by omega);have h:=(bits_nat .u64 64 (by decide) wraps_u64 out (y*2^(7*k)) (by omega) (by omega)).2;rw[h]
  congr 1
  have h3:=Afb hout y;rw[AfM]at h3;rw[Nat.or_comm,←h3,AfS];omega
set_option maxRecDepth 100000 in
theorem PH:∀n:Fin 128,bits .andNot .u8 ((n.val+128:Nat):Int) 128=(n.val:Int):=by decide+kernel
theorem MX(c:Nat)(h:128≤c)(h2:c<256):IntKind.u64.wrap (bits .andNot .u8 (c:Int) 128)=((c-128:Nat):Int):=by
  have h1:=PH ⟨c-128,by omega⟩;have e:c-128+128=c:=by omega
  simp only[e]at h1;rw[h1];exact IntWalk.u64_in _ ⟨by omega,by omega⟩

theorem MY(out y k:Nat)(hout:out<2^(7*k))(hy:y<128)(hk:k≤8):out+2^(7*k)*y≤9223372036854775807:=by
  have h1:2^(7*k)*y≤2^56*127:=Afl (AcY (by decide) (by omega)) (by omega);have h2:2^(7*k)≤2^56:=AcY (by decide) (by omega);omega
theorem Ra(a k N c:Nat)(h:N+2^(7*k)*c≤9223372036854775807):
    Ending.returned (.tuple #[.int .i64 (wrap64 ((N+2^(7*k)*c:Nat):Int)), .int .i64 ((a:Int)+(k:Int)+1), .int .i64 0]) = .returned (Ew a ((some (c,1)).map fun x=>(N+2^(7*k)*x.1,x.2+k))):=by
  rw[IntWalk.wrap64_in _ ⟨by omega,by omega⟩];have e:(a:Int)+(k:Int)+1=((a+(1+k):Nat):Int):=by omega
  rw[e];rfl

set_option maxRecDepth 100000 in
set_option maxHeartbeats 1000000 in
theorem Ex(w:AaS)(v:AaR)(l:List UInt8)(hr:RB w v l)(a:Nat)(ha:a≤l.length):
    Calls AaU 128 #[v, .int .i64 a] w fun e w' =>e = .returned (Ew a (A1 0 (l.drop a)))∧w=w' :=by
  have HR:=AcG hr;obtain⟨ao,cap,rfl,h2,h3⟩:=hr.len;clear hr;have hd:decide ((a:Int)<0)=false:=by simp
  have hd2:decide (l.length<a)=false:=by simp;omega
  obtain⟨L,hL⟩:∃L,L=l.drop a:=⟨_,rfl⟩;have hLn:l.length-a=L.length:=by rw[hL,Abf]
  rw[←hL];have HLn:=AcG hLn;have HL:=AcG hL;clear hLn hL
  go_enter AgT,AgA
  go_wp2_with fail
  go_step3
  go_wp2_with fail
  go_step3
  go_wp2_with (refine GT (o:=⟨some 21,_,_,_,_,_⟩) rfl _ _ (some _) none rfl F5 PG _ l rfl HR.out a l.length ha (AaX _) (.inr ⟨.i64,rfl⟩) (.inl ⟨rfl,rfl⟩) ?_)
  intro ao' c' hr';rw[AbK (by rw[Abf];exact AaX _)]at hr';have HR' :=AcG hr';clear hr' hd hd2;rw[←HL.out,HLn.out]at HR';rw[HLn.out];by_cases g:L.length=0
  · have hL0:L= []:=AbC g;have HL0:=AcG hL0;clear hL0 HR' HR;have h00:decide (0<L.length)=false:=by simp[g]
    clear g
    go_wp2_with fail
    refine wp_loop_rounds 1 ?_;rw[rounds_succ]
    go_wp2
    rw[Af5]
    all_goals (go_ret3;exact⟨by rw[HL0.out];simp[A1,Ew],rfl⟩)
  obtain⟨b,off,cc,hv,hcap,hcap2,hbw,hcell⟩:=HR'.out.open_ (by omega);simp only[Value.slice.injEq,true_and]at hv;obtain⟨rfl,rfl⟩:=hv;have haL:a+L.length≤9223372036854775807:=by have:=HLn.out;omega
  clear HR' HR
  go_wp2_with fail
  go_loop [7,8,23] (fun vx vs vi=>∃k out:Nat,vi = .int .i64 k∧vs = .int .i64 ((7*k:Nat):Int)∧vx = .int .u64 out∧k≤L.length∧k≤8∧out<2^(7*k)∧A1 0 L=(A1 k (L.drop k)).map (fun x=>(out+2^(7*k)*x.1,x.2+k)))
    (fun _ _ vi=>L.length-(intOf vi).toNat)
  case atStart=>exact⟨0,0,rfl,rfl,rfl,by omega,by omega,by decide,by simp⟩
  case round=>
    obtain⟨k,out,rfl,rfl,rfl,hk,f,hout,hdec⟩:=hrel;have HD:=AcG hdec;clear hdec;by_cases hkl:k<L.length
    · have hc:=hcell k hkl;have hdrop:L.drop k=L[k] :: L.drop (k+1):=Ab8 hkl;have hg:L.getD k 0=L[k]:=by simp[hkl]
      rw[hg]at hc
      generalize L[k]=c at hc hdrop
      have HDr:=AcG hdrop;have i:=c.toNat_lt;clear hcell hdrop hg;have HO:=AcG hout;clear hout;by_cases h128:128≤c.toNat
      · by_cases hk8' :k=8
        · subst hk8'
          go_wp2
          all_goals (go_ret3;exact⟨by rw[HD.out,HDr.out];simp[A1,h128,Ew],rfl⟩)
        · have m:k<8:=by omega
          clear hk8'
          go_wp2
          go_round
          case rel=>
            have hp:2^(7*(k+1))=2^(7*k)*128:=by rw[show 7*(k+1)=7*k+7 from by omega,Nat.pow_add]
            refine⟨k+1,out+2^(7*k)*(c.toNat-128),by go_num,by go_num,?_,by omega,by omega,?_,?_⟩
            · rw[MX _ h128 i,Hj _ _ (by omega) (by omega),MW _ _ _ HO.out (by omega) (by omega)]
            · have h1:=HO.out;have h2:2^(7*k)*(c.toNat-128)≤2^(7*k)*127:=AdM _ (by omega);rw[hp];omega
            · rw[HD.out,HDr.out];have:A1 k (c :: L.drop (k+1))=(A1 (k+1) (L.drop (k+1))).map (fun x=>(c.toNat-128+128*x.1,x.2+1)):=by
                simp only[A1];rw[if_pos h128,if_neg (by omega)]
              rw[this,Option.map_map]
              congr 1
              funext x
              simp only[Function.comp,Afv];refine⟨?_,by omega⟩;rw[hp,Nat.mul_add,Nat.mul_assoc];omega
          case measure=>simp[intOf];omega
      · have hlt:c.toNat<128:=by omega
        by_cases h0:c.toNat=0
        · have hz:((c.toNat:Int)==0)=true:=by simp[h0]
          have HZ:=AcG h0;clear h0;by_cases h:0<k
          · go_wp2
            all_goals (go_ret3;exact⟨by rw[HD.out,HDr.out];simp[A1,HZ.out,h,Ew],rfl⟩)
          · have j:decide (0<k)=false:=by simp;omega
            clear h;have hd:A1 k (c :: L.drop (k+1))=some (c.toNat,1):=by
              simp only[A1];rw[if_neg h128,if_neg (by simp at j;omega)]
            have HD2:=AcG hd;clear hd
            go_wp2
            all_goals go_ret3
            all_goals refine⟨?_,rfl⟩
            all_goals rw[Hj _ _ hlt f,MW _ _ _ HO.out hlt f,HD.out,HDr.out,HD2.out]
            all_goals exact Ra a k _ _ (MY _ _ _ HO.out hlt f)
        · have hz:((c.toNat:Int)==0)=false:=by simp[h0]
          have HZ:=AcG h0;clear h0;have hd:A1 k (c :: L.drop (k+1))=some (c.toNat,1):=by
            simp only[A1];rw[if_neg h128,if_neg (by have:=HZ.out;omega)]
          have HD2:=AcG hd;clear hd
          go_wp2
          all_goals go_ret3
          all_goals refine⟨?_,rfl⟩
          all_goals rw[Hj _ _ hlt f,MW _ _ _ HO.out hlt f,HD.out,HDr.out,HD2.out]
          all_goals exact Ra a k _ _ (MY _ _ _ HO.out hlt f)
    · have hkl' :k=L.length:=by omega
      go_wp2
      all_goals (go_ret3;exact⟨by rw[HD.out,hkl'];simp[A1,Ew],rfl⟩)
open Go.WideMaps (KeyLaw)
structure KL (P : Abo) (k : AaZ) (OK : AaR → Prop) : Prop where
  check:∀(w:AaS) (em:Bool) {v:AaR},OK v→(Instr.checkKey em 10000 k v).run P w = .ok () w
  find:∀(w:AaS) {x:AaR},OK x→∀es:List Acz,(∀e∈es,OK e.key) →
    ((Instr.findKey k x es).run P w = .ok none w∧∀e∈es,e.key≠x)∨∃j e,(Instr.findKey k x es).run P w = .ok (some (j,e.val)) w∧es[j]? =some e∧e.key=x
  stays:∀(w:AaS) {v:AaR},OK v→(Instr.keyThatStays v v).run P w = .ok v w
theorem Aad{P:Abo}{k:AaZ}(L:KeyLaw P k):KL P k (fun v=>∃l,keyOf P k v=some l):=
  ⟨fun w em _ ⟨_,h⟩=>L.check w em h,fun w _ ⟨_,h⟩ es he=>L.find w h es he,fun w _ ⟨_,h⟩=>L.stays w h⟩
theorem Zz{P:Abo}{k:AaZ}{d:TypeDesc}(hd:P.underlying k=some d):KL P k (Aem d):=
  ⟨fun w em _ h=>MapKept.run_checkKey hd h em 9999,fun w x h es he=>by
    rcases MapKept.findNow_spec h es 0 he with ⟨h1,h2⟩ | ⟨j,e,h1,h2,h3⟩
    · exact .inl ⟨AgF hd h1,h2⟩
    · rw[Ab9]at h1;exact .inr ⟨j,e,AgF hd h1,h2,h3⟩,fun w _ h=>MapKept.run_keyThatStays h⟩
section
variable {α β : Type} (ek : α → AaR) (ev : β → AaR) (D : α → Prop)
structure W5 (G : α → Option β) (es : List Acz) : Prop where
  keys:(es.map (·.key)).Nodup
  ent:∀e∈es,∃a y,D a∧e.key=ek a∧e.val=ev y∧G a=some y
  all:∀a y,G a=some y→D a∧∃e∈es,e.key=ek a
def MapF(w:AaS)(b:Nat)(G:α→Option β):Prop:=∃es clock,w.heap[b]? =some (.map es.toArray clock)∧W5 ek ev D G es∧Ae7 es.toArray clock
end
theorem Oj{es es' :List Acz}{c:Nat}(hs:es'.Sublist es)(h:Ae7 es.toArray c):Ae7 es'.toArray c:=by
  obtain⟨h1,h2,h3⟩:=h;exact⟨fun x hx=>h1 x (hs.subset hx),(hs.map _).nodup h2,(hs.map _).nodup h3⟩
def updM{α β:Type}[DecidableEq α](G:α→Option β)(a:α)(y:Option β)(c:α):Option β:=if c=a then y else G c
section
variable {α β : Type} {ek : α → AaR} {ev : β → AaR} {D : α → Prop} {P : Abo} {w w' : AaS} {b : Nat} {G : α → Option β}
theorem MapF.keep(h:MapF ek ev D w b G)(k:Ext w w'):MapF ek ev D w' b G:=by
  obtain⟨es,c,h2,h3⟩:=h;exact⟨es,c,Ext.blk' k h2,h3⟩
theorem MapF.lt(h:MapF ek ev D w b G):b<w.heap.size:=by
  obtain⟨es,c,h2,h3⟩:=h;exact(Abm.1 h2).1
theorem MapF.other{r:Option Nat}(h:MapF ek ev D w b G)(k:w.grownBy w' r)(hr:r≠some b):MapF ek ev D w' b G:=by
  have hl:=h.lt;obtain⟨es,c,h2,h3⟩:=h;exact⟨es,c,(k.block b hl (fun e=>hr e.symm)).trans h2,h3⟩
theorem MapF.grew{v v' :AaR}(h:MapF ek ev D w b G)(g:Grew w w' v v')(hv:v.ownBlock≠some b):MapF ek ev D w' b G:=h.other g.by_ hv
theorem Aae(ek:α→AaR)(ev:β→AaR)(D:α→Prop)(w:AaS):MapF ek ev D (w.alloc (.map #[] 0)) w.heap.size (fun _=>none):=
  ⟨[],0,heap_alloc_new w _,⟨by simp,by simp,fun _ _ h=>by cases h⟩,MapKept.stamped_empty 0⟩
section
variable {t K E : AaZ} {OK : AaR → Prop} (L : KL P K OK) (hD : ∀ a, D a → OK (ek a)) (hi : ∀ a c, ek a = ek c → a = c) (ht : P.underlying t = some (.map K E))
include L hD hi ht
theorem MapF.look{z:AaR}(hz:∀u:AaS,(zeroValue E).run P u = .ok z u)(h:MapF ek ev D w b G){a:α}(ha:D a)(ok:Bool):
    (AeC t (.map (some b)) (ek a) ok).run P w = .ok (if ok then .tuple #[(G a).elim z ev, .bool (G a).isSome]else(G a).elim z ev) w:=by
  obtain⟨es,c,hb,H,hS⟩:=h;have hkeys:∀e∈es,OK e.key:=fun e he=>by
    obtain⟨q,y,k1,k2,-⟩:=H.ent e he;rw[k2];exact hD q k1
  rcases L.find w (hD a ha) es hkeys with ⟨f1,f2⟩ | ⟨j,f,f1,f2,f3⟩
  · have hG:G a=none:=by
      cases hG:G a with
      | none=>rfl
      | some y=>
        obtain⟨-,e,he,hek⟩:=H.all a y hG;exact absurd hek (f2 e he)
    cases ok <;> simp[AeC,run_underlying ht,Ab5 hb,L.check w _ (hD a ha),f1,hz,AbM,hG]
  · obtain⟨q,y,k1,k2,k3,k4⟩:=H.ent f (Ab0 f2);have:q=a:=hi _ _ (k2.symm.trans f3);subst this;cases ok <;> simp[AeC,run_underlying ht,Ab5 hb,L.check w _ (hD q ha),f1,AbM,k4,k3]
variable [DecidableEq α]
omit hi in
theorem MapF.put(h:MapF ek ev D w b G){a:α}(ha:D a)(y:β):
    ∃w',(Af6 t (.map (some b)) (ek a) (ev y)).run P w = .ok () w' ∧MapF ek ev D w' b (updM G a (some y))∧w.grownBy w' (some b)∧w'.heap.size=w.heap.size:=by
  obtain⟨es,c,hb,H,hS⟩:=h;have hkeys:∀e∈es,OK e.key:=fun e he=>by
    obtain⟨q,y,k1,k2,-⟩:=H.ent e he;rw[k2];exact hD q k1
  have hblt:b<w.heap.size:=(Abm.1 hb).1;have hgr:∀o,w.grownBy { w with heap:=w.heap.setIfInBounds b o } (some b):=fun o=>⟨rfl,rfl,rfl,by simp,fun i _ hi=>by simp only[Acu];rw[if_neg (fun e=>hi (by rw[e]))]⟩;have hnew:∀o,({ w with heap:=w.heap.setIfInBounds b o } :AaS).heap[b]? =some o:=fun o=>by simp[hblt]
  rcases L.find w (hD a ha) es hkeys with ⟨f1,f2⟩ | ⟨j,g,f1,f2,f3⟩
  · have hnone:∀x,G a≠some x:=fun x hx=>by
      obtain⟨-,e,he,hek⟩:=H.all a x hx;exact f2 e he hek
    refine⟨{ w with heap:=w.heap.setIfInBounds b (.map (es++ [({ key:=ek a,val:=ev y,born:=c } :Acz)]).toArray (c+1)) },?_,⟨_,_,hnew _,⟨?_,?_,?_⟩,by have:=MapKept.stamped_push hS (key:=ek a) (val:=ev y) (fun x hx=>f2 x (by simpa using hx));simpa using this⟩,hgr _,by simp⟩
    · simp[Af6,run_underlying ht,Ab5 hb,L.check w false (hD a ha),f1,AcO _ hb,AbM]
    · simp only[Acj,Abv,AbG];refine Ac0.2 ⟨H.keys,by simp,fun x hx z hz e=> ?_⟩;obtain⟨f,he1,rfl⟩:=AbD.1 hx;simp at hz;exact f2 f he1 (e.trans hz)
    · intro e he;rcases Abk.1 he with h1 | h1
      · obtain⟨q,z,k1,k2,k3,k4⟩:=H.ent e h1;refine⟨q,z,k1,k2,k3,?_⟩;unfold updM;rw[if_neg (fun f=>f2 e h1 (by rw[k2,f]))];exact k4
      · rw[Aa6.1 h1];exact⟨a,y,ha,rfl,rfl,by unfold updM;rw[if_pos rfl]⟩
    · intro q z hq;unfold updM at hq;split at hq
      · rename_i f
        subst f;exact⟨ha,_,AcS _ (Aa6.2 rfl),rfl⟩
      · obtain⟨k1,e,he,hek⟩:=H.all q z hq;exact⟨k1,e,AdB _ he,hek⟩
  · obtain⟨q0,y0,k1,k2,k3,k4⟩:=H.ent g (Ab0 f2);have hjl:j<es.length:=(Abn.1 f2).1;have hkeq:(es.modify j fun e=> { e with key:=ek a,val:=ev y }).map (·.key)=es.map (·.key):=by
      rw[Aec _ _ _ _ f2,AfP];exact Agh _ _ _ (by rw[AcB,f2];simp[f3])
    have hj:es.toArray[j]? =some g:=by simpa using f2
    refine⟨{ w with heap:=w.heap.setIfInBounds b (.map (es.modify j fun e=> { e with key:=ek a,val:=ev y }).toArray c) },?_,⟨_,_,hnew _,⟨?_,?_,?_⟩,by have:=MapKept.stamped_modify hS j (fun e=> { e with key:=ek a,val:=ev y }) (fun _ _=>rfl) (fun e _ he=>by rw[hj]at he;cases he;exact f3.symm);rwa [List.modify_toArray]at this⟩,hgr _,by simp⟩
    · simp[Af6,run_underlying ht,Ab5 hb,L.check w false (hD a ha),f1,f2,f3,L.stays w (hD a ha),AcO _ hb,AbM]
    · rw[hkeq];exact H.keys
    · intro e he;rw[Aec _ _ _ _ f2]at he;obtain⟨i,hil,hie⟩:=Aeg.1 he;rw[AfT]at hie;split at hie
      · subst hie;exact⟨a,y,ha,rfl,rfl,by unfold updM;rw[if_pos rfl]⟩
      · rename_i hne
        have hil2:i<es.length:=by simpa using hil
        obtain⟨q,z,m1,m2,m3,m4⟩:=H.ent e (hie▸Acp hil2);refine⟨q,z,m1,m2,m3,?_⟩;unfold updM;rw[if_neg ?_]
        · exact m4
        · intro f;subst f
          apply hne
          have hn:=H.keys;have k:(es.map (·.key))[j]'(by simpa using hjl)=(es.map (·.key))[i]'(by simpa using hil2):=by
            simp only[Aeh];rw[hie,m2,←f3];exact congrArg AgU (Abn.1 f2).2
          exact(List.getElem_inj hn).1 k
    · intro q z hq;have hmem:∀x,x∈es.map (·.key)→∃e∈(es.modify j fun e=> { e with key:=ek a,val:=ev y }),e.key=x:=fun x hx=>by
        rw[←hkeq]at hx;obtain⟨e,he,rfl⟩:=AbD.1 hx;exact⟨e,he,rfl⟩
      unfold updM at hq;split at hq
      · rename_i f
        subst f;exact⟨ha,hmem _ (AbD.2 ⟨g,Ab0 f2,f3⟩)⟩
      · obtain⟨k1,e,he,hek⟩:=H.all q z hq;exact⟨k1,hmem _ (AbD.2 ⟨e,he,hek⟩)⟩
theorem MapF.del{ty:AaZ}(h:MapF ek ev D w b G){a:α}(ha:D a):
    ∃w',(Af7 #[t,K] ty #[.map (some b),ek a]).run P w = .ok (.tuple #[]) w' ∧MapF ek ev D w' b (updM G a none)∧w.grownBy w' (some b)∧w'.heap.size=w.heap.size:=by
  obtain⟨es,c,hb,H,hS⟩:=h;have hkeys:∀e∈es,OK e.key:=fun e he=>by
    obtain⟨q,y,k1,k2,-⟩:=H.ent e he;rw[k2];exact hD q k1
  have hblt:b<w.heap.size:=(Abm.1 hb).1;have hgr:∀o,w.grownBy { w with heap:=w.heap.setIfInBounds b o } (some b):=fun o=>⟨rfl,rfl,rfl,by simp,fun i _ hi=>by simp only[Acu];rw[if_neg (fun e=>hi (by rw[e]))]⟩;have hnew:∀o,({ w with heap:=w.heap.setIfInBounds b o } :AaS).heap[b]? =some o:=fun o=>by simp[hblt]
  rcases L.find w (hD a ha) es hkeys with ⟨f1,f2⟩ | ⟨j,k,f1,f2,f3⟩
  · have hG:G a=none:=by
      cases hG:G a with
      | none=>rfl
      | some y=>
        obtain⟨-,e,he,hek⟩:=H.all a y hG;exact absurd hek (f2 e he)
    have hU:updM G a none=G:=by
      funext x
      unfold updM;split
      · rename_i e;rw[e,hG]
      · rfl
    rw[hU];refine⟨{ w with heap:=w.heap.setIfInBounds b (.map es.toArray c) },?_,⟨_,_,hnew _,H,hS⟩,hgr _,by simp⟩;simp[Af7,run_underlying ht,Ab5 hb,L.check w _ (hD a ha),f1,AcO _ hb,AbM]
  · have hjl:j<es.length:=(Abn.1 f2).1;have hne:∀e∈es.eraseIdx j,e.key≠ek a:=fun e he hk=>by
      obtain⟨i,hil,hie⟩:=Afc.1 he;obtain⟨hij,hie⟩:=hie;have g:(es.map (·.key))[j]'(by simpa using hjl)=(es.map (·.key))[i]'(by simpa using hil):=by
        simp only[Aeh];rw[hie,hk,←f3];exact congrArg AgU (Abn.1 f2).2
      exact hij ((List.getElem_inj H.keys).1 g).symm
    refine⟨{ w with heap:=w.heap.setIfInBounds b (.map (es.eraseIdx j).toArray c) },?_,⟨_,_,hnew _,⟨?_,?_,?_⟩,Oj (Ae2 _ _) hS⟩,hgr _,by simp⟩
    · simp[Af7,run_underlying ht,Ab5 hb,L.check w _ (hD a ha),f1,AcO _ hb,AbM]
    · exact H.keys.sublist ((Ae2 _ _).map _)
    · intro e he;obtain⟨q,z,m1,m2,m3,m4⟩:=H.ent e ((Ae2 _ _).subset he);refine⟨q,z,m1,m2,m3,?_⟩;unfold updM;rw[if_neg (fun f=>hne e he (by rw[m2,f]))];exact m4
    · intro q z hq;unfold updM at hq;split at hq
      · cases hq
      · rename_i hqa
        obtain⟨k1,e,he,hek⟩:=H.all q z hq;refine⟨k1,e,?_,hek⟩;obtain⟨i,hil,hie⟩:=Aeg.1 he;refine Afc.2 ⟨i,hil,fun f=> ?_,hie⟩;subst f
        apply hqa
        refine hi _ _ (hek.symm.trans ?_);rw[←f3,←hie];exact congrArg AgU (Abn.1 f2).2
end
end
theorem Am{a b:Nat}(h:a≠b):some a≠some b:=fun e=>h (AbB e)
def Ah(u v:AaR):Prop:=∀k,u.ownBlock=some k→v.ownBlock≠some k
section
variable {N B : Nat} {r : Option Nat} {w w' w1 w0 : AaS} {e t : AaZ}
theorem Mp{z n:Nat}{v:AaR}{xs:List AaR}(ho:w.ownsRow B e z v n xs)(k:w.grownBy w1 r)(ha:∀k,r=some k→v.ownBlock≠some k):w1.ownsRow B e z v n xs:=
  ho.kept k (by
    cases hv:v.ownBlock with
    | none=>exact .inl rfl
    | some g=>exact .inr (fun e=>ha g e.symm hv))
theorem Eh{u v:AaR}{b:Nat}{e' :AaZ}{z n z' n' :Nat}{xs ys:List AaR}(hu:w.ownsRow b e z u n xs)(hv:w'.ownsRow w.heap.size e' z' v n' ys):Ah u v:=fun k h1 h2=>by
  have:=(hu.lt k h1).2;have:=(hv.lt k h2).1;omega
theorem AG{u v v' :AaR}{b:Nat}{z n:Nat}{xs:List AaR}(gr:Grew w w' v v')(ha:Ah v u)(hu:w.ownsRow b e z u n xs):Ah v' u:=fun k h1 h2=>by
  rcases gr.fresh k h1 with h3 | h3
  · exact ha k h3 h2
  · have:=(hu.lt k h2).2;omega
theorem Dr{v v' u:AaR}{b:Nat}{z n:Nat}{xs:List AaR}(hu:w.ownsRow b e z u n xs)(gr:Grew w w' v v')(ha:Ah v u):w'.ownsRow b e z u n xs:=Mp hu gr.by_ ha
theorem Bb{α:Type}{k b:Nat}{enc:α→List AaR}{v v' u:AaR}{l:List α}(hu:OG b e k enc w u l)(gr:Grew w w' v v')(ha:Ah v u):OG b e k enc w' u l:=⟨hu.1,Dr hu.2 gr ha⟩
end
theorem Grew.after{w w1 w2:AaS}{v v' :AaR}(h:Ext w w1)(g:Grew w1 w2 v v'):Grew w w2 v v' :=
  ⟨Ak (r:=v.ownBlock) ⟨h.grown.os,h.grown.tape,h.grown.output,h.grown.size,fun k hk _=>h.block k hk⟩ g.by_ (fun _ hb=> .inl hb),fun k hk=>(g.fresh k hk).imp id (fun h2=>AaV h.size h2)⟩
set_option maxHeartbeats 400000 in
theorem Ds(w:AaS)(B:Nat)(v:AaR)(l:List UInt8)(hown:w.ownsRow B 5 1 v l.length (AaT l))(hB:B≤w.heap.size)(n:Nat)(hn:n≤9223372036854775807)(hl:l.length+16≤140737488355328):
    Calls AaU 180 #[v, .int .i64 n] w fun e w' =>∃v',e = .returned v' ∧w'.ownsRow B 5 1 v' (l++Abd n).length (AaT (l++Abd n))∧Grew w w' v v' :=by
  obtain⟨i0,hi,a,b,c⟩:=info_parts MA;have h9:=Bg n (by omega)
  go_enter Tryz.func180,Tryz.ntmps180
  go_wp2_with fail
  refine(OW w (.slice none 0 0) [] (RB.nil w) (by simp) n hn).mono ?_;rintro e w1 ⟨f,rfl,h1⟩;have g:w1.ownsRow B 5 1 v l.length (AaT l):=Stab.own _ _ _ _ _ _ _ _ hown h1.ext;have hs:=h1.rb.src F5;have hE:=h1.ext;rw[AbV]at hs;have hz:=h1.ext.size
  go_wp2_with (at_builtin;refine CU _ rfl _ _ 27 27 rfl B 5 i0 (.int .u8 0) 1 1 F5 hi a b c rfl _ _ _ rfl g f _ _ rfl hs ?c1 ?c2 ?c3 ?_)
  case c1=>unfold maxLen;omega
  case c2=>omega
  case c3=>omega
  intro v' h hown' hgrow
  go_wp2
  go_ret
  exact⟨v',rfl,by rw[AaY,Ae4];exact hown',Grew.after hE hgrow⟩
def CL:List UInt8→List UInt8→Nat
  | a :: u,b :: z=>if a=b then CL u z+1 else 0
  | _,_=>0
theorem S9{a b:List UInt8}{i:Nat}(h1:i<a.length)(h2:i<b.length)(h:a.getD i 0=b.getD i 0):CL (a.drop i) (b.drop i)=CL (a.drop (i+1)) (b.drop (i+1))+1:=by
  rw[Ab8 h1,Ab8 h2];rw[CL,if_pos (by simpa [AeY,h1,h2] using h)]
theorem Ww{a b:List UInt8}{i:Nat}(h1:i<a.length)(h2:i<b.length)(h:a.getD i 0≠b.getD i 0):CL (a.drop i) (b.drop i)=0:=by
  rw[Ab8 h1,Ab8 h2];unfold CL;rw[if_neg (by simpa [AeY,h1,h2] using h)]
theorem Ta{a b:List UInt8}{i:Nat}(h:a.length≤i):CL (a.drop i) (b.drop i)=0:=by
  rw[Ab4 h];unfold CL;rfl
theorem Tb{a b:List UInt8}{i:Nat}(h:b.length≤i):CL (a.drop i) (b.drop i)=0:=by
  rw[Ab4 h];cases a.drop i <;> rfl
theorem Kd:∀a b:List UInt8,CL a b≤a.length∧CL a b≤b.length
  | [],b=>by simp[CL]
  | a :: u,[]=>by simp[CL]
  | a :: u,b :: z=>by
    unfold CL;have:=Kd u z;split <;> simp <;> omega
theorem MB(w:AaS)(v:AaR)(l:List UInt8)(hr:RB w v l)(a:Nat)(ha:a≤l.length)(h:A1 0 (l.drop a)=none):
    Calls AaU 128 #[v, .int .i64 a] w fun e w' =>e = .returned (.tuple #[.int .i64 0, .int .i64 0, .int .i64 6])∧Ext w w' :=
  (Ex w v l hr a ha).mono fun e w' ⟨h1,h2⟩=>by
    rw[h]at h1;exact⟨h1,h2▸Ext.refl w⟩
theorem Ie(w:AaS)(v:AaR)(l:List UInt8)(hr:RB w v l)(a:Nat)(ha:a≤l.length)(x k:Nat)(h:A1 0 (l.drop a)=some (x,k)):
    Calls AaU 128 #[v, .int .i64 a] w fun e w' =>e = .returned (.tuple #[.int .i64 (x:Nat), .int .i64 ((a+k:Nat):Int), .int .i64 0])∧Ext w w' :=
  (Ex w v l hr a ha).mono fun e w' ⟨h1,h2⟩=>by
    rw[h]at h1;exact⟨h1,h2▸Ext.refl w⟩
theorem CM{l:List UInt8}{a x k:Nat}(ha:a≤l.length)(h:A1 0 (l.drop a)=some (x,k)):x<9223372036854775808∧a+k≤l.length∧1≤k:=by
  have h1:=Hh _ _ _ h;have h2:=Id _ _ _ h;have h3:k≤9:=by have:=h1.2.2;simp at this;omega
  have h4:128^k≤128^9:=AcY (by decide) h3;have h5:=h1.2.1;rw[Abf]at h5;exact⟨AbL h2 h4,by omega,h1.1⟩
section
variable {P : Abo} {n : Nat} {ρ : Ad} {w : AaS} {Q : BE}
def lsOk(l:List Abi)(cs:List Nat)(ks ls:Nat→List Nat):Bool:=cs.all fun m=>(ls m).all fun i=>(ks m).contains i||Adj i m||((AN l []).getD i 0).testBit m
def AllCh(S:AaS→AaS→Prop)(ls:Nat→List Nat)(Φs:List Bp):List Nat→Prop
  | []=>True
  | m :: r=>AllStabX S (ls m) 0 Φs∧AllCh S ls Φs r
theorem AllCh.get{S:AaS→AaS→Prop}{ls:Nat→List Nat}{Φs:List Bp}:∀(cs:List Nat),AllCh S ls Φs cs→∀m,cs.contains m=true→AllStabX S (ls m) 0 Φs
  | [],_,m,h=>by simp at h
  | c :: r,h,m,hm=>by
    by_cases e:m=c
    · subst e;exact h.1
    · exact AllCh.get r h.2 m (by simpa [e] using hm)
end
theorem u5:Tryz.prog.underlying 5=some (.int .u8):=by kernel_rfl

theorem XC(w:AaS)(ao:Option Addr)(n c:Nat)(a:Int)(ha:a<0∨(n:Int)<a):
    Calls AaU 128 #[.slice ao n c, .int .i64 a] w fun e w' =>e = .returned (.tuple #[.int .i64 0, .int .i64 0, .int .i64 1])∧w=w' :=by
  by_cases h0:a<0
  · have hd:decide (a<0)=true:=by simp[h0]
    clear ha
    go_enter AgT,AgA
    go_wp2_with fail
    go_step3
    go_wp2_with fail
    rw[Af5]
    go_ret3
    exact⟨rfl,rfl⟩
  · have hd:decide (a<0)=false:=by simp[h0]
    have h1:(n:Int)<a:=by omega
    have hd2:decide ((n:Int)<a)=true:=by simp[h1]
    clear ha
    go_enter AgT,AgA
    go_wp2_with fail
    go_step3
    go_wp2_with fail
    rw[Af5]
    go_ret3
    exact⟨rfl,rfl⟩

def B1(l:List UInt8)(a:Nat)(most:Int):AaR:=
  match A1 0 (l.drop a)with
  | none=> .tuple #[.string ⟨#[]⟩, .int .i64 0, .int .i64 6]
  | some x=>if most<x.1 then .tuple #[.string ⟨#[]⟩, .int .i64 0, .int .i64 2]
      else if l.length<a+x.2+x.1 then .tuple #[.string ⟨#[]⟩, .int .i64 0, .int .i64 6]
      else .tuple #[.string ⟨((l.drop (a+x.2)).take x.1).toArray⟩, .int .i64 ↑(a+x.2+x.1), .int .i64 0]

set_option maxRecDepth 100000 in
set_option maxHeartbeats 1000000 in
theorem FM(w:AaS)(v:AaR)(l:List UInt8)(hr:RB w v l)(a:Nat)(ha:a≤l.length)(most:Int):
    Calls AaU 210 #[v, .int .i64 a, .int .i64 most] w fun e w' =>e = .returned (B1 l a most)∧w=w' :=by
  have HR:=AcG hr;obtain⟨ao,cap,rfl,h2,h3⟩:=hr.len;clear hr;have HG:=AcG (Ex w _ l HR.out a ha);cases hL:A1 0 (l.drop a)with
  | none=>
    have hR:B1 l a most = .tuple #[.string ⟨#[]⟩, .int .i64 0, .int .i64 6]:=by unfold B1;rw[hL]
    rw[hR];have HL:=AcG hL;clear hL hR
    go_enter AfU,Afw
    go_wp2_with fail
    refine HG.out.mono ?_;rintro e w1 ⟨rfl,rfl⟩;rw[HL.out];unfold Ew
    go_wp2_with fail
    go_ret3
    exact⟨rfl,rfl⟩
  | some x=>
    obtain⟨n,m⟩:=x;have hp:=Hh _ _ _ hL;have hlt:=Id _ _ _ hL;rw[Abf]at hp;have hm9:m≤9:=by have:=hp.2.2;simp at this;exact this
    have b:n≤9223372036854775807:=by
      have h1:128^m≤128^9:=AcY (by decide) hm9;simp only at hlt;omega
    have hm1:1≤m:=hp.1;have hml:a+m≤l.length:=by have:=hp.2.1;simp at this;omega
    have HL:=AcG hL;clear hL hlt hp;by_cases hmost:most<n
    · have hR:B1 l a most = .tuple #[.string ⟨#[]⟩, .int .i64 0, .int .i64 2]:=by unfold B1;rw[HL.out];simp only[];rw[if_pos hmost]
      rw[hR];clear hR
      go_enter AfU,Afw
      go_wp2_with fail
      refine HG.out.mono ?_;rintro e w1 ⟨rfl,rfl⟩;rw[HL.out];unfold Ew
      go_wp2_with fail
      go_ret3
      exact⟨rfl,rfl⟩
    · by_cases hlen:l.length<a+m+n
      · have hR:B1 l a most = .tuple #[.string ⟨#[]⟩, .int .i64 0, .int .i64 6]:=by unfold B1;rw[HL.out];simp only[];rw[if_neg hmost,if_pos hlen]
        rw[hR];clear hR
        go_enter AfU,Afw
        go_wp2_with fail
        refine HG.out.mono ?_;rintro e w1 ⟨rfl,rfl⟩;rw[HL.out];unfold Ew
        go_wp2_with fail
        go_ret3
        exact⟨rfl,rfl⟩
      · have hR:B1 l a most = .tuple #[.string ⟨((l.drop (a+m)).take n).toArray⟩, .int .i64 ↑(a+m+n), .int .i64 0]:=by unfold B1;rw[HL.out];simp only[];rw[if_neg hmost,if_neg hlen]
        rw[hR];clear hR
        go_enter AfU,Afw
        go_wp2_with fail
        refine HG.out.mono ?_;rintro e w1 ⟨rfl,rfl⟩;rw[HL.out];unfold Ew;have hlh:a+m≤a+m+n:=Ac8 _ _;have hhl:a+m+n≤l.length:=by omega
        go_wp2_with (refine GT (o:=⟨some 38,_,_,_,_,_⟩) rfl _ _ (some _) (some _) rfl F5 PG _ l rfl HR.out (a+m) (a+m+n) hlh hhl (.inr ⟨.i64,rfl⟩) (.inr ⟨.i64,rfl⟩) ?_)
        intro ao' c' hr';have HR' :=AcG hr';clear hr'
        go_wp2_with (refine Og (o:=⟨some 39,_,_,_,_,_⟩) rfl _ _ _ rfl F5 u5 Wv _ _ rfl HR'.out ?_)
        go_ret3
        exact⟨rfl,rfl⟩
theorem UY:Tryz.prog.underlying 33=some (.array 32 5):=by kernel_rfl
theorem Rb:(Tryz.prog.info? 33).map (·.size)=some 32:=by kernel_rfl
theorem Wx:(Tryz.prog.info? 5).map (·.size)=some 1:=by kernel_rfl

def zero32:List UInt8:=Aa4 32 0
theorem ES{l:List UInt8}(h:l.length=32):(AaT l).toArray.size=32:=by simp[AaT,h]
theorem Ac{l:List UInt8}(h:l.length=32):(Tryz.prog.info? 33).map (·.size)=some (AaT l).toArray.size:=by rw[ES h];exact Rb
theorem PI:zero32.length=32:=Abc

theorem OX(ρ:Aa5→AaR)(d:Option Tmp)(ty:AaZ)(pos:String)(af:Array AbP)(w:AaS):(execOp ρ ⟨d, .alloc 33,ty,pos,af,none⟩).run AaU w = .ok (.value (.pointer (some ⟨w.heap.size,0,none⟩))) (w.alloc (.cells (AaT zero32).toArray 33)):=by kernel_rfl

def DW(l:List UInt8)(a:Nat):AaR:=
  if l.length-a<32 then .tuple #[.agg (AaT zero32).toArray, .int .i64 0, .int .i64 6]
  else .tuple #[.agg (AaT ((l.drop a).take 32)).toArray, .int .i64 ↑(a+32), .int .i64 0]

set_option maxRecDepth 100000 in
set_option maxHeartbeats 1000000 in
theorem Jz(w:AaS)(v:AaR)(l:List UInt8)(hr:RB w v l)(a:Nat)(ha:a≤l.length):
    Calls AaU 171 #[v, .int .i64 a] w fun e w' =>e = .returned (DW l a)∧Ext w w' :=by
  have HR:=AcG hr;obtain⟨ao,cap,rfl,h2,h3⟩:=hr.len;clear hr;have hd:decide ((a:Int)<0)=false:=by simp
  have hd2:decide (l.length<a)=false:=by simp;omega
  by_cases hs:l.length-a<32
  · have hR:DW l a = .tuple #[.agg (AaT zero32).toArray, .int .i64 0, .int .i64 6]:=by unfold DW;rw[if_pos hs]
    rw[hR];clear hR
    go_enter Tryz.func171,Tryz.ntmps171
    have HSI:=AcG (Ac PI)
    go_wp2_with (first | (refine H6 (o:=⟨some 4, .alloc _,_,_,_,_⟩) rfl _ _ (OX _ _ _ _ _ _) ?_) | (refine wpList_load_row (o:=⟨some 21,_,_,_,_,_⟩) rfl _ _ rfl w.heap.size rfl _ _ _ _ (heap_alloc_new w _) UY rfl HSI.out ?_) | (refine FF (o:=⟨none, .store _ _ _,_,_,_,_⟩) rfl _ _ _ rfl w.heap.size rfl (AaT zero32).toArray 33 rfl (heap_alloc_new w _) HSI.out (Af zero32) ?_))
    refine bodyPost_ret (v:= .tuple #[.agg (AaT zero32).toArray, .int .i64 0, .int .i64 6]) (HN Tryz.results171 _ _ w.heap.size 33 (AaT zero32).toArray (0,0) _ rfl (heap_alloc_new w _) UY rfl HSI.out) rfl ⟨rfl,(AbJ _ _).alloc (AaX _) _⟩
  · have hR:DW l a = .tuple #[.agg (AaT ((l.drop a).take 32)).toArray, .int .i64 ↑(a+32), .int .i64 0]:=by unfold DW;rw[if_neg hs]
    rw[hR];clear hR
    go_enter Tryz.func171,Tryz.ntmps171
    go_wp2_with (refine H6 (o:=⟨some 4, .alloc _,_,_,_,_⟩) rfl _ _ (OX _ _ _ _ _ _) ?_)
    have hal:a+32≤l.length:=by omega
    obtain⟨w0,hw0⟩:∃w0,w0=w.alloc (.cells (AaT zero32).toArray 33):=⟨_,rfl⟩;have hbox:w0.heap[w.heap.size]? =some (.cells (AaT zero32).toArray 33 (0,0)):=by rw[hw0];exact heap_alloc_new w _
    have hsz:w0.heap.size=w.heap.size+1:=by rw[hw0];simp
    have b:Below w.heap.size w w0:=by rw[hw0];exact(AbJ _ _).alloc (AaX _) _
    rw[←hw0];clear hw0;have c:((l.drop a).take 32).length=32:=by rw[Abg,Abf];omega
    have HL32:=AcG c;clear c hd hd2;refine KX [4] (fun n=>if n=4 then [3]else []) (fun w' =>Below w.heap.size w0 w' ∧∃cur:Array AaR,cur.size=32∧w'.heap[w.heap.size]? =some (.cells cur 33 (0,0)))
      (fun w1 w2=>w1.grownBy w2 (some w.heap.size)∧((∃cur:Array AaR,cur.size=32∧w1.heap[w.heap.size]? =some (.cells cur 33 (0,0)))→∃cur:Array AaR,cur.size=32∧w2.heap[w.heap.size]? =some (.cells cur 33 (0,0))))
      [Is (.slice (some ⟨w.heap.size,0,none⟩) 32 32),Is (.slice ao l.length cap),Is (.int .i64 a),(fun x w' =>RB w' x (l.drop a)),(fun _ w' =>w'.heap[w.heap.size]? =some (.cells (AaT ((l.drop a).take 32)).toArray 33 (0,0)))]
      (by kernel_rfl) _ _ (by kernel_rfl) (by kernel_rfl) [22,23,24,25,26] (by kernel_rfl)
      (fun w1 w2 h k=>⟨h.1.trans (k.mono (by have:=h.1.size;have:=hsz;omega)),by obtain⟨cur,h1,h2⟩:=h.2;exact⟨cur,h1,(k.block _ (Abm.1 h2).1).trans h2⟩⟩)
      (fun w1 w2 h k=>⟨h.1.grown k.1 (by have:=h.1.size;have:=hsz;omega) (fun _ e=>by cases e;exact AaX _),k.2 h.2⟩) (fun w=>⟨Ace _ _,fun h=>h⟩) ⟨(AbJ _ _).drew,_,ES rfl,hbox⟩ ?hst ?hsk ?hs ?hQ
    case hst=>
      refine⟨XT _,XT _,XT _,Stab.rb _,fun v w1 w2 h k=> ?_,trivial⟩;have h' :w1.heap[w.heap.size]? =_:=h;exact(k.block _ (Abm.1 h').1).trans h'
    case hsk=>
      intro n i hn hi hk hne hb;simp at hn;subst hn
      match i,hi,hk,hne,hb with
      | 0,_,_,_,_=>exact XT _
      | 1,_,_,_,_=>exact XT _
      | 2,_,_,_,_=>exact XT _
      | 3,_,hk,_,_=>simp at hk
      | 4,_,_,hne,_=>simp at hne
    case hs=>
      refine⟨?_,?_,?_,?_,?_,trivial⟩
      · refine F1 rfl fun ρ w1 hC h=> ?_;have h4:ρ 4 = .pointer (some ⟨w.heap.size,0,none⟩):=h 4 (by decide);refine Yk.value (v:= .slice (some ⟨w.heap.size,0,none⟩) 32 32) (w' :=w1) ?_ ⟨Ext.refl _,rfl⟩;clear h hC;simp[execOp,Aa,h4,go_sem]
      · refine F1 rfl fun ρ w1 hC h=> ?_;have h0:ρ 0 = .slice ao l.length cap:=h 0 (by decide);exact⟨Ext.refl _,h0⟩
      · refine F1 rfl fun ρ w1 hC h=> ?_;have h0:ρ 1 = .int .i64 a:=h 1 (by decide);exact⟨Ext.refl _,h0⟩
      · refine F1 rfl fun ρ w1 hC h=> ?_;have h23:ρ 23 = .slice ao l.length cap:=h 23 (by decide);have h24:ρ 24 = .int .i64 a:=h 24 (by decide);have f:RB w1 (Aa ρ (.tmp 23)) l:=by show RB w1 (ρ 23) l;rw[h23];exact HR.out.keep (b.trans hC.1)
        refine ZR F5 PG f a l.length ha (AaX _) (.inr ⟨.i64,by simp[Aa,h24]⟩) (.inl ⟨rfl,rfl⟩) ?_;intro ao' c' hr';rw[AbK (by rw[Abf];exact AaX _)]at hr';exact⟨Ext.refl _,hr'⟩
      · refine F1 rfl fun ρ w1 hC h=> ?_;have h22:ρ 22 = .slice (some ⟨w.heap.size,0,none⟩) 32 32:=h 22 (by decide);have h25:RB w1 (ρ 25) (l.drop a):=h 25 (by decide);obtain⟨hC1,cur,hcs,hcb⟩:=hC;have hm:AdR (l.drop a).length 32=32:=Nat.min_eq_right (by rw[Abf];exact Nat.le_sub_of_add_le (by rw[AeD];exact hal));have hfit:0+AdR (l.drop a).length 32≤cur.size:=by rw[hm,hcs];exact AaX _
        refine Zv (.tmp 22) (.tmp 25) (o:=0) F5 Wx h22 h25 hcb hfit ?_;have e:(cur.toList.take 0++AaT ((l.drop a).take 32)++cur.toList.drop (0+AdR (l.drop a).length 32)).toArray=(AaT ((l.drop a).take 32)).toArray:=by
          have hd0:cur.toList.drop (0+32)= []:=Ab4 (Nat.le_of_eq (by rw[AcR,hcs]));rw[hm,hd0];simp
        rw[e];have hw:=setRow_heap w1 w.heap.size cur (AaT ((l.drop a).take 32)).toArray 33 (0,0) hcb;exact⟨⟨⟨rfl,rfl,rfl,by simp,fun k _ hk=>setRow_other w1 w.heap.size k _ (fun e=>hk (by rw[e]))⟩,fun _=>⟨_,ES HL32.out,hw⟩⟩,hw⟩
    case hQ=>
      intro u w1 hC hE;obtain⟨-,-,-,-,h26,-⟩:=hE;have hblk:w1.heap[w.heap.size]? =some (.cells (AaT ((l.drop a).take 32)).toArray 33 (0,0)):=h26;clear h26;simp only[De,AdT,List.foldl_nil,List.setIfInBounds_toArray,AeE,List.set_cons_succ];have hsi:(Tryz.prog.info? 33).map (·.size)=some (AaT ((l.drop a).take 32)).toArray.size:=by rw[ES HL32.out];exact Rb
      have HB:=AcG hblk;clear hblk;have HSI:=AcG hsi;clear hsi
      go_wp2_with (first | (refine wpList_load_row (o:=⟨some 27,_,_,_,_,_⟩) rfl _ _ rfl w.heap.size rfl _ _ _ _ HB.out UY rfl HSI.out ?_) | (refine FF (o:=⟨none, .store _ _ _,_,_,_,_⟩) rfl _ _ _ rfl w.heap.size rfl (AaT ((l.drop a).take 32)).toArray 33 rfl HB.out HSI.out (Af _) ?_))
      refine bodyPost_ret (v:= .tuple #[.agg (AaT ((l.drop a).take 32)).toArray, .int .i64 ↑(a+32), .int .i64 0]) ?_ rfl ⟨rfl,b.trans hC.1⟩;exact HN Tryz.results171 _ _ w.heap.size 33 _ (0,0) _ rfl HB.out UY rfl HSI.out
set_option maxHeartbeats 400000 in
theorem Ok(w:AaS)(v:AaR)(l:List UInt8)(hr:RB w v l)(s:ByteArray)(hl:l.length+s.size+16≤140737488355328):
    Calls AaU 144 #[v, .string s] w fun e w' =>∃v',e = .returned v' ∧NewB 5 w w' v' (l++Abd s.size++s.data.toList):=by
  obtain⟨i0,hi,a,b,c⟩:=info_parts MA;have h9:=Bg s.size (by omega);have hss:s.data.toList.length=s.size:=by simp
  have HSS:=AcG hss;clear hss
  go_enter Tryz.func144,Tryz.ntmps144
  go_wp2_with fail
  refine(OV _ _ l hr (by omega)).mono ?_;rintro e w1 ⟨f,rfl,h1⟩
  go_wp2_with fail
  refine(Kc w.heap.size l.length s.size (by omega) f _ w1 h1.own h1.by_.size (by omega)).mono ?_;rintro e w2 ⟨h,rfl,ho,g⟩;have h2:=h1.more g ho
  go_wp2_with (at_builtin;refine CU _ rfl _ _ 27 9 rfl w.heap.size 5 i0 (.int .u8 0) 1 1 F5 hi a b c rfl _ _ _ rfl h2.own (.string s) _ _ rfl (QZ Wv _ s) ?c1 ?c2 ?c3 ?_)
  case c1=>have:=HSS.out;rw[this,AaY];unfold maxLen;omega
  case c2=>have:=HSS.out;rw[this,AaY];omega
  case c3=>exact h2.by_.size
  intro v' i hown' hgrow
  go_wp2
  go_ret
  exact⟨v',rfl,h2.more hgrow (by rw[HSS.out,AaY];exact hown')⟩

variable {P : Abo}
def cellsU(l:List UInt32):Array AaR:=(l.map fun x=>U x).toArray
theorem GI(l:List UInt32):(cellsU l).size=l.length:=by simp[cellsU]
theorem ET(l:List UInt32):∀v∈(cellsU l).toList,v.oneCell' =true:=by
  intro v hv;simp[cellsU]at hv;obtain⟨x,-,rfl⟩:=hv;rfl
namespace Sha
def rotr(x:UInt32)(n:Nat):UInt32:=x<<<Aey (32-n)|||x>>>Aey n
def be4(b:List UInt8)(t:Nat):UInt32:=
  (b.getD (4*t) 0).toUInt32<<<24|||(b.getD (4*t+1) 0).toUInt32<<<16|||(b.getD (4*t+2) 0).toUInt32<<<8|||(b.getD (4*t+3) 0).toUInt32
def low(x:UInt32):UInt32:=rotr x 7^^^rotr x 18^^^x>>>3
def high(y:UInt32):UInt32:=rotr y 17^^^rotr y 19^^^y>>>10
def nextW(b:List UInt8)(l:List UInt32)(t:Nat):UInt32:=
  if t<16 then be4 b t else high (l.getD (t-2) 0)+l.getD (t-7) 0+low (l.getD (t-15) 0)+l.getD (t-16) 0
def sched(b:List UInt8):Nat→List UInt32
  | 0=> []
  | t+1=>sched b t++ [nextW b (sched b t) t]
theorem sched_length(b:List UInt8):∀t,(sched b t).length=t
  | 0=>rfl
  | t+1=>by simp[sched,sched_length b t]
def first:List UInt32:= [0x6a09e667,0xbb67ae85,0x3c6ef372,0xa54ff53a,0x510e527f,0x9b05688c,0x1f83d9ab,0x5be0cd19]
def words:List UInt32:= [0x428a2f98,0x71374491,0xb5c0fbcf,0xe9b5dba5,0x3956c25b,0x59f111f1,0x923f82a4,0xab1c5ed5,0xd807aa98,0x12835b01,0x243185be,0x550c7dc3,0x72be5d74,0x80deb1fe,0x9bdc06a7,0xc19bf174,0xe49b69c1,0xefbe4786,0x0fc19dc6,0x240ca1cc,0x2de92c6f,0x4a7484aa,0x5cb0a9dc,0x76f988da,0x983e5152,0xa831c66d,0xb00327c8,0xbf597fc7,0xc6e00bf3,0xd5a79147,0x06ca6351,0x14292967,0x27b70a85,0x2e1b2138,0x4d2c6dfc,0x53380d13,0x650a7354,0x766a0abb,0x81c2c92e,0x92722c85,0xa2bfe8a1,0xa81a664b,0xc24b8b70,0xc76c51a3,0xd192e819,0xd6990624,0xf40e3585,0x106aa070,0x19a4c116,0x1e376c08,0x2748774c,0x34b0bcb5,0x391c0cb3,0x4ed8aa4a,0x5b9cca4f,0x682e6ff3,0x748f82ee,0x78a5636f,0x84c87814,0x8cc70208,0x90befffa,0xa4506ceb,0xbef9a3f7,0xc67178f2]
def up(v:List UInt32)(k w:UInt32):UInt32:=
  v.getD 7 0+(rotr (v.getD 4 0) 6^^^rotr (v.getD 4 0) 11^^^rotr (v.getD 4 0) 25)+(v.getD 4 0&&&v.getD 5 0 ^^^ ~~~(v.getD 4 0)&&&v.getD 6 0)+k+w
def two(v:List UInt32):UInt32:=rotr (v.getD 0 0) 2^^^rotr (v.getD 0 0) 13^^^rotr (v.getD 0 0) 22
def most(v:List UInt32):UInt32:=v.getD 0 0&&&v.getD 1 0^^^v.getD 0 0&&&v.getD 2 0^^^v.getD 1 0&&&v.getD 2 0
def round(v:List UInt32)(k w:UInt32):List UInt32:=
  [up v k w+two v+most v,v.getD 0 0,v.getD 1 0,v.getD 2 0,v.getD 3 0+up v k w,v.getD 4 0,v.getD 5 0,v.getD 6 0]
def turned(s ws:List UInt32):Nat→List UInt32
  | 0=>s
  | t+1=>round (turned s ws t) (words.getD t 0) (ws.getD t 0)
theorem turned_length(s ws:List UInt32)(hs:s.length=8):∀t,(turned s ws t).length=8
  | 0=>hs
  | _+1=>rfl
def added(v s:List UInt32):List UInt32:=List.zipWith (· + ·) v s
def rounds(s:List UInt32)(b:List UInt8):List UInt32:=added (turned s (sched b 64) 64) s
theorem rounds_length(s:List UInt32)(b:List UInt8)(hs:s.length=8):(rounds s b).length=8:=by
  simp[rounds,added,turned_length _ _ hs,hs]
def blocks(s:List UInt32)(b:List UInt8):Nat→List UInt32
  | 0=>s
  | n+1=>blocks (rounds s (b.take 64)) (b.drop 64) n
theorem blocks_length(n:Nat):∀(s:List UInt32) (b:List UInt8),s.length=8→(blocks s b n).length=8:=by
  induction n with
  | zero=>exact fun s b h=>h
  | succ n ih=>exact fun s b h=>ih _ _ (rounds_length _ _ h)
def be64(n:Nat):List UInt8:=(Ab6 8).map fun i=>AbQ (n/2^(56-8*i))
def tail(n:Nat):List UInt8:=128 :: (Aa4 ((119-n%64)%64) 0++be64 (8*n))
def out(s:List UInt32):List UInt8:=s.flatMap fun(w:UInt32)=> [(w>>>24).toUInt8,(w>>>16).toUInt8,(w>>>8).toUInt8,w.toUInt8]
def sum(b:List UInt8):List UInt8:=out (blocks first (b++tail b.length) ((b++tail b.length).length/64))
end Sha
namespace Sha
def pad64(l:List UInt32):List UInt32:=l++Aa4 (64-l.length) 0
theorem pad64_length(l:List UInt32)(h:l.length≤64):(pad64 l).length=64:=by simp[pad64];omega
theorem pad64_get(l:List UInt32)(i:Nat):(pad64 l).getD i 0=l.getD i 0:=by
  unfold pad64;simp only[AaW];rw[List.getElem?_append];split
  · rfl
  · rename_i h
    rw[List.getElem?_replicate,Ab3 (by omega)];split <;> rfl
theorem pad64_set(l:List UInt32)(x:UInt32)(h:l.length<64):(pad64 l).set l.length x=pad64 (l++ [x]):=by
  unfold pad64;rw[Acg _ _ (AaX _),AcD];obtain⟨k,hk⟩:∃k,64-l.length=k+1:=⟨64-l.length-1,by omega⟩;rw[hk,AgG,AeE];have:64-(l++ [x]).length=k:=by simp;omega
  rw[this];simp
theorem pad64_full(l:List UInt32)(h:l.length=64):pad64 l=l:=by simp[pad64,h]
theorem sched_step1(b:List UInt8)(t:Nat)(h:t<16):(pad64 (sched b t)).set t (be4 b t)=pad64 (sched b (t+1)):=by
  have:=pad64_set (sched b t) (be4 b t) (by rw[sched_length];omega);rw[sched_length]at this;rw[this];simp[sched,nextW,h]
theorem sched_step2(b:List UInt8)(t:Nat)(h:16≤t)(h2:t<64):(pad64 (sched b t)).set t (high ((pad64 (sched b t)).getD (t-2) 0)+(pad64 (sched b t)).getD (t-7) 0+low ((pad64 (sched b t)).getD (t-15) 0)+(pad64 (sched b t)).getD (t-16) 0)=pad64 (sched b (t+1)):=by
  simp only[pad64_get];have:=pad64_set (sched b t) (nextW b (sched b t) t) (by rw[sched_length];omega);rw[sched_length]at this;rw[sched,←this];unfold nextW;rw[if_neg (by omega)]
end Sha
structure Laid (w : AaS) : Prop where
  first:∃t fr,w.heap[0]? =some (.cells (cellsU Sha.first) t fr)
  words:∃t fr,w.heap[1]? =some (.cells (cellsU Sha.words) t fr)
theorem Laid.keep{w w' :AaS}(h:Laid w)(k:Ext w w'):Laid w' :=⟨by obtain⟨t,fr,h1⟩:=h.first;exact⟨t,fr,k.blk' h1⟩,by obtain⟨t,fr,h1⟩:=h.words;exact⟨t,fr,k.blk' h1⟩⟩
theorem Laid.two{w:AaS}(h:Laid w):1<w.heap.size:=by
  obtain⟨t,fr,h1⟩:=h.words;exact(Abm.1 h1).1
def Yd(v s:List UInt32):Nat→List UInt32
  | 0=>v
  | i+1=>(Yd v s i).set i ((Yd v s i).getD i 0+s.getD i 0)
theorem Yq(v s:List UInt32):∀i,(Yd v s i).length=v.length
  | 0=>rfl
  | i+1=>by simp[Yd,Yq v s i]
theorem YZ(v s:List UInt32)(h:s.length=v.length):∀i j,j<v.length→(Yd v s i).getD j 0=if j<i then v.getD j 0+s.getD j 0 else v.getD j 0
  | 0,j,_=>by simp[Yd]
  | i+1,j,hj=>by
    have ih:=YZ v s h i;unfold Yd;by_cases hij:i=j
    · subst hij;have hl:i<(Yd v s i).length:=by rw[Yq];exact hj
      rw[AaW,Ad2 hl,AbR,ih i hj,if_neg (Nat.lt_irrefl _),if_pos (AeW _)]
    · rw[AaW,Agr hij,←AaW,ih j hj];by_cases h1:j<i
      · rw[if_pos h1,if_pos (by omega)]
      · rw[if_neg h1,if_neg (by omega)]
theorem Zl(v s:List UInt32)(h:s.length=v.length):Yd v s v.length=Sha.added v s:=by
  apply AeU (by simp[Yq,Sha.added,h])
  intro j h1 h2;have hj:j<v.length:=by rw[Yq]at h1;exact h1
  have:=YZ v s h v.length j hj;rw[if_pos hj]at this;have hs:j<s.length:=by omega
  simp[AaW,h1,hj,hs]at this;rw[this];simp[Sha.added]

theorem Zm{v s:List UInt32}{i:Nat}(h:s.length=8)(hv:v.length=8)(h1:i≤8)(h2:¬i<8):Yd v s i=Sha.added v s:=by
  have:=Zl v s (by omega);rw[hv]at this;rw[show i=8 by omega,this]
def F6:List Nat:= [2,6,7,11,13,17,18,19,22,25]
theorem Vi(n:Nat)(hn:n∈F6)(t:AaZ):Abt .and t (.int .u64 (IntKind.u64.wrap (-(n:Int)))) (.int .u64 ((31:Nat):Int))=pure (.int .u64 ((32-n:Nat):Int)):=by
  unfold F6 at hn;simp only[AbF,AcN,or_false]at hn;rcases hn with rfl | rfl | rfl | rfl | rfl | rfl | rfl | rfl | rfl | rfl <;> rfl
theorem Rc{n:Nat}(hn:n∈F6):0<n∧n<32:=by
  unfold F6 at hn;simp only[AbF,AcN,or_false]at hn;omega
theorem Aaf{P:Abo}{K:AaR→AaS→Prop}{ρ:Ad}{w:AaS}{d:Option Tmp}{ty:AaZ}{pos:String}{af:Array AbP}{gd:Option (Nat × Bool)}{t:AaZ}{x:Aa5}{n:Nat}(hn:n∈F6)(hx:Aa ρ x=NI n)(hk:K (.int .i64 (-(n:Int))) w):Yk P K ((execOp (Aa ρ) ⟨d, .unOp .neg t x,ty,pos,af,gd⟩).run P w):=by
  have h:=Rc hn;refine Yk.value (v:= .int .i64 (-(n:Int))) (w' :=w) ?_ hk;have hw:IntKind.i64.wrap (-(n:Int)) = -(n:Int):=by
    simp only[Aex,Ab7,Adb];simp;omega
  unfold execOp;simp[hx,Op.unary,Aeo,hw]
theorem Aag{P:Abo}{K:AaR→AaS→Prop}{ρ:Ad}{w:AaS}{d:Option Tmp}{ty:AaZ}{pos:String}{af:Array AbP}{gd:Option (Nat × Bool)}{t:AaZ}{x0 x1 x2 x3 x4 x5 x6 x7:Aa5}{a b c e f g h i v:AaR}(h0:Aa ρ x0=a)(h1:Aa ρ x1=b)(h2:Aa ρ x2=c)(h3:Aa ρ x3=e)(h4:Aa ρ x4=f)(h5:Aa ρ x5=g)(h6:Aa ρ x6=h)(h7:Aa ρ x7=i)(hr:∀w:AaS,(AcJ t #[(0,a),(1,b),(2,c),(3,e),(4,f),(5,g),(6,h),(7,i)]).run P w = .ok v w)(hk:K v w):Yk P K ((execOp (Aa ρ) ⟨d, .build t #[(0,x0),(1,x1),(2,x2),(3,x3),(4,x4),(5,x5),(6,x6),(7,x7)],ty,pos,af,gd⟩).run P w):=by
  refine Yk.value (v:=v) (w' :=w) ?_ hk;unfold execOp;simp only[Abx,Abv,AbG,h0,h1,h2,h3,h4,h5,h6,h7,Aa7,hr,Aa3,Abb]
set_option maxRecDepth 100000
theorem Tc:Tryz.prog.underlying 3=some (.int .i64):=by kernel_rfl
theorem PJ:Tryz.prog.underlying 184=some (.int .u64):=by kernel_rfl
theorem PK:Plain AaU 214:=fun _ _=>by kernel_rfl
theorem GJ:(Tryz.prog.info? 183).map (·.size)=some 64:=by kernel_rfl
theorem Ke{d:Option Tmp}{ty:AaZ}{pos:String}{af:Array AbP}{gd:Option (Nat × Bool)}(σ:Aa5→AaR)(w:AaS):(execOp σ ⟨d, .alloc 183,ty,pos,af,gd⟩).run AaU w = .ok (.value (PQ w.heap.size 0)) (w.alloc (.cells ((Aa4 64 0).map fun x=>U x).toArray 183)):=by kernel_rfl
theorem AF:Tryz.prog.underlying 181=some (.int .u32):=by kernel_rfl
theorem CE:Tryz.prog.underlying 183=some (.array 64 181):=by kernel_rfl
theorem AH:∀w' :AaS,(sizeOf 181).run AaU w' = .ok 1 w' :=fun _=>by kernel_rfl
theorem GK:(Tryz.prog.info? 181).map (·.size)=some 1:=by kernel_rfl
theorem CF:Plain AaU 176:=fun _ _=>by kernel_rfl
theorem DM:(Tryz.prog.info? 182).map (·.size)=some 8:=by kernel_rfl
theorem Kf{d:Option Tmp}{ty:AaZ}{pos:String}{af:Array AbP}{gd:Option (Nat × Bool)}(σ:Aa5→AaR)(w:AaS):(execOp σ ⟨d, .alloc 182,ty,pos,af,gd⟩).run AaU w = .ok (.value (PQ w.heap.size 0)) (w.alloc (.cells ((Aa4 8 0).map fun x=>U x).toArray 182)):=by kernel_rfl
theorem AQ:Tryz.prog.underlying 182=some (.array 8 181):=by kernel_rfl
theorem PL:Plain AaU 175:=fun _ _=>by kernel_rfl
theorem Td(a b c d e f g h:UInt32)(w:AaS):(AcJ 182 #[(0,U a),(1,U b),(2,U c),(3,U d),(4,U e),(5,U f),(6,U g),(7,U h)]).run AaU w = .ok (.agg (([a,b,c,d,e,f,g,h]:List UInt32).map fun x=>U x).toArray) w:=by kernel_rfl
set_option maxHeartbeats 1600000
theorem Te(w:AaS)(x:UInt32)(n:Nat)(hn:n∈F6):
  Calls AaU 214 #[U x, .int .i64 (-(n:Int))] w fun e w' =>e = .returned (U (Sha.rotr x n))∧Ext w w' :=by
 obtain⟨a,b⟩:=Rc hn;refine gG (args:= [U (x),(.int .i64 (-(n:Int)))]) Tryz.func214 rfl 17 rfl rfl ?_;have hE:=Ext.refl w;refine gS (Yn Tc PJ rfl rfl (gS (XL (yv:= .int .u64 ((31:Nat):Int)) rfl rfl rfl (Vi n hn _) (gS (XL (yv:= .int .u64 ((32-n:Nat):Int)) rfl rfl rfl (Mw _ _ _ (32-n) (by omega)) (gS (XL (xv:= .int .u64 ((32:Nat):Int)) (yv:= .int .u64 ((32-n:Nat):Int)) rfl rfl rfl (Vb _ _ _ (by omega) (by omega)) (gS (XL (yv:= .int .u64 (((32)-(32-n):Nat):Int)) rfl rfl rfl (IV _ _ _ ((32)-(32-n)) (by omega)) (gS (XL rfl rfl rfl (Px _ _ _) (Bn rfl (vr (U (((x)<<<Aey (32-n))|||((x)>>>Aey ((32)-(32-n))))) rfl) ?_))))))))))));refine⟨?_,hE⟩;unfold Sha.rotr;rw[show 32-(32-n)=n by omega]

theorem Dt(w:AaS)(x:UInt32)(n:Nat)(hn:n∈F6):
  Calls AaU 176 #[U x,NI n] w fun e w' =>e = .returned (U (Sha.rotr x n))∧Ext w w' :=by
 refine gG (args:= [U (x),NI n]) Tryz.func176 rfl 9 rfl rfl ?_;have hE:=Ext.refl w;refine gS (Aaf hn rfl (gS (XM PK rfl rfl ((Te _ x n hn).mono ?_))));rintro e b ⟨rfl,a⟩;refine⟨_,rfl,?_⟩;refine Bn rfl (vr (U (Sha.rotr (x) n)) rfl) ?_;have hE:=hE.trans a;exact⟨rfl,hE⟩

theorem MZ(w:AaS)(v:AaR)(b:List UInt8)(hb:RB w v b)(hl:b.length=64):
  Calls AaU 175 #[v] w fun e w' =>e = .returned (.agg (cellsU (Sha.sched b 64)))∧Ext w w' :=by
 refine gG (args:= [v]) Tryz.func175 rfl 93 rfl rfl ?_;have hE:=Ext.refl w;refine gS (Yk.alloc Ke fun o p a4 z av a5=> ?_);have c:=z;clear z;have a6:o<p.heap.size:=by omega
 refine gS (Yk.alloc Ke fun j aw ax aa s a7=> ?_);have f:=Ext.refl p;have hE:=hE.trans av;have ab:=hE.size;have ac:=aa;clear aa;have a8:j<aw.heap.size:=by omega
 have a9:=Ar (bl c) ax;have c:=eb s c;have hE:=hE.trans s;have f:=f.trans s;refine gL (fun(ρ:Ad) (wz:AaS)=>∃t:Nat,ρ 0=(v:AaR)∧ρ 2=(PQ o 0:AaR)∧ρ 3=(PQ j 0:AaR)∧ρ 10=(NI t:AaR)∧Ext w wz∧wz.heap[o]? =some (.cells ((Aa4 64 0).map fun x=>U x).toArray 183 (0,0))∧Ext p wz∧wz.heap[j]? =some (.cells ((Sha.pad64 (Sha.sched b t)).map fun x=>U x).toArray 183 (0,0))∧(t≤16)∧True) (fun ρ _=>16-(intOf (ρ 10)).toNat) ⟨0,rfl,rfl,rfl,rfl,hE,c,f,AV ac (rfl),by omega,trivial⟩ ?_;clear ac;clear hE c;rintro ay az ⟨t,k,n,g,h,hE,c,f,hb21l,ht_t,-⟩;have q10:=h;have hpl_t:(Sha.pad64 (Sha.sched b t)).length=64:=Sha.pad64_length _ (by rw[Sha.sched_length];omega);obtain⟨Bt,hBt⟩:∃B,B=Sha.pad64 (Sha.sched b t):=⟨_,rfl⟩;have hb21l:az.heap[j]? =some (.cells ((Bt).map fun x=>U x).toArray 183 (0,0)):=AV hb21l (by rw[hBt]);rw[←hBt]at hpl_t;refine gS (XK (a:=(t:Nat)) (b:=(16:Nat)) h rfl (AL _ _ _ _) ?_);refine cD rfl (fun ad=> ?_) fun ad=> ?_
 ·refine CC [0,1,2,3,4,5,6,7,8,9,10,11,12,13,14,15,16,17,18,19,20,21,22,23,24,25,26,27,28,29,30,31,32,33,34,35] [35] [] fun ba r=> ?_;have hE:=hE.trans r;have hb21l:=eb r hb21l;refine ys (XL (xv:=NI 4) (yv:=NI t) rfl h rfl (Ci _ _ _ (by omega)) zz) (yA (X7 (l:=b) (i:=(4)*(t)) F5 PG (XP (hb.keep hE) k) rfl (by omega) fun bb ae=>(ys (X0 u5 rfl (X6 ae rfl) zz) (ys (Yk.wide u5 AF rfl zz) (ys (XL rfl rfl rfl (Mw _ _ _ 24 (by decide)) zz) (ys (XL (xv:=NI 4) (yv:=NI t) rfl h rfl (Ci _ _ _ (by omega)) zz) (ys (XL (xv:=NI ((4)*(t))) (yv:=NI 1) rfl rfl rfl (Ai _ _ _ (by omega)) zz) (yA (X7 (l:=b) (i:=((4)*(t))+(1)) F5 PG (XP (hb.keep hE) k) rfl (by omega) fun bc af=>(ys (X0 u5 rfl (X6 af rfl) zz) (ys (Yk.wide u5 AF rfl zz) (ys (XL rfl rfl rfl (Mw _ _ _ 16 (by decide)) zz) (ys (XL rfl rfl rfl (Px _ _ _) zz) (ys (XL (xv:=NI 4) (yv:=NI t) rfl h rfl (Ci _ _ _ (by omega)) zz) (ys (XL (xv:=NI ((4)*(t))) (yv:=NI 2) rfl rfl rfl (Ai _ _ _ (by omega)) zz) (yA (X7 (l:=b) (i:=((4)*(t))+(2)) F5 PG (XP (hb.keep hE) k) rfl (by omega) fun bd ag=>(ys (X0 u5 rfl (X6 ag rfl) zz) ?_))))))))))))))))));refine ys (Yk.wide u5 AF rfl zz) (ys (XL rfl rfl rfl (Mw _ _ _ 8 (by decide)) zz) (ys (XL rfl rfl rfl (Px _ _ _) zz) (ys (XL (xv:=NI 4) (yv:=NI t) rfl h rfl (Ci _ _ _ (by omega)) zz) (ys (XL (xv:=NI ((4)*(t))) (yv:=NI 3) rfl rfl rfl (Ai _ _ _ (by omega)) zz) (yA (X7 (l:=b) (i:=((4)*(t))+(3)) F5 PG (XP (hb.keep hE) k) rfl (by omega) fun be ah=>(ys (X0 u5 rfl (X6 ah rfl) zz) (ys (Yk.wide u5 AF rfl zz) (ys (XL rfl rfl rfl (Px _ _ _) zz) (ys (XX (i:=t) CE AH g h (by omega) zz) (yC (YW (i:=t) (v:=(((((b.getD ((4)*(t)) 0).toUInt32)<<<24)|||(((b.getD (((4)*(t))+(1)) 0).toUInt32)<<<16))|||(((b.getD (((4)*(t))+(2)) 0).toUInt32)<<<8))|||((b.getD (((4)*(t))+(3)) 0).toUInt32)) rfl rfl hb21l (by rw[hpl_t];omega) GK fun a0 ai u bf=> ?_))))))))))));clear ae;clear af;clear ag;clear ah;clear hb21l;have hb21l:=ai;clear ai;have bg:=bl hb21l;have hb21l:a0.heap[j]? =some (.cells ((Sha.pad64 (Sha.sched b (t+1))).map fun x=>U x).toArray 183 (0,0)):=AV hb21l (congrArg (Adw fun x=>U x) (by rw[hBt];exact Sha.sched_step1 b t ad));have c:=eb r c;have c:=kb u c (by omega);have f:=f.trans r;have f:=Ab f u (AaV (AaX _) (by omega));have hE:=Ab hE u (AaV ab (by omega));refine gS (XL (xv:=NI t) (yv:=NI 1) h rfl rfl (Ai _ _ _ (by omega)) (gK (Aby ⟨t+1,k,n,g,rfl,hE,c,f,AV hb21l (rfl),by omega,trivial⟩ ?_)));show 16-(intOf (NI ((t)+(1)))).toNat<16-(intOf (ay 10)).toNat;rw[q10];simp only[intOf,Aba];omega
 refine gL (fun(ρ:Ad) (wz:AaS)=>∃q:Nat,ρ 0=(v:AaR)∧ρ 2=(PQ o 0:AaR)∧ρ 3=(PQ j 0:AaR)∧ρ 10=(NI t:AaR)∧ρ 5=(NI q:AaR)∧Ext w wz∧wz.heap[o]? =some (.cells ((Aa4 64 0).map fun x=>U x).toArray 183 (0,0))∧Ext p wz∧wz.heap[j]? =some (.cells ((Sha.pad64 (Sha.sched b q)).map fun x=>U x).toArray 183 (0,0))∧(q≤64)∧(16≤q)∧True) (fun ρ _=>64-(intOf (ρ 5)).toNat) ⟨16,k,n,g,h,rfl,hE,c,f,AV hb21l (congrArg (Adw fun x=>U x) (by rw[hBt,show t=16 by omega])),by omega,AaX _,trivial⟩ ?_;clear hb21l;clear hE c f;rintro a1 aj ⟨q,k,n,g,h,m,hE,c,f,hb21ll,ht_q,ht16,-⟩;have q5:=m;have hpl_q:(Sha.pad64 (Sha.sched b q)).length=64:=Sha.pad64_length _ (by rw[Sha.sched_length];omega);obtain⟨Bq,hBq⟩:∃B,B=Sha.pad64 (Sha.sched b q):=⟨_,rfl⟩;have hb21ll:aj.heap[j]? =some (.cells ((Bq).map fun x=>U x).toArray 183 (0,0)):=AV hb21ll (by rw[hBq]);rw[←hBq]at hpl_q;refine gS (XK (a:=(q:Nat)) (b:=(64:Nat)) m rfl (AL _ _ _ _) ?_);refine cD rfl (fun ak=> ?_) fun ak=> ?_
 ·refine CC [0,1,2,3,4,5,6,7,8,9] [] [] fun bh al=> ?_;have hb21ll:=eb al hb21ll;refine ys (XL (xv:=NI q) (yv:=NI 15) m rfl rfl (BJ _ _ _ (by omega) (by omega)) zz) (ys (XX (i:=(q)-(15)) CE AH g rfl (by omega) zz) (ys (XJ AF rfl rfl (cellAt hb21ll (A9 (i:=(q)-(15)) (by rw[hpl_q];omega))) zz) (ys (XL (xv:=NI q) (yv:=NI 2) m rfl rfl (BJ _ _ _ (by omega) (by omega)) zz) (ys (XX (i:=(q)-(2)) CE AH g rfl (by omega) zz) (ys (XJ AF rfl rfl (cellAt hb21ll (A9 (i:=(q)-(2)) (by rw[hpl_q];omega))) zz) (gS (XM CF rfl rfl ((Dt _ ((Bq).getD ((q)-(15)) 0) 7 (by decide)).mono ?_))))))));rintro e bi ⟨rfl,am⟩;refine⟨_,rfl,?_⟩;refine gS (XM CF rfl rfl ((Dt _ ((Bq).getD ((q)-(15)) 0) 18 (by decide)).mono ?_));rintro e bj ⟨rfl,an⟩;refine⟨_,rfl,?_⟩;refine gS (XL rfl rfl rfl (EO _ _ _) (gS (XL rfl rfl rfl (IV _ _ _ 3 (by decide)) (gS (XL rfl rfl rfl (EO _ _ _) (gS (XM CF rfl rfl ((Dt _ ((Bq).getD ((q)-(2)) 0) 17 (by decide)).mono ?_))))))));rintro e bk ⟨rfl,ao⟩;refine⟨_,rfl,?_⟩;refine gS (XM CF rfl rfl ((Dt _ ((Bq).getD ((q)-(2)) 0) 19 (by decide)).mono ?_));rintro e bm ⟨rfl,ap⟩;refine⟨_,rfl,?_⟩;refine gS (XL rfl rfl rfl (EO _ _ _) (gS (XL rfl rfl rfl (IV _ _ _ 10 (by decide)) (gS (XL rfl rfl rfl (EO _ _ _) (CC [0,1,2,3,4,5,6,7,8,9,10,11,12,13,14,15] [15] [] fun bn aq=> ?_))))));have hb21ll:=eb ((((am.trans an).trans ao).trans ap).trans aq) hb21ll;refine ys (XL (xv:=NI q) (yv:=NI 7) m rfl rfl (BJ _ _ _ (by omega) (by omega)) zz) (ys (XX (i:=(q)-(7)) CE AH g rfl (by omega) zz) (ys (XJ AF rfl rfl (cellAt hb21ll (A9 (i:=(q)-(7)) (by rw[hpl_q];omega))) zz) (ys (XL rfl rfl rfl (EN _ _ _) zz) (ys (XL rfl rfl rfl (EN _ _ _) zz) (ys (XL (xv:=NI q) (yv:=NI 16) m rfl rfl (BJ _ _ _ (by omega) (by omega)) zz) (ys (XX (i:=(q)-(16)) CE AH g rfl (by omega) zz) (ys (XJ AF rfl rfl (cellAt hb21ll (A9 (i:=(q)-(16)) (by rw[hpl_q];omega))) zz) (ys (XL rfl rfl rfl (EN _ _ _) zz) (ys (XX (i:=q) CE AH g m (by omega) zz) (yC (YW (i:=q) (v:=(((Sha.high ((Bq).getD ((q)-(2)) 0))+((Bq).getD ((q)-(7)) 0))+(Sha.low ((Bq).getD ((q)-(15)) 0)))+((Bq).getD ((q)-(16)) 0)) rfl rfl hb21ll (by rw[hpl_q];omega) GK fun a2 ar y bo=> ?_)))))))))));clear hb21ll;have hb21ll:=ar;clear ar;have bp:=bl hb21ll;have hb21ll:a2.heap[j]? =some (.cells ((Sha.pad64 (Sha.sched b (q+1))).map fun x=>U x).toArray 183 (0,0)):=AV hb21ll (congrArg (Adw fun x=>U x) (by rw[hBq];exact Sha.sched_step2 b q ht16 ak));have hZ1:=((((al.trans am).trans an).trans ao).trans ap).trans aq;have hE:=hE.trans hZ1;have hE:=Ab hE y (AaV ab (by omega));have c:=eb hZ1 c;have c:=kb y c (by omega);have f:=f.trans hZ1;have f:=Ab f y (AaV (AaX _) (by omega));refine gS (XL (xv:=NI q) (yv:=NI 1) m rfl rfl (Ai _ _ _ (by omega)) (gK (Aby ⟨q+1,k,n,g,h,rfl,hE,c,f,AV hb21ll (rfl),by omega,by omega,trivial⟩ ?_)));show 64-(intOf (NI ((q)+(1)))).toNat<64-(intOf (a1 5)).toNat;rw[q5];simp only[intOf,Aba];omega
 obtain⟨F,hF⟩:∃F,F=Sha.sched b 64:=⟨_,rfl⟩;have hb21ll:aj.heap[j]? =some (.cells ((F).map fun x=>U x).toArray 183 (0,0)):=AV hb21ll (by rw[hBq,show q=64 by omega,←hF,Sha.pad64_full _ (by rw[hF,Sha.sched_length])]);have hFl:F.length=64:=by rw[hF,Sha.sched_length]
 refine gS (XO g hb21ll CE rfl (by rw[Abe,Abh,hFl];exact GJ) (gS (XN n (vr (.agg ((F).map fun x=>U x).toArray) rfl) c (by rw[Abe,Abe,Abh,Abh,hFl];rfl) (by rw[Abe,Abh,hFl];exact GJ) (ET _) fun bq au a3 br=> ?_)));clear f;clear c;have c:=au;clear au;have bs:=bl c;refine Lx rfl (ResF.row n c CE rfl (by rw[Abe,Abh,hFl];exact GJ)) ?_;rw[hF];have hE:=Ab hE a3 (AaV (AaX _) (by omega));exact⟨rfl,hE⟩

theorem PM(w:AaS)(hG:Laid w)(s:List UInt32)(hs:s.length=8)(v:AaR)(b:List UInt8)(hb:RB w v b)(hl:b.length=64):
  Calls AaU 137 #[.agg (cellsU s),v] w fun e w' =>e = .returned (.agg (cellsU (Sha.rounds s b)))∧Ext w w' :=by
 refine gG (args:= [.agg ((s).map fun x=>U x).toArray,v]) Tryz.func137 rfl 120 rfl rfl ?_;have hE:=Ext.refl w;refine gS (Yk.box (vr (.agg ((s).map fun x=>U x).toArray) rfl) fun r w3 bp ay ba bq=> ?_);have h:=ay;clear ay;have br:r<w3.heap.size:=by omega
 refine gS (Yk.alloc Kf fun u ad bb az al bs=> ?_);have f:=Ext.refl w3;have hE:=hE.trans ba;have bc:=hE.size;have j:=az;clear az;have bt:u<ad.heap.size:=by omega
 have bu:=Ar (bl h) bb;have h:=eb al h;refine gS (XO rfl h AQ rfl (by rw[Abe,Abh,hs];exact DM) (gS (Yk.alloc Kf fun k bd bv a0 am bw=> ?_)));have g:=Ext.refl ad;have hE:=hE.trans al;have f:=f.trans al;have an:=hE.size;have ao:=f.size;have m:=a0;clear a0;have bx:k<bd.heap.size:=by omega
 refine gS (XN (vr (PQ k 0) rfl) (vr (.agg ((s).map fun x=>U x).toArray) rfl) m (by rw[Abe,Abe,Abh,Abh,hs];rfl) (by rw[Abe,Abh,hs];exact DM) (ET _) fun bz a1 ap b0=> ?_);clear m;have m:=a1;clear a1;have b1:=bl m;have hE:=hE.trans am;have hE:=Ab hE ap (AaV an (by omega));refine gS (XQ PL rfl ((MZ _ v b (hb.keep hE) hl).mono ?_));rintro e b2 ⟨rfl,ae⟩;refine⟨_,rfl,?_⟩;have g:=g.trans am;have g:=Ab g ap (AaV (AaX _) (by omega));have g:=g.trans ae;have h:=eb g h;have j:=eb g j;have f:=f.trans am;have f:=Ab f ap (AaV ao (by omega));have f:=f.trans ae;have hE:=hE.trans ae;have m:=eb ae m;refine gL (fun(ρ:Ad) (wz:AaS)=>∃t:Nat,ρ 0=(.agg ((s).map fun x=>U x).toArray:AaR)∧ρ 1=(v:AaR)∧ρ 2=(PQ r 0:AaR)∧ρ 4=(PQ u 0:AaR)∧ρ 5=(PQ k 0:AaR)∧ρ 16=(.agg ((Sha.sched b 64).map fun x=>U x).toArray:AaR)∧ρ 17=(NI t:AaR)∧Ext w wz∧wz.heap[r]? =some (.cells ((s).map fun x=>U x).toArray 182 (0,0))∧Ext w3 wz∧wz.heap[u]? =some (.cells ((Aa4 8 0).map fun x=>U x).toArray 182 (0,0))∧Ext ad wz∧wz.heap[k]? =some (.cells (((Sha.turned s (Sha.sched b 64) t)).map fun x=>U x).toArray 182 (0,0))∧(t≤64)∧True) (fun ρ _=>64-(intOf (ρ 17)).toNat) ⟨0,rfl,rfl,rfl,rfl,rfl,rfl,rfl,hE,h,f,j,g,AV m (rfl),Abs _,trivial⟩ ?_;clear m;clear hE h j;rintro be a2 ⟨t,T0,T1,y,o,c,z,n,hE,h,f,j,g,hb36l,ht,-⟩;have q17:=n;obtain⟨V,hV⟩:∃V,V=(Sha.turned s (Sha.sched b 64) t):=⟨_,rfl⟩;have hb36l:a2.heap[k]? =some (.cells ((V).map fun x=>U x).toArray 182 (0,0)):=AV hb36l (by rw[hV]);have hvl:V.length=8:=by rw[hV];exact Sha.turned_length _ _ hs _
 refine gS (XK (a:=(t:Nat)) (b:=(64:Nat)) n rfl (AL _ _ _ _) ?_);refine cD rfl (fun bf=> ?_) fun bf=> ?_
 ·refine gS (ZO (l:=Sha.sched b 64) (i:=t) CE AF rfl AH z n (by omega) (Sha.sched_length _ _) (DV [0,1,3,4,7,8,2,5,6,9,10,11] [2,5,9] [3,6,7] [4,8] fun bg a3=> ?_));have ah:=Ext.refl bg;have hb36l:=eb a3 hb36l;refine DQ ah ?_;refine ys (XX (i:=4) AQ AH c rfl (by omega) zz) (ys (XJ AF rfl rfl (cellAt hb36l (A9 (i:=4) (by rw[hvl];omega))) zz) (yp (XX (i:=4) AQ AH c rfl (by omega) zz) (yf (fun _ ⟨hZ,_⟩=>XJ AF rfl rfl (cellAt (eb hZ hb36l) (A9 (i:=4) (by rw[hvl];omega))) zz) (yp (XX (i:=4) AQ AH c rfl (by omega) zz) (yf (fun _ ⟨hZ,_⟩=>XJ AF rfl rfl (cellAt (eb hZ hb36l) (A9 (i:=4) (by rw[hvl];omega))) zz) (yE (XM CF rfl rfl ((Dt _ ((V).getD (4) 0) 6 (by decide)).mono ?_))))))));rintro e bh ⟨rfl,aq⟩;refine⟨_,rfl,?_⟩;have ah:=ah.trans aq;refine⟨ah,?_⟩;have ar:=Ext.refl bh;refine yE (XM CF rfl rfl ((Dt _ ((V).getD (4) 0) 11 (by decide)).mono ?_));rintro e b3 ⟨rfl,au⟩;refine⟨_,rfl,?_⟩;have ar:=ar.trans au;refine⟨ar,?_⟩;refine yp (XL rfl rfl rfl (EO _ _ _) zz) (yD rfl (XM CF rfl rfl ((Dt _ ((V).getD (4) 0) 25 (by decide)).mono ?_)));rintro e b4 ⟨rfl,a4⟩;refine⟨_,rfl,?_⟩;have hb36l:=eb ((aq.trans au).trans a4) hb36l;refine ys (XL rfl rfl rfl (EO _ _ _) zz) (gS (XX (i:=4) AQ AH c rfl (by omega) (gS (XJ AF rfl rfl (cellAt hb36l (A9 (i:=4) (by rw[hvl];omega))) (gS (XX (i:=5) AQ AH c rfl (by omega) (gS (XJ AF rfl rfl (cellAt hb36l (A9 (i:=5) (by rw[hvl];omega))) (gS (XL rfl rfl rfl (J4 _ _ _) (gS (XX (i:=4) AQ AH c rfl (by omega) (gS (XJ AF rfl rfl (cellAt hb36l (A9 (i:=4) (by rw[hvl];omega))) (gS (Aap rfl (gS (XX (i:=6) AQ AH c rfl (by omega) (gS (XJ AF rfl rfl (cellAt hb36l (A9 (i:=6) (by rw[hvl];omega))) (gS (XL rfl rfl rfl (J4 _ _ _) (gS (XL rfl rfl rfl (EO _ _ _) (CC [0,1,2,3,4,5,6,7,8,9,10,11,12] [] [] fun b5 a5=> ?_)))))))))))))))))))))))));have hZ1:=(((a3.trans aq).trans au).trans a4).trans a5;have hE:=hE.trans hZ1;have hb36l:=eb a5 hb36l;refine ys (XX (i:=7) AQ AH c rfl (by omega) zz) (ys (XJ AF rfl rfl (cellAt hb36l (A9 (i:=7) (by rw[hvl];omega))) zz) (ys (XL rfl rfl rfl (EN _ _ _) zz) (ys (XL rfl rfl rfl (EN _ _ _) zz) (ys (XX (i:=t) CE AH rfl n (by omega) zz) (ys (XJ AF rfl rfl (by obtain⟨tG_,fG_,hG_⟩:=Laid.words (hG.keep hE);exact cellAt (l:=Sha.words.map fun x=>U x) hG_ (A9 (l:=Sha.words) (i:=t) (by show _<64;omega))) zz) (ys (XL rfl rfl rfl (EN _ _ _) zz) (ys (XL rfl rfl rfl (EN _ _ _) zz) (DV [0,1,3,4,7,8,2,5,6,9,10,11] [2,5,9] [3,6,7] [4,8] fun bi av=> ?_))))))));have ai:=Ext.refl bi;have hb36l:=eb av hb36l;refine DQ ai ?_;refine ys (XX (i:=0) AQ AH c rfl (by omega) zz) (ys (XJ AF rfl rfl (cellAt hb36l (A9 (i:=0) (by rw[hvl];omega))) zz) (yp (XX (i:=0) AQ AH c rfl (by omega) zz) (yf (fun _ ⟨hZ,_⟩=>XJ AF rfl rfl (cellAt (eb hZ hb36l) (A9 (i:=0) (by rw[hvl];omega))) zz) (yp (XX (i:=0) AQ AH c rfl (by omega) zz) (yf (fun _ ⟨hZ,_⟩=>XJ AF rfl rfl (cellAt (eb hZ hb36l) (A9 (i:=0) (by rw[hvl];omega))) zz) (yE (XM CF rfl rfl ((Dt _ ((V).getD (0) 0) 2 (by decide)).mono ?_))))))));rintro e bj ⟨rfl,aj⟩;refine⟨_,rfl,?_⟩;have ai:=ai.trans aj;refine⟨ai,?_⟩;have aw:=Ext.refl bj;refine yE (XM CF rfl rfl ((Dt _ ((V).getD (0) 0) 13 (by decide)).mono ?_));rintro e b6 ⟨rfl,ak⟩;refine⟨_,rfl,?_⟩;have aw:=aw.trans ak;refine⟨aw,?_⟩;refine yp (XL rfl rfl rfl (EO _ _ _) zz) (yD rfl (XM CF rfl rfl ((Dt _ ((V).getD (0) 0) 22 (by decide)).mono ?_)));rintro e b7 ⟨rfl,ax⟩;refine⟨_,rfl,?_⟩;have hb36l:=eb ((aj.trans ak).trans ax) hb36l;refine ys (XL rfl rfl rfl (EO _ _ _) zz) (gS (XX (i:=0) AQ AH c rfl (by omega) (gS (XJ AF rfl rfl (cellAt hb36l (A9 (i:=0) (by rw[hvl];omega))) (gS (XX (i:=1) AQ AH c rfl (by omega) (gS (XJ AF rfl rfl (cellAt hb36l (A9 (i:=1) (by rw[hvl];omega))) (gS (XL rfl rfl rfl (J4 _ _ _) (gS (XX (i:=0) AQ AH c rfl (by omega) (gS (XJ AF rfl rfl (cellAt hb36l (A9 (i:=0) (by rw[hvl];omega))) (gS (XX (i:=2) AQ AH c rfl (by omega) (gS (XJ AF rfl rfl (cellAt hb36l (A9 (i:=2) (by rw[hvl];omega))) (gS (XL rfl rfl rfl (J4 _ _ _) (gS (XL rfl rfl rfl (EO _ _ _) (gS (XX (i:=1) AQ AH c rfl (by omega) (gS (XJ AF rfl rfl (cellAt hb36l (A9 (i:=1) (by rw[hvl];omega))) (gS (XX (i:=2) AQ AH c rfl (by omega) (gS (XJ AF rfl rfl (cellAt hb36l (A9 (i:=2) (by rw[hvl];omega))) ?_))))))))))))))))))))))))))))));refine gS (XL rfl rfl rfl (J4 _ _ _) (gS (XL rfl rfl rfl (EO _ _ _) (gS (XL rfl rfl rfl (EN _ _ _) (gS (XL rfl rfl rfl (EN _ _ _) (gS (XX (i:=0) AQ AH c rfl (by omega) (gS (XJ AF rfl rfl (cellAt hb36l (A9 (i:=0) (by rw[hvl];omega))) (gS (XX (i:=1) AQ AH c rfl (by omega) (gS (XJ AF rfl rfl (cellAt hb36l (A9 (i:=1) (by rw[hvl];omega))) (gS (XX (i:=2) AQ AH c rfl (by omega) (gS (XJ AF rfl rfl (cellAt hb36l (A9 (i:=2) (by rw[hvl];omega))) (gS (XX (i:=3) AQ AH c rfl (by omega) (gS (XJ AF rfl rfl (cellAt hb36l (A9 (i:=3) (by rw[hvl];omega))) (gS (XL rfl rfl rfl (EN _ _ _) (gS (XX (i:=4) AQ AH c rfl (by omega) (gS (XJ AF rfl rfl (cellAt hb36l (A9 (i:=4) (by rw[hvl];omega))) (gS (XX (i:=5) AQ AH c rfl (by omega) ?_)))))))))))))))))))))))))))))));refine gS (XJ AF rfl rfl (cellAt hb36l (A9 (i:=5) (by rw[hvl];omega))) (gS (XX (i:=6) AQ AH c rfl (by omega) (gS (XJ AF rfl rfl (cellAt hb36l (A9 (i:=6) (by rw[hvl];omega))) (gS (Aag (vr (U ((((((((V).getD (7) 0)+(((Sha.rotr ((V).getD (4) 0) 6)^^^(Sha.rotr ((V).getD (4) 0) 11))^^^(Sha.rotr ((V).getD (4) 0) 25)))+((((V).getD (4) 0)&&&((V).getD (5) 0))^^^((~~~((V).getD (4) 0))&&&((V).getD (6) 0))))+(Sha.words.getD (t) 0))+((Sha.sched b 64).getD (t) 0))+(((Sha.rotr ((V).getD (0) 0) 2)^^^(Sha.rotr ((V).getD (0) 0) 13))^^^(Sha.rotr ((V).getD (0) 0) 22)))+(((((V).getD (0) 0)&&&((V).getD (1) 0))^^^(((V).getD (0) 0)&&&((V).getD (2) 0)))^^^(((V).getD (1) 0)&&&((V).getD (2) 0))))) rfl) (vr (U ((V).getD (0) 0)) rfl) (vr (U ((V).getD (1) 0)) rfl) (vr (U ((V).getD (2) 0)) rfl) (vr (U (((V).getD (3) 0)+((((((V).getD (7) 0)+(((Sha.rotr ((V).getD (4) 0) 6)^^^(Sha.rotr ((V).getD (4) 0) 11))^^^(Sha.rotr ((V).getD (4) 0) 25)))+((((V).getD (4) 0)&&&((V).getD (5) 0))^^^((~~~((V).getD (4) 0))&&&((V).getD (6) 0))))+(Sha.words.getD (t) 0))+((Sha.sched b 64).getD (t) 0)))) rfl) (vr (U ((V).getD (4) 0)) rfl) (vr (U ((V).getD (5) 0)) rfl) (vr (U ((V).getD (6) 0)) rfl) (fun w=>Td _ _ _ _ _ _ _ _ w) (gS (XN c (vr (.agg ((Sha.round V (Sha.words.getD (t) 0) ((Sha.sched b 64).getD (t) 0)).map fun x=>U x).toArray) rfl) hb36l (by rw[Abe,Abe,Abh,Abh,hvl];rfl) (DM) (ET _) fun b8 a6 aa b9=> ?_)))))))));clear hb36l;have hb36l:=a6;clear a6;have ca:=bl hb36l;have hZ2:=(((hZ1.trans av).trans aj).trans ak).trans ax;have h:=eb hZ2 h;have h:=kb aa h (by omega);have f:=f.trans hZ2;have f:=Ab f aa (AaV ao (by omega));have j:=eb hZ2 j;have j:=kb aa j (by omega);have g:=g.trans hZ2;have g:=Ab g aa (AaV (AaX _) (by omega));have hE:=hE.trans (((av.trans aj).trans ak).trans ax);have hE:=Ab hE aa (AaV an (by omega));refine gS (XL (xv:=NI t) (yv:=NI 1) n rfl rfl (Ai _ _ _ (by omega)) (gK (Aby ⟨t+1,T0,T1,y,o,c,z,rfl,hE,h,f,j,g,AV hb36l (congrArg (Adw fun x=>U x) (by rw[hV];rfl)),by omega,trivial⟩ ?_)));show 64-(intOf (NI ((t)+(1)))).toNat<64-(intOf (be 17)).toNat;rw[q17];simp only[intOf,Aba];omega
 obtain⟨T,hT⟩:∃T,T=Sha.turned s (Sha.sched b 64) 64:=⟨_,rfl⟩;have hTl:T.length=8:=by rw[hT,Sha.turned_length _ _ hs]
 have hb36l:a2.heap[k]? =some (.cells ((T).map fun x=>U x).toArray 182 (0,0)):=AV hb36l (by rw[hV,show t=64 by omega,←hT]);refine gL (fun(ρ:Ad) (wz:AaS)=>∃i:Nat,ρ 0=(.agg ((s).map fun x=>U x).toArray:AaR)∧ρ 1=(v:AaR)∧ρ 2=(PQ r 0:AaR)∧ρ 4=(PQ u 0:AaR)∧ρ 5=(PQ k 0:AaR)∧ρ 16=(.agg ((Sha.sched b 64).map fun x=>U x).toArray:AaR)∧ρ 17=(NI t:AaR)∧ρ 107=(NI i:AaR)∧Ext w wz∧wz.heap[r]? =some (.cells ((s).map fun x=>U x).toArray 182 (0,0))∧Ext w3 wz∧wz.heap[u]? =some (.cells ((Aa4 8 0).map fun x=>U x).toArray 182 (0,0))∧Ext ad wz∧wz.heap[k]? =some (.cells ((Yd T s i).map fun x=>U x).toArray 182 (0,0))∧(i≤8)∧True) (fun ρ _=>8-(intOf (ρ 107)).toNat) ⟨0,T0,T1,y,o,c,z,n,rfl,hE,h,f,j,g,AV hb36l (rfl),Abs _,trivial⟩ ?_;clear hb36l;clear hE h f j g;rintro bk bm ⟨i,T0,T1,y,o,c,z,n,p,hE,h,f,j,g,hb36ll,hi,-⟩;have q107:=p;have hal:(Yd T s i).length=8:=by rw[Yq,hTl]
 refine gS (XK (a:=(i:Nat)) (b:=(8:Nat)) p rfl (AL _ _ _ _) ?_);refine cD rfl (fun a7=> ?_) fun a7=> ?_
 ·refine CC [0,1,2,3,4,5,6,7,8] [8] [] fun cb q=> ?_;have h:=eb q h;have hb36ll:=eb q hb36ll;refine ys (XX (i:=i) AQ AH c p (by omega) zz) (ys (XJ AF rfl rfl (cellAt hb36ll (A9 (i:=i) (by rw[hal];omega))) zz) (ys (XX (i:=i) AQ AH y p (by omega) zz) (ys (XJ AF rfl rfl (cellAt h (A9 (i:=i) (by rw[hs];omega))) zz) (ys (XL rfl rfl rfl (EN _ _ _) zz) (ys (XX (i:=i) AQ AH c p (by omega) zz) (yC (YW (i:=i) (v:=((Yd T s i).getD (i) 0)+((s).getD (i) 0)) rfl rfl hb36ll (by rw[hal];omega) GK fun bn a8 ab cc=> ?_)))))));clear hb36ll;have hb36ll:=a8;clear a8;have cd:=bl hb36ll;have hb36ll:bn.heap[k]? =some (.cells ((Yd T s (i+1)).map fun x=>U x).toArray 182 (0,0)):=AV hb36ll (rfl);have hE:=hE.trans q;have hE:=Ab hE ab (AaV an (by omega));have f:=f.trans q;have f:=Ab f ab (AaV ao (by omega));have j:=eb q j;have j:=kb ab j (by omega);have g:=g.trans q;have g:=Ab g ab (AaV (AaX _) (by omega));have h:=kb ab h (by omega);refine gS (XL (xv:=NI i) (yv:=NI 1) p rfl rfl (Ai _ _ _ (by omega)) (gK (Aby ⟨i+1,T0,T1,y,o,c,z,n,rfl,hE,h,f,j,g,AV hb36ll (rfl),by omega,trivial⟩ ?_)));show 8-(intOf (NI ((i)+(1)))).toNat<8-(intOf (bk 107)).toNat;rw[q107];simp only[intOf,Aba];omega
 obtain⟨Q,hQ⟩:∃Q,Q=Sha.rounds s b:=⟨_,rfl⟩;have hAl:Q.length=8:=by rw[hQ,Sha.rounds_length _ _ hs]
 have hb36ll:bm.heap[k]? =some (.cells ((Q).map fun x=>U x).toArray 182 (0,0)):=AV hb36ll (congrArg (Adw fun x=>U x) ((Zm hs hTl hi a7).trans (by rw[hQ,hT];rfl)));refine gS (XO c hb36ll AQ rfl (by rw[Abe,Abh,hAl];exact DM) (gS (XN o (vr (.agg ((Q).map fun x=>U x).toArray) rfl) j (by rw[Abe,Abe,Abh,Abh,hAl];rfl) (by rw[Abe,Abh,hAl];exact DM) (ET _) fun ce a9 bo cf=> ?_)));clear g;clear j;have j:=a9;clear a9;have cg:=bl j;refine Lx rfl (ResF.row o j AQ rfl (by rw[Abe,Abh,hAl];exact DM)) ?_;rw[hQ];have hE:=Ab hE bo (AaV bc (by omega));exact⟨rfl,hE⟩
namespace Sha
theorem blocks_snoc:∀(k:Nat) (s:List UInt32) (b:List UInt8),blocks s b (k+1)=rounds (blocks s b k) ((b.drop (64*k)).take 64)
  | 0,s,b=>by simp[blocks]
  | k+1,s,b=>by
    rw[blocks,blocks_snoc k,blocks,Agi];rw[show 64+64*k=64*(k+1) by omega]
theorem blocks_append:∀(k:Nat) (s:List UInt32) (b c:List UInt8),64*k≤b.length→blocks s (b++c) k=blocks s b k
  | 0,_,_,_,_=>rfl
  | k+1,s,b,c,h=>by
    rw[blocks,blocks,Ad5 (by omega),Adg (by omega),blocks_append k _ _ _ (by rw[Abf];omega)]
structure At (p : List UInt8) (s : List UInt32) (r : List UInt8) : Prop where
  state:s=blocks first p (p.length/64)
  len:r.length=64
  rest:r.take (p.length%64)=p.drop (64*(p.length/64))
theorem At.slen{p:List UInt8}{s:List UInt32}{r:List UInt8}(h:At p s r):s.length=8:=by rw[h.state];exact blocks_length _ _ _ rfl
theorem At.put{p:List UInt8}{s:List UInt32}{r:List UInt8}(h:At p s r)(x:List UInt8)(hx:p.length%64+x.length<64):
    At (p++x) s (r.take (p.length%64)++x++r.drop (p.length%64+x.length)):=by
  have hl:(p++x).length=p.length+x.length:=AaY;have hd:(p++x).length/64=p.length/64:=by rw[hl];omega
  have hm:(p++x).length%64=p.length%64+x.length:=by rw[hl];omega
  have hr:=h.len;refine⟨?_,?_,?_⟩
  · rw[hd,blocks_append _ _ _ _ (by omega)];exact h.state
  · simp only[AaY,Abg,Abf];omega
  · have e:(r.take (p.length%64)++x).length=p.length%64+x.length:=by rw[AaY,Abg];omega
    rw[hm,hd,Ad5 (by omega),AbK (by omega),h.rest,Adg (by omega)]
theorem At.fill{p:List UInt8}{s:List UInt32}{r:List UInt8}(h:At p s r)(x:List UInt8)(hx:p.length%64+x.length=64):
    At (p++x) (rounds s (r.take (p.length%64)++x)) (r.take (p.length%64)++x):=by
  have hl:(p++x).length=p.length+x.length:=AaY;have hd:(p++x).length/64=p.length/64+1:=by rw[hl];omega
  have hm:(p++x).length%64=0:=by rw[hl];omega
  have hr:=h.len;have e:(r.take (p.length%64)++x).length=64:=by rw[AaY,Abg];omega
  refine⟨?_,e,?_⟩
  · rw[hd,blocks_snoc,blocks_append _ _ _ _ (by omega),←h.state,Adg (by omega),←h.rest];exact congrArg _ (AbK (Nat.le_of_eq e)).symm
  · rw[hm,hd,List.take_zero,Ab4 (by omega)]
theorem at_nil:At [] first (Aa4 64 0):=⟨rfl,by simp,by simp⟩
end Sha
section
variable {P : Abo}
theorem ZA{K:AaR→AaS→Prop}{ρ:Tmp→AaR}{t e:AaZ}{n:Nat}(ht:P.underlying t=some (.array n e))(he:∀w' :AaS,(sizeOf e).run P w' = .ok 1 w'){x lo:Aa5}{d:Option Tmp}{ty:AaZ}{pos:String}{af:Array AbP}{gd:Option (Nat × Bool)}{w:AaS}{b o i:Nat}{k:AbU} 
    (hx:Aa ρ x = .pointer (some ⟨b,o,none⟩)) (hl:Aa ρ lo = .int k (i:Int)) (hi:i<n) (hk:K (.slice (some ⟨b,o+i,none⟩) (n-i) (n-i)) w):Yk P K ((execOp (Aa ρ) ⟨d, .slice t x (some lo) none none,ty,pos,af,gd⟩).run P w):=by
  refine Yk.value (v:= .slice (some ⟨b,o+i,none⟩) (n-i) (n-i)) (w' :=w) ?_ hk;have hE:P.elem t=e:=by simp[Ad7,ht]
  have hN:P.arrayLen t=n:=by simp[AfN,ht]
  have hr:=run_sliceAt_array_l (P:=P) (w:=w) (t:=t) (a:=⟨b,o,none⟩) (by rw[hE,hN];exact ht) k (i:Int) (by omega) (by rw[hN];omega);rw[hE,he,hN]at hr;unfold execOp;simp only[hx,hl,Aca,AcI,Aa7,hr,Aa3,Abb];have:n≠i:=by omega
  simp[slicedAt,this,Ack]
theorem OY{w:AaS}{b:Nat}{l:List AaR}{t:AaZ}{fr:Nat × Nat}(h:w.heap[b]? =some (.cells l.toArray t fr)){i:Nat}{v:AaR}(hi:l[i]? =some v):w.cell? ⟨b,i,none⟩=some v:=by
  simp[Ade,h,hi]
end
def hashL(s:List UInt32)(r:List UInt8)(f n:Nat):List AaR:=(s.map fun x=>U x)++(AaT r++ [NI f,NI n])
theorem Cr{s:List UInt32}{r:List UInt8}{f n:Nat}(hs:s.length=8)(hr:r.length=64):(hashL s r f n).length=74:=by
  simp[hashL,AaT,hs,hr]
theorem Hk{s:List UInt32}{r:List UInt8}{f n:Nat}(hs:s.length=8)(hr:r.length=64):(hashL s r f n)[72]? =some (NI f):=by
  unfold hashL;rw[AbH (by simp[hs]),AbH (by simp[AaT,hs,hr])];simp[AaT,hs,hr]
theorem hashL_size{s:List UInt32}{r:List UInt8}{f n:Nat}(hs:s.length=8)(hr:r.length=64):(hashL s r f n)[73]? =some (NI n):=by
  unfold hashL;rw[AbH (by simp[hs]),AbH (by simp[AaT,hs,hr])];simp[AaT,hs,hr]
theorem HT{s:List UInt32}{r:List UInt8}{f n g:Nat}(hs:s.length=8)(hr:r.length=64):(hashL s r f n).set 72 (NI g)=hashL s r g n:=by
  unfold hashL;rw[Acg _ _ (by simp[hs]),Acg _ _ (by simp[AaT,hs,hr])];simp[AaT,hs,hr]
theorem HU{s:List UInt32}{r:List UInt8}{f n g:Nat}(hs:s.length=8)(hr:r.length=64):(hashL s r f n).set 73 (NI g)=hashL s r f g:=by
  unfold hashL;rw[Acg _ _ (by simp[hs]),Acg _ _ (by simp[AaT,hs,hr])];simp[AaT,hs,hr]
theorem PN{s:List UInt32}{r x:List UInt8}{f n at_:Nat}(hs:s.length=8)(hr:r.length=64)(hx:at_+x.length≤64):
    (hashL s r f n).take (8+at_)++AaT x++(hashL s r f n).drop (8+at_+x.length)=hashL s (r.take at_++x++r.drop (at_+x.length)) f n:=by
  unfold hashL;have h8:(s.map fun x=>U x).length=8:=by simp[hs]
  have hb:(AaT r).length=64:=by simp[AaT,hr]
  rw[AfV,AeX,h8,AbK (by omega),Ab4 (l:=s.map fun x=>U x) (by omega)];rw[show 8+at_-8=at_ by omega,show 8+at_+x.length-8=at_+x.length by omega,AbV];rw[Ad5 (by omega),Adg (by omega)];simp[AaT,Afu,Agx]
theorem Om{s s' :List UInt32}{r:List UInt8}{f n:Nat}(hs:s.length=8):(s'.map fun x=>U x)++(hashL s r f n).drop 8=hashL s' r f n:=by
  unfold hashL;rw[List.drop_left' (by simp[hs])]
theorem Rd{s:List UInt32}{r:List UInt8}{f n:Nat}{j:Nat}{v:AaR}(h:(s.map fun x=>U x)[j]? =some v):(hashL s r f n)[j]? =some v:=by
  unfold hashL;rw[AbN (Abn.1 h).1];exact h
theorem Jg{w:AaS}{g:Nat}{s:List UInt32}{r:List UInt8}{f n:Nat}{t:AaZ}{fr:Nat × Nat}(h:w.heap[g]? =some (.cells (hashL s r f n).toArray t fr)):w.rangeAt g 0 (s.map fun x=>U x):=fun j v hv=>by
  rw[Ab9];exact OY h (Rd hv)
theorem Vj{w:AaS}{g:Nat}{s:List UInt32}{r:List UInt8}{f n:Nat}{t:AaZ}{fr:Nat × Nat}(hs:s.length=8)(hr:r.length=64)(h:w.heap[g]? =some (.cells (hashL s r f n).toArray t fr)):RB w (.slice (some ⟨g,8,none⟩) 64 64) r:=by
  refine⟨by simp[AaT],some ⟨g,8,none⟩,64,by rw[hr],by rw[hr];exact AaX _,by decide,fun e=>by simp at e,fun a ha j v hv=> ?_⟩;cases ha;rw[Ack];refine OY h ?_;unfold hashL;have h8:(s.map fun x=>U x).length=8:=by simp[hs]
  rw[AbH (by omega),h8,show 8+j-8=j by omega,AbN (Abn.1 hv).1];exact hv
theorem Laid.kept{w w' :AaS}(h:Laid w){g:Nat}(hg:w.grownBy w' (some g))(h1:1<g):Laid w' :=
  ⟨by obtain⟨t,fr,h2⟩:=h.first;exact⟨t,fr,(hg.block 0 (Abm.1 h2).1 (by simp;omega)).trans h2⟩,by obtain⟨t,fr,h2⟩:=h.words;exact⟨t,fr,(hg.block 1 (Abm.1 h2).1 (by simp;omega)).trans h2⟩⟩
theorem HV{P:Abo}{w:AaS}:∀(l:List UInt8) (a:Addr) (acc:ByteArray),(∀j u,(AaT l)[j]? =some u→w.cell? (a.add j)=some u)→(AeS a l.length acc).run P w = .ok ⟨acc.data++l.toArray⟩ w
  | [],a,acc,_=>by simp[AeS,Abb]
  | b :: r,a,acc,h=>by
    have h0:=h 0 (B8 b) (by simp[AaT]);have ha:a.add 0=a:=by unfold AcU;split <;> simp_all
    rw[ha]at h0;have ih:=HV (P:=P) (w:=w) r (a.add 1) (acc.push b) (fun j u hj=>by
      rw[F2];refine h (1+j) u ?_;rw[AeD]
      simpa [AaT] using hj)
    have hb:(((b.toNat:Nat):Int)).toNat.toUInt8=b:=by simp
    have hl:(load a).run P w = .ok (B8 b) w:=by simp[load,Ae3,h0]
    simp only[Abp,AeS,Aa7,hl,Aa3];rw[hb,ih];simp
theorem Jh{P:Abo}{w:AaS}{v:AaR}{l:List UInt8}(h:RB w v l):(Aei v).run P w = .ok ⟨l.toArray⟩ w:=by
  obtain⟨h1,ao,cap,rfl,h2,h3,h4,h5⟩:=h;cases ao with
  | none=>
    have:l= []:=AbC (h4 rfl).1;subst this;rfl
  | some a=>
    have:=HV (P:=P) (w:=w) l a .empty (h5 a rfl)
    simpa [Aei] using this
theorem Mq{P:Abo}{w:AaS}{x y:AaR}{l m:List UInt8}(hx:RB w x l)(hy:RB w y m):(Afd #[x,y]).run P w = .ok (.int .i64 (Abl l m)) w:=by
  change Ae3 P (do pure (goInt (Extern.BytealgCompare.cmp (←Aei x) (←Aei y)))) w=_;simp only[Aa7,Jh hx,Jh hy,Abb,Aa3];rw[Lib.cmp_eq];rfl
section
variable {P : Abo} {K : AaR → AaS → Prop} {ρ : Ad} {w : AaS} {d : Option Tmp} {ty : AaZ} {pos : String} {af : Array AbP} {gd : Option (Nat × Bool)}
theorem ZX{f:AcF}{at_:Array AaZ}{x y:Aa5}{a b v:AaR}(hx:Aa ρ x=a)(hy:Aa ρ y=b)(hr:(callFunc f #[a,b]).run P w = .ok (.value v) w)(hk:K v w):Yk P K ((execOp (Aa ρ) ⟨d, .call ⟨.value (.func f),#[x,y],at_⟩,ty,pos,af,gd⟩).run P w):=by
  refine Yk.value (v:=v) (w' :=w) ?_ hk;have hf:Aa ρ (.func f) = .func (.func f) #[] #[]:=rfl;unfold execOp;simp[resolve,hf,AdG,invoke,hx,hy,hr]
theorem AaF{t e:AaZ}(hr:∀(z0 z1 z2 z3:Int) (w:AaS),(Abz t 4 #[(0, .int .u8 z0),(1, .int .u8 z1),(2, .int .u8 z2),(3, .int .u8 z3)]).run P w = .ok (.slice (some ⟨w.heap.size,0,none⟩) 4 4) (w.alloc (.cells #[.int .u8 z0, .int .u8 z1, .int .u8 z2, .int .u8 z3] e))) 
    {x0 x1 x2 x3:Aa5} {b0 b1 b2 b3:UInt8} (h0:Aa ρ x0=B8 b0) (h1:Aa ρ x1=B8 b1) (h2:Aa ρ x2=B8 b2) (h3:Aa ρ x3=B8 b3)
    (hk:∀v w',NewB e w w' v [b0,b1,b2,b3]→K v w'):Yk P K ((execOp (Aa ρ) ⟨d, .buildSlice t 4 #[(0,x0),(1,x1),(2,x2),(3,x3)],ty,pos,af,gd⟩).run P w):=by
  have hr' :(execOp (Aa ρ) ⟨d, .buildSlice t 4 #[(0,x0),(1,x1),(2,x2),(3,x3)],ty,pos,af,gd⟩).run P w = .ok (.value (.slice (some ⟨w.heap.size,0,none⟩) 4 4)) (w.alloc (.cells (AaT [b0,b1,b2,b3]).toArray e)):=by
    unfold execOp;simp only[Abx,Abv,AbG,h0,h1,h2,h3,Aa7,hr,Aa3,Abb];rfl
  rw[hr'];exact hk _ _ (Hf w e [b0,b1,b2,b3] (by simp))
theorem Bv{x y:List UInt8}(hx:x.length=32)(hy:y.length=32):(AaT x).toArray.size=(AaT y).toArray.size:=by simp[AaT,hx,hy]
theorem AC{x:List UInt8}(h:(AaT x).length=32):x.length=32:=by rwa [Aa8]at h
theorem Aas{g:Nat}{l:List UInt8}{t:AaZ}{fr:Nat × Nat}(h:w.heap[g]? =some (.cells (AaT l).toArray t fr))(hl:l.length≤9223372036854775807):RB w (.slice (some ⟨g,0,none⟩) l.length l.length) l:=
  ⟨by simp[AaT],_,_,rfl,AaX _,by unfold maxLen;omega,(fun h=>by cases h),fun a ha j u hu=>by
    cases ha;rw[Ack,Ab9];exact cellAt h hu⟩
theorem YF{g n:Nat}{l:List UInt8}{t:AaZ}{fr:Nat × Nat}(h:w.heap[g]? =some (.cells (AaT l).toArray t fr))(hn:l.length=n)(hl:n≤9223372036854775807):RB w (.slice (some ⟨g,0,none⟩) n n) l:=by
  subst hn;exact Aas h hl
end
/-! ### The order of rows of bytes -/
theorem M0:∀a:List UInt8,Abl a a=0
  | []=>rfl
  | x :: a=>by simp[Abl,UInt8.lt_irrefl,M0 a]
theorem Re:∀a b:List UInt8,Abl a b = -1∨Abl a b=0∨Abl a b=1
  | [],[]=> .inr (.inl rfl)
  | [],_ :: _=> .inl rfl
  | _ :: _,[]=> .inr (.inr rfl)
  | x :: a,y :: b=>by
    unfold Abl;split
    · exact .inl rfl
    · split
      · exact .inr (.inr rfl)
      · exact Re a b
theorem Hl:∀ {a b:List UInt8},Abl a b=0→a=b
  | [],[],_=>rfl
  | [],_ :: _,h=>by simp[Abl]at h
  | _ :: _,[],h=>by simp[Abl]at h
  | x :: a,y :: b,h=>by
    unfold Abl at h;split at h
    · cases h
    · split at h
      · cases h
      · rename_i h1 h2
        have hxy:x=y:=AfC (AeF.1 h2) (AeF.1 h1);rw[hxy,Hl h]
theorem GZ:∀a b:List UInt8,Abl a b = - Abl b a
  | [],[]=>rfl
  | [],_ :: _=>rfl
  | _ :: _,[]=>rfl
  | x :: a,y :: b=>by
    unfold Abl;by_cases h1:x<y
    · rw[if_pos h1,if_neg (UInt8.lt_asymm h1),if_pos h1]
    · by_cases h2:y<x
      · rw[if_neg h1,if_pos h2,if_pos h2];rfl
      · rw[if_neg h1,if_neg h2,if_neg h2,if_neg h1];exact GZ a b
theorem Gq:∀ {a b c:List UInt8},Abl a b≤0→Abl b c≤0→Abl a c≤0
  | [],_,[],_,_=>by simp[Abl]
  | [],_,_ :: _,_,_=>by simp[Abl]
  | _ :: _,[],_,h,_=>by simp[Abl]at h
  | _ :: _,_ :: _,[],_,h=>by simp[Abl]at h
  | x :: a,y :: b,z :: c,h1,h2=>by
    unfold Abl at h1 h2 ⊢;by_cases xy:x<y
    · by_cases yz:y<z
      · rw[if_pos (UInt8.lt_trans xy yz)];decide
      · by_cases zy:z<y
        · rw[if_neg yz,if_pos zy]at h2;exact absurd h2 (by decide)
        · have:y=z:=AfC (AeF.1 zy) (AeF.1 yz);rw[←this,if_pos xy];decide
    · by_cases yx:y<x
      · rw[if_neg xy,if_pos yx]at h1;exact absurd h1 (by decide)
      · have e:x=y:=AfC (AeF.1 yx) (AeF.1 xy);subst e;rw[if_neg xy,if_neg xy]at h1;by_cases xz:x<z
        · rw[if_pos xz];decide
        · by_cases zx:z<x
          · rw[if_neg xz,if_pos zx]at h2;exact absurd h2 (by decide)
          · rw[if_neg xz,if_neg zx]at h2 ⊢;exact Gq h1 h2
def C1(l:List (List UInt8)):Prop:=l.Pairwise fun a b=>Abl a b≤0
theorem M1:∀ {l m:List (List UInt8)},C1 l→C1 m→l.Perm m→l=m
  | [],m,_,_,h=>(List.nil_perm.1 h).symm
  | l,[],_,_,h=>List.perm_nil.1 h
  | a :: l,b :: m,h1,h2,h=>by
    have ha:=AbY.1 h1;have hb:=AbY.1 h2;have e:a=b:=by
      have m1:a∈b :: m:=h.subset (by simp);have m2:b∈a :: l:=h.symm.subset (by simp);rcases AbF.1 m1 with e | m1
      · exact e
      · rcases AbF.1 m2 with e | m2
        · exact e.symm
        · have k1:=hb.1 a m1;have k2:=ha.1 b m2;have k3:=GZ a b;exact Hl (by omega)
    subst e;rw[M1 ha.2 hb.2 (List.Perm.cons_inv h)]
def JA(x:List UInt8):List (List UInt8)→List (List UInt8)
  | []=> [x]
  | a :: r=>if Abl x a≤0 then x :: a :: r else a :: JA x r
def AJ:List (List UInt8)→List (List UInt8)
  | []=> []
  | a :: r=>JA a (AJ r)
theorem If(x:List UInt8):∀l,(JA x l).Perm (x :: l)
  | []=>Afm _
  | a :: r=>by
    unfold JA;split
    · exact Afm _
    · exact((If x r).cons a).trans (List.Perm.swap x a r)
theorem sortB_perm:∀l,(AJ l).Perm l
  | []=>Afm _
  | a :: r=>(If a _).trans ((sortB_perm r).cons a)
theorem M2(x:List UInt8):∀l,C1 l→C1 (JA x l)
  | [],_=>by simp[JA,C1]
  | a :: r,h=>by
    have hr:=AbY.1 h;unfold JA;split
    · rename_i hx
      refine AbY.2 ⟨fun c hc=> ?_,h⟩;rcases AbF.1 hc with rfl | hc
      · exact hx
      · exact Gq hx (hr.1 c hc)
    · rename_i hx
      refine AbY.2 ⟨fun c hc=> ?_,M2 x r hr.2⟩;rcases AbF.1 ((If x r).subset hc)with rfl | hc
      · have:=GZ c a;omega
      · exact hr.1 c hc
theorem Gr:∀l,C1 (AJ l)
  | []=>AcQ
  | a :: r=>M2 a _ (Gr r)
theorem Gs(l:List (List UInt8)):(AJ l).length=l.length:=(sortB_perm l).length_eq
theorem Rf{l m:List (List UInt8)}(h:C1 m)(hp:m.Perm l):m=AJ l:=M1 h (Gr l) (hp.trans (sortB_perm l).symm)
abbrev Bs:=List UInt8
def A3(n:Nat):Bs:= [AbQ (n/2^24),AbQ (n/2^16),AbQ (n/2^8),AbQ n]
def DX(b:Bs):Nat:=(b.getD 0 0).toNat*2^24+(b.getD 1 0).toNat*2^16+(b.getD 2 0).toNat*2^8+(b.getD 3 0).toNat
theorem Gt(n:Nat):(A3 n).length=4:=rfl
theorem XF(a b c d:Nat)(hb:b<256)(hc:c<256)(hd:d<256):a*2^24|||b*2^16|||c*2^8|||d=a*2^24+b*2^16+c*2^8+d:=by
  have e:a*2^24|||b*2^16=(a*2^8+b)*2^16:=by
    have:=J9 a (b*2^16) 24 (by omega);rw[this];omega
  have f:(a*2^8+b)*2^16|||c*2^8=((a*2^8+b)*2^8+c)*2^8:=by
    have:=J9 (a*2^8+b) (c*2^8) 16 (by omega);rw[this];omega
  rw[e,f,J9 _ d 8 (by omega)];omega
theorem Hm(n:Nat)(h:n<2^32)(r:Bs):DX (A3 n++r)=n:=by
  unfold DX A3;simp;omega
def G0(id:Bs):Nat:=(id.getD 0 0).toNat
theorem Wy(id:Bs):G0 id<256:=(id.getD 0 0).toNat_lt
def A8(ids:List Bs):List Nat:=(Ab6 256).map fun c=>ids.countP fun id=>decide (G0 id≤c)
def B3(ids:List Bs):List Nat:=(Ab6 256).map fun c=>ids.countP fun id=>decide (G0 id=c)
theorem BQ(ids:List Bs):(A8 ids).length=256:=by simp[A8]
theorem Cs(ids:List Bs):(B3 ids).length=256:=by simp[B3]
theorem FN(ids:List Bs)(c:Nat)(h:c<256):(B3 ids).getD c 0=ids.countP fun id=>decide (G0 id=c):=by
  rw[AaW];simp[B3,h]
theorem Hn(ids:List Bs)(c:Nat)(h:c<256):(A8 ids).getD c 0=ids.countP fun id=>decide (G0 id≤c):=by
  rw[AaW];simp[A8,h]
theorem IZ(ids:List Bs)(c:Nat):(A8 ids).getD c 0≤ids.length:=by
  by_cases h:c<256
  · rw[Hn _ _ h];exact Agj
  · rw[AaW,Ab3 (by rw[BQ];omega)];simp
theorem Oo(ids:List Bs)(id:Bs):B3 (ids++ [id])=(B3 ids).set (G0 id) ((B3 ids).getD (G0 id) 0+1):=by
  have hb:=Wy id
  apply List.ext_getElem?
  intro c;by_cases hc:c<256
  · rw[Aa2 (by rw[Cs];exact hc),Aa2 (by rw[Acv,Cs];exact hc)]
    congr 1
    rw[AfT];have g:∀(l:List Bs) (h:c<(B3 l).length),(B3 l)[c]=l.countP fun id=>decide (G0 id=c):=fun l h=>by simp[B3]
    rw[g];split
    · rename_i he
      rw[he,FN _ _ hc,List.countP_append];simp[he]
    · rename_i he
      rw[g,List.countP_append];simp[he]
  · rw[Ab3 (by rw[Cs];omega),Ab3 (by rw[Acv,Cs];omega)]
def BF(ids:List Bs)(k:Nat):List Nat:=(A8 ids).take k++(B3 ids).drop k
theorem Fi(ids:List Bs)(k:Nat)(h:k≤256):(BF ids k).length=256:=by
  unfold BF;rw[AaY,Abg,Abf,BQ,Cs];omega
theorem Rg(ids:List Bs):(A8 ids).getD 0 0=(B3 ids).getD 0 0:=by
  rw[Hn _ _ (by omega),FN _ _ (by omega)]
  congr 1
  funext id
  simp
theorem fanStep_one(ids:List Bs):BF ids 1=B3 ids:=by
  have h:=Rg ids;have h1:=BQ ids;have h2:=Cs ids;unfold BF
  match hA:A8 ids,hB:B3 ids with
  | [],_=>rw[hA]at h1;simp at h1
  | _ :: _,[]=>rw[hB]at h2;simp at h2
  | a :: A,b :: B=>
    rw[hA,hB]at h;simp at h;simp[h]
theorem Rh(ids:List Bs)(c:Nat)(h:c+1<256):(A8 ids).getD (c+1) 0=(B3 ids).getD (c+1) 0+(A8 ids).getD c 0:=by
  rw[Hn _ _ h,FN _ _ h,Hn _ _ (by omega)]
  induction ids with
  | nil=>rfl
  | cons a r ih=>
    simp only[List.countP_cons,ih];by_cases h1:G0 a≤c
    · simp[h1,show G0 a≤c+1 by omega,show G0 a≠c+1 by omega];omega
    · by_cases h2:G0 a=c+1
      · simp[h2,show ¬c+1≤c by omega];omega
      · simp[h1,h2,show ¬G0 a≤c+1 by omega]
theorem Ig(ids:List Bs)(k:Nat)(h0:0<k)(h:k<256):BF ids (k+1)=(BF ids k).set k ((BF ids k).getD k 0+(BF ids k).getD (k-1) 0):=by
  have g1:(BF ids k).getD k 0=(B3 ids).getD k 0:=by
    unfold BF;rw[AaW,AbH (by rw[Abg,BQ];omega),Abg,BQ,Aew,show k+(k-min k 256)=k by omega,←AaW]
  have g2:(BF ids k).getD (k-1) 0=(A8 ids).getD (k-1) 0:=by
    unfold BF;rw[AaW,AbN (by rw[Abg,BQ];omega),AcV,if_pos (by omega),←AaW]
  have g3:=Rh ids (k-1) (by omega);rw[show k-1+1=k by omega]at g3;rw[g1,g2,←g3];unfold BF;rw[Acg _ _ (by rw[Abg,BQ];omega),Abg,BQ,show k-min k 256=0 by omega,Abu (by rw[BQ];exact h),Abr]
  congr 1
  rw[Ab8 (l:=B3 ids) (i:=k) (by rw[Cs];exact h)];simp only[AeE,Ad9,Ae6,and_true];rw[AaW,Aa2 (by rw[BQ];exact h)];rfl
theorem Oq(ids:List Bs):BF ids 256=A8 ids:=by
  unfold BF;rw[AbK (by rw[BQ];omega),Ab4 (by rw[Cs];omega),AcK]
theorem Ri{w w0 w' :AaS}{e:AaZ}{v:AaR}{l:List UInt8}(h:w'.ownsRow w0.heap.size e 1 v l.length (AaT l))(hb:w.heap.size≤w0.heap.size):w'.ownsRow w.heap.size e 1 v l.length (AaT l):=BH h hb
theorem Rl(z0 z1 z2 z3:Int)(w:AaS):(Abz 27 4 #[(0, .int .u8 z0),(1, .int .u8 z1),(2, .int .u8 z2),(3, .int .u8 z3)]).run AaU w = .ok (.slice (some ⟨w.heap.size,0,none⟩) 4 4) (w.alloc (.cells #[.int .u8 z0, .int .u8 z1, .int .u8 z2, .int .u8 z3] 5)):=by kernel_rfl
theorem Rm(z:Int)(w:AaS):(Abz 27 1 #[(0, .int .u8 z)]).run AaU w = .ok (.slice (some ⟨w.heap.size,0,none⟩) 1 1) (w.alloc (.cells #[.int .u8 z] 5)):=by kernel_rfl
theorem Rn:Plain AaU 177:=fun _ _=>by kernel_rfl
theorem JB(w0 w:AaS)(hE:Ext w0 w)(v:AaR)(l:List UInt8)(n:Nat)(hn:n<9223372036854775808)(hl:l.length+4≤140737488355328)(hown:w.ownsRow w0.heap.size 5 1 v l.length (AaT l)):
  Calls AaU 146 #[v,NI n] w fun e w' =>∃v',e = .returned v' ∧w'.ownsRow w0.heap.size 5 1 v' (l++A3 n).length (AaT (l++A3 n))∧Grew w w' v v' :=by
 refine gG (args:= [v,NI n]) Tryz.func146 rfl 19 rfl rfl (gS (XL (xv:=NI n) (yv:= .int .u64 ((24:Nat):Int)) rfl rfl rfl (K0 _ _ _ _ (by omega)) (gS (Yn Tc u5 rfl (GX ((n)/2^(24))) (gS (XL (xv:=NI n) (yv:= .int .u64 ((16:Nat):Int)) rfl rfl rfl (K0 _ _ _ _ (by omega)) (gS (Yn Tc u5 rfl (GX ((n)/2^(16))) (gS (XL (xv:=NI n) (yv:= .int .u64 ((8:Nat):Int)) rfl rfl rfl (K0 _ _ _ _ (by omega)) (gS (Yn Tc u5 rfl (GX ((n)/2^(8))) (gS (Yn Tc u5 rfl (GX (n)) (gS (AaF (b0:=AbQ ((n)/2^(24))) (b1:=AbQ ((n)/2^(16))) (b2:=AbQ ((n)/2^(8))) (b3:=AbQ (n)) Rl (vr (B8 (AbQ ((n)/2^(24)))) rfl) (vr (B8 (AbQ ((n)/2^(16)))) rfl) (vr (B8 (AbQ ((n)/2^(8)))) rfl) (vr (B8 (AbQ (n))) rfl) fun g i a=> ?_))))))))))))))));have c:=Ext.refl w;have o:=hE.size;have j:Ah v g:=Eh hown a.own;have f:=a.own;have hE:=hE.trans a.ext;have hown:=Stab.own _ _ _ _ _ _ _ _ hown a.ext;refine gS (Ya _ _ w0.heap.size (.int .u8 0) F5 MA rfl F5 (l) (([AbQ ((n)/2^(24)),AbQ ((n)/2^(16)),AbQ ((n)/2^(8)),AbQ (n)]:List UInt8)) (CV hown (vr v rfl)) (XP (X3 f) (vr g rfl)) (by simp;omega) hE.size fun h k m b=> ?_);have c:=c.trans a.ext;have hGr:=Grew.after c b;have b:Grew i k v h:=b;have hE:=Av hE b hown (AaX _);have f:=Dr f b j;clear hown;refine Bn rfl (vr h rfl) ?_;exact⟨_,rfl,Dh m rfl,hGr⟩

theorem DN(w:AaS)(v:AaR)(b:List UInt8)(hr:RB w v b)(hl:4≤b.length):
  Calls AaU 127 #[v] w fun e w' =>e = .returned (NI (DX b))∧Ext w w' :=by
 have c0:(b.getD 0 0).toNat<256:=(b.getD 0 0).toNat_lt;have c1:(b.getD 1 0).toNat<256:=(b.getD 1 0).toNat_lt;have c2:(b.getD 2 0).toNat<256:=(b.getD 2 0).toNat_lt;have c3:(b.getD 3 0).toNat<256:=(b.getD 3 0).toNat_lt;have a:(b.getD 0 0).toNat*2^24<9223372036854775808:=AbL (Aed c0 (by decide)) (by decide);have c:(b.getD 1 0).toNat*2^16<9223372036854775808:=AbL (Aed c1 (by decide)) (by decide);have f:(b.getD 2 0).toNat*2^8<9223372036854775808:=AbL (Aed c2 (by decide)) (by decide);have o:(b.getD 3 0).toNat<9223372036854775808:=by omega
 have g:(b.getD 0 0).toNat*2^24|||(b.getD 1 0).toNat*2^16<9223372036854775808:=AfB (n:=63) a c;have p:(b.getD 0 0).toNat*2^24|||(b.getD 1 0).toNat*2^16|||(b.getD 2 0).toNat*2^8<9223372036854775808:=AfB (n:=63) g f;refine gG (args:= [v]) Tryz.func127 rfl 25 rfl rfl ?_;have hE:=Ext.refl w;refine CC [0,1,2,3,4,5,6,7,8,9,10,11,12,13,14,15,16,17,18,19,20,21,22] [] [] fun r q=> ?_;have hE:=hE.trans q;refine yA (X7 (l:=b) (i:=0) F5 PG (XP (hr.keep hE) rfl) rfl (by omega) fun s h=>(ys (X0 u5 rfl (X6 h rfl) zz) (ys (Yn u5 Tc rfl (J7 .i64 (b.getD (0) 0) (fun n hn=>C4 n (by omega))) zz) (ys (XL (xv:=NI ((b.getD (0) 0).toNat)) (yv:= .int .u64 ((24:Nat):Int)) rfl rfl rfl (IY _ _ _ _ (by omega) (by exact a)) zz) (yA (X7 (l:=b) (i:=1) F5 PG (XP (hr.keep hE) rfl) rfl (by omega) fun t j=>(ys (X0 u5 rfl (X6 j rfl) zz) (ys (Yn u5 Tc rfl (J7 .i64 (b.getD (1) 0) (fun n hn=>C4 n (by omega))) zz) (ys (XL (xv:=NI ((b.getD (1) 0).toNat)) (yv:= .int .u64 ((16:Nat):Int)) rfl rfl rfl (IY _ _ _ _ (by omega) (by exact c)) zz) (ys (XL (xv:=NI (((b.getD (0) 0).toNat)*2^(24))) (yv:=NI (((b.getD (1) 0).toNat)*2^(16))) rfl rfl rfl (J8 _ _ _ (by exact a) (by exact c)) zz) (yA (X7 (l:=b) (i:=2) F5 PG (XP (hr.keep hE) rfl) rfl (by omega) fun u k=>(ys (X0 u5 rfl (X6 k rfl) zz) (ys (Yn u5 Tc rfl (J7 .i64 (b.getD (2) 0) (fun n hn=>C4 n (by omega))) zz) (ys (XL (xv:=NI ((b.getD (2) 0).toNat)) (yv:= .int .u64 ((8:Nat):Int)) rfl rfl rfl (IY _ _ _ _ (by omega) (by exact f)) zz) (ys (XL (xv:=NI ((((b.getD (0) 0).toNat)*2^(24))|||(((b.getD (1) 0).toNat)*2^(16)))) (yv:=NI (((b.getD (2) 0).toNat)*2^(8))) rfl rfl rfl (J8 _ _ _ (by exact g) (by exact f)) zz) (yA (X7 (l:=b) (i:=3) F5 PG (XP (hr.keep hE) rfl) rfl (by omega) fun x m=>(ys (X0 u5 rfl (X6 m rfl) zz) ?_)))))))))))))))))));refine ys (Yn u5 Tc rfl (J7 .i64 (b.getD (3) 0) (fun n hn=>C4 n (by omega))) zz) (ys (XL (xv:=NI (((((b.getD (0) 0).toNat)*2^(24))|||(((b.getD (1) 0).toNat)*2^(16)))|||(((b.getD (2) 0).toNat)*2^(8)))) (yv:=NI ((b.getD (3) 0).toNat)) rfl rfl rfl (J8 _ _ _ (by exact p) (by exact o)) zz) ?_);clear h;clear j;clear k;clear m;refine Bn rfl (vr (NI ((((((b.getD (0) 0).toNat)*2^(24))|||(((b.getD (1) 0).toNat)*2^(16)))|||(((b.getD (2) 0).toNat)*2^(8)))|||((b.getD (3) 0).toNat))) rfl) ?_;exact⟨by rw[show DX b=_ from(XF _ _ _ _ (b.getD 1 0).toNat_lt (b.getD 2 0).toNat_lt (b.getD 3 0).toNat_lt).symm],hE⟩

theorem Ro(w:AaS)(n:Nat)(hn:n≤9223372036854775807):
  Calls AaU 143 #[NI n] w fun e w' =>∃v,e = .returned v∧w'.ownsRow w.heap.size 5 1 v (80 :: Abd n).length (AaT (80 :: Abd n))∧Ext w w' :=by
 refine gG (args:= [NI n]) Tryz.func143 rfl 12 rfl rfl ?_;have hE:=Ext.refl w;refine gS (YR (b:=80) Rm (vr (B8 (80)) rfl) fun g j c=> ?_);have h:=c.own;refine gS (XM Rn rfl rfl ((OW _ g ([(80:UInt8)]) (X3 h) (by simp) n (by omega)).mono ?_));rintro e k ⟨a,rfl,f⟩;refine⟨_,rfl,?_⟩;have hE:=hE.trans c.ext;have l:=hE.size;have i:=f.own;refine gS (Yk.extract (vs:= [a,NI 0]) rfl rfl (gS (Yk.extract (vs:= [a,NI 0]) rfl rfl (Bn rfl (vr a rfl) ?_))));have hE:=hE.trans f.ext;exact⟨_,rfl,Ri i (by omega),hE⟩
section
variable {P : Abo} {K : AaR → AaS → Prop} {ρ : Ad} {w : AaS} {d : Option Tmp} {ty : AaZ} {pos : String} {af : Array AbP} {gd : Option (Nat × Bool)}
variable {α β : Type} {ek : α → AaR} {ev : β → AaR} {D : α → Prop} {b : Nat} {G : α → Option β}
variable {t Kt E : AaZ} {OK : AaR → Prop}
theorem Ze(L:KL P Kt OK)(hD:∀a,D a→OK (ek a))(hi:∀a c,ek a=ek c→a=c)(ht:P.underlying t=some (.map Kt E)){z:AaR}(hz:∀u:AaS,(zeroValue E).run P u = .ok z u){x y:Aa5}{a:α} 
    (hm:Aa ρ x = .map (some b)) (hy:Aa ρ y=ek a) (h:MapF ek ev D w b G) (ha:D a) (hk:K ((G a).elim z ev) w):
    Yk P K ((execOp (Aa ρ) ⟨d, .lookup t x y false,ty,pos,af,gd⟩).run P w):=by
  have hrun:=h.look L hD hi ht hz ha false;refine Yk.value (v:=(G a).elim z ev) (w' :=w) ?_ hk;unfold execOp;simp only[hm,hy,Aa7,hrun,Aa3,Abb];rfl
theorem Zp(L:KL P Kt OK)(hD:∀a,D a→OK (ek a))(hi:∀a c,ek a=ek c→a=c)(ht:P.underlying t=some (.map Kt E)){z:AaR}(hz:∀u:AaS,(zeroValue E).run P u = .ok z u){x y:Aa5}{a:α} 
    (hm:Aa ρ x = .map (some b)) (hy:Aa ρ y=ek a) (h:MapF ek ev D w b G) (ha:D a) (hk:K (.tuple #[(G a).elim z ev, .bool (G a).isSome]) w):
    Yk P K ((execOp (Aa ρ) ⟨d, .lookup t x y true,ty,pos,af,gd⟩).run P w):=by
  have hrun:=h.look L hD hi ht hz ha true;refine Yk.value (v:= .tuple #[(G a).elim z ev, .bool (G a).isSome]) (w' :=w) ?_ hk;unfold execOp;simp only[hm,hy,Aa7,hrun,Aa3,Abb];rfl
theorem YA[DecidableEq α](L:KL P Kt OK)(hD:∀a,D a→OK (ek a))(ht:P.underlying t=some (.map Kt E)){x y z:Aa5}{a:α}{c:β} 
    (hm:Aa ρ x = .map (some b)) (hy:Aa ρ y=ek a) (hz:Aa ρ z=ev c) (h:MapF ek ev D w b G) (ha:D a) (hk:∀w',MapF ek ev D w' b (updM G a (some c))→w.grownBy w' (some b)→w'.heap.size=w.heap.size→K undef w'):
    Yk P K ((execOp (Aa ρ) ⟨d, .mapUpdate t x y z,ty,pos,af,gd⟩).run P w):=by
  obtain⟨w',hrun,h1,h2,h3⟩:=h.put L hD ht ha c;have hr:(execOp (Aa ρ) ⟨d, .mapUpdate t x y z,ty,pos,af,gd⟩).run P w = .ok .skip w' ∨(execOp (Aa ρ) ⟨d, .mapUpdate t x y z,ty,pos,af,gd⟩).run P w = .ok (.value undef) w' :=by
    unfold execOp;simp only[hm,hy,hz,Aa7,hrun,Aa3,Abb];simp
  rcases hr with hr | hr <;> rw[hr] <;> exact hk w' h1 h2 h3
theorem Zn[DecidableEq α](L:KL P Kt OK)(hD:∀a,D a→OK (ek a))(hi:∀a c,ek a=ek c→a=c)(ht:P.underlying t=some (.map Kt E)){x y:Aa5}{a:α} 
    (hm:Aa ρ x = .map (some b)) (hy:Aa ρ y=ek a) (h:MapF ek ev D w b G) (ha:D a) (hk:∀w',MapF ek ev D w' b (updM G a none)→w.grownBy w' (some b)→w'.heap.size=w.heap.size→K (.tuple #[]) w'):
    Yk P K ((execOp (Aa ρ) ⟨d, .call ⟨.builtin .delete,#[x,y],#[t,Kt]⟩,ty,pos,af,gd⟩).run P w):=by
  obtain⟨w',hrun,h1,h2,h3⟩:=h.del L hD hi ht (ty:=ty) ha;refine Yk.value (v:= .tuple #[]) (w' :=w') ?_ (hk w' h1 h2 h3);unfold execOp;simp only[resolve,invoke,builtin,Aa7,Abb,Aa3,Abx,Abv,AbG,hm,hy,hrun]
theorem YD(ek:α→AaR)(ev:β→AaR)(D:α→Prop)(hk:∀g w',w.heap.size=g→MapF ek ev D w' g (fun _=>none)→Ext w w' →w'.heap.size=g+1→K (.map (some g)) w'):
    Yk P K ((execOp (Aa ρ) ⟨d, .makeMap t none,ty,pos,af,gd⟩).run P w):=by
  refine Yk.value (v:= .map (some w.heap.size)) (w' :=w.alloc (.map #[] 0)) ?_ (hk _ _ rfl (Aae ek ev D w) ((AbJ _ _).alloc (AaX _) _) (by simp));unfold execOp;simp[Instr.makeMap,newObj,AbM];rfl
theorem Yr(L:KL P Kt OK)(hD:∀a,D a→OK (ek a))(hi:∀a c,ek a=ek c→a=c)(ht:P.underlying t=some (.map Kt E)){z:AaR}(hz:∀u:AaS,(zeroValue E).run P u = .ok z u){x y:Aa5}{a:α}{c:β} 
    (hm:Aa ρ x = .map (some b)) (hy:Aa ρ y=ek a) (h:MapF ek ev D w b G) (ha:D a) (hG:G a=some c) (hk:K (.tuple #[ev c, .bool true]) w):Yk P K ((execOp (Aa ρ) ⟨d, .lookup t x y true,ty,pos,af,gd⟩).run P w):=
  Zp L hD hi ht hz hm hy h ha (by rw[hG];exact hk)
theorem Yw(L:KL P Kt OK)(hD:∀a,D a→OK (ek a))(hi:∀a c,ek a=ek c→a=c)(ht:P.underlying t=some (.map Kt E)){z:AaR}(hz:∀u:AaS,(zeroValue E).run P u = .ok z u){x y:Aa5}{a:α} 
    (hm:Aa ρ x = .map (some b)) (hy:Aa ρ y=ek a) (h:MapF ek ev D w b G) (ha:D a) (hG:G a=none) (hk:K (.tuple #[z, .bool false]) w):Yk P K ((execOp (Aa ρ) ⟨d, .lookup t x y true,ty,pos,af,gd⟩).run P w):=
  Zp L hD hi ht hz hm hy h ha (by rw[hG];exact hk)
theorem YG(L:KL P Kt OK)(hD:∀a,D a→OK (ek a))(hi:∀a c,ek a=ek c→a=c)(ht:P.underlying t=some (.map Kt E)){z:AaR}(hz:∀u:AaS,(zeroValue E).run P u = .ok z u){x y:Aa5}{a:α}{c:β} 
    (hm:Aa ρ x = .map (some b)) (hy:Aa ρ y=ek a) (h:MapF ek ev D w b G) (ha:D a) (hG:G a=some c) (hk:K (ev c) w):Yk P K ((execOp (Aa ρ) ⟨d, .lookup t x y false,ty,pos,af,gd⟩).run P w):=
  Ze L hD hi ht hz hm hy h ha (by rw[hG];exact hk)
theorem Y4(L:KL P Kt OK)(hD:∀a,D a→OK (ek a))(hi:∀a c,ek a=ek c→a=c)(ht:P.underlying t=some (.map Kt E)){z:AaR}(hz:∀u:AaS,(zeroValue E).run P u = .ok z u){x y:Aa5}{a:α} 
    (hm:Aa ρ x = .map (some b)) (hy:Aa ρ y=ek a) (h:MapF ek ev D w b G) (ha:D a) (hG:G a=none) (hk:K z w):Yk P K ((execOp (Aa ρ) ⟨d, .lookup t x y false,ty,pos,af,gd⟩).run P w):=
  Ze L hD hi ht hz hm hy h ha (by rw[hG];exact hk)
theorem Yk.build{parts:Array (Nat × Aa5)}{vs:Array (Nat × AaR)}{v:AaR}(hv:(parts.map fun(i,x)=>(i,Aa ρ x))=vs)(hr:∀w:AaS,(AcJ t vs).run P w = .ok v w)(hk:K v w):
    Yk P K ((execOp (Aa ρ) ⟨d, .build t parts,ty,pos,af,gd⟩).run P w):=by
  refine Yk.value (v:=v) (w' :=w) ?_ hk;unfold execOp;simp only[hv,hr,Aa7,Aa3,Abb]
theorem Y5{i0:Nat}{x0:Aa5}{a v:AaR}(h0:Aa ρ x0=a)(hr:∀w:AaS,(AcJ t #[(i0,a)]).run P w = .ok v w)(hk:K v w):Yk P K ((execOp (Aa ρ) ⟨d, .build t #[(i0,x0)],ty,pos,af,gd⟩).run P w):=
  Yk.build (by simp[h0]) hr hk
theorem Yx{i0 i1:Nat}{x0 x1:Aa5}{a b v:AaR}(h0:Aa ρ x0=a)(h1:Aa ρ x1=b)(hr:∀w:AaS,(AcJ t #[(i0,a),(i1,b)]).run P w = .ok v w)(hk:K v w):Yk P K ((execOp (Aa ρ) ⟨d, .build t #[(i0,x0),(i1,x1)],ty,pos,af,gd⟩).run P w):=
  Yk.build (by simp[h0,h1]) hr hk
theorem RG.slice{k:Nat}{enc:α→List AaR}{v:AaR}{l:List α}(h:RG k enc w v l):∃ao n c,v = .slice ao n c:=by
  obtain⟨ao,c,rfl⟩:=h.len;exact⟨ao,_,c,rfl⟩
theorem ZY{fs}(hu:P.underlying t=some (.struct fs)){x:Aa5}{v:AaR}(hx:Aa ρ x=v)(hk:K (.iface t v) w):Yk P K ((execOp (Aa ρ) ⟨d, .makeInterface t x,ty,pos,af,gd⟩).run P w):=by
  refine Yk.value (v:= .iface t v) (w' :=w) ?_ hk;unfold execOp;simp[Instr.makeInterface,hx,run_underlying hu,AbM]
theorem Yo{k:Nat}{enc:α→List AaR}{e:AaZ}{x:Aa5}{a:α}(hx:Aa ρ x = .agg (enc a).toArray)(hl:(enc a).length=k) 
    (hr:∀(cs:Array AaR),cs.size=k→∀w:AaS,(Abz t 1 #[(0, .agg cs)]).run P w = .ok (.slice (some ⟨w.heap.size,0,none⟩) 1 1) (w.alloc (.cells cs e)))
    (hk:∀v w',RG k enc w' v [a]→Ext w w' →K v w'):Yk P K ((execOp (Aa ρ) ⟨d, .buildSlice t 1 #[(0,x)],ty,pos,af,gd⟩).run P w):=by
  have hE:Ext w (w.alloc (.cells (enc a).toArray e)):=(AbJ _ _).alloc (AaX _) _;refine Yk.value (v:= .slice (some ⟨w.heap.size,0,none⟩) 1 1) (w' :=w.alloc (.cells (enc a).toArray e)) ?_ (hk _ _ (Aac hl (heap_alloc_new w _)) hE);unfold execOp;simp only[Abx,Abv,AbG,hx,Aa7,hr _ (show(enc a).toArray.size=k by rw[Abe];exact hl),Aa3,Abb]
theorem RG.elem{k:Nat}{enc:α→List AaR}{v:AaR}{l:List α}(h:RG k enc w v l)(dd:α){i:Nat}(hi:i<l.length):(enc (l.getD i dd)).length=k:=by
  refine h.1 _ ?_;rw[AaW,Aa2 hi];exact Acp hi
theorem RG.cut{k:Nat}{enc:α→List AaR}{v:AaR}{l:List α}(h:∀x∈l,(enc x).length=k){a c:Nat}(ha:a≤c)(hc:c≤l.length)(hR:Reads w k v (c-a) (((l.flatMap enc).drop (a*k)).take ((c-a)*k))):RG k enc w v ((l.drop a).take (c-a)):=by
  have hd:∀(l:List α) (n:Nat),(∀x∈l,(enc x).length=k)→(l.flatMap enc).drop (n*k)=(l.drop n).flatMap enc:=by
    intro l n
    induction n generalizing l with
    | zero=>intro _;simp
    | succ n ih=>
      intro h;cases l with
      | nil=>simp
      | cons x r=>
        have hx:=h x (by simp);rw[AbW,AdN,←ih r (fun y hy=>h y (by simp[hy])),show(n+1)*k=(enc x).length+n*k by rw[hx,Adm];omega,AeX,Ab4 (by omega),AcZ,AbV]
  have htk:∀(l:List α) (n:Nat),(∀x∈l,(enc x).length=k)→(l.flatMap enc).take (n*k)=(l.take n).flatMap enc:=by
    intro l n
    induction n generalizing l with
    | zero=>intro _;simp
    | succ n ih=>
      intro h;cases l with
      | nil=>simp
      | cons x r=>
        have hx:=h x (by simp);rw[AbW,AdO,AbW,←ih r (fun y hy=>h y (by simp[hy])),show(n+1)*k=(enc x).length+n*k by rw[hx,Adm];omega,AfV,AbK (by omega),AcZ]
  refine⟨fun x hx=>h x (Ags (Agt hx)),?_⟩;rw[hd l a h,htk _ _ (fun x hx=>h x (Ags hx))]at hR;rw[show((l.drop a).take (c-a)).length=c-a by rw[Abg,Abf];omega];exact hR
theorem F7{l:List Nat}{i:Nat}(hi:i<l.length):(l.map fun x=>NI x)[i]? =some (NI (l.getD i 0)):=by simp[hi]
theorem PO(l:List Nat):∀v∈(l.map fun x=>NI x),v.oneCell' =true:=by
  intro v hv;obtain⟨_,_,rfl⟩:=AbD.1 hv;rfl
theorem Y6{t' :AaZ}{x y:Aa5}{g i:Nat}{l:List Nat}{t:AaZ}{v:Nat}(hx:Aa ρ x = .pointer (some ⟨g,i,none⟩))(hy:Aa ρ y=NI v)(hg:w.heap[g]? =some (.cells (l.map fun x=>NI x).toArray t (0,0)))(hi:i<l.length)(hz:(P.info? t').map (·.size)=some 1) 
    (hk:∀w',w'.heap[g]? =some (.cells ((l.set i v).map fun x=>NI x).toArray t (0,0))→w.grownBy w' (some g)→w'.heap.size=w.heap.size→K undef w'):Yk P K ((execOp (Aa ρ) ⟨d, .store t' x y,ty,pos,af,gd⟩).run P w):=
  XY hx hy hg (by simpa using hi) hz rfl rfl fun w' h1 h2 h3=>hk w' (by rw[AfP];exact h1) h2 h3
theorem ZP{xType e:AaZ}{n:Nat}(ht:P.underlying xType=some (.array n e)){de:TypeDesc}(he:P.underlying e=some de)(hd:(match de with | .struct _ | .array _ _=>false | _=>true)=true)(hs:∀w' :AaS,(sizeOf e).run P w' = .ok 1 w'){x y:Aa5}{l:List Nat}{i:Nat}{k:AbU} 
    (hx:Aa ρ x = .agg (l.map fun x=>NI x).toArray) (hy:Aa ρ y = .int k (i:Int)) (hi:i<n) (hl:l.length=n) (hk:K (NI (l.getD i 0)) w):Yk P K ((execOp (Aa ρ) ⟨d, .index xType x y,ty,pos,af,gd⟩).run P w):=
  Zk ht he hd hs hx hy hi (F7 (by omega)) hk
theorem Aah{f:AcF}(hp:Plain P f){x0:Aa5}{a:AaR}{at_:Array AaZ}{J:List PanicEntry→AaS→Prop}(h0:Aa ρ x0=a) 
    (h:Calls P f #[a] w fun e w' =>match e with | .returned v=>K v w' | .panicked ch=>J ch w' | .outgrown=>False):Yp P K J ((execOp (Aa ρ) ⟨d, .call ⟨.value (.func f),#[x0],at_⟩,ty,pos,af,gd⟩).run P w):=
  Yp.call hp [a] (by simp[h0]) h
theorem XZ{f:AcF}(hp:Plain P f){x0 x1:Aa5}{a b:AaR}{at_:Array AaZ}{J:List PanicEntry→AaS→Prop}(h0:Aa ρ x0=a)(h1:Aa ρ x1=b) 
    (h:Calls P f #[a,b] w fun e w' =>match e with | .returned v=>K v w' | .panicked ch=>J ch w' | .outgrown=>False):Yp P K J ((execOp (Aa ρ) ⟨d, .call ⟨.value (.func f),#[x0,x1],at_⟩,ty,pos,af,gd⟩).run P w):=
  Yp.call hp [a,b] (by simp[h0,h1]) h
theorem Zq{f:AcF}(hp:Plain P f){x0 x1 x2:Aa5}{a b c:AaR}{at_:Array AaZ}{J:List PanicEntry→AaS→Prop}(h0:Aa ρ x0=a)(h1:Aa ρ x1=b)(h2:Aa ρ x2=c) 
    (h:Calls P f #[a,b,c] w fun e w' =>match e with | .returned v=>K v w' | .panicked ch=>J ch w' | .outgrown=>False):Yp P K J ((execOp (Aa ρ) ⟨d, .call ⟨.value (.func f),#[x0,x1,x2],at_⟩,ty,pos,af,gd⟩).run P w):=
  Yp.call hp [a,b,c] (by simp[h0,h1,h2]) h
theorem Aai{f:AcF}(hp:Plain P f){x0 x1 x2 x3:Aa5}{a b c g:AaR}{at_:Array AaZ}{J:List PanicEntry→AaS→Prop}(h0:Aa ρ x0=a)(h1:Aa ρ x1=b)(h2:Aa ρ x2=c)(h3:Aa ρ x3=g) 
    (h:Calls P f #[a,b,c,g] w fun e w' =>match e with | .returned v=>K v w' | .panicked ch=>J ch w' | .outgrown=>False):Yp P K J ((execOp (Aa ρ) ⟨d, .call ⟨.value (.func f),#[x0,x1,x2,x3],at_⟩,ty,pos,af,gd⟩).run P w):=
  Yp.call hp [a,b,c,g] (by simp[h0,h1,h2,h3]) h
end
open Go.ChangeMaps (setBlock heap_setBlock_same heap_setBlock_other)
def rk(r:List UInt8):AaR:= .agg (AaT r).toArray
theorem B9{r s:List UInt8}(h:rk r=rk s):r=s:=by
  unfold rk at h;injection h with h
  have h2:AaT r=AaT s:=List.toArray_inj h;unfold AaT at h2;exact(List.map_inj_right (fun a b hab=>by injection hab with _ h3;exact Aes.1 (by omega))).1 h2
theorem OZ{α β:Type}{f:α→Option β}:∀ {l:List α},(∀x∈l,∃y,f x=some y)→∃ys,l.mapM f=some ys
  | [],_=>⟨[],rfl⟩
  | x :: l,h=>by
    obtain⟨y,hy⟩:=h x (by simp);obtain⟨ys,hys⟩:=OZ (l:=l) (fun z hz=>h z (by simp[hz]));exact⟨y :: ys,by simp[List.mapM_cons,hy,hys]⟩
theorem Ly{P:Abo}{k e:AaZ}{n:Nat}(hu:P.underlying k=some (.array n e))(he:P.underlying e=some (.int .u8))(hc:P.cellsOf e=1)(hn:P.cellsOf k=n)(hk:P.keyType k=true)(hsz:0<P.types.size){r:List UInt8}(hr:r.length=n):∃l,keyOf P k (rk r)=some l:=by
  have hf:(rk r).formed P k=true:=by simp[rk,Value.formed,hu,hn,hr,AaT]
  have hl:∀i∈Ab6 n,∃y,P.keyLits P.types.size e (((AaT r).drop (i*P.cellsOf e)).take (P.cellsOf e))=some y:=fun i hi=>by
    have hi' :i<r.length:=by rw[hr];simpa using hi
    have h1:((AaT r).drop (i*P.cellsOf e)).take (P.cellsOf e)= [AcM .u8 ((r[i]).toNat:Int)]:=by
      rw[hc,Agb];simp[AaT,hi',List.take_one,List.head?_drop]
    have hw:(Lit.int .u8 ((r[i]).toNat:Int)).wf=true:=by
      have:=(r[i]).toNat_lt;simp[Lit.wf,IntKind.min,IntKind.max,Adb,Ab7];omega
    rw[h1];obtain⟨m,hm⟩:∃m,P.types.size=m+1:=⟨P.types.size-1,by omega⟩;rw[hm];exact⟨[.int .u8 ((r[i]).toNat:Int)],by simp[Program.keyLits,he,hw]⟩
  obtain⟨ys,hys⟩:=OZ hl;refine⟨.string (keyBytes ys.flatten),?_⟩
  · unfold keyOf;simp only[hu];rw[if_pos (by simp[hk,hf])];unfold Program.keyLits;simp only[hu,rk,Aen];rw[if_pos (by rw[hn];simp[AaT,hr]),hys];rfl
def EntAt(w:AaS)(base:Nat)(I:AaZ)(G:List UInt8→List Nat)(e:Acz):Prop:=∃r,r.length=8∧e.key=rk r∧G r≠ []∧w.ownsRow base I 1 e.val (G r).length ((G r).map NI)
structure IdxIn (w : AaS) (base : Nat) (I : AaZ) (G : List UInt8 → List Nat) (es : List Acz) (clock : Nat) : Prop where
  born:∀e∈es,e.born<clock
  nodup:(es.map (·.born)).Nodup
  keys:(es.map (·.key)).Nodup
  ent:∀e∈es,EntAt w base I G e
  all:∀r,r.length=8→G r≠ []→∃e∈es,e.key=rk r
  apart:es.Pairwise fun e f=>Ah e.val f.val∧Ah f.val e.val
def IdxAt(w:AaS)(b base:Nat)(I:AaZ)(G:List UInt8→List Nat):Prop:=b<base∧∃es clock,w.heap[b]? =some (.map es.toArray clock)∧IdxIn w base I G es clock
section
variable {P : Abo} {w w' : AaS} {b base : Nat} {I : AaZ} {G : List UInt8 → List Nat}
theorem EntAt.keep{e:Acz}(h:EntAt w base I G e)(k:Ext w w'):EntAt w' base I G e:=by
  obtain⟨r,h1,h2,h3,h4⟩:=h;exact⟨r,h1,h2,h3,Stab.own _ _ _ _ _ _ _ _ h4 k⟩
theorem IdxIn.keep{es:List Acz}{c:Nat}(h:IdxIn w base I G es c)(k:Ext w w'):IdxIn w' base I G es c:=
  ⟨h.born,h.nodup,h.keys,fun e he=>(h.ent e he).keep k,h.all,h.apart⟩
theorem IdxAt.keep(h:IdxAt w b base I G)(k:Ext w w'):IdxAt w' b base I G:=by
  obtain⟨h1,es,c,h2,h3⟩:=h;exact⟨h1,es,c,Ext.blk' k h2,h3.keep k⟩
theorem IdxAt.lt(h:IdxAt w b base I G):b<w.heap.size:=by
  obtain⟨h1,es,c,h2,h3⟩:=h;exact(Abm.1 h2).1
theorem ZZ(w:AaS):IdxAt (w.alloc (.map #[] 0)) w.heap.size (w.heap.size+1) I (fun _=> []):=
  ⟨AeW _,[],0,heap_alloc_new w _,by simp,by simp,by simp,by simp,fun r _ h=>absurd rfl h,by simp⟩
structure Wz (w : AaS) (base : Nat) (I : AaZ) (G : List UInt8 → List Nat) (r : List UInt8) (v : AaR) (l1 : List Acz) (e0 : Acz) (l2 : List Acz) (clock : Nat) : Prop where
  key:e0.key=rk r
  born:∀e∈l1++e0 :: l2,e.born<clock
  nodup:((l1++e0 :: l2).map (·.born)).Nodup
  keys:((l1++e0 :: l2).map (·.key)).Nodup
  ent:∀e∈l1++l2,EntAt w base I G e
  all:∀s,s.length=8→s≠r→G s≠ []→∃e∈l1++l2,e.key=rk s
  apart:(l1++l2).Pairwise fun e f=>Ah e.val f.val∧Ah f.val e.val
  mine:∀e∈l1++l2,Ah e.val v∧Ah v e.val
def IdxOpen(w:AaS)(b base:Nat)(I:AaZ)(G:List UInt8→List Nat)(r:List UInt8)(v:AaR)(zs:List Nat)(st:Nat):Prop:=
  b<base∧r.length=8∧w.ownsRow base I 1 v zs.length (zs.map NI)∧∃l1 e0 l2 clock,w.heap[b]? =some (.map (l1++e0 :: l2).toArray clock)∧e0.born=st∧Wz w base I G r v l1 e0 l2 clock
theorem IdxOpen.grew{r:List UInt8}{v v' :AaR}{zs zs' :List Nat}{st:Nat}(h:IdxOpen w b base I G r v zs st)(gr:Grew w w' v v')(ho:w'.ownsRow base I 1 v' zs'.length (zs'.map NI)):IdxOpen w' b base I G r v' zs' st:=by
  obtain⟨h1,h2,h3,l1,a,l2,c,h4,h5,h6⟩:=h;have hvb:v.ownBlock≠some b:=fun e=>by have:=(h3.lt b e).1;omega
  refine⟨h1,h2,ho,l1,a,l2,c,Aq h4 gr hvb,h5,h6.key,h6.born,h6.nodup,h6.keys,fun e he=> ?_,h6.all,h6.apart,fun e he=> ?_⟩
  · obtain⟨q,k1,k2,k3,k4⟩:=h6.ent e he;refine⟨q,k1,k2,k3,k4.kept gr.by_ ?_⟩;cases hb:e.val.ownBlock with
    | none=>exact .inl rfl
    | some g=>exact .inr (fun f=>(h6.mine e he).1 g hb f.symm)
  · obtain⟨q,k1,k2,k3,k4⟩:=h6.ent e he;have key:∀k,e.val.ownBlock=some k→v'.ownBlock≠some k:=fun k hk hv=>by
      rcases gr.fresh k hv with h7 | h7
      · exact(h6.mine e he).1 k hk h7
      · have:=(k4.lt k hk).2;omega
    exact⟨key,fun k hv hk=>key k hk hv⟩
def updG(G:List UInt8→List Nat)(r:List UInt8)(zs:List Nat)(s:List UInt8):List Nat:=if s=r then zs else G s
theorem Kg{α:Type}(f:α→α)(x:α)(l2:List α):∀l1:List α,(l1++x :: l2).modify l1.length f=l1++f x :: l2
  | []=>rfl
  | a :: r=>by simp[List.modify_succ_cons,Kg f x l2 r]
section
variable {t K E e8 : AaZ} (L : KeyLaw P K) (hk : ∀ r : List UInt8, r.length = 8 → ∃ l, keyOf P K (rk r) = some l) (ht : P.underlying t = some (.map K E)) (hz : ∀ u : AaS, (zeroValue E).run P u = .ok (.slice none 0 0) u)
include L hk ht hz
theorem IdxAt.look(h:IdxAt w b base I G){r:List UInt8}(hr:r.length=8):∃v,(AeC t (.map (some b)) (rk r) false).run P w = .ok v w∧w.ownsRow base I 1 v (G r).length ((G r).map NI):=by
  obtain⟨h1,es,c,hb,H⟩:=h;obtain⟨l,hl⟩:=hk r hr;have hkeys:∀e∈es,∃l,keyOf P K e.key=some l:=fun e he=>by
    obtain⟨q,k1,k2,-⟩:=H.ent e he;rw[k2];exact hk q k1
  rcases L.find w hl es hkeys with ⟨f1,f2⟩ | ⟨j,a,f1,f2,f3⟩
  · have hG:G r= []:=by
      by_cases hG:G r= []
      · exact hG
      · obtain⟨e,he,hek⟩:=H.all r hr hG;exact absurd hek (f2 e he)
    refine⟨.slice none 0 0,by simp[AeC,run_underlying ht,Ab5 hb,L.check w _ hl,f1,hz,AbM],?_⟩;rw[hG];exact AbO _ _ _ _
  · have hm:a∈es:=Ab0 f2;obtain⟨q,k1,k2,k3,k4⟩:=H.ent a hm;have:q=r:=B9 (k2.symm.trans f3);subst this;exact⟨a.val,by simp[AeC,run_underlying ht,Ab5 hb,L.check w _ hl,f1,AbM],k4⟩
theorem IdxAt.entry(h:IdxAt w b base I G){r:List UInt8}(hr:r.length=8):∃v st w1,(Afn t (.map (some b)) (rk r)).run P w = .ok (.tuple #[v,goInt ((st:Nat):Int)]) w1∧w.grownBy w1 (some b)∧w1.heap.size=w.heap.size∧IdxOpen w1 b base I G r v (G r) st:=by
  obtain⟨h1,es,c,hb,H⟩:=h;obtain⟨l,hl⟩:=hk r hr;have hblt:b<w.heap.size:=(Abm.1 hb).1;have hkeys:∀e∈es,∃l,keyOf P K e.key=some l:=fun e he=>by
    obtain⟨q,k1,k2,-⟩:=H.ent e he;rw[k2];exact hk q k1
  have hgr:∀o,w.grownBy { w with heap:=w.heap.setIfInBounds b o } (some b):=fun o=>⟨rfl,rfl,rfl,by simp,fun i _ hi=>by simp only[Acu];rw[if_neg (fun e=>hi (by rw[e]))]⟩;have hnew:∀o,({ w with heap:=w.heap.setIfInBounds b o } :AaS).heap[b]? =some o:=fun o=>by simp[hblt]
  have hkeep:∀(o:Obj) e,EntAt w base I G e→EntAt { w with heap:=w.heap.setIfInBounds b o } base I G e:=fun o e ⟨q,k1,k2,k3,k4⟩=>by
    refine⟨q,k1,k2,k3,k4.kept (hgr o) ?_⟩;cases he:e.val.ownBlock with
    | none=>exact .inl rfl
    | some g=>
      have:=(k4.lt g he).1;exact .inr (fun f=>by cases f;omega)
  rcases L.find w hl es hkeys with ⟨f1,f2⟩ | ⟨j,a,f1,f2,f3⟩
  · have hG:G r= []:=by
      by_cases hG:G r= []
      · exact hG
      · obtain⟨e,he,hek⟩:=H.all r hr hG;exact absurd hek (f2 e he)
    refine⟨.slice none 0 0,c,{ w with heap:=w.heap.setIfInBounds b (.map (es++({ key:=rk r,val:= .slice none 0 0,born:=c } :Acz) :: []).toArray (c+1)) },?_,hgr _,by simp,h1,hr,?_,es,({ key:=rk r,val:= .slice none 0 0,born:=c } :Acz),[],c+1,hnew _,rfl,rfl,?_,?_,?_,?_,?_,?_,?_⟩
    · simp[Afn,run_underlying ht,Ab5 hb,L.check w false hl,f1,hz,AcO _ hb,AbM]
    · rw[hG];exact AbO _ _ _ _
    · intro e he;rcases Abk.1 he with h2 | h2
      · have:=H.born e h2;omega
      · rw[Aa6.1 h2];simp
    · simp only[Acj,Abv,AbG];refine Ac0.2 ⟨H.nodup,by simp,fun x hx y hy e=> ?_⟩;obtain⟨f,he1,rfl⟩:=AbD.1 hx;have:=H.born f he1;simp at hy;omega
    · simp only[Acj,Abv,AbG];refine Ac0.2 ⟨H.keys,by simp,fun x hx y hy e=> ?_⟩;obtain⟨f,he1,rfl⟩:=AbD.1 hx;simp at hy;exact f2 f he1 (e.trans hy)
    · simp only[AcK];exact fun e he=>hkeep _ e (H.ent e he)
    · simp only[AcK];exact fun s h2 _ h3=>H.all s h2 h3
    · simp only[AcK];exact H.apart
    · exact fun e _=>⟨fun k _ hk=>by simp[Aa1]at hk,fun k hk=>by simp[Aa1]at hk⟩
  · have hm:a∈es:=Ab0 f2;obtain⟨q,k1,k2,k3,k4⟩:=H.ent a hm;have hq:q=r:=B9 (k2.symm.trans f3);subst hq;have hsame:es.modify j (fun e=> { e with key:=rk q })=es:=by
      rw[Aec _ _ _ _ f2];have:({ a with key:=rk q } :Acz)=a:=by rw[←f3]
      rw[this];exact Agh _ _ _ f2
    have hrun:(Afn t (.map (some b)) (rk q)).run P w = .ok (.tuple #[a.val,goInt ((a.born:Nat):Int)]) { w with heap:=w.heap.setIfInBounds b (.map es.toArray c) } :=by
      simp[Afn,run_underlying ht,Ab5 hb,L.check w false hl,f1,f2,f3,L.stays w hl,hsame,AcO _ hb,AbM]
    obtain⟨l1,l2,rfl⟩:=Adq hm;have hp:=H.apart;rw[Acd,AbY]at hp;have hsub:∀e,e∈l1++l2→e∈l1++a :: l2:=fun e he=>by
      rcases Abk.1 he with h2 | h2
      · simp[h2]
      · simp[h2]
    refine⟨a.val,a.born,{ w with heap:=w.heap.setIfInBounds b (.map (l1++a :: l2).toArray c) },?_,hgr _,by simp,h1,hr,?_,l1,a,l2,c,hnew _,rfl,f3,H.born,H.nodup,H.keys,fun e he=>hkeep _ e (H.ent e (hsub e he)),?_,?_,?_⟩
    · exact hrun
    · refine k4.kept (hgr _) ?_;cases he:a.val.ownBlock with
      | none=>exact .inl rfl
      | some g=>
        have:=(k4.lt g he).1;exact .inr (fun f=>by cases f;omega)
    · intro s h2 h3 h4;obtain⟨e,he,hek⟩:=H.all s h2 h4;refine⟨e,?_,hek⟩;rcases Abk.1 he with h5 | h5
      · simp[h5]
      · rcases AbF.1 h5 with h6 | h6
        · subst h6;exact absurd (B9 (hek.symm.trans f3)) h3
        · simp[h6]
    · rw[Acd];exact⟨hp.1,hp.2.1.2,fun x hx y hy=>hp.2.2 x hx y (by simp[hy])⟩
    · intro e he;rcases Abk.1 he with h5 | h5
      · exact hp.2.2 e h5 a (by simp)
      · exact⟨(hp.2.1.1 e h5).2,(hp.2.1.1 e h5).1⟩
end
theorem IdxOpen.store{t:AaZ}{r:List UInt8}{v:AaR}{zs:List Nat}{st:Nat}(h:IdxOpen w b base I G r v zs st)(hne:zs≠ []):∃w1,(AfW t (.map (some b)) (goInt ((st:Nat):Int)) v).run P w = .ok () w1∧w.grownBy w1 (some b)∧w1.heap.size=w.heap.size∧IdxAt w1 b base I (updG G r zs):=by
  obtain⟨h1,hr,h3,l1,a,l2,c,hb,rfl,H⟩:=h;have hblt:b<w.heap.size:=(Abm.1 hb).1;have hgr:∀o,w.grownBy { w with heap:=w.heap.setIfInBounds b o } (some b):=fun o=>⟨rfl,rfl,rfl,by simp,fun i _ hi=>by simp only[Acu];rw[if_neg (fun e=>hi (by rw[e]))]⟩;have hnew:∀o,({ w with heap:=w.heap.setIfInBounds b o } :AaS).heap[b]? =some o:=fun o=>by simp[hblt]
  have hrow:∀(o:Obj) {x:AaR} {n:Nat} {xs:List AaR},w.ownsRow base I 1 x n xs→Afx { w with heap:=w.heap.setIfInBounds b o } base I 1 x n xs:=fun o x n xs k4=>by
    refine k4.kept (hgr o) ?_;cases he:x.ownBlock with
    | none=>exact .inl rfl
    | some g=>
      have:=(k4.lt g he).1;exact .inr (fun f=>by cases f;omega)
  have hidx:(l1++a :: l2).toArray.findIdx? (fun e=>((e.born:Nat):Int)==((a.born:Nat):Int))=some l1.length:=by
    rw[Go.WideElems.findIdx_arr];exact Go.WideElems.findIdx_born H.nodup (by simp)
  have hmod:(l1++a :: l2).toArray.modify l1.length (fun e=> { e with val:=v })=(l1 ++ { a with val:=v } :: l2).toArray:=by
    apply Array.ext'
    rw[Array.toList_modify];exact Kg _ _ _ _
  have hsub:∀e,e∈l1++l2→e∈l1++a :: l2:=fun e he=>by
    rcases Abk.1 he with h2 | h2
    · simp[h2]
    · simp[h2]
  have hkn:∀e∈l1++l2,e.key≠a.key:=fun e he hke=>by
    have hkk:=H.keys;simp only[Acj,Abv,Ac0,Ac2]at hkk;rcases Abk.1 he with h2 | h2
    · exact hkk.2.2 e.key (AbD.2 ⟨e,h2,rfl⟩) a.key (by simp) hke
    · exact hkk.2.1.1 (hke▸AbD.2 ⟨e,h2,rfl⟩)
  have hent:∀(o:Obj),∀e∈l1++l2,EntAt { w with heap:=w.heap.setIfInBounds b o } base I (updG G r zs) e:=fun o e he=>by
    obtain⟨q,k1,k2,k3,k4⟩:=H.ent e he;have hqr:q≠r:=fun f=>hkn e he (by rw[k2,f,H.key]);have hu:updG G r zs q=G q:=if_neg hqr;exact⟨q,k1,k2,by rw[hu];exact k3,by rw[hu];exact hrow o k4⟩
  have hur:updG G r zs r=zs:=if_pos rfl;have hp:=H.apart;rw[Acd]at hp;refine⟨{ w with heap:=w.heap.setIfInBounds b (.map (l1 ++ { a with val:=v } :: l2).toArray c) },?_,hgr _,by simp,h1,_,c,hnew _,?_,?_,?_,?_,?_,?_⟩
  · simp[AfW,Ab5 hb,asInt,asIntOf,goInt,hidx,hmod,AcO _ hb,AbM]
  · intro e he;rcases Abk.1 he with h2 | h2
    · exact H.born e (by simp[h2])
    · rcases AbF.1 h2 with h4 | h4
      · rw[h4];exact H.born a (by simp)
      · exact H.born e (by simp[h4])
  · have:=H.nodup
    simpa using this
  · have:=H.keys
    simpa using this
  · intro e he;rcases Abk.1 he with h2 | h2
    · exact hent _ e (by simp[h2])
    · rcases AbF.1 h2 with h4 | h4
      · rw[h4];exact⟨r,hr,H.key,by rw[hur];exact hne,by rw[hur];exact hrow _ h3⟩
      · exact hent _ e (by simp[h4])
  · intro s h2 h4;by_cases hs:s=r
    · exact⟨{ a with val:=v },by simp,by rw[hs];exact H.key⟩
    · rw[show updG G r zs s=G s from if_neg hs]at h4;obtain⟨e,he,hek⟩:=H.all s h2 hs h4;refine⟨e,?_,hek⟩;rcases Abk.1 he with h5 | h5
      · simp[h5]
      · simp[h5]
  · rw[Acd,AbY];refine⟨hp.1,⟨fun e he=> ?_,hp.2.1⟩,fun x hx y hy=> ?_⟩
    · have:=H.mine e (by simp[he]);exact⟨this.2,this.1⟩
    · rcases AbF.1 hy with h4 | h4
      · rw[h4];exact H.mine x (by simp[hx])
      · exact hp.2.2 x hx y h4
end
structure BX (N : Nat) (r : Option Nat) (w w' : AaS) : Prop where
  os:w'.os=w.os
  tape:w'.tape=w.tape
  output:w'.output=w.output
  size:w.heap.size≤w'.heap.size
  block:∀k,k<N→some k≠r→w'.heap[k]? =w.heap[k]?
def EU(B N:Nat)(e:AaZ)(r:Option Nat)(l:List UInt8)(x:AaR)(w' :AaS):Prop:=w'.ownsRow B e 1 x l.length (AaT l)∧∀k,x.ownBlock=some k→r=some k∨N≤k
section
variable {N B : Nat} {r : Option Nat} {w w' w1 w0 : AaS} {e t : AaZ}
theorem BX.refl(N:Nat)(r:Option Nat)(w:AaS):BX N r w w:=⟨rfl,rfl,rfl,AaX _,fun _ _ _=>rfl⟩
theorem BX.trans{a b c:AaS}(h:BX N r a b)(k:BX N r b c):BX N r a c:=⟨k.os.trans h.os,k.tape.trans h.tape,k.output.trans h.output,AaV h.size k.size,fun i hi hr=>(k.block i hi hr).trans (h.block i hi hr)⟩
theorem Yi(h:Ext w w')(hN:N≤w.heap.size):BX N r w w' :=⟨h.os,h.tape,h.output,h.size,fun k hk _=>h.block k (AbL hk hN)⟩
theorem Yj{q:Option Nat}(h:w.grownBy w' q)(hN:N≤w.heap.size)(hq:∀k,q=some k→r=some k∨N≤k):BX N r w w' :=
  ⟨h.os,h.tape,h.output,h.size,fun k hk hr=>h.block k (AbL hk hN) (fun e=>(hq k e.symm).elim (fun x=>hr x.symm) (fun x=>by omega))⟩
theorem BX.grown(h:BX w.heap.size r w w'):w.grownBy w' r:=⟨h.os,h.tape,h.output,h.size,h.block⟩
theorem Dz(h:Ext w0 w)(k:BX N r w w1)(hle:w0.heap.size≤N)(hr:∀k,r=some k→w0.heap.size≤k):Ext w0 w1:=
  Agc h ⟨k.os,k.tape,k.output,k.size,fun i hi=>k.block i (AbL hi hle) (fun e=>by have:=hr i e.symm;omega)⟩
theorem BX.blk{g:Nat}{o:Obj}(k:BX w.heap.size r w w1)(h:w.heap[g]? =some o)(hne:r≠some g):w1.heap[g]? =some o:=(k.block g (Abm.1 h).1 (fun e=>hne e.symm)).trans h
end
section
variable {P : Abo} {n : Nat} {ρ : Ad} {w : AaS} {Q : BE}
def MC(w:AaS)(r:Option Nat)(es:List Nat)(m:Nat):AaS→Prop:=bif es.contains m then Ext w else BX w.heap.size r w
def I0(N:Nat)(r:Option Nat)(cs:List Nat)(m:Nat):AaS→AaS→Prop:=bif cs.contains m then BX N r else Ext
def WA(l:List Abi)(cs es:List Nat):Bool:=cs.all fun m=>es.all fun i=>((AN l []).getD m 0).testBit i
theorem Ei{l:List Abi}(r:Option Nat)(cs es:List Nat)(ks ls:Nat→List Nat)(Φs:List Bp){id:Nat}(hm:P.follows .mixedOrders=true)(ds:List Tmp)(hg:Cy l n=true)(hkl:CY l ks=true)(hds:slotsW l=ds) 
    (hls:lsOk l cs ks ls=true) (hes:WA l cs es=true) (hgc:(cs.all fun m=>((l[m]?).bind (·.guard)).isNone)=true) (hst:AllStab Ext Φs) (hsB:AllCh (BX w.heap.size r) ls Φs cs)
    (hs:StepsF P l (MC w r es) (I0 w.heap.size r cs) (AT Φs) ρ 0 l)
    (hQ:∀(ρ' :Ad) w',BX w.heap.size r w w' →EndF ds ρ ρ' →Be l ks (AT Φs) ρ' w' ds→Q .normal ρ' w'):B0 P n (.region id l.toArray true) Q ρ w:=by
  have stepR:∀m a b,BX w.heap.size r w a→I0 w.heap.size r cs m a b→BX w.heap.size r w b:=fun m a b h k=>by
    unfold I0 at k;cases hc:cs.contains m <;> rw[hc]at k
    · exact h.trans (Yi k h.size)
    · exact h.trans k
  have drew:Ext w w.drew:=(AbJ _ _).drew;intro a ha;obtain⟨T,df⟩:=a;have hz:T.size=n:=ha.size;subst hz;refine Ef ks (MC w r es) (fun _ w' =>BX w.heap.size r w w') _ (AT Φs) hm T df hg hkl ds hds (fun m i _ _ hne hbit w1 w' hc hr=> ?_) (fun m listed w1 w' _ _ _ _ hE hR=>stepR m _ _ hE hR) (fun m i hm' hi hni hne hbit v w1 w' h hr=> ?_) (fun m o w1 ho hgo=> ?_) (fun m _=> ?_) (Yi drew (AaX _)) (StepsF.ok ha.get l 0 hs) (fun u listed w' hall hE hf=> ?_)
  · unfold MC at hc ⊢;cases he:es.contains i <;> rw[he]at hc
    · exact stepR m _ _ hc hr
    · unfold I0 at hr;cases hcm:cs.contains m <;> rw[hcm]at hr
      · exact Ext.trans hc hr
      · unfold WA at hes;have:=AbE.1 (AbE.1 hes m (by simpa using hcm)) i (by simpa using he);rw[this]at hbit;cases hbit
  · unfold I0 at hr;cases hc:cs.contains m <;> rw[hc]at hr
    · exact hst.get Φs i v w1 w' h hr
    · refine(AllCh.get cs hsB m hc).get Φs 0 i ?_ v w1 w' h hr;rw[Ab9];intro hmem;unfold lsOk at hls;have h1:=AbE.1 (AbE.1 hls m (by simpa using hc)) i hmem;simp only[Adf]at h1;rcases h1 with (h1 | h1) | h1
      · exact hni (by simpa using h1)
      · exact hne (Ae0 h1)
      · rw[h1]at hbit;cases hbit
  · unfold I0;cases hc:cs.contains m
    · exact Ext.refl w1
    · have:=AbE.1 hgc m (by simpa using hc);rw[ho]at this;simp only[Ac6,AfI]at this;rw[this]at hgo;cases hgo
  · unfold MC;cases es.contains m
    · exact Yi drew (AaX _)
    · exact drew
  · have hw:=Fh ha.get ds (Gp hg ds hds) u;refine⟨fun t=>if t∈ds then u t else ρ t,⟨by rw[Df],ha.defers,hw⟩,hQ _ w' hE ⟨fun t ht=>if_neg (by simpa using ht)⟩ ?_⟩;have key:∀es:List Tmp,(∀d∈es,d∈ds)→Be l ks (AT Φs) u w' es→Be l ks (AT Φs) (fun t=>if t∈ds then u t else ρ t) w' es:=by
      intro es
      induction es with
      | nil=>exact fun _ _=>trivial
      | cons d es ih=>
        intro hm h;refine⟨?_,ih (fun x hx=>hm x (by simp[hx])) h.2⟩;have:=h.1;simp only[if_pos (hm d (by simp))];exact this
    exact key ds (fun _ h=>h) hf
end
def CO(e:Nat):PanicEntry:= { v:= .iface 143 (.agg ([NI e]:List AaR).toArray),recovered:=false }
theorem Xw{vx vy:AaR}{x y:Bs}{w:AaS}(hx:RB w vx x)(hy:RB w vy y):(callFunc 184 #[vx,vy]).run AaU w = .ok (.value (.int .i64 (Abl x y))) w:=by
 rw[run_callFunc_extern (e:=Afd) Tryz.func184 (by kernel_rfl) (by kernel_rfl) (by kernel_rfl) (by kernel_rfl),Mq hx hy];rfl
theorem M3(z0:Int)(w:AaS):(AcJ 143 #[(0, .int .i64 z0)]).run AaU w = .ok (.agg ([.int .i64 z0]:List AaR).toArray) w:=by kernel_rfl
theorem Rp:∃fs,Tryz.prog.underlying 143=some (.struct fs):=Fo (by kernel_rfl)
theorem Rq:Plain AaU 147:=fun _ _=>by kernel_rfl
theorem AS(w:AaS)(b:Bool)(e:Nat):
  Calls AaU 129 #[.bool b,NI e] w fun r w' =>(∃v,r = .returned v∧v = .tuple #[]∧b=true∧Ext w w')∨∃ch,r = .panicked ch∧ch= [CO e]∧b=false∧Ext w w' :=by
 refine gG (args:= [.bool (b),NI e]) Tryz.func129 rfl 9 rfl rfl ?_;have hE:=Ext.refl w;refine gS (Ym rfl ?_);refine cB (!(b)) rfl (fun a=> ?_) fun a=> ?_
 ·refine gS (Y5 (vr (NI e) rfl) (fun w=>M3 (((e:Nat):Int)) w) (gS (ZY (Rp).choose_spec (vr (.agg ([NI e]).toArray) rfl) (gP (Yp.panic rfl (As ?_))))));exact .inr ⟨_,rfl,rfl,by simpa using a,hE⟩
 refine rt0 rfl ?_;exact .inl ⟨_,rfl,rfl,by simpa using a,hE⟩

theorem JC(w:AaS)(vx vy:AaR)(x y:Bs)(hx:RB w vx x)(hy:RB w vy y):
  Calls AaU 147 #[vx,vy] w fun e w' =>e = .returned (.int .i64 (Abl x y))∧Ext w w' :=by
 refine gG (args:= [vx,vy]) Tryz.func147 rfl 8 rfl rfl ?_;have hE:=Ext.refl w;refine gS (ZX rfl rfl (Xw (hx.keep hE) (hy.keep hE)) (Bn rfl (vr (.int .i64 (Abl x y:Int)) rfl) ?_));exact⟨rfl,hE⟩

theorem GL(w:AaS)(x y:Bs)(hxl:x.length=32)(hyl:y.length=32):
  Calls AaU 100 #[AB x,AB y] w fun e w' =>e = .returned (.int .i64 (Abl x y))∧Ext w w' :=by
 refine gG (args:= [AB x,AB y]) Tryz.func100 rfl 8 rfl rfl ?_;have hE:=Ext.refl w;refine gS (Yk.box (vr (AB x) rfl) fun h i q c j r=> ?_);have a:=c;clear c;have s:h<i.heap.size:=by omega
 refine gS (Yk.box (vr (AB y) rfl) fun k l m f n t=> ?_);have hE:=hE.trans j;have u:=hE.size;have b:=f;clear f;have v:k<l.heap.size:=by omega
 refine CC [0,1,2,3] [2] [] fun o g=>(ys (Yt UY PG rfl zz) (ys (Yt UY PG rfl zz) ?_));have hC:=Ext.refl o;have z:=Ar (bl a) m;have hZ1:=n.trans g;have a:=eb hZ1 a;have b:=eb g b;refine yC (XM Rq rfl rfl ((JC _ _ _ x y (YF (eb hC a) hxl (by decide)) (YF (eb hC b) hyl (by decide))).mono ?_));rintro e aa ⟨rfl,p⟩;refine⟨_,rfl,?_⟩;refine Bn rfl (vr (.int .i64 (Abl x y:Int)) rfl) ?_;have hZ2:=hZ1.trans p;have hE:=hE.trans hZ2;exact⟨rfl,hE⟩
theorem Rr(ids:List Bs)(c:Nat):(B3 ids).getD c 0≤ids.length:=by
 by_cases h:c<256
 ·rw[FN _ _ h];exact Agj
 ·rw[AaW,Ab3 (by rw[Cs];omega)];simp
theorem Or(ids:List Bs)(c:Nat)(h0:0<c)(h:c<256):(BF ids c).getD c 0+(BF ids c).getD (c-1) 0≤ids.length:=by
 have h1:=Ig ids c h0 h;have h2:(BF ids (c+1)).getD c 0=(A8 ids).getD c 0:=by
  unfold BF;rw[AaW,AbN (by rw[Abg,BQ];omega),AcV,if_pos (by omega),←AaW]
 rw[h1,AaW,Ad2 (by rw[Fi _ _ (by omega)];exact h)]at h2;have h3:=IZ ids c;rw[AbR]at h2;omega
theorem Ho:(Tryz.prog.info? 205).map (·.size)=some 256:=by kernel_rfl
theorem Lz{d:Option Tmp}{ty:AaZ}{pos:String}{af:Array AbP}{gd:Option (Nat × Bool)}(σ:Aa5→AaR)(w:AaS):(execOp σ ⟨d, .alloc 205,ty,pos,af,gd⟩).run AaU w = .ok (.value (PQ w.heap.size 0)) (w.alloc (.cells ((Aa4 256 0).map fun x=>NI x).toArray 205)):=by kernel_rfl
theorem M4:Tryz.prog.underlying 42=some (.slice 33):=by kernel_rfl
theorem Rs:∀w' :AaS,(sizeOf 33).run AaU w' = .ok 32 w' :=fun _=>by kernel_rfl
theorem Tf{d:Option Tmp}{ty:AaZ}{pos:String}{af:Array AbP}{gd:Option (Nat × Bool)}(σ:Aa5→AaR)(w:AaS):(execOp σ ⟨d, .alloc 33,ty,pos,af,gd⟩).run AaU w = .ok (.value (PQ w.heap.size 0)) (w.alloc (.cells (AaT (Aa4 32 0)).toArray 33)):=by kernel_rfl
theorem DY:Tryz.prog.underlying 205=some (.array 256 3):=by kernel_rfl
theorem G1:∀w' :AaS,(sizeOf 3).run AaU w' = .ok 1 w' :=fun _=>by kernel_rfl
theorem M5:(Tryz.prog.info? 3).map (·.size)=some 1:=by kernel_rfl
theorem O0(w:AaS)(v:AaR)(ids:List Bs)(hr:RG 32 AaT w v ids):
  Calls AaU 132 #[v] w fun e w' =>e = .returned (.agg ((A8 ids).map fun x=>NI x).toArray)∧Ext w w' :=by
 have hil:=hr.lenLt;refine gG (args:= [v]) Tryz.func132 rfl 34 rfl rfl ?_;have hE:=Ext.refl w;refine gS (Yk.alloc Lz fun n s a7 ae ap a8=> ?_);have f:=ae;clear ae;have a9:n<s.heap.size:=by omega
 refine gS (Yk.alloc Lz fun k aq ar af aa ba=> ?_);have g:=Ext.refl s;have hE:=hE.trans ap;have ag:=hE.size;have ah:=af;clear af;have bb:k<aq.heap.size:=by omega
 have bc:=Ar (bl f) ar;have f:=eb aa f;have hE:=hE.trans aa;have g:=g.trans aa;refine gS (X1 M4 (XU (hr.keep hE) rfl) (gL (fun(ρ:Ad) (wz:AaS)=>∃i:Nat,ρ 0=(v:AaR)∧ρ 2=(PQ n 0:AaR)∧ρ 3=(PQ k 0:AaR)∧ρ 7=(v:AaR)∧ρ 8=(NI ids.length:AaR)∧ρ 9=(NI i:AaR)∧Ext w wz∧wz.heap[n]? =some (.cells ((Aa4 256 0).map fun x=>NI x).toArray 205 (0,0))∧Ext s wz∧wz.heap[k]? =some (.cells ((B3 (ids.take i)).map fun x=>NI x).toArray 205 (0,0))∧(i≤ids.length)∧True) (fun ρ _=>ids.length-(intOf (ρ 9)).toNat) ⟨0,rfl,rfl,rfl,rfl,rfl,rfl,hE,f,g,AV ah (congrArg (Adw fun x=>NI x) (show _=B3 []from by decide+kernel)),Abs _,trivial⟩ ?_));clear ah;clear hE f;rintro au av ⟨i,t,l,h,o,p,j,hE,f,g,hb21l,hi,-⟩;have q9:=j;refine gS (XK (a:=(i:Nat)) (b:=(ids.length:Nat)) j p (AL _ _ _ _) ?_);refine cD rfl (fun aw=> ?_) fun aw=> ?_
 ·have ax:(ids.getD i []).length=32:=by have h1:=RG.elem hr [] (show i<ids.length by omega);rwa [Aa8]at h1
  have ab:(AaT (ids.getD (i) ([]:List UInt8))).length=32:=(RG.elem (hr.keep hE) ([]:List UInt8) (by omega));refine gS (X4 M4 Rs (by decide) ([]:List UInt8) (XU (hr.keep hE) o) j (by omega) fun bd ai=>(gS (X9 (Yb ai rfl) UY rfl (by rw[ab];exact Rb) (gS (Yk.alloc Tf fun aj ay az ak u be=> ?_)))));have q:=Ext.refl av;have a0:=hE.size;have a1:=g.size;have r:=ak;clear ak;have bf:aj<ay.heap.size:=by omega
  refine gS (XN (vr (PQ aj 0) rfl) (vr (AB (ids.getD (i) ([]:List UInt8))) rfl) r (by exact Bv (AC (ab)) Abc) (by exact Ac (AC (ab))) (Af _) fun bg al y bh=> ?_);clear r;have r:=al;clear al;have bi:=bl r;clear ai;have q:=q.trans u;have q:=Ab q y (AaV (AaX _) (by omega));have hb21l:=eb q hb21l;refine gS (XX (i:=0) UY PG rfl rfl (by decide) (gS (XJ u5 rfl rfl (cellAt r (IW (i:=0) (by rw[ax];omega))) (gS (XX (i:=((ids.getD (i) ([]:List UInt8)).getD (0) 0).toNat) DY G1 h rfl (by exact Afo _) (gS (XJ Tc rfl rfl (cellAt hb21l (F7 (i:=((ids.getD (i) ([]:List UInt8)).getD (0) 0).toNat) (by rw[Cs];exact Afo _))) (gS (XL (xv:=NI ((B3 (ids.take i)).getD (((ids.getD (i) ([]:List UInt8)).getD (0) 0).toNat) 0)) (yv:=NI 1) rfl rfl rfl (Ai _ _ _ (by have:=Rr (ids.take i) ((ids.getD i []).getD 0 0).toNat;rw[Abg]at this;omega)) (gS (XX (i:=((ids.getD (i) ([]:List UInt8)).getD (0) 0).toNat) DY G1 h rfl (by exact Afo _) (gS (Y6 (i:=((ids.getD (i) ([]:List UInt8)).getD (0) 0).toNat) (v:=((B3 (ids.take i)).getD (((ids.getD (i) ([]:List UInt8)).getD (0) 0).toNat) 0)+(1)) rfl rfl hb21l (by rw[Cs];exact Afo _) M5 fun bj am ac bk=> ?_)))))))))))));clear hb21l;have hb21l:=am;clear am;have bm:=bl hb21l;have bn:=Ar (bl f) az;have f:=eb u f;have f:=kb y f (by omega);have f:=kb ac f (by omega);have hE:=hE.trans u;have hE:=Ab hE y (AaV a0 (by omega));have hE:=Ab hE ac (AaV ag (by omega));have g:=g.trans u;have g:=Ab g y (AaV a1 (by omega));have g:=Ab g ac (AaV (AaX _) (by omega));refine gS (XL (xv:=NI i) (yv:=NI 1) j rfl rfl (Ai _ _ _ (by omega)) ?_);refine gK (Aby ⟨i+1,t,l,h,o,p,rfl,hE,f,g,AV hb21l (congrArg (Adw fun x=>NI x) (by rw[Abu (by omega),Oo];simp only[AaW,Aa2 (show i<ids.length by omega),AbR];rfl)),by omega,trivial⟩ ?_);show ids.length-(intOf (NI ((i)+(1)))).toNat<ids.length-(intOf (au 9)).toNat;rw[q9];simp only[intOf,Aba];omega
 refine gL (fun(ρ:Ad) (wz:AaS)=>∃c:Nat,ρ 0=(v:AaR)∧ρ 2=(PQ n 0:AaR)∧ρ 3=(PQ k 0:AaR)∧ρ 7=(v:AaR)∧ρ 8=(NI ids.length:AaR)∧ρ 9=(NI i:AaR)∧ρ 6=(NI c:AaR)∧Ext w wz∧wz.heap[n]? =some (.cells ((Aa4 256 0).map fun x=>NI x).toArray 205 (0,0))∧Ext s wz∧wz.heap[k]? =some (.cells ((BF ids c).map fun x=>NI x).toArray 205 (0,0))∧(0<c)∧(c≤256)∧True) (fun ρ _=>256-(intOf (ρ 6)).toNat) ⟨1,t,l,h,o,p,j,rfl,hE,f,g,AV hb21l (congrArg (Adw fun x=>NI x) (by rw[fanStep_one,show i=ids.length by omega,Acy])),by omega,by omega,trivial⟩ ?_;clear hb21l;clear hE f g;rintro a2 a3 ⟨c,t,l,h,o,p,j,m,hE,f,g,hb21ll,hc0',hcl,-⟩;have q6:=m;refine gS (XK (a:=(c:Nat)) (b:=(256:Nat)) m rfl (AL _ _ _ _) ?_);refine cD rfl (fun a4=> ?_) fun a4=> ?_
 ·refine CC [0,1,2,3,4,5,6,7,8,9] [9] [] fun bo z=> ?_;have hb21ll:=eb z hb21ll;refine ys (XX (i:=c) DY G1 h m (by omega) zz) (ys (XJ Tc rfl rfl (cellAt hb21ll (F7 (i:=c) (by rw[Fi _ _ hcl];omega))) zz) (ys (XL (xv:=NI c) (yv:=NI 1) m rfl rfl (BJ _ _ _ (by omega) (by omega)) zz) (ys (XX (i:=(c)-(1)) DY G1 h rfl (by omega) zz) (ys (XJ Tc rfl rfl (cellAt hb21ll (F7 (i:=(c)-(1)) (by rw[Fi _ _ hcl];omega))) zz) (ys (XL (xv:=NI ((BF ids c).getD (c) 0)) (yv:=NI ((BF ids c).getD ((c)-(1)) 0)) rfl rfl rfl (Ai _ _ _ (by have:=Or ids c hc0' (by omega);omega)) zz) (ys (XX (i:=c) DY G1 h m (by omega) zz) (yC (Y6 (i:=c) (v:=((BF ids c).getD (c) 0)+((BF ids c).getD ((c)-(1)) 0)) rfl rfl hb21ll (by rw[Fi _ _ hcl];omega) M5 fun bp an ad bq=> ?_))))))));clear hb21ll;have hb21ll:=an;clear an;have br:=bl hb21ll;have hE:=hE.trans z;have hE:=Ab hE ad (AaV ag (by omega));have f:=eb z f;have f:=kb ad f (by omega);have g:=g.trans z;have g:=Ab g ad (AaV (AaX _) (by omega));refine gS (XL (xv:=NI c) (yv:=NI 1) m rfl rfl (Ai _ _ _ (by omega)) (gK (Aby ⟨c+1,t,l,h,o,p,j,rfl,hE,f,g,AV hb21ll (congrArg (Adw fun x=>NI x) (Ig ids c hc0' (by omega)).symm),by omega,by omega,trivial⟩ ?_)));show 256-(intOf (NI ((c)+(1)))).toNat<256-(intOf (a2 6)).toNat;rw[q6];simp only[intOf,Aba];omega
 have a5:c=256:=by omega
 obtain⟨F,hF⟩:∃F,F=A8 ids:=⟨_,rfl⟩;have hb21ll:a3.heap[k]? =some (.cells (F.map fun x=>NI x).toArray 205 (0,0)):=AV hb21ll (by rw[a5,Oq,hF]);have hFl:F.length=256:=by rw[hF,BQ]
 refine gS (XO h hb21ll DY rfl (by rw[Abe,Abh,hFl];exact Ho) (gS (XN l (vr (.agg (F.map fun x=>NI x).toArray) rfl) f (by rw[Abe,Abe,Abh,Abh,hFl];rfl) (by rw[Abe,Abh,hFl];exact Ho) (PO _) fun bs ao a6 bt=> ?_)));clear g;clear f;have f:=ao;clear ao;have bu:=bl f;refine Lx rfl (ResF.row l f DY rfl (by rw[Abe,Abh,hFl];exact Ho)) ?_;subst hF;have hE:=Ab hE a6 (AaV (AaX _) (by omega));exact⟨rfl,hE⟩
section
variable {P : Abo}
theorem Fs{t e:AaZ}{size:Nat}(ht:P.underlying t=some (.slice e))(he:∀w' :AaS,(sizeOf e).run P w' = .ok size w'){w:AaS}{v:AaR}{n:Nat}{xs:List AaR}(hr:Reads w size v n xs)(lo hi:Option AaR)(l h:Nat)(hlh:l≤h)(hn:h≤n) 
    (hlo:lo=none∧l=0∨∃k,lo=some (.int k l)) (hhi:hi=none∧h=n∨∃k,hi=some (.int k h)):
    ∃ao c,((∀w:AaS,(Ael t v lo hi none).run P w = .ok (.slice ao (h-l) c) w)∧(Aa0 ao (h-l) c).ownBlock=v.ownBlock)∧Reads w size (.slice ao (h-l) c) (h-l) ((xs.drop (l*size)).take ((h-l)*size)):=by
  obtain⟨h1,ao,cap,rfl,h2,h3,h4,h5⟩:=hr;have hE:P.elem t=e:=by simp[Ad7,ht]
  have ht' :P.underlying t=some (.slice (P.elem t)):=by rw[hE];exact ht
  refine⟨if cap=l then ao else ao.map (·.add (l*size)),cap-l,⟨?_,?_⟩,?_,_,_,rfl,by omega,by omega,?_,?_⟩
  · intro w;rw[run_sliceAt_slice (P:=P) w t _ _ _ _ ht'];have hl' :(l:Int)≤(h:Int):=by omega
    have hh' :(h:Int)≤(cap:Int):=by omega
    have hn' :(l:Int)≤(n:Int):=by omega
    rcases hlo with ⟨rfl,rfl⟩ | ⟨k,rfl⟩ <;> rcases hhi with ⟨rfl,rfl⟩ | ⟨k',rfl⟩
    · rw[run_slice_all (P:=P) w t ao h cap ht',hE,he];simp[AbM,sliced]
    · rw[run_slice_h (P:=P) w t ao n cap ht' k' h (by omega) hh',hE,he];simp[AbM,sliced]
    · rw[run_slice_l (P:=P) w t ao h cap ht' k l (by omega) hl',hE,he];simp[AbM,sliced]
    · rw[run_slice_lh (P:=P) w t ao n cap ht' k k' l h (by omega) hl' hh',hE,he];simp[AbM,sliced]
  · cases ao with
    | none=>simp[Aa1]
    | some x=>
      split
      · rfl
      · simp only[Aca,Aa1,AcA];unfold AcU;split <;> rfl
  · rw[Abg,Abf,h1];have:(h-l)*size≤n*size-l*size:=by rw[←Nat.sub_mul];exact Aee _ (by omega)
    omega
  · intro hnone;have:ao=none:=by
      cases ao with
      | none=>rfl
      | some x=>split at hnone <;> simp at hnone
    obtain⟨h6,h7⟩:=h4 this;omega
  · intro a ha j u hu;have hj:j<((xs.drop (l*size)).take ((h-l)*size)).length:=(Abn.1 hu).1;have hj2:j<(h-l)*size:=by rw[Abg]at hj;omega
    have hhl:h-l≠0:=fun e=>by rw[e]at hj2;simp at hj2
    rw[if_neg (by omega)]at ha;cases ao with
    | none=>simp at ha
    | some x=>
      simp at ha;subst ha;rw[F2];refine h5 x rfl _ _ ?_;rw[AcV,if_pos hj2,Aew]at hu;exact hu
end
section
variable {P : Abo} {K : AaR → AaS → Prop} {ρ : Ad} {w w0 : AaS} {d : Option Tmp} {ty : AaZ} {pos : String} {af : Array AbP} {gd : Option (Nat × Bool)}
variable {α : Type} {k : Nat} {enc : α → List AaR} {t e : AaZ}
theorem YX(ht:P.underlying t=some (.slice e))(he:∀w' :AaS,(sizeOf e).run P w' = .ok k w'){x lo:Aa5}{v:AaR}{xs:List α}(hx:Aa ρ x=v)(h:RG k enc w0 v xs){kd:AbU}{l:Nat}(hlo:Aa ρ lo = .int kd (l:Int))(hl:l≤xs.length) 
    (hk:∀v',RG k enc w0 v' (xs.drop l)→v'.ownBlock=v.ownBlock→K v' w):Yk P K ((execOp (Aa ρ) ⟨d, .slice t x (some lo) none none,ty,pos,af,gd⟩).run P w):=by
  obtain⟨ao,c,⟨hrun,hb⟩,hR⟩:=Fs ht he h.2 (some (.int kd l)) none l xs.length hl (AaX _) (.inr ⟨kd,rfl⟩) (.inl ⟨rfl,rfl⟩);have hR' :=RG.cut h.1 hl (AaX _) hR;rw[AbK (by rw[Abf];exact AaX _)]at hR';refine Yk.value (v:= .slice ao (xs.length-l) c) (w' :=w) ?_ (hk _ hR' hb);unfold execOp;simp only[hx,hlo,Aca,AcI,hrun,Aa7,Abb,Aa3]
theorem ZJ(ht:P.underlying t=some (.slice e))(he:∀w' :AaS,(sizeOf e).run P w' = .ok k w'){x hi:Aa5}{v:AaR}{xs:List α}(hx:Aa ρ x=v)(h:RG k enc w0 v xs){kd:AbU}{n:Nat}(hhi:Aa ρ hi = .int kd (n:Int))(hl:n≤xs.length) 
    (hk:∀v',RG k enc w0 v' (xs.take n)→v'.ownBlock=v.ownBlock→K v' w):Yk P K ((execOp (Aa ρ) ⟨d, .slice t x none (some hi) none,ty,pos,af,gd⟩).run P w):=by
  obtain⟨ao,c,⟨hrun,hb⟩,hR⟩:=Fs ht he h.2 none (some (.int kd n)) 0 n (Abs _) hl (.inl ⟨rfl,rfl⟩) (.inr ⟨kd,rfl⟩);have hR' :=RG.cut h.1 (Abs _) hl hR;rw[Adk,AgR]at hR';refine Yk.value (v:= .slice ao (n-0) c) (w' :=w) ?_ (hk _ hR' hb);unfold execOp;simp only[hx,hhi,Aca,AcI,hrun,Aa7,Abb,Aa3]
theorem E6{P:Abo}{e:AaZ}{k b:Nat}(h:(P.info? e).map (fun i=>(i.zero.map (fun z=>z.cells.size),i.size,i.bytes))=some (some k,k,b)):∃z,(P.info? e).map (fun i=>(i.zero,i.size,i.bytes))=some (some z,k,b)∧z.cells.size=k:=by
  cases hi:P.info? e with
  | none=>rw[hi]at h;cases h
  | some i=>
    rw[hi]at h;simp only[Aca,AcA,Afv]at h;cases hz:i.zero with
    | none=>rw[hz]at h;cases h.1
    | some z=>
      rw[hz]at h;simp only[Aca,AcA]at h;exact⟨z,by simp[hz,h.2.1,h.2.2],h.1⟩
theorem Aat(base:Nat)(z:AaR)(bytes:Nat)(ht:P.underlying t=some (.slice e))(hi:(P.info? e).map (fun i=>(i.zero,i.size,i.bytes))=some (some z,k,bytes)){x y:Aa5}{kl kc:AbU}{n:Nat}(hx:Aa ρ x = .int kl 0)(hy:Aa ρ y = .int kc (n:Int))(hb:bytes*n≤281474976710656)(hn:n≤9223372036854775807)(hbase:base≤w.heap.size) 
    (hk:∀v w',OG base e k enc w' v ([]:List α)→Ext w w' →K v w'):Yk P K ((execOp (Aa ρ) ⟨d, .makeSlice t x y,ty,pos,af,gd⟩).run P w):=by
  obtain⟨i,hi,hz,hsize,hby⟩:=info_parts hi;obtain⟨w',hr,h2,h3⟩:=run_make_own (P:=P) (w:=w) base t e i z k ht hi hz hsize kl kc n (by rw[hby];exact hb) (by unfold maxLen;omega) hbase;refine Yk.value (v:= .slice (some ⟨w.heap.size,0,none⟩) 0 n) (w' :=w') ?_ (hk _ w' ⟨by simp,h2⟩ (Zf h3));unfold execOp;simp only[hx,hy,hr,Aa7,Abb,Aa3]
theorem Aau(bytes:Nat)(ht:P.underlying t=some (.slice e))(hi:(P.info? e).map (fun i=>(i.zero,i.size,i.bytes))=some (some (.int .i64 0),1,bytes)){x y:Aa5}{kl kc:AbU}{n:Nat}(hx:Aa ρ x = .int kl (n:Int))(hy:Aa ρ y = .int kc (n:Int))(hb:bytes*n≤281474976710656)(hn:n≤9223372036854775807) 
    (hk:∀g w',w.heap.size=g→w'.heap[g]? =some (.cells ((Aa4 n 0).map fun x=>NI x).toArray e (0,0))→Ext w w' →w'.heap.size=g+1→K (.slice (some ⟨g,0,none⟩) n n) w'):Yk P K ((execOp (Aa ρ) ⟨d, .makeSlice t x y,ty,pos,af,gd⟩).run P w):=by
  obtain⟨i,hi,hz,hsize,hby⟩:=info_parts hi;have hb' :(i.bytes:Int)*(n:Int)≤281474976710656:=by
    have h:((i.bytes*n:Nat):Int)≤281474976710656:=by rw[hby];omega
    rwa [Af3]at h
  have hr:=run_make (P:=P) w t e i _ ht hi hz kl kc (n:Int) n (by omega) (by omega) hb' (by omega);have hm:madeCells (AcM .i64 0).cells (n*i.size)=((Aa4 n 0).map fun x=>NI x).toArray:=by
    rw[hsize,Agb]
    apply Array.ext
    · simp[madeCells]
    · intro j h1 h2;simp[madeCells,Aen,Nat.mod_one]
  simp only[Aba]at hr;rw[hm]at hr;refine Yk.value (v:= .slice (some ⟨w.heap.size,0,none⟩) n n) (w' :=w.alloc (.cells ((Aa4 n 0).map fun x=>NI x).toArray e)) ?_ (hk w.heap.size _ rfl (heap_alloc_new w _) ((AbJ _ _).alloc (AaX _) _) (by simp));unfold execOp;simp only[hx,hy,hr,Aa7,Abb,Aa3]
theorem YU(ht:P.underlying t=some (.slice e))(he:∀w' :AaS,(sizeOf e).run P w' = .ok 1 w'){x y:Aa5}{b i n c:Nat}{kd:AbU}(hx:Aa ρ x = .slice (some ⟨b,0,none⟩) n c)(hy:Aa ρ y = .int kd (i:Int))(hi:i<n)(hk:K (.pointer (some ⟨b,i,none⟩)) w):Yk P K ((execOp (Aa ρ) ⟨d, .indexAddr t x y,ty,pos,af,gd⟩).run P w):=
  YY ht he hx hy hi (by rw[Ab9];exact hk)
theorem OG.base{α:Type}{b b' k:Nat}{e:AaZ}{enc:α→List AaR}{v:AaR}{l:List α}(h:OG b e k enc w v l)(hb:b' ≤b):OG b' e k enc w v l:=⟨h.1,BH h.2 hb⟩
theorem B4{α β:Type}{ek:α→AaR}{ev:β→AaR}{D:α→Prop}{b:Nat}{G G' :α→Option β}(h:MapF ek ev D w b G)(e:G=G'):MapF ek ev D w b G' :=by rw[←e];exact h
def Fz{α:Type}(B N:Nat)(e:AaZ)(k:Nat)(enc:α→List AaR)(r:Option Nat)(l:List α)(x:AaR)(w' :AaS):Prop:=OG B e k enc w' x l∧∀k,x.ownBlock=some k→r=some k∨N≤k
theorem Aaj(w:AaS)(b:Nat)(e:AaZ):OG b e k enc w (.slice none 0 0) ([]:List α):=OG.nil b e k enc w
structure MI (l O A B : List (List UInt8)) : Prop where
  perm:(O++(A++B)).Perm l
  ascO:C1 O
  ascA:C1 A
  ascB:C1 B
  le:∀x∈O,∀y∈A++B,Abl x y≤0
theorem Aav{l A B:List (List UInt8)}{h:Nat}(hA:A.Perm (l.take h))(hB:B.Perm (l.drop h))(a1:C1 A)(b1:C1 B):MI l [] A B:=
  ⟨by rw[AbV];exact(hA.append hB).trans (by rw[Ad8]),AcQ,a1,b1,by simp⟩
theorem MI.left{l O A B:List (List UInt8)}(h:MI l O A B)(hA:0<A.length)(hB:0<B.length)(hc:Abl (A.getD 0 []) (B.getD 0 [])≤0):MI l (O++ [A.getD 0 []]) (A.drop 1) B:=by
  match A,B,hA,hB,h,hc with
  | a :: A,b :: B,_,_,h,hc=>
    simp only[Aff,AdN,Adk]at hc ⊢;have hp:=AbY.1 h.ascA;have hq:=AbY.1 h.ascB;have hall:∀y∈A++b :: B,Abl a y≤0:=fun y hy=>by
      rcases Abk.1 hy with h1 | h1
      · exact hp.1 y h1
      · rcases AbF.1 h1 with rfl | h1
        · exact hc
        · exact Gq hc (hq.1 y h1)
    refine⟨by rw[Abr];exact h.perm,?_,hp.2,h.ascB,?_⟩
    · unfold C1;rw[Acd];exact⟨h.ascO,by simp,fun x hx y hy=>by rw[Aa6.1 hy];exact h.le x hx a (by simp)⟩
    · intro x hx y hy;rcases Abk.1 hx with h1 | h1
      · exact h.le x h1 y (by simp only[AbS,AbF];exact .inr hy)
      · rw[Aa6.1 h1];exact hall y hy
theorem MI.right{l O A B:List (List UInt8)}(h:MI l O A B)(hA:0<A.length)(hB:0<B.length)(hc:¬Abl (A.getD 0 []) (B.getD 0 [])≤0):MI l (O++ [B.getD 0 []]) A (B.drop 1):=by
  match A,B,hA,hB,h,hc with
  | a :: A,b :: B,_,_,h,hc=>
    simp only[Aff,AdN,Adk]at hc ⊢;have hp:=AbY.1 h.ascA;have hq:=AbY.1 h.ascB;have hba:Abl b a≤0:=by have:=GZ a b;omega
    have hall:∀y∈a :: A++B,Abl b y≤0:=fun y hy=>by
      rcases Abk.1 hy with h1 | h1
      · rcases AbF.1 h1 with rfl | h1
        · exact hba
        · exact Gq hba (hp.1 y h1)
      · exact hq.1 y h1
    refine⟨?_,?_,h.ascA,hq.2,?_⟩
    · refine List.Perm.trans ?_ h.perm;rw[Abr];refine List.Perm.append_left O ?_;simp only[Ad9];exact(List.perm_middle (l₁:=a :: A) (l₂:=B) (a:=b)).symm
    · unfold C1;rw[Acd];exact⟨h.ascO,by simp,fun x hx y hy=>by rw[Aa6.1 hy];exact h.le x hx b (by simp)⟩
    · intro x hx y hy;rcases Abk.1 hx with h1 | h1
      · exact h.le x h1 y (by
          rcases Abk.1 hy with h2 | h2
          · exact AdB _ h2
          · exact AcS _ (by simp[h2]))
      · rw[Aa6.1 h1];exact hall y hy
theorem MI.done{l O A B:List (List UInt8)}(h:MI l O A B)(he:A.length=0∨B.length=0):((O++A)++B).Perm l∧C1 ((O++A)++B):=by
  refine⟨by rw[Abr];exact h.perm,?_⟩;rw[Abr];unfold C1;rw[Acd];refine⟨h.ascO,?_,h.le⟩;rcases he with he | he
  · rw[AbC he,AbV];exact h.ascB
  · rw[AbC he,AcK];exact h.ascA
theorem Rt{l:List (List UInt8)}(h:l.length<2):C1 l:=by
  match l,h with
  | [],_=>exact AcQ
  | [a],_=>simp[C1]
end
theorem pk6_ig33:∃z,(Tryz.prog.info? 33).map (fun i=>(i.zero,i.size,i.bytes))=some (some z,32,32)∧z.cells.size=32:=E6 (by kernel_rfl)
theorem JD:Plain AaU 99:=fun _ _=>by kernel_rfl
theorem Ru:Plain AaU 100:=fun _ _=>by kernel_rfl
theorem Th(c0 c1 c2 c3 c4 c5 c6 c7 c8 c9 c10 c11 c12 c13 c14 c15 c16 c17 c18 c19 c20 c21 c22 c23 c24 c25 c26 c27 c28 c29 c30 c31:AaR)(w:AaS):(Abz 42 1 #[(0, .agg #[c0,c1,c2,c3,c4,c5,c6,c7,c8,c9,c10,c11,c12,c13,c14,c15,c16,c17,c18,c19,c20,c21,c22,c23,c24,c25,c26,c27,c28,c29,c30,c31])]).run AaU w = .ok (.slice (some ⟨w.heap.size,0,none⟩) 1 1) (w.alloc (.cells #[c0,c1,c2,c3,c4,c5,c6,c7,c8,c9,c10,c11,c12,c13,c14,c15,c16,c17,c18,c19,c20,c21,c22,c23,c24,c25,c26,c27,c28,c29,c30,c31] 33)):=by kernel_rfl
theorem M6:∀(cs:Array AaR),cs.size=32→∀w:AaS,(Abz 42 1 #[(0, .agg cs)]).run AaU w = .ok (.slice (some ⟨w.heap.size,0,none⟩) 1 1) (w.alloc (.cells cs 33))
 | ⟨[c0,c1,c2,c3,c4,c5,c6,c7,c8,c9,c10,c11,c12,c13,c14,c15,c16,c17,c18,c19,c20,c21,c22,c23,c24,c25,c26,c27,c28,c29,c30,c31]⟩,_,w=>Th c0 c1 c2 c3 c4 c5 c6 c7 c8 c9 c10 c11 c12 c13 c14 c15 c16 c17 c18 c19 c20 c21 c22 c23 c24 c25 c26 c27 c28 c29 c30 c31 w
theorem PP(n:Nat)(ih:∀l:List Bs,l.length<n→∀(w:AaS) (v:AaR),RG 32 AaT w v l→Calls AaU 99 #[v, .func (.func 100) #[] #[]] w fun e w' =>∃v' m,e = .returned v' ∧OG w.heap.size 33 32 AaT w' v' m∧m.Perm l∧C1 m∧Ext w w')(l:List Bs)(hn:l.length=n)(hlim:l.length≤1048576)(w:AaS)(v:AaR)(hr:RG 32 AaT w v l):
  Calls AaU 99 #[v, .func (.func 100) #[] #[]] w fun e w' =>∃v' m,e = .returned v' ∧OG w.heap.size 33 32 AaT w' v' m∧m.Perm l∧C1 m∧Ext w w' :=by
 refine gG (args:= [v, .func (.func 100) #[] #[]]) Tryz.func99 rfl 68 rfl rfl ?_;have hE:=Ext.refl w;refine gS (X1 M4 (XU hr rfl) (gS (XK (a:=(l.length:Nat)) (b:=(2:Nat)) rfl rfl (AL _ _ _ _) ?_)));refine cD rfl (fun a1=> ?_) fun a1=> ?_
 ·refine gS (X2 _ _ w.heap.size _ 32 M4 pk6_ig33.choose_spec.1 pk6_ig33.choose_spec.2 M4 ([]) (l) (Aaj _ _ _) (XU hr (vr v rfl)) (fun _ _=>Af _) (by simp only[Abw];omega) (by simp only[Abw];omega) hE.size fun v5 w6 bk ak=> ?_);have ak:Grew w w6 (.slice none 0 0) v5:=ak;have hx_:Ext w w6:=Zf (by have:=ak.by_;exact this);refine Bn rfl (vr v5 rfl) ?_;have hE:=hE.trans hx_;exact⟨_,l,rfl,OG.base (Bz bk (AbV l)) (by omega),Afm _,Rt a1,hE⟩
 refine gR ?_;refine Hd [Is (v),Is (v),Is (NI l.length),Is (NI ((l.length)/(2))),fun x _=>RG 32 (AaT) w x (l.take ((l.length)/(2))),Is (.func (.func 100) #[] #[]),fun x w' =>∃m,RG 32 AaT w' x m∧m.Perm (l.take ((l.length)/(2)))∧C1 m,Is (v),Is (v),Is (NI l.length),Is (NI ((l.length)/(2))),fun x _=>RG 32 (AaT) w x (l.drop ((l.length)/(2))),Is (.func (.func 100) #[] #[]),fun x w' =>∃m,RG 32 AaT w' x m∧m.Perm (l.drop ((l.length)/(2)))∧C1 m,fun x w' =>∃m,RG 32 AaT w' x m∧m.Perm (l.take ((l.length)/(2)))∧C1 m,fun x w' =>∃m,RG 32 AaT w' x m∧m.Perm (l.drop ((l.length)/(2)))∧C1 m] (by kernel_rfl) [13,14,15,16,17,18,19,20,21,22,23,24,25,26,5,6] (by kernel_rfl) (by kernel_rfl) (Wq ⟨(fun _ _ _ h _=>h),XT _,(fun _ _ _ ⟨m,h1,h2⟩ k=>⟨m,h1.keep k,h2⟩),(Wq ⟨(fun _ _ _ h _=>h),XT _,(fun _ _ _ ⟨m,h1,h2⟩ k=>⟨m,h1.keep k,h2⟩),(fun _ _ _ ⟨m,h1,h2⟩ k=>⟨m,h1.keep k,h2⟩),(fun _ _ _ ⟨m,h1,h2⟩ k=>⟨m,h1.keep k,h2⟩),trivial⟩)⟩) ?bm ?hQ1003
 case bm=>
  refine⟨?_,?_,?_,?_,?_,?_,?_,?_,?_,?_,?_,?_,?_,?_,?_,?_,trivial⟩
  ·refine Aj rfl fun σ w1 hC h=> ?_;have s:σ 0=v:=(AI (h 0 (by decide))).trans rfl;exact Yk.move s ⟨Ext.refl _,rfl⟩
  ·refine Aj rfl fun σ w1 hC h=> ?_;have s:σ 0=v:=(AI (h 0 (by decide))).trans rfl;exact Yk.move s ⟨Ext.refl _,rfl⟩
  ·refine Aj rfl fun σ w1 hC h=> ?_;have bn:=AI (h 14 (by decide));exact X1 M4 (XU (hr.keep hC) bn) ⟨Ext.refl _,rfl⟩
  ·refine Aj rfl fun σ w1 hC h=> ?_;have bo:=AI (h 15 (by decide));exact XL (xv:=NI l.length) (yv:=NI 2) bo rfl rfl (KZ _ _ _ (by omega) (by omega)) ⟨Ext.refl _,rfl⟩
  ·refine Aj rfl fun σ w1 hC h=> ?_;have bp:=AI (h 13 (by decide));have bq:=AI (h 16 (by decide));exact ZJ M4 Rs bp hr bq (by omega) fun v h _=>⟨Ext.refl _,h⟩
  ·refine Aj rfl fun σ w1 hC h=> ?_;have e1:σ 1 = .func (.func 100) #[] #[]:=(AI (h 1 (by decide))).trans rfl;exact Yk.move e1 ⟨Ext.refl _,rfl⟩
  ·refine Aj rfl fun σ w1 hC h=> ?_;have br:(fun x _=>RG 32 (AaT) w x (l.take ((l.length)/(2)))) (σ 17) w1:=h 17 (by decide);have bs:=AI (h 18 (by decide));refine XM JD rfl bs ((ih (l.take ((l.length)/(2))) (by have hlen_:=AgH (l.length/2) l;first | (simp only[Abg];omega) | (simp only[Abf];omega)) _ _ (RG.keep br hC)).mono ?_);rintro e w2 ⟨_,m,rfl,h1,h2,h3,h4⟩;exact⟨_,rfl,h4,m,XW h1,h2,h3⟩
  ·refine Aj rfl fun σ w1 hC h=> ?_;have s:σ 0=v:=(AI (h 0 (by decide))).trans rfl;exact Yk.move s ⟨Ext.refl _,rfl⟩
  ·refine Aj rfl fun σ w1 hC h=> ?_;have s:σ 0=v:=(AI (h 0 (by decide))).trans rfl;exact Yk.move s ⟨Ext.refl _,rfl⟩
  ·refine Aj rfl fun σ w1 hC h=> ?_;have bt:=AI (h 21 (by decide));exact X1 M4 (XU (hr.keep hC) bt) ⟨Ext.refl _,rfl⟩
  ·refine Aj rfl fun σ w1 hC h=> ?_;have bu:=AI (h 22 (by decide));exact XL (xv:=NI l.length) (yv:=NI 2) bu rfl rfl (KZ _ _ _ (by omega) (by omega)) ⟨Ext.refl _,rfl⟩
  ·refine Aj rfl fun σ w1 hC h=> ?_;have bv:=AI (h 20 (by decide));have bw:=AI (h 23 (by decide));exact YX M4 Rs bv hr bw (by omega) fun v h _=>⟨Ext.refl _,h⟩
  ·refine Aj rfl fun σ w1 hC h=> ?_;have e1:σ 1 = .func (.func 100) #[] #[]:=(AI (h 1 (by decide))).trans rfl;exact Yk.move e1 ⟨Ext.refl _,rfl⟩
  ·refine Aj rfl fun σ w1 hC h=> ?_;have bx:(fun x _=>RG 32 (AaT) w x (l.drop ((l.length)/(2)))) (σ 24) w1:=h 24 (by decide);have bz:=AI (h 25 (by decide));refine XM JD rfl bz ((ih (l.drop ((l.length)/(2))) (by have hlen_:=AgH (l.length/2) l;first | (simp only[Abg];omega) | (simp only[Abf];omega)) _ _ (RG.keep bx hC)).mono ?_);rintro e w2 ⟨_,m,rfl,h1,h2,h3,h4⟩;exact⟨_,rfl,h4,m,XW h1,h2,h3⟩
  ·refine Aj rfl fun σ w1 hC h=> ?_;have b0:(fun x w' =>∃m,RG 32 AaT w' x m∧m.Perm (l.take ((l.length)/(2)))∧C1 m) (σ 19) w1:=h 19 (by decide);exact Yk.assign rfl ⟨Ext.refl _,b0⟩
  ·refine Aj rfl fun σ w1 hC h=> ?_;have b1:(fun x w' =>∃m,RG 32 AaT w' x m∧m.Perm (l.drop ((l.length)/(2)))∧C1 m) (σ 26) w1:=h 26 (by decide);exact Yk.assign rfl ⟨Ext.refl _,b1⟩
 intro aa g a4 he hf;obtain⟨-,-,-,-,-,-,-,-,-,-,-,-,-,-,k5,k6,-⟩:=hf;obtain⟨p,q,r,-⟩:=he.hold [(0,v),(1, .func (.func 100) #[] #[]),(4,(Aa0 none 0 0))] ⟨rfl,rfl,rfl,trivial⟩ rfl;clear he;have k5:(fun x w' =>∃m,RG 32 AaT w' x m∧m.Perm (l.take ((l.length)/(2)))∧C1 m) (aa 5) g:=k5;obtain⟨b2,i⟩:∃v,aa 5=v:=⟨_,rfl⟩;rw[i]at k5;have b3:=k5;clear k5;obtain⟨A,b4,b5,ha17⟩:=b3;have k6:(fun x w' =>∃m,RG 32 AaT w' x m∧m.Perm (l.drop ((l.length)/(2)))∧C1 m) (aa 6) g:=k6;obtain⟨b6,j⟩:∃v,aa 6=v:=⟨_,rfl⟩;rw[j]at k6;have b7:=k6;clear k6;obtain⟨B,b8,b9,ha22⟩:=b7;have hr:=hr.keep a4;refine gX (gS (X1 M4 (XU hr p) ?_));have f:=Ext.refl g;have hE:=hE.trans a4;have t:=hE.size;refine gS (Aat (enc:=AaT) g.heap.size _ 32 M4 pk6_ig33.choose_spec.1 rfl rfl (by omega) (by omega) (AaX _) fun ca c4 a5 a6=> ?_);have hE:=hE.trans a6;have f:=f.trans a6;refine gL (fun(ρ:Ad) (wz:AaS)=>∃va:AaR,∃vb:AaR,∃Al:List Bs,∃Bl:List Bs,∃Ol:List Bs,∃vo:AaR,ρ 0=(v:AaR)∧ρ 1=(.func (.func 100) #[] #[]:AaR)∧ρ 4=((Aa0 none 0 0):AaR)∧ρ 5=(va:AaR)∧ρ 6=(vb:AaR)∧ρ 7=(vo:AaR)∧Ext w wz∧Ext g wz∧RG 32 AaT g va Al∧RG 32 AaT g vb Bl∧OG g.heap.size 33 32 (AaT) wz vo Ol∧(MI l Ol Al Bl)∧True) (fun ρ _=>BD (ρ 5)+BD (ρ 6)) ⟨b2,b6,A,B,[],ca,p,q,r,i,j,rfl,hE,f,b4,b8,a5,Aav b5 b9 ha17 ha22,trivial⟩ ?_;clear a5;clear hE;rintro ab a7 ⟨va,vb,Al,Bl,Ol,vo,p,q,r,i,j,o,hE,f,hfa,hfb,hfo,hMI,-⟩;have q5:=i;have q6:=j;have qa:=hfa.sliceLen;have qb:=hfb.sliceLen;have hla:=hMI.perm.length_eq;simp only[AaY]at hla;by_cases hga:0<Al.length
 ·by_cases hgb:0<Bl.length
  ·refine gS (X1 M4 (XU (hfa.keep f) i) (gS (XK (a:=(Al.length:Nat)) (b:=(0:Nat)) rfl rfl (Bj _ _ _ _) (kT (hga) (gS (X1 M4 (XU (hfb.keep f) j) (gS (XK (a:=(Bl.length:Nat)) (b:=(0:Nat)) rfl rfl (Bj _ _ _ _) (kT (hgb) (gS (XR rfl rfl (cT rfl (CC [0,1,2,3,4,5,6,7,8] [7] [] fun c5 am=> ?_)))))))))))));have f:=f.trans am;have a8:(AaT (Al.getD (0) ([]:List UInt8))).length=32:=(RG.elem (hfa.keep f) ([]:List UInt8) (by omega));refine yA (X4 M4 Rs (by decide) ([]:List UInt8) (XU (hfa.keep f) i) rfl (by omega) fun c6 ac=>(ys (X9 (Yb ac rfl) UY rfl (by rw[a8];exact Rb) zz) ?_));have a9:(AaT (Bl.getD (0) ([]:List UInt8))).length=32:=(RG.elem (hfb.keep f) ([]:List UInt8) (by omega));refine yA (X4 M4 Rs (by decide) ([]:List UInt8) (XU (hfb.keep f) j) rfl (by omega) fun c7 ad=>(ys (X9 (Yb ad rfl) UY rfl (by rw[a9];exact Rb) zz) (yC (YN Ru (caps:= #[]) q #[AB (Al.getD (0) ([]:List UInt8)),AB (Bl.getD (0) ([]:List UInt8))] (by simp only[Abx,Abv,AbG,Ac4,AbS,AbV];exact congrArg Acn (FI rfl rfl)) ((GL _ (Al.getD (0) ([]:List UInt8)) (Bl.getD (0) ([]:List UInt8)) ((AC (a8))) ((AC (a9)))).mono ?_)))));rintro e c ⟨rfl,u⟩;refine⟨_,rfl,?_⟩;have ac:=PR.keep ac u;have ad:=PR.keep ad u;refine ys (XK rfl rfl (W2 _ .i64 (Abl (Al.getD (0) ([]:List UInt8)) (Bl.getD (0) ([]:List UInt8)):Int) ((0:Nat):Int)) zz) ?_;clear ac;clear ad;refine cD rfl (fun an=> ?_) fun an=> ?_
   ·refine gR ?_;have hZ1:=am.trans u;have hfo:=hfo.keep hZ1;have cb:∀k,Aa1 vo=some k→g.heap.size≤k:=fun k hk=>(hfo.2.lt k hk).1;have f:=f.trans u;have hsz_:g.heap.size≤c.heap.size:=f.size;refine Ei (Aa1 vo) [5] [0] (fun m=>if m=5 then [0,2,4]else []) (fun m=>if m=5 then [0,2,4,5,8]else []) [fun x w' =>Fz g.heap.size c.heap.size 33 32 (AaT) (Aa1 vo) (Ol) x w',Is (va),fun x w' =>PR (AaT (Al.getD (0) ([]:List UInt8))) x w',Is (AB (Al.getD (0) ([]:List UInt8))),fun x w' =>RG 32 (AaT) w' x ([(Al.getD (0) ([]:List UInt8))]),fun x w' =>Fz g.heap.size c.heap.size 33 32 (AaT) (Aa1 vo) ((Ol)++ [(Al.getD (0) ([]:List UInt8))]) x w',Is (va),fun x _=>RG 32 (AaT) g x (Al.drop (1)),fun x w' =>Fz g.heap.size c.heap.size 33 32 (AaT) (Aa1 vo) ((Ol)++ [(Al.getD (0) ([]:List UInt8))]) x w',fun x _=>RG 32 (AaT) g x (Al.drop (1))] (by kernel_rfl) [47,48,49,50,51,52,53,54,7,5] (by kernel_rfl) (by kernel_rfl) (by kernel_rfl) (by kernel_rfl) (by kernel_rfl) rfl ⟨(fun _ _ _ h k=>⟨OG.keep h.1 k,h.2⟩),XT _,(fun _ _ _ h k=>PR.keep h k),XT _,(fun _ _ _ h k=>RG.keep h k),(fun _ _ _ h k=>⟨OG.keep h.1 k,h.2⟩),XT _,(fun _ _ _ h _=>h),(fun _ _ _ h k=>⟨OG.keep h.1 k,h.2⟩),(fun _ _ _ h _=>h),trivial⟩ ⟨⟨.inl rfl, .inr (XT _), .inl rfl, .inr (XT _), .inl rfl, .inl rfl, .inr (XT _), .inr ((fun _ _ _ h _=>h)), .inl rfl, .inr ((fun _ _ _ h _=>h)),trivial⟩,trivial⟩ ?cc ?hQ2007
    case cc=>
     refine⟨?_,?_,?_,?_,?_,?_,?_,?_,?_,?_,trivial⟩
     ·refine Aj rfl fun σ w1 hC h=> ?_;have hX:Ext c w1:=hC;have hC:BX c.heap.size (Aa1 vo) c w1:=Yi hX (AaX _);have e7:=(AI (h 7 (by decide))).trans o;exact Yk.move e7 ⟨Ext.refl _,OG.keep hfo hX,fun k hk=> .inl hk⟩
     ·refine Aj rfl fun σ w1 hC h=> ?_;have hC:BX c.heap.size (Aa1 vo) c w1:=hC;have e5:=(AI (h 5 (by decide))).trans i;exact Yk.move e5 ⟨Ext.refl _,rfl⟩
     ·refine Aj rfl fun σ w1 hC h=> ?_;have hC:BX c.heap.size (Aa1 vo) c w1:=hC;have cd:=AI (h 48 (by decide));exact X4 M4 Rs (by decide) ([]:List UInt8) (XU (hfa.keep (Dz f hC (by omega) (fun k hk=>by have:=cb k hk;omega))) cd) (vr (NI 0) rfl) (by omega) fun v h=>⟨Ext.refl _,h⟩
     ·refine Aj rfl fun σ w1 hC h=> ?_;have hC:BX c.heap.size (Aa1 vo) c w1:=hC;have ce:(fun x w' =>PR (AaT (Al.getD (0) ([]:List UInt8))) x w') (σ 49) w1:=h 49 (by decide);exact X9 ce UY rfl (by rw[RG.elem hfa ([]:List UInt8) (by omega)];exact Rb) ⟨Ext.refl _,rfl⟩
     ·refine Aj rfl fun σ w1 hC h=> ?_;have hC:BX c.heap.size (Aa1 vo) c w1:=hC;have cf:=AI (h 50 (by decide));exact Yo (a:=(Al.getD (0) ([]:List UInt8))) (enc:=AaT) cf (by rw[Aa8];exact(AC (RG.elem hfa ([]:List UInt8) (by omega)))) M6 fun v w2 h hx=>⟨hx,h⟩
     ·refine Aj rfl fun σ w1 hC h=> ?_;have hC:BX c.heap.size (Aa1 vo) c w1:=hC;have aq:(fun x w' =>Fz g.heap.size c.heap.size 33 32 (AaT) (Aa1 vo) (Ol) x w') (σ 47) w1:=h 47 (by decide);have cg:(fun x w' =>RG 32 (AaT) w' x ([(Al.getD (0) ([]:List UInt8))])) (σ 51) w1:=h 51 (by decide);exact X2 _ _ g.heap.size _ 32 M4 pk6_ig33.choose_spec.1 pk6_ig33.choose_spec.2 M4 (Ol) ([(Al.getD (0) ([]:List UInt8))]) aq.1 cg (fun _ _=>Af _) (by simp only[Abp,Abw];omega) (by simp only[Abp,Abw];omega) (AaV hsz_ hC.size) fun v w2 ho hg=>⟨Yj hg.by_ hC.size aq.2,ho,fun k hk=>(hg.fresh k hk).elim (aq.2 k) (fun x=> .inr (AaV hC.size x))⟩
     ·refine Aj rfl fun σ w1 hC h=> ?_;have hC:BX c.heap.size (Aa1 vo) c w1:=hC;have e5:=(AI (h 5 (by decide))).trans i;exact Yk.move e5 ⟨Ext.refl _,rfl⟩
     ·refine Aj rfl fun σ w1 hC h=> ?_;have hC:BX c.heap.size (Aa1 vo) c w1:=hC;have ch:=AI (h 53 (by decide));exact YX M4 Rs ch hfa (vr (NI 1) rfl) (by omega) fun v h _=>⟨Ext.refl _,h⟩
     ·refine Aj rfl fun σ w1 hC h=> ?_;have hC:BX c.heap.size (Aa1 vo) c w1:=hC;have ci:(fun x w' =>Fz g.heap.size c.heap.size 33 32 (AaT) (Aa1 vo) ((Ol)++ [(Al.getD (0) ([]:List UInt8))]) x w') (σ 52) w1:=h 52 (by decide);exact Yk.assign rfl ⟨Ext.refl _,ci⟩
     ·refine Aj rfl fun σ w1 hC h=> ?_;have hC:BX c.heap.size (Aa1 vo) c w1:=hC;have cj:(fun x _=>RG 32 (AaT) g x (Al.drop (1))) (σ 54) w1:=h 54 (by decide);exact Yk.assign rfl ⟨Ext.refl _,cj⟩
    intro y ar ck he hf;obtain⟨-,-,-,-,-,-,-,-,k7,k5,-⟩:=hf;obtain⟨p,q,r,j,cl,-⟩:=he.hold [(0,_),(1,_),(4,_),(6,_),(37, .bool (true))] ⟨p,q,r,j,rfl,trivial⟩ rfl;clear he;have k7:(fun x w' =>Fz g.heap.size c.heap.size 33 32 (AaT) (Aa1 vo) ((Ol)++ [(Al.getD (0) ([]:List UInt8))]) x w') (y 7) ar:=k7;obtain⟨ba,o⟩:∃v,y 7=v:=⟨_,rfl⟩;rw[o]at k7;have bb:Grew c ar vo ba:=⟨ck.grown,k7.2⟩;have cm:=k7.1;clear k7;have hE:=hE.trans hZ1;have hE:=Av hE bb hfo.2 t;have f:=Av f bb hfo.2 (AaX _);clear hfo;have k5:(fun x _=>RG 32 (AaT) g x (Al.drop (1))) (y 5) ar:=k5;obtain⟨cn,i⟩:∃v,y 5=v:=⟨_,rfl⟩;rw[i]at k5;have bc:=k5;clear k5;refine gX (gK (Aby ⟨cn,vb,Al.drop (1),Bl,(Ol)++ [(Al.getD (0) ([]:List UInt8))],ba,p,q,r,i,j,o,hE,f,bc,hfb,cm,hMI.left (by omega) (by omega) an,trivial⟩ ?_));show BD (y 5)+BD (y 6)<BD (ab 5)+BD (ab 6);rw[i,j,q5,q6];have n5:=bc.sliceLen;have n6:=hfb.sliceLen
    try rw[n5]
    try rw[n6]
    try rw[qa]
    try rw[qb]
    simp only[Abf];omega
   refine gR ?_;have hZ2:=am.trans u;have hfo:=hfo.keep hZ2;have co:∀k,Aa1 vo=some k→g.heap.size≤k:=fun k hk=>(hfo.2.lt k hk).1;have f:=f.trans u;have hsz_:g.heap.size≤c.heap.size:=f.size;refine Ei (Aa1 vo) [5] [0] (fun m=>if m=5 then [0,2,4]else []) (fun m=>if m=5 then [0,2,4,5,8]else []) [fun x w' =>Fz g.heap.size c.heap.size 33 32 (AaT) (Aa1 vo) (Ol) x w',Is (vb),fun x w' =>PR (AaT (Bl.getD (0) ([]:List UInt8))) x w',Is (AB (Bl.getD (0) ([]:List UInt8))),fun x w' =>RG 32 (AaT) w' x ([(Bl.getD (0) ([]:List UInt8))]),fun x w' =>Fz g.heap.size c.heap.size 33 32 (AaT) (Aa1 vo) ((Ol)++ [(Bl.getD (0) ([]:List UInt8))]) x w',Is (vb),fun x _=>RG 32 (AaT) g x (Bl.drop (1)),fun x w' =>Fz g.heap.size c.heap.size 33 32 (AaT) (Aa1 vo) ((Ol)++ [(Bl.getD (0) ([]:List UInt8))]) x w',fun x _=>RG 32 (AaT) g x (Bl.drop (1))] (by kernel_rfl) [55,56,57,58,59,60,61,62,7,6] (by kernel_rfl) (by kernel_rfl) (by kernel_rfl) (by kernel_rfl) (by kernel_rfl) rfl ⟨(fun _ _ _ h k=>⟨OG.keep h.1 k,h.2⟩),XT _,(fun _ _ _ h k=>PR.keep h k),XT _,(fun _ _ _ h k=>RG.keep h k),(fun _ _ _ h k=>⟨OG.keep h.1 k,h.2⟩),XT _,(fun _ _ _ h _=>h),(fun _ _ _ h k=>⟨OG.keep h.1 k,h.2⟩),(fun _ _ _ h _=>h),trivial⟩ ⟨⟨.inl rfl, .inr (XT _), .inl rfl, .inr (XT _), .inl rfl, .inl rfl, .inr (XT _), .inr ((fun _ _ _ h _=>h)), .inl rfl, .inr ((fun _ _ _ h _=>h)),trivial⟩,trivial⟩ ?cp ?hQ3008
   case cp=>
    refine⟨?_,?_,?_,?_,?_,?_,?_,?_,?_,?_,trivial⟩
    ·refine Aj rfl fun σ w1 hC h=> ?_;have hX:Ext c w1:=hC;have hC:BX c.heap.size (Aa1 vo) c w1:=Yi hX (AaX _);have e7:=(AI (h 7 (by decide))).trans o;exact Yk.move e7 ⟨Ext.refl _,OG.keep hfo hX,fun k hk=> .inl hk⟩
    ·refine Aj rfl fun σ w1 hC h=> ?_;have hC:BX c.heap.size (Aa1 vo) c w1:=hC;have e6:=(AI (h 6 (by decide))).trans j;exact Yk.move e6 ⟨Ext.refl _,rfl⟩
    ·refine Aj rfl fun σ w1 hC h=> ?_;have hC:BX c.heap.size (Aa1 vo) c w1:=hC;have cq:=AI (h 56 (by decide));exact X4 M4 Rs (by decide) ([]:List UInt8) (XU (hfb.keep (Dz f hC (by omega) (fun k hk=>by have:=co k hk;omega))) cq) (vr (NI 0) rfl) (by omega) fun v h=>⟨Ext.refl _,h⟩
    ·refine Aj rfl fun σ w1 hC h=> ?_;have hC:BX c.heap.size (Aa1 vo) c w1:=hC;have cr:(fun x w' =>PR (AaT (Bl.getD (0) ([]:List UInt8))) x w') (σ 57) w1:=h 57 (by decide);exact X9 cr UY rfl (by rw[RG.elem hfb ([]:List UInt8) (by omega)];exact Rb) ⟨Ext.refl _,rfl⟩
    ·refine Aj rfl fun σ w1 hC h=> ?_;have hC:BX c.heap.size (Aa1 vo) c w1:=hC;have cs:=AI (h 58 (by decide));exact Yo (a:=(Bl.getD (0) ([]:List UInt8))) (enc:=AaT) cs (by rw[Aa8];exact(AC (RG.elem hfb ([]:List UInt8) (by omega)))) M6 fun v w2 h hx=>⟨hx,h⟩
    ·refine Aj rfl fun σ w1 hC h=> ?_;have hC:BX c.heap.size (Aa1 vo) c w1:=hC;have ax:(fun x w' =>Fz g.heap.size c.heap.size 33 32 (AaT) (Aa1 vo) (Ol) x w') (σ 55) w1:=h 55 (by decide);have ct:(fun x w' =>RG 32 (AaT) w' x ([(Bl.getD (0) ([]:List UInt8))])) (σ 59) w1:=h 59 (by decide);exact X2 _ _ g.heap.size _ 32 M4 pk6_ig33.choose_spec.1 pk6_ig33.choose_spec.2 M4 (Ol) ([(Bl.getD (0) ([]:List UInt8))]) ax.1 ct (fun _ _=>Af _) (by simp only[Abp,Abw];omega) (by simp only[Abp,Abw];omega) (AaV hsz_ hC.size) fun v w2 ho hg=>⟨Yj hg.by_ hC.size ax.2,ho,fun k hk=>(hg.fresh k hk).elim (ax.2 k) (fun x=> .inr (AaV hC.size x))⟩
    ·refine Aj rfl fun σ w1 hC h=> ?_;have hC:BX c.heap.size (Aa1 vo) c w1:=hC;have e6:=(AI (h 6 (by decide))).trans j;exact Yk.move e6 ⟨Ext.refl _,rfl⟩
    ·refine Aj rfl fun σ w1 hC h=> ?_;have hC:BX c.heap.size (Aa1 vo) c w1:=hC;have cu:=AI (h 61 (by decide));exact YX M4 Rs cu hfb (vr (NI 1) rfl) (by omega) fun v h _=>⟨Ext.refl _,h⟩
    ·refine Aj rfl fun σ w1 hC h=> ?_;have hC:BX c.heap.size (Aa1 vo) c w1:=hC;have cv:(fun x w' =>Fz g.heap.size c.heap.size 33 32 (AaT) (Aa1 vo) ((Ol)++ [(Bl.getD (0) ([]:List UInt8))]) x w') (σ 60) w1:=h 60 (by decide);exact Yk.assign rfl ⟨Ext.refl _,cv⟩
    ·refine Aj rfl fun σ w1 hC h=> ?_;have hC:BX c.heap.size (Aa1 vo) c w1:=hC;have cw:(fun x _=>RG 32 (AaT) g x (Bl.drop (1))) (σ 62) w1:=h 62 (by decide);exact Yk.assign rfl ⟨Ext.refl _,cw⟩
   intro z ay cx he hf;obtain⟨-,-,-,-,-,-,-,-,k7,k6,-⟩:=hf;obtain⟨p,q,r,i,cl,-⟩:=he.hold [(0,_),(1,_),(4,_),(5,_),(37, .bool (true))] ⟨p,q,r,i,rfl,trivial⟩ rfl;clear he;have k7:(fun x w' =>Fz g.heap.size c.heap.size 33 32 (AaT) (Aa1 vo) ((Ol)++ [(Bl.getD (0) ([]:List UInt8))]) x w') (z 7) ay:=k7;obtain⟨bd,o⟩:∃v,z 7=v:=⟨_,rfl⟩;rw[o]at k7;have be:Grew c ay vo bd:=⟨cx.grown,k7.2⟩;have cy:=k7.1;clear k7;have hE:=hE.trans hZ2;have hE:=Av hE be hfo.2 t;have f:=Av f be hfo.2 (AaX _);clear hfo;have k6:(fun x _=>RG 32 (AaT) g x (Bl.drop (1))) (z 6) ay:=k6;obtain⟨cz,j⟩:∃v,z 6=v:=⟨_,rfl⟩;rw[j]at k6;have bf:=k6;clear k6;refine gX (gK (Aby ⟨va,cz,Al,Bl.drop (1),(Ol)++ [(Bl.getD (0) ([]:List UInt8))],bd,p,q,r,i,j,o,hE,f,hfa,bf,cy,hMI.right (by omega) (by omega) an,trivial⟩ ?_));show BD (z 5)+BD (z 6)<BD (ab 5)+BD (ab 6);rw[i,j,q5,q6];have n5:=hfa.sliceLen;have n6:=bf.sliceLen
   try rw[n5]
   try rw[n6]
   try rw[qa]
   try rw[qb]
   simp only[Abf];omega
  refine gS (X1 M4 (XU (hfa.keep f) i) (gS (XK (a:=(Al.length:Nat)) (b:=(0:Nat)) rfl rfl (Bj _ _ _ _) (kT (hga) (gS (X1 M4 (XU (hfb.keep f) j) (gS (XK (a:=(Bl.length:Nat)) (b:=(0:Nat)) rfl rfl (Bj _ _ _ _) (kF (hgb) (gS (XR rfl rfl (cF rfl (gS (X2 _ _ g.heap.size _ 32 M4 pk6_ig33.choose_spec.1 pk6_ig33.choose_spec.2 M4 (Ol) (Al) (OG.of hfo o) (XU (hfa.keep f) i) (fun _ _=>Af _) (by omega) (by omega) f.size fun az bg ae af=> ?_))))))))))))));have af:Grew a7 bg vo az:= .eqv o af;have hE:=Av hE af hfo.2 t;have f:=Av f af hfo.2 (AaX _);clear hfo;refine gS (X2 _ _ g.heap.size _ 32 M4 pk6_ig33.choose_spec.1 pk6_ig33.choose_spec.2 M4 ((Ol)++Al) (Bl) (OG.of ae (vr az rfl)) (XU (hfb.keep f) j) (fun _ _=>Af _) (by simp only[AaY];omega) (by simp only[AaY];omega) f.size fun bh c0 c1 ag=> ?_);have ag:Grew bg c0 az bh:=ag;have hE:=Av hE ag ae.2 t;have f:=Av f ag ae.2 (AaX _);clear ae;refine Bn rfl (vr bh rfl) ?_;obtain⟨hpm,hasc⟩:=hMI.done (by omega);exact⟨_,_,rfl,OG.base c1 (by omega),hpm,hasc,hE⟩
 refine gS (X1 M4 (XU (hfa.keep f) i) (gS (XK (a:=(Al.length:Nat)) (b:=(0:Nat)) rfl rfl (Bj _ _ _ _) (kF (hga) (gS (XV rfl rfl (cF rfl (gS (X2 _ _ g.heap.size _ 32 M4 pk6_ig33.choose_spec.1 pk6_ig33.choose_spec.2 M4 (Ol) (Al) (OG.of hfo o) (XU (hfa.keep f) i) (fun _ _=>Af _) (by omega) (by omega) f.size fun a0 bi ah ai=> ?_)))))))));have ai:Grew a7 bi vo a0:= .eqv o ai;have hE:=Av hE ai hfo.2 t;have f:=Av f ai hfo.2 (AaX _);clear hfo;refine gS (X2 _ _ g.heap.size _ 32 M4 pk6_ig33.choose_spec.1 pk6_ig33.choose_spec.2 M4 ((Ol)++Al) (Bl) (OG.of ah (vr a0 rfl)) (XU (hfb.keep f) j) (fun _ _=>Af _) (by simp only[AaY];omega) (by simp only[AaY];omega) f.size fun bj c2 c3 aj=> ?_);have aj:Grew bi c2 a0 bj:=aj;have hE:=Av hE aj ah.2 t;have f:=Av f aj ah.2 (AaX _);clear ah;refine Bn rfl (vr bj rfl) ?_;obtain⟨hpm,hasc⟩:=hMI.done (by omega);exact⟨_,_,rfl,OG.base c3 (by omega),hpm,hasc,hE⟩

theorem Rv:∀(n:Nat) (l:List Bs),l.length=n→l.length≤1048576→∀(w:AaS) (v:AaR),RG 32 AaT w v l→Calls AaU 99 #[v, .func (.func 100) #[] #[]] w fun e w' =>∃v' m,e = .returned v' ∧OG w.heap.size 33 32 AaT w' v' m∧m.Perm l∧C1 m∧Ext w w' :=by
 intro n
 induction n using Adr with
 | _ n ih=>exact fun l hn hlim w v hr=>PP n (fun l' hl w v hr=>ih l'.length hl l' rfl (by omega) w v hr) l hn hlim w v hr

theorem M7(w:AaS)(v:AaR)(l:List Bs)(hlim:l.length≤1048576)(hr:RG 32 AaT w v l):
  Calls AaU 55 #[v] w fun e w' =>∃v',e = .returned v' ∧OG w.heap.size 33 32 AaT w' v' (AJ l)∧Ext w w' :=by
 refine gG (args:= [v]) Tryz.func55 rfl 5 rfl rfl ?_;have hE:=Ext.refl w;refine gS (XM JD rfl rfl ((Rv _ l rfl hlim _ v hr).mono ?_));rintro e g ⟨a,m4,rfl,b,c,ha7,f⟩;refine⟨_,rfl,?_⟩;have hms:=Rf ha7 c;subst hms;refine Bn rfl (vr a rfl) ?_;have hE:=hE.trans f;exact⟨_,rfl,b,hE⟩
end Go.Proofs.YtfpekahfdalfkaaGreatDoor
