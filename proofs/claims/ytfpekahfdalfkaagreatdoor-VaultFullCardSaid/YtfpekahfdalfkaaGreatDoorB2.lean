/- Part 2 of what stands behind these statements: laws and walks of the functions that are reached. Conditions: those that each theorem names. -/
import Derived.Test.YtfpekahfdalfkaaGreatDoorB1
set_option linter.unusedVariables false
set_option linter.unusedSimpArgs false
namespace Go.Proofs.YtfpekahfdalfkaaGreatDoor
open _root_.Go renaming Value → AcJ, World → AcK, TypeId → AcR, Program → Adg, Edge → AdL, Operand → AcW, IntKind → AdU, Code → Ae5, Oper → Adb, Func → AfB, Ending → Afa, FuncId → AeB, MapEntry → Aev, binOp → Adq
open _root_.Nat renaming le_refl → AcP, zero_add → Ad4, add_mul → AeV, add_assoc → Ae2, blt → AeC, beq → Ae9, eq_of_beq_eq_true → Afo, ble → AgI, le_of_ble_eq_true → Ac2, lt_of_lt_of_le → AdE, div_lt_of_lt_mul → Aiq, mul_comm → Agz, mul_le_mul → Ahg, pow_le_pow_right → AeW, shiftLeft_add_eq_or_of_lt → Ag8, shiftLeft_eq → AhK, mul_le_mul_left → AfH, le_trans → AcN, le_add_right → Ae6, min → AfN, add_comm → AgB, le_of_eq → AiW, sub_self → Aez, lt_succ_self → AgV, zero_le → Adm, mul_lt_mul_of_pos_right → Agb, or_lt_two_pow → Ahz, add_sub_cancel_left → AeX, mul_one → Ah9, mul_le_mul_right → Agc, sub_zero → AiR
open _root_.Go.World renaming ownsRow_nil → AdK, cell?_spot → AfC, cell? → Afc, ownsRow → Ahv
open _root_.List renaming getElem?_eq_some_iff → Adc, getD_cons_zero → Ahb, flatMap_cons → AdJ, getElem?_append_left → AdF, getElem?_append_right → AdB, getD_eq_getElem?_getD → AcO, getElem?_eq_getElem → AcS, getElem_mem → Ad9, getElem?_take → AeS, getElem?_drop → Agv, eq_nil_of_length_eq_zero → Adw, mem_flatMap → AhP, mem_append → Adf, length_append → AcQ, flatMap_append → AfG, contains_iff_mem → AeR, append_assoc → Adn, map_toArray → Ads, map_nil → AdA, not_mem_nil → Aeu, length → AgQ, length_singleton → Ac9, cons_append → AdP, length_drop → Ac5, take_of_length_le → AdD, drop_eq_getElem_cons → Ad3, mem_of_getElem? → AdX, map_append → Aei, map_cons → Ado, nodup_append → AeY, mem_map → Adx, mem_singleton → AcY, mem_append_right → Aex, mem_append_left → Afv, map_set → AhN, getElem?_map → Aej, mem_iff_getElem → Agf, getElem_set → AhQ, getElem_map → Agg, mem_eraseIdx_iff_getElem → Ag9, eraseIdx_sublist → Ag0, nil_append → AdS, getD → AgX, drop_of_length_le → AdR, replicate → AcX, length_replicate → Ac7, length_take → Ac8, foldl_cons → AfP, set_cons_zero → AgC, range → AdN, getElem?_eq_none → AdY, set_append_right → Aeg, replicate_succ → AiG, getElem?_set_self → Af0, getElem?_set_ne → Air, ext_getElem → AgT, mem_cons → Adz, map → Afs, size_toArray → Ac6, length_map → Ada, drop_drop → Ahh, take_append_of_le_length → Af3, drop_append_of_le_length → Afd, take_append → AhS, drop_append → AgW, map_take → Ahr, map_drop → Aiy, length_cons → Adh, pairwise_cons → AdZ, countP_le_length → Aii, length_set → Aer, take_succ_eq_append_getElem → Adi, singleton_append → Af6, append_nil → AeA, drop_succ_cons → AfI, take_succ_cons → AfJ, mem_of_mem_drop → Ais, mem_of_mem_take → Ait, append_of_mem → Afm, pairwise_append → Aee, nodup_cons → AeQ, all_eq_true → Adv, take_length → Ad6, drop_zero → Afg, take_append_drop → Afb
open _root_.Go.Addr renaming add → AeO, add_lit → Aek
open _root_.Go.Program renaming elem → Af5, arrayLen → AhL
open _root_.Go.Sem renaming run_bind → Ac1, run_pure → Ac3, run → Ag1
open _root_.Go.Result renaming andThen_ok → AcV, andThen → AdH
open _root_.Go.Src renaming ofSlice → Ahl
open _root_.Go.Region renaming wanted → Ad8
open _root_.Array renaming replicate → Aeq, getElem?_eq_some_iff → Ade, getElem?_setIfInBounds → Aep, length_toList → Aew
open _root_.Go.RowKit.Below renaming refl → AdC, trans → Aic
open _root_.Go.Calls renaming mono → AfS
open _root_.Option renaming map_none → AeG, map_eq_some_iff → Afi, getD_some → AdI, map_some → Aeb, bind_some → Ae4, isNone_iff_eq_none → AhF
open _root_.Go.Instr renaming storeAt → Afq, sureAddr → Aff, buildSlice → Adt, lookup → AgA, mapUpdate → Ah2, build → AeH, mapEntry → Ahj, entryStore → AhT, sliceAt → Agl
open _root_.Go.Value renaming cells → Ahm, ownBlock → AcT, int → AeJ, slice → AcU
open _root_.Go.Proofs.Tryz renaming prog → AcM, func128 → AiU, ntmps128 → AiA, func210 → AhR, ntmps210 → Ahu
open _root_.Go.Lib renaming byteCells → AcL, hid → AeD, uvarint → Ac4, uvarint_big → Ah0, uvarint_small → Af4, byteCells_append → Ag2, compareBytes → Adj, byteCells_length → AcZ
open _root_.Go.Exit renaming noGoto_ret → Ah1
open _root_.Prod.mk renaming injEq → Aht
open _root_.Go.MapKept renaming IsKey → Agm, run_findKey → AiF, Stamped → Ag4, run_getObj_map → Ad5, run_setObj_map → AeL
open _root_.Go.ChangeMaps renaming modify_eq_set → Aga
open _root_.Go.WideElems renaming set_self → Aih
open _root_.Go.MapEntry renaming key → AiV
open _root_.Go.Builtin renaming delete_ → Ah3
open _root_.Option.some renaming inj → Adu, injEq → Aey
open _root_.Go.World.grownBy renaming refl → Aef
open _root_.UInt32 renaming ofNat → Agx
open _root_.UInt8 renaming ofNat → AdQ, le_antisymm → AhA, not_lt → AgD, toNat_inj → Agr, toNat_lt → Ahk
open _root_.Go.IntKind renaming wrap → Agw, bits → Ad0, signed → AeK, min → Aia, max → Aib
open _root_.Go.Op renaming intArith → Agn
open _root_.And renaming intro → Adr
open _root_.Int renaming toNat_natCast → Ac0, natCast_mul → AhZ
open _root_.Go.Extern.Bytes renaming loadBytes → AgR, bytesOf → Agh
open _root_.Go.Extern.BytealgCompare renaming compare → Aha
open _root_.Go.Deferred renaming ofValue → AfA
open _root_.List.Perm renaming refl → Ahi
open _root_.List.Pairwise renaming nil → AeN
open _root_.List.cons renaming injEq → Ag3
open _root_.Bool renaming or_eq_true → AeF
open Go.RowKit
def RG{α:Type}(k:Nat)(enc:α→List AcJ)(w:AcK)(v:AcJ)(l:List α):Prop:=(∀x∈l,(enc x).length=k)∧Reads w k v l.length (l.flatMap enc)
def OG{α:Type}(base:Nat)(t:AcR)(k:Nat)(enc:α→List AcJ)(w:AcK)(v:AcJ)(l:List α):Prop:=(∀x∈l,(enc x).length=k)∧w.ownsRow base t k v l.length (l.flatMap enc)
def PR(cs:List AcJ)(v:AcJ)(w:AcK):Prop:=∃b o,v = .pointer (some ⟨b,o,none⟩)∧w.rangeAt b o cs
section
variable {α : Type} {k base : Nat} {t : AcR} {enc : α → List AcJ} {w w' : AcK} {v x : AcJ} {l : List α} {cs : List AcJ}
theorem RG.keep(h:RG k enc w v l)(e:Ext w w'):RG k enc w' v l:=⟨h.1,h.2.keep e⟩
theorem OG.keep(h:OG base t k enc w v l)(e:Ext w w'):OG base t k enc w' v l:=⟨h.1,Stab.own _ _ _ _ _ _ _ _ h.2 e⟩
theorem OG.kept{g:Nat}(h:OG base t k enc w v l)(e:w.grownBy w' (some g))(hne:v.ownBlock≠some g):OG base t k enc w' v l:=⟨h.1,BM h.2 e hne⟩
theorem ZC(h:RG k enc w v l)(e:x=v):RG k enc w x l:=by rw[e];exact h
theorem OG.of(h:OG base t k enc w v l)(e:x=v):OG base t k enc w x l:=by rw[e];exact h
theorem PR.keep(h:PR cs v w)(e:Ext w w'):PR cs v w' :=by
  obtain⟨b,o,h1,h2⟩:=h;exact⟨b,o,h1,fun j u hu=>AaS e (h2 j u hu)⟩
theorem ZT(h:PR cs v w)(e:x=v):PR cs x w:=by rw[e];exact h
theorem RG.nil(k:Nat)(enc:α→List AcJ)(w:AcK):RG k enc w (.slice none 0 0) []:=⟨by simp,by simp,none,0,rfl,AcP _,by simp[maxLen],fun _=>⟨rfl,rfl⟩,fun a h=>by cases h⟩
theorem OG.nil(base:Nat)(t:AcR)(k:Nat)(enc:α→List AcJ)(w:AcK):OG base t k enc w (.slice none 0 0) []:=⟨by simp,AdK w base t k⟩
theorem RG.sliceLen(h:RG k enc w v l):BI v=l.length:=by
  obtain⟨-,-,ao,cap,rfl,-⟩:=h;rfl
theorem RG.one(h:RG k enc w v l):v.cells = #[v]∧v.oneCell' =true:=by
  obtain⟨-,-,ao,cap,rfl,-⟩:=h;exact⟨rfl,rfl⟩
theorem RG.len(h:RG k enc w v l):∃ao c,v = .slice ao l.length c:=by
  obtain⟨-,-,ao,cap,rfl,-⟩:=h;exact⟨ao,cap,rfl⟩
theorem RG.lenLt(h:RG k enc w v l):l.length≤9223372036854775807:=by
  obtain⟨-,-,ao,cap,rfl,h2,h3,-⟩:=h;unfold maxLen at h3;omega
theorem ZG(h:OG base t k enc w v l):RG k enc w v l:=by
  refine⟨h.1,h.2.1,?_⟩;have h' :=h.2;rcases h.2.2 with ⟨rfl,h0⟩ | ⟨g,cap,cur,rfl,hbg,hg,hnc,hcm,hcs,htake⟩
  · exact⟨none,0,by rw[h0],by omega,by simp[maxLen],fun _=>⟨h0,rfl⟩,fun a ha=>by cases ha⟩
  · exact⟨some ⟨g,0,none⟩,cap,rfl,hnc,hcm,(fun h=>by cases h),(fun a ha j u hu=>by cases ha;exact h'.cells rfl j u hu)⟩
theorem JY(d:α):∀(l:List α),(∀x∈l,(enc x).length=k)→∀i,i<l.length→∀j u,(enc (l.getD i d))[j]? =some u→(l.flatMap enc)[i*k+j]? =some u
  | [],_,i,hi,_,_,_=>by simp at hi
  | a :: r,h,0,_,j,u,hu=>by
    have hj:=(Adc.1 hu).1;simp only[Ahb]at hu hj;rw[AdJ,Nat.zero_mul,Ad4,AdF hj];exact hu
  | a :: r,h,i+1,hi,j,u,hu=>by
    simp only[List.getD_cons_succ]at hu;have ih:=JY d r (fun x hx=>h x (by simp[hx])) i (by simpa using hi) j u hu;rw[AdJ,AdB (by rw[h a (by simp),AeV];omega),h a (by simp)];rw[show(i+1)*k+j-k=i*k+j by rw[AeV];omega];exact ih
theorem RG.rangeAt(d:α)(h:RG k enc w v l)(hk:0<k){i:Nat}(hi:i<l.length):∃b o c,v = .slice (some ⟨b,o,none⟩) l.length c∧w.rangeAt b (o+i*k) (enc (l.getD i d)):=by
  obtain⟨h1,h2,ao,cap,rfl,h3,h4,h5,h6⟩:=h;cases ao with
  | none=>have:=(h5 rfl).1;omega
  | some a=>
    obtain⟨b,o,sp⟩:=a;have hx:l.getD i d∈l:=by
      rw[AcO,AcS hi];exact Ad9 hi
    have hc:∀j u,(enc (l.getD i d))[j]? =some u→w.cell? ((⟨b,o,sp⟩:Addr).add (i*k+j))=some u:=fun j u hu=>h6 _ rfl _ _ (JY d l h1 i hi j u hu);have e:=h1 (l.getD 0 d) (by rw[AcO,AcS (by omega)];exact Ad9 _);have h0:=h6 _ rfl _ _ (JY d l h1 0 (by omega) 0 ((enc (l.getD 0 d))[0]'(by omega)) (by rw[AcS]));have hsp:sp=none:=by
      have:=AfC h0
      simpa [AeO] using this
    subst hsp;refine⟨b,o,cap,rfl,fun j u hu=> ?_⟩;have:=hc j u hu;rw[Aek]at this;rw[Ae2];exact this
end
section
variable {P : Adg} {K : AcJ → AcK → Prop} {ρ : Ad} {w : AcK} {d : Option Tmp} {ty : AcR} {pos : String} {af : Array AdL} {gd : Option (Nat × Bool)}
variable {α : Type} {k : Nat} {enc : α → List AcJ} {l : List α}
theorem ZO{t e:AcR}(ht:P.underlying t=some (.slice e))(he:∀w' :AcK,(sizeOf e).run P w' = .ok k w')(a:0<k){x y:AcW}(dd:α)(h:RG k enc w (Aa ρ x) l){kd:AdU}{i:Nat}(hy:Aa ρ y = .int kd (i:Int))(hi:i<l.length) 
    (hk:∀v,PR (enc (l.getD i dd)) v w→K v w):Yk P K ((execOp (Aa ρ) ⟨d, .indexAddr t x y,ty,pos,af,gd⟩).run P w):=by
  obtain⟨b,o,c,hv,hr⟩:=h.rangeAt dd a hi;refine Yk.value (v:= .pointer (some ⟨b,o+i*k,none⟩)) (w' :=w) ?_ (hk _ ⟨b,_,rfl,hr⟩);have hE:P.elem t=e:=by simp[Af5,ht]
  have hr:=run_indexAt_slice (P:=P) w t ⟨b,o,none⟩ l.length c kd (i:Int) (by rw[hE];exact ht);rw[if_pos (by omega),hE,he]at hr;unfold execOp;simp only[hv,hy,Ac1,hr,AcV,Ac3];simp[Aek]
theorem ZI{t e:AcR}(ht:P.underlying t=some (.slice e)){x:AcW}{w0:AcK}(h:RG k enc w0 (Aa ρ x) l)(hk:K (NI l.length) w):Yk P K ((execOp (Aa ρ) ⟨d, .call ⟨.builtin .len,#[x],#[t]⟩,ty,pos,af,gd⟩).run P w):=by
  obtain⟨ao,c,hv⟩:=h.len;exact AaE ht hv hk
theorem ZS{t' :AcR}{x:AcW}{cs:List AcJ}{de:TypeDesc}(h:PR cs (Aa ρ x) w)(hu:P.underlying t' =some de)(hd:de.isRow=true)(hi:(P.info? t').map (·.size)=some cs.length) 
    (hk:K (.agg cs.toArray) w):Yk P K ((execOp (Aa ρ) ⟨d, .load t' x,ty,pos,af,gd⟩).run P w):=by
  obtain⟨b,o,hx,hr⟩:=h;exact Z0 hx hr hu hd hi hk
theorem AbJ{s:AcR}{f off n:Nat}(hf:AV P s f off){x:AcW}{cs:List AcJ}(h:PR cs (Aa ρ x) w)(hk:∀v,PR ((cs.drop off).take n) v w→K v w):Yk P K ((execOp (Aa ρ) ⟨d, .fieldAddr s x f,ty,pos,af,gd⟩).run P w):=by
  obtain⟨b,o,hx,hr⟩:=h;refine Yk.fieldAt hf hx (hk _ ⟨b,o+off,rfl,fun j v hv=> ?_⟩);rw[AeS]at hv;split at hv
  · rw[Agv]at hv;have:=hr _ _ hv;rw[←Ae2]at this;exact this
  · cases hv
theorem PR.cell{cs:List AcJ}{v u:AcJ}(h:PR cs v w)(hc:cs[0]? =some u):PCell u v w:=by
  obtain⟨b,o,hx,hr⟩:=h;exact⟨_,hx,by have:=hr 0 u hc;simpa using this⟩
theorem RG.src{tx e' :AcR}(hk:P.underlying tx=some (.slice e')){v:AcJ}(h1:∀x∈l,∀u∈enc x,u.oneCell' =true)(h:RG k enc w v l):Src P k tx v l.length (l.flatMap enc) w:=by
  obtain⟨h0,h2,ao,cap,rfl,h3,h4,h5,h6⟩:=h;cases ao with
  | none=>
    obtain⟨h7,rfl⟩:=h5 rfl;have:l= []:=Adw h7;subst this;exact Src.ofNil w hk 0
  | some a=>exact Ahl w hk a _ cap _ h2 (h6 a rfl) (fun u hu=>by
      obtain⟨x,hx,hxu⟩:=AhP.1 hu;exact h1 x hx u hxu)
theorem ZM(s x:AcW){t tx e e' :AcR}(base:Nat)(z:AcJ)(bytes:Nat)(ht:P.underlying t=some (.slice e))(hi:(P.info? e).map (fun i=>(i.zero,i.size,i.bytes))=some (some z,k,bytes))(hzs:z.cells.size=k)(hu:P.underlying tx=some (.slice e')) 
    (l m:List α) (hown:OG base e k enc w (Aa ρ s) l) (hsrc:RG k enc w (Aa ρ x) m) (h1:∀x∈m,∀u∈enc x,u.oneCell' =true) (hb:l.length+m.length≤281474976710656) (hbb:(l.length+m.length)*bytes≤140737488355328) (hbase:base≤w.heap.size)
    (h:∀v' w',OG base e k enc w' v' (l++m)→Grew w w' (Aa ρ s) v' →K v' w'):Yk P K ((execOp (Aa ρ) ⟨d, .call ⟨.builtin .append,#[s,x],#[t,tx]⟩,ty,pos,af,gd⟩).run P w):=
  Yk.append s x base e z k bytes ht hi hzs l.length (l.flatMap enc) hown.2 m.length (m.flatMap enc) (hsrc.src hu h1) (by unfold maxLen;omega) hbb hbase fun v' w' ho g=>h v' w' ⟨fun x hx=>(Adf.1 hx).elim (hown.1 x) (hsrc.1 x),by rw[AcQ,AfG];exact ho⟩ g
theorem AbY{w:AcK}{b:Nat}{x:α}{t:AcR}{fr:Nat × Nat}(hl:(enc x).length=k)(hb:w.heap[b]? =some (.cells (enc x).toArray t fr)):RG k enc w (.slice (some ⟨b,0,none⟩) 1 1) [x]:=
  ⟨by simpa using hl,by simpa using hl,some ⟨b,0,none⟩,1,rfl,AcP _,by simp[maxLen],(fun h=>by cases h),fun a ha j u hu=>by
    cases ha;rw[Aek,Ad4];exact cellAt hb (by simpa using hu)⟩
end
inductive Fr where
  | seq (y:Ae5)
  | block (id:Nat)
  | scope
  | fin (K:Ad→AcK→Prop)
def CG(P:Adg)(n:Nat)(Q:BE):List Fr→BE
  | []=>fun e ρ w=>match e with
    | .normal=>Q .ret ρ w
    | e=>Q e ρ w
  | .seq y :: k=>GD (B1 P n y (CG P n Q k)) (CG P n Q k)
  | .block id :: k=>ET id (CG P n Q k)
  | .scope :: k=>Px (CG P n Q k)
  | .fin K :: k=>GD K (CG P n Q k)
inductive Nt where
  | code (c:Ae5)
  | ops (a:Array Adb) (l:List Adb)
  | pop
  | mix (l:List Adb) (cs pf fl:List Nat) (I:AcK→Prop) (r:List Nat)
inductive MK where
  | pure
  | here
  | float
inductive Tg where
  | op (a:Array Adb) (o:Adb) (r:List Adb) (k:List Fr) (ρ:Ad)
  | code (c:Ae5) (k:List Fr) (ρ:Ad)
  | fin (K:Ad→AcK→Prop) (k:List Fr) (ρ:Ad)
  | chain (l:List Adb) (cs pf fl:List Nat) (I:AcK→Prop) (i:Nat) (o:Adb) (r:List Nat) (k:List Fr) (ρ:Ad)
  | still (κ:MK) (l:List Adb) (cs pf fl:List Nat) (I:AcK→Prop) (i:Nat) (o:Adb) (r:List Nat) (k:List Fr) (ρ:Ad)
  | ret (ρ:Ad)
  | bad
def room(n:Nat):Option Tmp→Bool
  | some d=>AeC d n
  | none=>true
def Y9:Bool→Bool→Bool
  | true,true=>true
  | false,false=>true
  | _,_=>false
def Bi(n:Nat)(u:Bool):Nat→Nt→List Fr→Ad→Tg
  | 0,_,_,_=> .bad
  | f+1, .code c,k,ρ=>match c with
    | .seq x y=>Bi n u f (.code x) (.seq y :: k) ρ
    | .block id x=>Bi n u f (.code x) (.block id :: k) ρ
    | .scope x=>Bi n u f (.code x) (.scope :: k) ρ
    | .skip=>Bi n u f .pop k ρ
    | .ret=> .ret ρ
    | .exit id=>match k with
      | []=> .bad
      | .block i :: k=>cond (Ae9 id i) (Bi n u f .pop k ρ) (Bi n u f (.code (.exit id)) k ρ)
      | _ :: k=>Bi n u f (.code (.exit id)) k ρ
    | .region _ a d=>cond d (.code c k ρ) (Bi n u f (.ops a a.toList) k ρ)
    | c=> .code c k ρ
  | f+1, .pop,k,ρ=>match k with
    | []=> .ret ρ
    | .seq y :: k=>Bi n u f (.code y) k ρ
    | .fin K :: k=> .fin K k ρ
    | _ :: k=>Bi n u f .pop k ρ
  | f+1, .ops a l,k,ρ=>match l with
    | []=>Bi n u f .pop k ρ
    | o :: r=>cond (room n o.dst) (match o.guard with
      | some (g,want)=>cond u (match (a[g]?).bind (·.dst)with
        | some d=>match ρ d with
          | .bool b=>match Y9 b want with
            | true=>match o.op with
              | .move x=>Bi n u f (.ops a r) k (updO ρ o.dst (Aa ρ x))
              | .assign x=>Bi n u f (.ops a r) k (updO ρ o.dst (Aa ρ x))
              | _=> .op a { o with guard:=none } r k ρ
            | false=>Bi n u f (.ops a r) k (updO ρ o.dst undef)
          | _=> .op a o r k ρ
        | none=> .op a o r k ρ) (.op a o r k ρ)
      | none=>match o.op with
        | .move x=>Bi n u f (.ops a r) k (updO ρ o.dst (Aa ρ x))
        | .assign x=>Bi n u f (.ops a r) k (updO ρ o.dst (Aa ρ x))
        | _=> .op a o r k ρ) .bad
  | f+1, .mix l cs pf fl I r,k,ρ=>match r with
    | []=>Bi n u f .pop k ρ
    | i :: r=>match l[i]? with
      | none=> .bad
      | some o=>cond (Bj l o ρ) (cond (cs.contains i) (.chain l cs pf fl I i o r k ρ) (match o.op with
        | .move x=>Bi n u f (.mix l cs pf fl I r) k (updO ρ o.dst (Aa ρ x))
        | .assign x=>Bi n u f (.mix l cs pf fl I r) k (updO ρ o.dst (Aa ρ x))
        | _=> .still (cond (pf.contains i) .pure (cond (fl.contains i) .float .here)) l cs pf fl I i o r k ρ))
        (Bi n u f (.mix l cs pf fl I r) k (updO ρ o.dst undef))
def JK(P:Adg)(n:Nat)(Q:BE)(k:List Fr)(ch:List PanicEntry)(w:AcK):Prop:=∀ρ,CG P n Q k (.panic ch) ρ w
def Nu(P:Adg)(n:Nat)(Q:BE)(l:List Adb)(cs pf fl:List Nat)(I:AcK→Prop)(r:List Nat)(k:List Fr)(ρ:Ad)(w:AcK):Prop:=
  DZ P l cs pf fl (JK P n Q k) (fun ρ w=>CG P n Q k .normal ρ w) r I ρ w
def A7(P:Adg)(n:Nat)(_:Bool)(Q:BE)(w:AcK):Tg→Prop
  | .op a o r k ρ=>room n o.dst=true→Cf P a n (CG P n Q k) (o :: r) ρ w
  | .code c k ρ=>B1 P n c (CG P n Q k) ρ w
  | .fin K _ ρ=>K ρ w
  | .chain l cs pf fl I i o r k ρ=>l[i]? =some o→Bj l o ρ=true→i∈cs→Nu P n Q l cs pf fl I (i :: r) k ρ w
  | .still κ l cs pf fl I i o r k ρ=>l[i]? =some o→Bj l o ρ=true→i∉cs→(match κ with | .pure=>E6 l pf i=true | .here=>E6 l pf i=false∧i∉fl | .float=>E6 l pf i=false∧i∈fl)→Nu P n Q l cs pf fl I (i :: r) k ρ w
  | .ret ρ=>Q .ret ρ w
  | .bad=>False
def CmdOk(P:Adg)(n:Nat)(Q:BE)(w:AcK)(k:List Fr)(ρ:Ad):Nt→Prop
  | .code (.exit i)=>CG P n Q k (.exit i) ρ w
  | .code c=>B1 P n c (CG P n Q k) ρ w
  | .ops a l=>Cf P a n (CG P n Q k) l ρ w
  | .pop=>CG P n Q k .normal ρ w
  | .mix l cs pf fl I r=>Nu P n Q l cs pf fl I r k ρ w
section
variable {P : Adg} {n : Nat} {u : Bool} {Q : BE} {ρ : Ad} {w : AcK} {k : List Fr}
theorem FE:∀ {d:Option Tmp},room n d=true→(match d with | some d=>AeC d n | none=>true)=true
  | some _,h=>h
  | none,_=>rfl
theorem CmdOk.wp{c:Ae5}(h:CmdOk P n Q w k ρ (.code c)):B1 P n c (CG P n Q k) ρ w:=by
  cases c with
  | exit i=>exact Uh h
  | _=>exact h
theorem L5{Q:BE}{a:Array Adb}{dst:Option Tmp}{op:Op}{ty:AcR}{pos:String}{af:Array AdL}{r:List Adb}{g:Nat}{want:Bool}{d:Tmp}(hg:(a[g]?).bind (·.dst)=some d)(hv:ρ d = .bool want) 
    (h:Cf P a n Q (⟨dst,op,ty,pos,af,none⟩ :: r) ρ w):Cf P a n Q (⟨dst,op,ty,pos,af,some (g,want)⟩ :: r) ρ w:=fun c hc=>by
  have h1:=h c hc;have hw:Ad8 ⟨dst,op,ty,pos,af,some (g,want)⟩ (yielded a c.tmps)=true:=by
    have:=Ir ((hc.get d).trans hv);simp only[Ad8,yielded,hg];simp[this]
  unfold wpList at h1 ⊢;rw[if_pos hw];exact h1
theorem BO:∀(f:Nat) (u:Bool) (c:Nt) (k:List Fr) (ρ:Ad),A7 P n u Q w (Bi n u f c k ρ)→CmdOk P n Q w k ρ c
  | 0,u,c,k,ρ,h=>h.elim
  | f+1,u, .code c,k,ρ,h=>by
    match c,h with
    | .seq x y,h=>exact Py (BO f u (.code x) (.seq y :: k) ρ h).wp
    | .block id x,h=>exact RW (BO f u (.code x) (.block id :: k) ρ h).wp
    | .scope x,h=>exact RX (BO f u (.code x) (.scope :: k) ρ h).wp
    | .skip,h=>exact DL (BO f u .pop k ρ h)
    | .ret,h=>
      have:∀k,CG P n Q k .ret ρ w=Q .ret ρ w:=fun k=>by
        induction k with
        | nil=>rfl
        | cons x k ih=>cases x <;> exact ih
      exact Jg (by rw[this];exact h)
    | .exit id,h=>
      match k,h with
      | .block i :: k,h=>
        cases hb:Ae9 id i with
        | true=>
          obtain rfl:=Afo hb;unfold Bi at h;simp only[hb,cond_true]at h;exact Np (BO f u .pop k ρ h)
        | false=>
          unfold Bi at h;simp only[hb,cond_false]at h;exact MW hb (BO f u (.code (.exit id)) k ρ h)
      | .seq y :: k,h=>exact BO f u (.code (.exit id)) k ρ h
      | .scope :: k,h=>exact BO f u (.code (.exit id)) k ρ h
      | .fin K :: k,h=>exact BO f u (.code (.exit id)) k ρ h
    | .region id a d,h=>
      cases d with
      | true=>exact h
      | false=>exact wt (l:=a.toList) (BO f u (.ops a a.toList) k ρ h)
    | .cond ..,h=>exact h
    | .loop ..,h=>exact h
    | .rangeFunc ..,h=>exact h
    | .label ..,h=>exact h
    | .goto ..,h=>exact h
    | .refuse ..,h=>exact h
  | f+1,u, .pop,k,ρ,h=>by
    match k,h with
    | [],h=>exact h
    | .seq y :: k,h=>exact(BO f u (.code y) k ρ h).wp
    | .fin K :: k,h=>exact h
    | .block i :: k,h=>exact BO f u .pop k ρ h
    | .scope :: k,h=>exact BO f u .pop k ρ h
  | f+1,u, .ops a l,k,ρ,h=>by
    match l,h with
    | [],h=>exact oZ (BO f u .pop k ρ h)
    | o :: r,h=>
      cases hr:room n o.dst with
      | false=>unfold Bi at h;simp only[hr,cond_false]at h;exact h.elim
      | true=>
        unfold Bi at h;simp only[hr,cond_true]at h;obtain⟨dst,op,ty,pos,af,gd⟩:=o;cases gd with
        | some g=>
          obtain⟨g,want⟩:=g;cases u with
          | false=>exact h hr
          | true=>
            cases hg:(a[g]?).bind (·.dst)with
            | none=>simp only[hg,cond_true]at h;exact h hr
            | some d=>
              simp only[hg,cond_true]at h;cases hv:ρ d with
              | bool b=>
                simp only[hv]at h;cases hb:Y9 b want with
                | true=>
                  obtain rfl:b=want:=by cases b <;> cases want <;> first | rfl | cases hb
                  simp only[hb]at h;refine L5 hg hv ?_;cases op with
                  | move x=>exact oS (FE hr) (Yk.move rfl (BO f true (.ops a r) k _ h))
                  | assign x=>exact oS (FE hr) (Yk.assign rfl (BO f true (.ops a r) k _ h))
                  | _=>exact h hr
                | false=>
                  simp only[hb]at h;exact oN rfl (FE hr) hg hv (by cases b <;> cases want <;> first | rfl | cases hb) (BO f true (.ops a r) k _ h)
              | _=>simp only[hv]at h;exact h hr
        | none=>
          cases op with
          | move x=>exact oS (FE hr) (Yk.move rfl (BO f u (.ops a r) k _ h))
          | assign x=>exact oS (FE hr) (Yk.assign rfl (BO f u (.ops a r) k _ h))
          | _=>exact h hr
  | f+1,u, .mix l cs pf fl I r,k,ρ,h=>by
    match r,h with
    | [],h=>exact BO f u .pop k ρ h
    | i :: r,h=>
      cases ho:l[i]? with
      | none=>unfold Bi at h;simp only[ho]at h;exact h.elim
      | some o=>
        unfold Bi at h;simp only[ho]at h;cases hw:Bj l o ρ with
        | false=>
          simp only[hw,cond_false]at h;show DZ _ _ _ _ _ _ _ _ _ _ _;unfold DZ;rw[ho];simp only;rw[if_pos hw];exact BO f u (.mix l cs pf fl I r) k _ h
        | true=>
          simp only[hw,cond_true]at h;cases hc:cs.contains i with
          | true=>simp only[hc,cond_true]at h;exact h ho hw (AeR.1 hc)
          | false=>
            simp only[hc,cond_false]at h;have hc' :i∉cs:=fun x=>by rw[AeR.2 x]at hc;cases hc
            have mv:∀(v:AcJ),(∀w',Yk P (fun x w'' =>x=v∧w'' =w') ((execOp (Aa ρ) o).run P w'))→A7 P n u Q w (Bi n u f (.mix l cs pf fl I r) k (updO ρ o.dst v))→Nu P n Q l cs pf fl I (i :: r) k ρ w:=fun v hv h=>by
              show DZ _ _ _ _ _ _ _ _ _ _ _;unfold DZ;rw[ho];simp only;rw[if_neg (by rw[hw];simp),if_neg hc'];exact⟨v,fun w' _=>hv w',BO f u (.mix l cs pf fl I r) k _ h⟩
            have st:(match o.op with | .move _ | .assign _=>true | _=>false)=false→A7 P n u Q w (.still (cond (pf.contains i) .pure (cond (fl.contains i) .float .here)) l cs pf fl I i o r k ρ)→Nu P n Q l cs pf fl I (i :: r) k ρ w:=fun hm h=>by
              refine h ho hw hc' ?_;cases hp:pf.contains i with
              | true=>show E6 l pf i=true;unfold E6;rw[hp];rfl
              | false=>
                have hb:E6 l pf i=false:=by unfold E6;rw[hp,ho];exact hm
                cases hf:fl.contains i with
                | true=>exact⟨hb,AeR.1 hf⟩
                | false=>exact⟨hb,fun x=>by rw[AeR.2 x]at hf;cases hf⟩
            obtain⟨dst,op,ty,pos,af,gd⟩:=o;cases op with
            | move x=>exact mv _ (fun w' =>Yk.move rfl ⟨rfl,rfl⟩) h
            | assign x=>exact mv _ (fun w' =>Yk.assign rfl ⟨rfl,rfl⟩) h
            | _=>exact st rfl h
theorem adv_ok{u:Bool}(f:Nat)(c:Nt)(k:List Fr)(ρ:Ad)(h:A7 P n u Q w (Bi n u f c k ρ)):CmdOk P n Q w k ρ c:=BO f u c k ρ h
theorem EE{ch:List PanicEntry}(h:Q (.panic ch) ρ w):∀k,CG P n Q k (.panic ch) ρ w
  | []=>h
  | x :: k=>by cases x <;> exact EE h k
theorem gM{id:Nat}{l:List Adb}(ord cs pf fl:List Nat){I:AcK→Prop}(hm:P.follows .mixedOrders=true)(hg:Cw l n=true)(hb:Hy l cs pf fl ord=true)(hI:I w.drew) 
    (h:A7 P n u Q w.drew (Bi n u 1000 (.mix l cs pf fl I ord) k ρ)):A7 P n u Q w (.code (.region id l.toArray true) k ρ):=fun a ha=>by
  have h0:MInv P l cs pf fl ord n (JK P n Q k) (fun ρ w=>CG P n Q k .normal ρ w) [] ord I ρ (Aeq l.length false) a w.drew:=
    ⟨by simp,fun i o _ h=>absurd h Aal,ha.size,ha.defers,rfl,fun i _=>Aal,(fun i hi=>by cases hi),fun t _=>ha.get t,hI,adv_ok _ _ _ _ h⟩
  obtain⟨u',r',ρ',hp,hr⟩:=h0.place hb;exact wp_region_any hm (WL hg hb _ _ _ _ u' r' I ρ' (by simp) hp hr)
theorem CD{id:Nat}{l:List Adb}(ord cs pf:List Nat)(h:∀w1,Ext w w1→A7 P n u Q w1 (Bi n u 1000 (.mix l cs pf [] (fun _=>True) ord) k ρ))(hm:P.follows .mixedOrders=true:=by kernel_rfl)(hg:Cw l n=true:=by kernel_rfl)(hb:Hy l cs pf [] ord=true:=by kernel_rfl):A7 P n u Q w (.code (.region id l.toArray true) k ρ):=
  gM ord cs pf [] hm hg hb trivial (h _ (AdC _ _).drew)
theorem D6{id:Nat}{l:List Adb}(ord cs pf fl:List Nat)(h:∀w1,Ext w w1→∃I:AcK→Prop,I w1∧A7 P n u Q w1 (Bi n u 1000 (.mix l cs pf fl I ord) k ρ))(hm:P.follows .mixedOrders=true:=by kernel_rfl)(hg:Cw l n=true:=by kernel_rfl)(hb:Hy l cs pf fl ord=true:=by kernel_rfl):A7 P n u Q w (.code (.region id l.toArray true) k ρ):=by
  obtain⟨I,hI,h⟩:=h _ (AdC _ _).drew;exact gM ord cs pf fl hm hg hb hI h
theorem m2{l:List Adb}{ord cs pf fl:List Nat}{A B:AcK→Prop}(a:A w)(b:B w)(h:A7 P n u Q w (Bi n u 1000 (.mix l cs pf fl (fun w=>A w∧B w∧True) ord) k ρ)):∃I:AcK→Prop,I w∧A7 P n u Q w (Bi n u 1000 (.mix l cs pf fl I ord) k ρ):=⟨(fun w=>A w∧B w∧True),⟨a,b,trivial⟩,h⟩
theorem Za{l:List Adb}{ord cs pf fl:List Nat}{g0:Nat}{o0:Obj}(b0:w.heap[g0]? =some o0)(h:A7 P n u Q w (Bi n u 1000 (.mix l cs pf fl (fun w=>w.heap[g0]? =some o0∧True) ord) k ρ)):∃I:AcK→Prop,I w∧A7 P n u Q w (Bi n u 1000 (.mix l cs pf fl I ord) k ρ):=⟨(fun w=>w.heap[g0]? =some o0∧True),⟨b0,trivial⟩,h⟩
theorem Zb{l:List Adb}{ord cs pf fl:List Nat}{g0:Nat}{o0:Obj}(b0:w.heap[g0]? =some o0){g1:Nat}{o1:Obj}(b1:w.heap[g1]? =some o1)(h:A7 P n u Q w (Bi n u 1000 (.mix l cs pf fl (fun w=>w.heap[g0]? =some o0∧w.heap[g1]? =some o1∧True) ord) k ρ)):∃I:AcK→Prop,I w∧A7 P n u Q w (Bi n u 1000 (.mix l cs pf fl I ord) k ρ):=⟨(fun w=>w.heap[g0]? =some o0∧w.heap[g1]? =some o1∧True),⟨b0,b1,trivial⟩,h⟩
theorem DM{l:List Adb}{ord cs pf fl:List Nat}{x0:AcK}(a:Ext x0 w)(h:A7 P n u Q w (Bi n u 1000 (.mix l cs pf fl (fun w=>Ext x0 w∧True) ord) k ρ)):∃I:AcK→Prop,I w∧A7 P n u Q w (Bi n u 1000 (.mix l cs pf fl I ord) k ρ):=⟨(fun w=>Ext x0 w∧True),⟨a,trivial⟩,h⟩
section
variable {l : List Adb} {cs pf fl : List Nat} {I : AcK → Prop} {i : Nat} {o : Adb} {r : List Nat} {κ : MK}
theorem Er{J:List PanicEntry→AcK→Prop}{K:Ad→AcK→Prop}(ho:l[i]? =some o)(hw:Bj l o ρ=true)(hc:i∈cs) 
    (h:Yp P (fun v w' =>∃I' :AcK→Prop,I' w' ∧((∀x,I' x→I x)∨Qp l fl r i=true)∧DZ P l cs pf fl J K r I' (updO ρ o.dst v) w') J ((execOp (Aa ρ) o).run P w)):DZ P l cs pf fl J K (i :: r) I ρ w:=by
  unfold DZ;rw[ho];simp only;rw[if_neg (by rw[hw];simp),if_pos hc];exact h
theorem FY{J:List PanicEntry→AcK→Prop}{K:Ad→AcK→Prop}(ho:l[i]? =some o)(hw:Bj l o ρ=true)(hc:i∉cs) 
    (v:AcJ) (hv:∀w',LA l pf fl I w i w' →Yk P (fun x w'' =>x=v∧w'' =w') ((execOp (Aa ρ) o).run P w')) (h:DZ P l cs pf fl J K r I (updO ρ o.dst v) w):DZ P l cs pf fl J K (i :: r) I ρ w:=by
  unfold DZ;rw[ho];simp only;rw[if_neg (by rw[hw];simp),if_neg hc];exact⟨v,hv,h⟩
theorem zz{x:AcJ}{w:AcK}:x=x∧w=w:=⟨rfl,rfl⟩
theorem yC(h:Yk P (fun v w' =>A7 P n u Q w' (Bi n u 1000 (.mix l cs pf [] (fun _=>True) r) k (updO ρ o.dst v))) ((execOp (Aa ρ) o).run P w)):A7 P n u Q w (.chain l cs pf [] I i o r k ρ):=fun ho hw hc=>
  Er ho hw hc (.ofK (Yk.mono h fun _ _ h=>⟨fun _=>True,trivial, .inr rfl,adv_ok _ _ _ _ h⟩))
theorem Wp{fn:AfB}{R:Afa→AcK→Prop}(h:Yp P (fun v w' =>A7 P n u (CF P fn R) w' (Bi n u 1000 (.mix l cs pf [] (fun _=>True) r) k (updO ρ o.dst v))) (fun ch w' =>CF P fn R (.panic ch) ρ w') ((execOp (Aa ρ) o).run P w)):A7 P n u (CF P fn R) w (.chain l cs pf [] I i o r k ρ):=fun ho hw hc=>
  Er ho hw hc (Aa2 h (fun _ _ h=>⟨fun _=>True,trivial, .inr rfl,adv_ok _ _ _ _ h⟩) fun _ _ h ρ' =>EE (Au (ρ:=ρ') h) _)
theorem yI(h:Yk P (fun v w' =>I w' ∧A7 P n u Q w' (Bi n u 1000 (.mix l cs pf fl I r) k (updO ρ o.dst v))) ((execOp (Aa ρ) o).run P w)):A7 P n u Q w (.chain l cs pf fl I i o r k ρ):=fun ho hw hc=>
  Er ho hw hc (.ofK (Yk.mono h fun _ _ h=>⟨I,h.1, .inl fun _ h=>h,adv_ok _ _ _ _ h.2⟩))
theorem yE{w1:AcK}(h:Yk P (fun v w' =>Ext w1 w' ∧A7 P n u Q w' (Bi n u 1000 (.mix l cs pf fl (fun x=>Ext w' x∧True) r) k (updO ρ o.dst v))) ((execOp (Aa ρ) o).run P w)):A7 P n u Q w (.chain l cs pf fl (fun x=>Ext w1 x∧True) i o r k ρ):=fun ho hw hc=>
  Er ho hw hc (.ofK (Yk.mono h fun _ w' h=>⟨fun x=>Ext w' x∧True,⟨Ext.refl _,trivial⟩, .inl fun _ e=>⟨h.1.trans e.1,trivial⟩,adv_ok _ _ _ _ h.2⟩))
theorem yD(hc:Qp l fl r i=true)(h:Yk P (fun v w' =>A7 P n u Q w' (Bi n u 1000 (.mix l cs pf fl (fun _=>True) r) k (updO ρ o.dst v))) ((execOp (Aa ρ) o).run P w)):A7 P n u Q w (.chain l cs pf fl I i o r k ρ):=fun ho hw hi=>
  Er ho hw hi (.ofK (Yk.mono h fun _ _ h=>⟨fun _=>True,trivial, .inr hc,adv_ok _ _ _ _ h⟩))
theorem Zo{fn:AfB}{R:Afa→AcK→Prop}(hc:Qp l fl r i=true)(h:Yp P (fun v w' =>A7 P n u (CF P fn R) w' (Bi n u 1000 (.mix l cs pf fl (fun _=>True) r) k (updO ρ o.dst v))) (fun ch w' =>CF P fn R (.panic ch) ρ w') ((execOp (Aa ρ) o).run P w)):A7 P n u (CF P fn R) w (.chain l cs pf fl I i o r k ρ):=fun ho hw hi=>
  Er ho hw hi (Aa2 h (fun _ _ h=>⟨fun _=>True,trivial, .inr hc,adv_ok _ _ _ _ h⟩) fun _ _ h ρ' =>EE (Au (ρ:=ρ') h) _)
theorem ys{v:AcJ}(h:Yk P (fun x w'' =>x=v∧w'' =w) ((execOp (Aa ρ) o).run P w))(hn:A7 P n u Q w (Bi n u 1000 (.mix l cs pf fl I r) k (updO ρ o.dst v))):A7 P n u Q w (.still .here l cs pf fl I i o r k ρ):=fun ho hw hc hf=>
  FY ho hw hc v (fun w' hw' =>by
    rcases hw' with hp | hw'
    · rw[hf.1]at hp;cases hp
    · rw[if_neg hf.2]at hw';subst hw';exact h) (adv_ok _ _ _ _ hn)
theorem yp{v:AcJ}(h:∀ {w' :AcK},Yk P (fun x w'' =>x=v∧w'' =w') ((execOp (Aa ρ) o).run P w'))(hn:A7 P n u Q w (Bi n u 1000 (.mix l cs pf fl I r) k (updO ρ o.dst v))):A7 P n u Q w (.still κ l cs pf fl I i o r k ρ):=fun ho hw hc _=>
  FY ho hw hc v (fun _ _=>h) (adv_ok _ _ _ _ hn)
theorem yf{v:AcJ}(h:∀w',I w' →Yk P (fun x w'' =>x=v∧w'' =w') ((execOp (Aa ρ) o).run P w'))(hn:A7 P n u Q w (Bi n u 1000 (.mix l cs pf fl I r) k (updO ρ o.dst v))):A7 P n u Q w (.still .float l cs pf fl I i o r k ρ):=fun ho hw hc hf=>
  FY ho hw hc v (fun w' hw' =>by
    rcases hw' with hp | hw'
    · rw[hf.1]at hp;cases hp
    · rw[if_pos hf.2]at hw';exact h w' hw') (adv_ok _ _ _ _ hn)
theorem yA{dst:Option Tmp}{t:AcR}{x y:AcW}{ty:AcR}{pos:String}{af:Array AdL}{gd:Option (Nat × Bool)}(h:Yk P (fun v _=>A7 P n u Q w (Bi n u 1000 (.mix l cs pf fl I r) k (updO ρ dst v))) ((execOp (Aa ρ) ⟨dst, .indexAddr t x y,ty,pos,af,gd⟩).run P w)):A7 P n u Q w (.still κ l cs pf fl I i ⟨dst, .indexAddr t x y,ty,pos,af,gd⟩ r k ρ):=fun ho hw hc _=>by
  obtain⟨v,hn,hv⟩:=R1 (.indexAt _ _ _) h;exact FY ho hw hc v (fun w' _=>hv w') (adv_ok _ _ _ _ hn)
end
theorem gS{a:Array Adb}{dst:Option Tmp}{op:Op}{ty:AcR}{pos:String}{af:Array AdL}{r:List Adb} 
    (h:Yk P (fun v w' =>A7 P n u Q w' (Bi n u 1000 (.ops a r) k (updO ρ dst v))) ((execOp (Aa ρ) ⟨dst,op,ty,pos,af,none⟩).run P w)):A7 P n u Q w (.op a ⟨dst,op,ty,pos,af,none⟩ r k ρ):=fun hr=>
  oS (FE hr) (Yk.mono h fun _ _ h=>adv_ok _ _ _ _ h)
theorem gP{a:Array Adb}{dst:Option Tmp}{op:Op}{ty:AcR}{pos:String}{af:Array AdL}{r:List Adb} 
    (h:Yp P (fun v w' =>A7 P n u Q w' (Bi n u 1000 (.ops a r) k (updO ρ dst v))) (fun ch w' =>Q (.panic ch) ρ w') ((execOp (Aa ρ) ⟨dst,op,ty,pos,af,none⟩).run P w)):A7 P n u Q w (.op a ⟨dst,op,ty,pos,af,none⟩ r k ρ):=fun hr=>by
  refine oP (FE hr) ?_
  revert h
  generalize (execOp (Aa ρ) ⟨dst,op,ty,pos,af,none⟩).run P w=x
  intro h
  match x,h with
  | .ok (.value v) w',h=>exact adv_ok _ _ _ _ h
  | .ok .skip w',h=>exact adv_ok _ _ _ _ h
  | .halt (.panic v) w',h=>exact EE h _
  | .ok (.enter f args) w',h=>
    refine AfS h ?_;intro e w'' hx
    match e,hx with
    | .returned v,hx=>exact adv_ok _ _ _ _ hx
    | .panicked ch,hx=>exact EE hx _
theorem gY{a:Array Adb}{dst:Option Tmp}{op:Op}{ty:AcR}{pos:String}{af:Array AdL}{r:List Adb}{g:Nat}{want:Bool}{d:Tmp}(hg:(a[g]?).bind (·.dst)=some d)(hv:ρ d = .bool want) 
    (h:A7 P n u Q w (Bi n u 1000 (.ops a (⟨dst,op,ty,pos,af,none⟩ :: r)) k ρ)):A7 P n u Q w (.op a ⟨dst,op,ty,pos,af,some (g,want)⟩ r k ρ):=fun _=>L5 hg hv (adv_ok _ _ _ _ h)
theorem gN{a:Array Adb}{o:Adb}{r:List Adb}{g:Nat}{want b:Bool}{d:Tmp}(hgd:o.guard=some (g,want))(hg:(a[g]?).bind (·.dst)=some d)(hv:ρ d = .bool b)(hb:(b==want)=false) 
    (h:A7 P n u Q w (Bi n u 1000 (.ops a r) k (updO ρ o.dst undef))):A7 P n u Q w (.op a o r k ρ):=fun hr=>oN hgd (FE hr) hg hv hb (adv_ok _ _ _ _ h)
theorem kB{f:Nat}{c:Nt}{d:Option Tmp}{b b' :Bool}(e:b=b')(h:A7 P n u Q w (Bi n u f c k (updO ρ d (.bool b')))):A7 P n u Q w (Bi n u f c k (updO ρ d (.bool b))):=e▸h
theorem kT{f:Nat}{c:Nt}{d:Option Tmp}{p:Prop}[Decidable p](e:p)(h:A7 P n u Q w (Bi n u f c k (updO ρ d (.bool true)))):A7 P n u Q w (Bi n u f c k (updO ρ d (.bool (decide p)))):=kB (decide_eq_true e) h
theorem kF{f:Nat}{c:Nt}{d:Option Tmp}{p:Prop}[Decidable p](e:¬p)(h:A7 P n u Q w (Bi n u f c k (updO ρ d (.bool false)))):A7 P n u Q w (Bi n u f c k (updO ρ d (.bool (decide p)))):=kB (decide_eq_false e) h
theorem gO{a:Array Adb}{o:Adb}{r:List Adb}(h:room n o.dst=true→Cf P a n (CG P n Q k) (o :: r) ρ w):A7 P n u Q w (.op a o r k ρ):=h
theorem gZ{a:Array Adb}{l:List Adb}(h:A7 P n true Q w (Bi n true 1000 (.ops a l) k ρ)):Cf P a n (CG P n Q k) l ρ w:=adv_ok _ _ _ _ h
theorem EF{a:Array Adb}{l:List Adb}(h:A7 P n false Q w (Bi n false 1000 (.ops a l) k ρ)):Cf P a n (CG P n Q k) l ρ w:=adv_ok _ _ _ _ h
theorem gX(h:A7 P n true Q w (Bi n true 1000 .pop k ρ)):CG P n Q k .normal ρ w:=adv_ok _ _ _ _ h
theorem gR{id:Nat}{a:Array Adb}(h:B1 P n (.region id a true) (CG P n Q k) ρ w):A7 P n u Q w (.code (.region id a true) k ρ):=h
theorem cT{c:AcW}{x y:Ae5}(hc:Aa ρ c = .bool true)(h:A7 P n u Q w (Bi n u 1000 (.code x) k ρ)):A7 P n u Q w (.code (.cond c x y) k ρ):=EU hc (adv_ok _ _ _ _ h).wp
theorem cF{c:AcW}{x y:Ae5}(hc:Aa ρ c = .bool false)(h:A7 P n u Q w (Bi n u 1000 (.code y) k ρ)):A7 P n u Q w (.code (.cond c x y) k ρ):=CP hc (adv_ok _ _ _ _ h).wp
theorem cD{c:AcW}{x y:Ae5}{p:Prop}[Decidable p](hc:Aa ρ c = .bool (decide p))(h1:p→A7 P n u Q w (Bi n u 1000 (.code x) k ρ))(h2:¬p→A7 P n u Q w (Bi n u 1000 (.code y) k ρ)):A7 P n u Q w (.code (.cond c x y) k ρ):=
  Ui p hc (fun h=>(adv_ok _ _ _ _ (h1 h)).wp) fun h=>(adv_ok _ _ _ _ (h2 h)).wp
theorem cB{c:AcW}{x y:Ae5}(b:Bool)(hc:Aa ρ c = .bool b)(h1:b=true→A7 P n u Q w (Bi n u 1000 (.code x) k ρ))(h2:b=false→A7 P n u Q w (Bi n u 1000 (.code y) k ρ)):A7 P n u Q w (.code (.cond c x y) k ρ):=
  RV b hc (fun h=>(adv_ok _ _ _ _ (h1 h)).wp) fun h=>(adv_ok _ _ _ _ (h2 h)).wp
theorem gL{c:Ae5}(I:Ad→AcK→Prop)(μ:Ad→AcK→Nat)(h0:I ρ w) 
    (round:∀ρ w,I ρ w→A7 P n u Q w (Bi n u 1000 (.code c) (.fin (fun ρ' w' =>I ρ' w' ∧μ ρ' w' <μ ρ w) :: k) ρ)):A7 P n u Q w (.code (.loop c) k ρ):=
  Uj I μ h0 fun ρ w hI=>(adv_ok _ _ _ _ (round ρ w hI)).wp
theorem gK{K:Ad→AcK→Prop}(h:K ρ w):A7 P n u Q w (.fin K k ρ):=h
def R2:Nat→List Fr→Option (Ae5 × List Fr)
  | 0, .seq y :: k=>some (y,k)
  | d+1,_ :: k=>R2 d k
  | _,_=>none
theorem gJ{a:Array Adb}{o:Adb}{r:List Adb}(I:Ad→AcK→Prop)(d:Nat){y:Ae5}{k2:List Fr}(_:R2 d k=some (y,k2))(hJ:∀ρ w,I ρ w→A7 P n u Q w (Bi n u 1000 (.code y) k2 ρ)) 
    (h:(∀ρ w,I ρ w→A7 P n u Q w (Bi n u 1000 (.code y) k2 ρ))→A7 P n u Q w (.op a o r k ρ)):A7 P n u Q w (.op a o r k ρ):=h hJ
def Nb(l:List AcJ):Ad:=fun t=>l.getD t undef
theorem gG{f:AeB}{fn:AfB}{c:Ae5}{args:List AcJ}{R:Afa→AcK→Prop}(hf:P.funcs[f]? =some fn)(hb:fn.body=some c)(m:Nat)(hm:fn.ntmps=m)(hn:AgI args.length m=true) 
    (h:A7 P m true (CF P fn R) w (Bi m true 1000 (.code c) [] (Nb args))):Calls P f args.toArray w R:=
  Iw hf hb m hm (Ac2 hn) fun ρ hB=>by
    obtain rfl:ρ=Nb args:=funext hB.get;refine wpF_mono (adv_ok _ _ _ _ h).wp fun e ρ w hx=> ?_;cases e <;> exact hx
theorem PB{f:AeB}{fn:AfB}{c:Ae5}{args:List AcJ}{R:Afa→AcK→Prop}(hf:P.funcs[f]? =some fn)(hb:fn.body=some c)(m:Nat)(hm:fn.ntmps=m)(hn:AgI args.length m=true) 
    (h:A7 P m false (CF P fn R) w (Bi m false 1000 (.code c) [] (Nb args))):Calls P f args.toArray w R:=
  Iw hf hb m hm (Ac2 hn) fun ρ hB=>by
    obtain rfl:ρ=Nb args:=funext hB.get;refine wpF_mono (adv_ok _ _ _ _ h).wp fun e ρ w hx=> ?_;cases e <;> exact hx
theorem rt0{fn:AfB}{R:Afa→AcK→Prop}(hrs:fn.results = #[])(hR:R (.returned (.tuple #[])) w):A7 P n u (CF P fn R) w (.ret ρ):=CQ [] hrs [] _ rfl trivial hR
theorem Bb{fn:AfB}{R:Afa→AcK→Prop}{t:Tmp}{v:AcJ}(hrs:fn.results = #[.tmp t])(h:ρ t=v)(hR:R (.returned v) w):A7 P n u (CF P fn R) w (.ret ρ):=CQ [.tmp t] hrs [v] v rfl ⟨h,trivial⟩ hR
theorem BF{fn:AfB}{R:Afa→AcK→Prop}{t t2:Tmp}{v x:AcJ}(hrs:fn.results = #[.tmp t, .tmp t2])(h:ρ t=v)(hx:ρ t2=x)(hR:R (.returned (.tuple #[v,x])) w):A7 P n u (CF P fn R) w (.ret ρ):=CQ [.tmp t, .tmp t2] hrs [v,x] _ rfl ⟨h,hx,trivial⟩ hR
theorem JD{fn:AfB}{R:Afa→AcK→Prop}{t t2 t3:Tmp}{v x z:AcJ}(hrs:fn.results = #[.tmp t, .tmp t2, .tmp t3])(h:ρ t=v)(hx:ρ t2=x)(hz:ρ t3=z)(hR:R (.returned (.tuple #[v,x,z])) w):A7 P n u (CF P fn R) w (.ret ρ):=CQ [.tmp t, .tmp t2, .tmp t3] hrs [v,x,z] _ rfl ⟨h,hx,hz,trivial⟩ hR
theorem L6{fn:AfB}{R:Afa→AcK→Prop}{r:ResultVar}{v:AcJ}(hrs:fn.results = #[r])(h:ResF P ρ w r v)(hR:R (.returned v) w):A7 P n u (CF P fn R) w (.ret ρ):=CQ [r] hrs [v] v rfl ⟨h,trivial⟩ hR
theorem JE{fn:AfB}{R:Afa→AcK→Prop}{r r2:ResultVar}{v x:AcJ}(hrs:fn.results = #[r,r2])(h:ResF P ρ w r v)(hx:ResF P ρ w r2 x)(hR:R (.returned (.tuple #[v,x])) w):A7 P n u (CF P fn R) w (.ret ρ):=CQ [r,r2] hrs [v,x] _ rfl ⟨h,hx,trivial⟩ hR
theorem Iy{fn:AfB}{R:Afa→AcK→Prop}{r r2 r3:ResultVar}{v x z:AcJ}(hrs:fn.results = #[r,r2,r3])(h:ResF P ρ w r v)(hx:ResF P ρ w r2 x)(hz:ResF P ρ w r3 z)(hR:R (.returned (.tuple #[v,x,z])) w):A7 P n u (CF P fn R) w (.ret ρ):=CQ [r,r2,r3] hrs [v,x,z] _ rfl ⟨h,hx,hz,trivial⟩ hR
theorem X4{fn:AfB}{R:Afa→AcK→Prop}{rs:List ResultVar}{vs:List AcJ}{v:AcJ}(hrs:fn.results=rs.toArray)(hv:G9 vs=v)(h:Gh P ρ w rs vs)(hR:R (.returned v) w):A7 P n u (CF P fn R) w (.ret ρ):=CQ rs hrs vs _ hv h hR
end
structure Zc {α : Type} (P : Adg) (t : AcR) (enc : α → List AcJ) : Prop where
  ty:∃fs,P.underlying t=some (.struct fs)
  sz:∀x,(P.info? t).map (·.size)=some (enc x).toArray.size
section
variable {P : Adg} {K : AcJ → AcK → Prop} {ρ : Ad} {w : AcK} {d : Option Tmp} {ty : AcR} {pos : String} {af : Array AdL} {gd : Option (Nat × Bool)} {α : Type} {enc : α → List AcJ} {t : AcR} {p q : AcW} {g : Nat} {a b : α}
theorem AbZ{fr:Nat × Nat}(hT:Zc P t enc)(hx:Aa ρ p = .pointer (some ⟨g,0,none⟩))(hg:w.heap[g]? =some (.cells (enc a).toArray t fr))(hk:K (.agg (enc a).toArray) w):Yk P K ((execOp (Aa ρ) ⟨d, .load t p,ty,pos,af,gd⟩).run P w):=by
  obtain⟨fs,h⟩:=hT.ty;exact Zz hx hg h rfl (hT.sz a) hk
end
theorem getD_mem{α:Type}{l:List α}{i:Nat}(d:α)(h:i<l.length):l.getD i d∈l:=by
  rw[AcO,AcS h];exact Ad9 h
theorem OG.low{α:Type}{b b' k:Nat}{t:AcR}{enc:α→List AcJ}{w:AcK}{v:AcJ}{l:List α}(h:OG b t k enc w v l)(hb:b' ≤b):OG b' t k enc w v l:=⟨h.1,BL h.2 hb⟩
section
variable {P : Adg}
theorem Aac{K:AcJ→AcK→Prop}{ρ:Tmp→AcJ}{t e:AcR}{n:Nat}(ht:P.underlying t=some (.array n e))(he:∀w' :AcK,(sizeOf e).run P w' = .ok 1 w'){x:AcW}{d:Option Tmp}{ty:AcR}{pos:String}{af:Array AdL}{gd:Option (Nat × Bool)}{w:AcK}{b o:Nat} 
    (hx:Aa ρ x = .pointer (some ⟨b,o,none⟩)) (hk:K (.slice (some ⟨b,o,none⟩) n n) w):Yk P K ((execOp (Aa ρ) ⟨d, .slice t x none none none,ty,pos,af,gd⟩).run P w):=by
  refine Yk.value (v:= .slice (some ⟨b,o,none⟩) n n) (w' :=w) ?_ hk;have hE:P.elem t=e:=by simp[Af5,ht]
  have hN:P.arrayLen t=n:=by simp[AhL,ht]
  have hr:=run_sliceAt_array_all (P:=P) (w:=w) (t:=t) (a:=⟨b,o,none⟩) (by rw[hE,hN];exact ht);rw[hE,he,hN]at hr;unfold execOp;simp only[hx,AeG,Ac1,hr,AcV,Ac3];simp[slicedAt,Aek]
end
section
variable {P : Adg} {K : AcJ → AcK → Prop} {ρ : Ad} {w : AcK} {d : Option Tmp} {ty : AcR} {pos : String} {af : Array AdL} {gd : Option (Nat × Bool)}
theorem Abx{t' :AcR}{x y:AcW}{g o:Nat}{a m z cells:List AcJ}{t:AcR}(hx:Aa ρ x = .pointer (some ⟨g,o,none⟩))(hy:Aa ρ y = .agg cells.toArray)(hg:w.heap[g]? =some (.cells (a++m++z).toArray t (0,0)))(ha:a.length=o)(hm:m.length=cells.length)(hi:(P.info? t').map (·.size)=some cells.length)(h1:∀v∈cells,v.oneCell' =true) 
    (hk:∀w',w'.heap[g]? =some (.cells (a++cells++z).toArray t (0,0))→w.grownBy w' (some g)→w'.heap.size=w.heap.size→K undef w'):Yk P K ((execOp (Aa ρ) ⟨d, .store t' x y,ty,pos,af,gd⟩).run P w):=by
  have hst:=run_storeCells_at P g o t cells 0 (a++m++z).toArray w hg (by simp;omega) h1;have e:((a++m++z).toArray.toList.take (o+0)++cells++(a++m++z).toArray.toList.drop (o+0+cells.length))=a++cells++z:=by
    have b:(a++m++z).take o=a:=by rw[Adn,←ha,List.take_left'];rfl
    have c:(a++m++z).drop (o+cells.length)=z:=List.drop_left' (by rw[AcQ];omega);rw[List.toList_toArray,Nat.add_zero,b,c]
  rw[e]at hst;have hr:(Afq t' (.pointer (some ⟨g,o,none⟩)) (.agg cells.toArray)).run P w = .ok () (w.setRow g (a++cells++z).toArray):=by
    cases hq:P.info? t' with
    | none=>simp[hq]at hi
    | some i=>
      have hsz:cells.length=i.size:=by simp[hq]at hi;omega
      simp[Afq,Aff,storeVar,sizeOf,typeInfo,hq,Ahm,hsz]at hst ⊢;simp[hst]
  unfold execOp;simp only[hx,hy,hr,Ac1,AcV,Ac3];exact hk _ (setRow_heap w g (a++m++z).toArray _ t (0,0) hg) ⟨rfl,rfl,rfl,by simp,fun k _ hk=>setRow_other w g k _ (fun e=>hk (by rw[e]))⟩ (by simp)
theorem Acg{α:Type}{k:Nat}{enc:α→List AcJ}{t e:AcR}(hr:∀(w:AcK),(Adt t 0 #[]).run P w = .ok (.slice (some ⟨w.heap.size,0,none⟩) 0 0) (w.alloc (.cells #[] e))) 
    (hk:∀v w',OG w.heap.size e k enc w' v []→Ext w w' →K v w'):Yk P K ((execOp (Aa ρ) ⟨d, .buildSlice t 0 #[],ty,pos,af,gd⟩).run P w):=by
  have hr' :(execOp (Aa ρ) ⟨d, .buildSlice t 0 #[],ty,pos,af,gd⟩).run P w = .ok (.value (.slice (some ⟨w.heap.size,0,none⟩) 0 0)) (w.alloc (.cells #[] e)):=by
    unfold execOp;simp only[Ads,AdA,Ac1,hr,AcV,Ac3]
  rw[hr'];refine hk _ _ ⟨fun x hx=>(Aeu hx).elim,⟨by simp, .inr ⟨w.heap.size,0,#[],rfl,AcP _,heap_alloc_new w _,AcP _,by simp[maxLen],by simp,by simp⟩⟩⟩ (Below.alloc (AdC _ _) (AcP _) _)
end
theorem Bc{w:AcK}{α:Type}{b k:Nat}{e:AcR}{enc:α→List AcJ}{v:AcJ}{l l' :List α}(h:OG b e k enc w v l)(e' :l=l'):OG b e k enc w v l' :=by rw[←e'];exact h
theorem YM{w:AcK}{α:Type}{k:Nat}{enc:α→List AcJ}{v:AcJ}{l l' :List α}(h:RG k enc w v l)(e' :l=l'):RG k enc w v l' :=by rw[←e'];exact h
theorem Gj:Tryz.prog.underlying 27=some (.slice 5):=by kernel_rfl
theorem X5:Tryz.prog.underlying 9=some .string:=by kernel_rfl
theorem Nc:(Tryz.prog.info? 5).map (fun i=>(i.zero,i.size,i.bytes))=some (some (.int .u8 0),1,1):=by kernel_rfl

theorem PC(w:AcK)(v:AcJ)(l:List UInt8)(hr:RB w v l)(hl:l.length+16≤140737488355328):
    Calls AcM 179 #[v] w fun e w' =>∃v',e = .returned v' ∧NewB 5 w w' v' l:=by
  obtain⟨i0,hi,a,c,f⟩:=info_parts Nc;have hsrc:∀w' :AcK,w.grownBy w' none→Src AcM 1 27 v l.length (AcL l) w' :=fun w' hg=>
    (hr.below (B:=w.heap.size) ((AdC _ _).grown hg (AcP _) (fun k hk=>by cases hk)) rfl).src Gj
  have HS:=AeD hsrc;clear hsrc;obtain⟨h1,ao,cap,rfl,h2,h3,h4,h5⟩:=hr;have h:l.length≤140737488355312:=by omega
  clear h1 h4 h5 hl;unfold maxLen at h3
  go_enter Tryz.func179,Tryz.ntmps179
  go_wp2_with (at_make;refine wpList_make_own _ rfl _ _ 27 rfl w.heap.size 5 i0 (.int .u8 0) 1 Gj hi a c _ _ _ (l.length+16) rfl rfl (by omega) ?b1 ?b2 ?b3 ?_)
  case b1=>rw[f];omega
  case b2=>unfold maxLen;omega
  case b3=>exact AcP _
  intro w1 hown hg;have g:=HS.out w1 hg
  go_wp2_with (at_builtin;refine C2 _ rfl _ _ 27 27 rfl w.heap.size 5 i0 (.int .u8 0) 1 1 Gj hi a c f rfl _ _ _ rfl hown _ _ _ rfl g ?c1 ?c2 ?c3 ?_)
  case c1=>unfold maxLen;omega
  case c2=>omega
  case c3=>exact hg.size
  intro v' w2 hown2 hgrow
  go_wp2
  go_ret
  refine⟨v',rfl,by simpa using hown2,Am hg hgrow.by_ (fun b hb=> ?_)⟩;simp[AcT]at hb;omega

set_option maxRecDepth 100000 in
set_option maxHeartbeats 1000000 in
theorem KH(B n x:Nat)(hx:x<18446744073709551616)(sv:AcJ)(xs:List AcJ)(w:AcK)(hown:w.ownsRow B 5 1 sv n xs)(hBw:B≤w.heap.size)(hlim:n+10≤140737488355328):
    Calls AcM 178 #[sv, .int .u64 x] w fun e w' =>∃v',e = .returned v' ∧w'.ownsRow B 5 1 v' (n+(Ac4 x).length) (xs++AcL (Ac4 x))∧Grew w w' sv v' :=by
  obtain⟨i0,hi,a,b,c⟩:=info_parts Nc;have hlen:=Lib.uvarint_length64 hx
  go_enter Tryz.func178,Tryz.ntmps178
  go_wp2
  go_loopw [0,1] (fun vb vx wr=>∃(y:Nat) (pre:List UInt8),vx = .int .u64 y∧y≤x∧Ac4 x=pre++Ac4 y∧wr.ownsRow B 5 1 vb (n+pre.length) (xs++AcL pre)∧Grew w wr sv vb)
    (fun _ vx _=>(intOf vx).toNat)
  case atStart=>exact⟨x,[],rfl,AcP _,rfl,by simpa [AcL] using hown,Grew.refl _ _⟩
  case round=>
    obtain⟨y,pre,rfl,hy,hsplit,hown1,hnx⟩:=hrel;have hpl:pre.length+(Ac4 y).length≤10:=by
      have h2:=congrArg AgQ hsplit;rw[AcQ]at h2;omega
    have hyp:=Lib.uvarint_pos y;have hbw:=hnx.by_.size;by_cases h128:128≤y
    · have hor:bits .or .u8 ((y:Int)%256) 128=((y%128+128:Nat):Int):=by
        rw[Lib.u8_or128_any _ (by omega) (by omega)];omega
      go_wp2_with (at_builtin;refine C2 _ rfl _ _ 27 27 rfl B 5 i0 (.int .u8 0) 1 1 Gj hi a b c rfl _ _ _ rfl (hown1.alloc _) (.slice (some ⟨wr.heap.size,0,none⟩) 1 1) 1 [_] rfl (RU Gj wr _ _ rfl) ?c1 ?c2 ?c3 ?_)
      case c1=>unfold maxLen;omega
      case c2=>omega
      case c3=>simp;omega
      intro v' w1 hown' hgrow;have hnx1:Grew w w1 sv v' :=(hnx.alloc _).trans hgrow
      go_wp2
      go_roundw
      case rel=>
        refine⟨y/128,pre++ [(y%128+128).toUInt8],by go_num,by omega,by rw[hsplit,Ah0 h128];simp,?_,hnx1⟩;have ec:((y%128+128:Nat):Int)=(y:Int)%128+128:=by omega
        rw[Lib.byteCells_snoc pre (by omega),AcQ,Ac9,←Ae2,ec];exact hown'
      case measure=>simp[intOf];omega
    · have hsm:Ac4 y= [y.toUInt8]:=Af4 (by omega)
      go_wp2_with (at_builtin;refine C2 _ rfl _ _ 27 27 rfl B 5 i0 (.int .u8 0) 1 1 Gj hi a b c rfl _ _ _ rfl (hown1.alloc _) (.slice (some ⟨wr.heap.size,0,none⟩) 1 1) 1 [_] rfl (RU Gj wr _ _ rfl) ?d1 ?d2 ?d3 ?_)
      case d1=>unfold maxLen;omega
      case d2=>omega
      case d3=>simp;omega
      intro v' w1 hown' hgrow;have hnx1:Grew w w1 sv v' :=(hnx.alloc _).trans hgrow
      go_wp2
      go_ret
      refine⟨v',rfl,?_,hnx1⟩;rw[hsplit,hsm,Lib.byteCells_snoc pre (by omega),AcQ,Ac9,←Ae2];exact hown'

theorem Bp(n:Nat)(h:n<9223372036854775808):(Ac4 n).length≤9:=Lib.uvarint_length 8 n (AdE h (by decide))

theorem PD(w:AcK)(v:AcJ)(l:List UInt8)(hr:RB w v l)(hl:l.length+16≤140737488355328)(n:Nat)(hn:n≤9223372036854775807):
    Calls AcM 177 #[v, .int .i64 n] w fun e w' =>∃v',e = .returned (.tuple #[v', .int .i64 0])∧NewB 5 w w' v' (l++Ac4 n):=by
  go_enter Tryz.func177,Tryz.ntmps177
  go_wp2_with fail
  refine(PC _ _ l hr hl).mono ?_;rintro e w1 ⟨a,rfl,h1⟩
  go_wp2_with fail
  refine(KH w.heap.size l.length n (by omega) a _ w1 h1.own h1.by_.size (by omega)).mono ?_;rintro e w2 ⟨b,rfl,ho,g⟩
  go_wp2_with fail
  go_ret2
  exact⟨b,rfl,h1.more g ho⟩

def A6(k:Nat):List UInt8→Option (Nat × Nat)
  | []=>none
  | c :: r=>if 128≤c.toNat then(if 8≤k then none else(A6 (k+1) r).map (fun x=>(c.toNat-128+128*x.1,x.2+1)))
      else if c.toNat=0∧0<k then none else some (c.toNat,1)
theorem Hz:∀(l:List UInt8) (k:Nat) (x:Nat × Nat),A6 k l=some x→1≤x.2∧x.2≤l.length∧x.2+k≤max 9 (k+1)
  | [],k,x,h=>by simp[A6]at h
  | c :: r,k,x,h=>by
    unfold A6 at h;split at h
    · split at h
      · cases h
      · obtain⟨y,hy,rfl⟩:=Afi.1 h;have:=Hz r (k+1) y hy;simp;omega
    · split at h
      · cases h
      · cases h;simp;omega
theorem Iz:∀(l:List UInt8) (k:Nat) (x:Nat × Nat),A6 k l=some x→x.1<128^x.2
  | [],k,x,h=>by simp[A6]at h
  | c :: r,k,x,h=>by
    unfold A6 at h;split at h
    · split at h
      · cases h
      · obtain⟨y,hy,rfl⟩:=Afi.1 h;have:=Iz r (k+1) y hy;have hc:=c.toNat_lt;simp only[Nat.pow_succ];omega
    · split at h
      · cases h
      · cases h;simp;omega
theorem Hd(rest:List UInt8):∀(m n k:Nat),n<128^(m+1)→m+k≤8→(0<k→0<n)→A6 k (Ac4 n++rest)=some (n,(Ac4 n).length)
  | m,n,k,hn,hk,h0=>by
    by_cases h:n<128
    · rw[Af4 h];have:(n.toUInt8).toNat=n:=by simp[Nat.toUInt8,UInt8.toNat_ofNat'];omega
      simp only[AdP,A6,this];rw[if_neg (by omega),if_neg (by omega)];simp
    · have hb:((n%128+128).toUInt8).toNat=n%128+128:=by simp[Nat.toUInt8,UInt8.toNat_ofNat'];omega
      rw[Ah0 (by omega)];simp only[AdP,A6,hb]
      match m,hn,hk with
      | 0,hn,_=>simp at hn;omega
      | m+1,hn,hk=>
        rw[if_pos (by omega),if_neg (by omega),Hd rest m (n/128) (k+1) (by rw[Nat.pow_succ]at hn;exact Aiq (by rw[Agz];exact hn)) (by omega) (fun _=>by omega)];simp;omega
theorem Qq:∀w' :AcK,(sizeOf 5).run AcM w' = .ok 1 w' :=fun _=>by kernel_rfl
def EG(a:Nat):Option (Nat × Nat)→AcJ
  | some x=> .tuple #[.int .i64 x.1, .int .i64 ↑(a+x.2), .int .i64 0]
  | none=> .tuple #[.int .i64 0, .int .i64 0, .int .i64 6]

theorem HA(y k:Nat)(hy:y<128)(hk:k≤8):IntKind.u64.wrap ((y:Int)*2^(7*k))=((y*2^(7*k):Nat):Int):=by
  have h1:y*2^(7*k)≤127*2^56:=Ahg (by omega) (AeW (by decide) (by omega));have e:((y:Int)*2^(7*k))=((y*2^(7*k):Nat):Int):=by push_cast;rfl
  rw[e];exact IntWalk.u64_in _ ⟨by omega,by omega⟩
theorem Nv(out y k:Nat)(hout:out<2^(7*k))(hy:y<128)(hk:k≤8):bits .or .u64 (out:Int) ((y*2^(7*k):Nat):Int)=((out+2^(7*k)*y:Nat):Int):=by
  have h1:y*2^(7*k)≤127*2^56:=Ahg (by omega) (AeW (by decide) (by omega));have h2:2^(7*k)≤2^56:=AeW (by decide) (by omega);have h:=(bits_nat .u64 64 (by decide) wraps_u64 out (y*2^(7*k)) (by omega) (by omega)).2;rw[h]
  congr 1
  have h3:=Ag8 hout y;rw[AhK]at h3;rw[Nat.or_comm,←h3,Agz];omega
set_option maxRecDepth 100000 in
theorem Qr:∀n:Fin 128,bits .andNot .u8 ((n.val+128:Nat):Int) 128=(n.val:Int):=by decide+kernel
theorem Nw(c:Nat)(h:128≤c)(h2:c<256):IntKind.u64.wrap (bits .andNot .u8 (c:Int) 128)=((c-128:Nat):Int):=by
  have h1:=Qr ⟨c-128,by omega⟩;have e:c-128+128=c:=by omega
  simp only[e]at h1;rw[h1];exact IntWalk.u64_in _ ⟨by omega,by omega⟩

theorem Nx(out y k:Nat)(hout:out<2^(7*k))(hy:y<128)(hk:k≤8):out+2^(7*k)*y≤9223372036854775807:=by
  have h1:2^(7*k)*y≤2^56*127:=Ahg (AeW (by decide) (by omega)) (by omega);have h2:2^(7*k)≤2^56:=AeW (by decide) (by omega);omega
theorem R3(a k N c:Nat)(h:N+2^(7*k)*c≤9223372036854775807):
    Ending.returned (.tuple #[.int .i64 (wrap64 ((N+2^(7*k)*c:Nat):Int)), .int .i64 ((a:Int)+(k:Int)+1), .int .i64 0]) = .returned (EG a ((some (c,1)).map fun x=>(N+2^(7*k)*x.1,x.2+k))):=by
  rw[IntWalk.wrap64_in _ ⟨by omega,by omega⟩];have e:(a:Int)+(k:Int)+1=((a+(1+k):Nat):Int):=by omega
  rw[e];rfl

set_option maxRecDepth 100000 in
set_option maxHeartbeats 1000000 in
theorem EH(w:AcK)(v:AcJ)(l:List UInt8)(hr:RB w v l)(a:Nat)(ha:a≤l.length):
    Calls AcM 128 #[v, .int .i64 a] w fun e w' =>e = .returned (EG a (A6 0 (l.drop a)))∧w=w' :=by
  have HR:=AeD hr;obtain⟨ao,cap,rfl,h2,h3⟩:=hr.len;clear hr;have hd:decide ((a:Int)<0)=false:=by simp
  have hd2:decide (l.length<a)=false:=by simp;omega
  obtain⟨L,hL⟩:∃L,L=l.drop a:=⟨_,rfl⟩;have hLn:l.length-a=L.length:=by rw[hL,Ac5]
  rw[←hL];have HLn:=AeD hLn;have HL:=AeD hL;clear hLn hL
  go_enter AiU,AiA
  go_wp2_with fail
  go_step3
  go_wp2_with fail
  go_step3
  go_wp2_with (refine G8 (o:=⟨some 21,_,_,_,_,_⟩) rfl _ _ (some _) none rfl Gj Qq _ l rfl HR.out a l.length ha (AcP _) (.inr ⟨.i64,rfl⟩) (.inl ⟨rfl,rfl⟩) ?_)
  intro ao' c' hr';rw[AdD (by rw[Ac5];exact AcP _)]at hr';have HR' :=AeD hr';clear hr' hd hd2;rw[←HL.out,HLn.out]at HR';rw[HLn.out];by_cases g:L.length=0
  · have hL0:L= []:=Adw g;have HL0:=AeD hL0;clear hL0 HR' HR;have h00:decide (0<L.length)=false:=by simp[g]
    clear g
    go_wp2_with fail
    refine wp_loop_rounds 1 ?_;rw[rounds_succ]
    go_wp2
    rw[Ah1]
    all_goals (go_ret3;exact⟨by rw[HL0.out];simp[A6,EG],rfl⟩)
  obtain⟨b,off,cc,hv,hcap,hcap2,hbw,hcell⟩:=HR'.out.open_ (by omega);simp only[Value.slice.injEq,true_and]at hv;obtain⟨rfl,rfl⟩:=hv;have haL:a+L.length≤9223372036854775807:=by have:=HLn.out;omega
  clear HR' HR
  go_wp2_with fail
  go_loop [7,8,23] (fun vx vs vi=>∃k out:Nat,vi = .int .i64 k∧vs = .int .i64 ((7*k:Nat):Int)∧vx = .int .u64 out∧k≤L.length∧k≤8∧out<2^(7*k)∧A6 0 L=(A6 k (L.drop k)).map (fun x=>(out+2^(7*k)*x.1,x.2+k)))
    (fun _ _ vi=>L.length-(intOf vi).toNat)
  case atStart=>exact⟨0,0,rfl,rfl,rfl,by omega,by omega,by decide,by simp⟩
  case round=>
    obtain⟨k,out,rfl,rfl,rfl,hk,f,hout,hdec⟩:=hrel;have HD:=AeD hdec;clear hdec;by_cases hkl:k<L.length
    · have hc:=hcell k hkl;have hdrop:L.drop k=L[k] :: L.drop (k+1):=Ad3 hkl;have hg:L.getD k 0=L[k]:=by simp[hkl]
      rw[hg]at hc
      generalize L[k]=c at hc hdrop
      have HDr:=AeD hdrop;have i:=c.toNat_lt;clear hcell hdrop hg;have HO:=AeD hout;clear hout;by_cases h128:128≤c.toNat
      · by_cases hk8' :k=8
        · subst hk8'
          go_wp2
          all_goals (go_ret3;exact⟨by rw[HD.out,HDr.out];simp[A6,h128,EG],rfl⟩)
        · have m:k<8:=by omega
          clear hk8'
          go_wp2
          go_round
          case rel=>
            have hp:2^(7*(k+1))=2^(7*k)*128:=by rw[show 7*(k+1)=7*k+7 from by omega,Nat.pow_add]
            refine⟨k+1,out+2^(7*k)*(c.toNat-128),by go_num,by go_num,?_,by omega,by omega,?_,?_⟩
            · rw[Nw _ h128 i,HA _ _ (by omega) (by omega),Nv _ _ _ HO.out (by omega) (by omega)]
            · have h1:=HO.out;have h2:2^(7*k)*(c.toNat-128)≤2^(7*k)*127:=AfH _ (by omega);rw[hp];omega
            · rw[HD.out,HDr.out];have:A6 k (c :: L.drop (k+1))=(A6 (k+1) (L.drop (k+1))).map (fun x=>(c.toNat-128+128*x.1,x.2+1)):=by
                simp only[A6];rw[if_pos h128,if_neg (by omega)]
              rw[this,Option.map_map]
              congr 1
              funext x
              simp only[Function.comp,Aht];refine⟨?_,by omega⟩;rw[hp,Nat.mul_add,Nat.mul_assoc];omega
          case measure=>simp[intOf];omega
      · have hlt:c.toNat<128:=by omega
        by_cases h0:c.toNat=0
        · have hz:((c.toNat:Int)==0)=true:=by simp[h0]
          have HZ:=AeD h0;clear h0;by_cases h:0<k
          · go_wp2
            all_goals (go_ret3;exact⟨by rw[HD.out,HDr.out];simp[A6,HZ.out,h,EG],rfl⟩)
          · have j:decide (0<k)=false:=by simp;omega
            clear h;have hd:A6 k (c :: L.drop (k+1))=some (c.toNat,1):=by
              simp only[A6];rw[if_neg h128,if_neg (by simp at j;omega)]
            have HD2:=AeD hd;clear hd
            go_wp2
            all_goals go_ret3
            all_goals refine⟨?_,rfl⟩
            all_goals rw[HA _ _ hlt f,Nv _ _ _ HO.out hlt f,HD.out,HDr.out,HD2.out]
            all_goals exact R3 a k _ _ (Nx _ _ _ HO.out hlt f)
        · have hz:((c.toNat:Int)==0)=false:=by simp[h0]
          have HZ:=AeD h0;clear h0;have hd:A6 k (c :: L.drop (k+1))=some (c.toNat,1):=by
            simp only[A6];rw[if_neg h128,if_neg (by have:=HZ.out;omega)]
          have HD2:=AeD hd;clear hd
          go_wp2
          all_goals go_ret3
          all_goals refine⟨?_,rfl⟩
          all_goals rw[HA _ _ hlt f,Nv _ _ _ HO.out hlt f,HD.out,HDr.out,HD2.out]
          all_goals exact R3 a k _ _ (Nx _ _ _ HO.out hlt f)
    · have hkl' :k=L.length:=by omega
      go_wp2
      all_goals (go_ret3;exact⟨by rw[HD.out,hkl'];simp[A6,EG],rfl⟩)
open Go.WideMaps (KeyLaw)
structure KL (P : Adg) (k : AcR) (OK : AcJ → Prop) : Prop where
  check:∀(w:AcK) (em:Bool) {v:AcJ},OK v→(Instr.checkKey em 10000 k v).run P w = .ok () w
  find:∀(w:AcK) {x:AcJ},OK x→∀es:List Aev,(∀e∈es,OK e.key) →
    ((Instr.findKey k x es).run P w = .ok none w∧∀e∈es,e.key≠x)∨∃j e,(Instr.findKey k x es).run P w = .ok (some (j,e.val)) w∧es[j]? =some e∧e.key=x
  stays:∀(w:AcK) {v:AcJ},OK v→(Instr.keyThatStays v v).run P w = .ok v w
theorem Ab0{P:Adg}{k:AcR}(L:KeyLaw P k):KL P k (fun v=>∃l,keyOf P k v=some l):=
  ⟨fun w em _ ⟨_,h⟩=>L.check w em h,fun w _ ⟨_,h⟩ es he=>L.find w h es he,fun w _ ⟨_,h⟩=>L.stays w h⟩
theorem Abn{P:Adg}{k:AcR}{d:TypeDesc}(hd:P.underlying k=some d):KL P k (Agm d):=
  ⟨fun w em _ h=>MapKept.run_checkKey hd h em 9999,fun w x h es he=>by
    rcases MapKept.findNow_spec h es 0 he with ⟨h1,h2⟩ | ⟨j,e,h1,h2,h3⟩
    · exact .inl ⟨AiF hd h1,h2⟩
    · rw[Ad4]at h1;exact .inr ⟨j,e,AiF hd h1,h2,h3⟩,fun w _ h=>MapKept.run_keyThatStays h⟩
section
variable {α β : Type} (ek : α → AcJ) (ev : β → AcJ) (D : α → Prop)
structure YN (G : α → Option β) (es : List Aev) : Prop where
  keys:(es.map (·.key)).Nodup
  ent:∀e∈es,∃a y,D a∧e.key=ek a∧e.val=ev y∧G a=some y
  all:∀a y,G a=some y→D a∧∃e∈es,e.key=ek a
def MapF(w:AcK)(b:Nat)(G:α→Option β):Prop:=∃es clock,w.heap[b]? =some (.map es.toArray clock)∧YN ek ev D G es∧Ag4 es.toArray clock
end
theorem OX{es es' :List Aev}{c:Nat}(hs:es'.Sublist es)(h:Ag4 es.toArray c):Ag4 es'.toArray c:=by
  obtain⟨h1,h2,h3⟩:=h;exact⟨fun x hx=>h1 x (hs.subset hx),(hs.map _).nodup h2,(hs.map _).nodup h3⟩
def updM{α β:Type}[DecidableEq α](G:α→Option β)(a:α)(y:Option β)(c:α):Option β:=if c=a then y else G c
section
variable {α β : Type} {ek : α → AcJ} {ev : β → AcJ} {D : α → Prop} {P : Adg} {w w' : AcK} {b : Nat} {G : α → Option β}
theorem MapF.keep(h:MapF ek ev D w b G)(k:Ext w w'):MapF ek ev D w' b G:=by
  obtain⟨es,c,h2,h3⟩:=h;exact⟨es,c,Ext.blk' k h2,h3⟩
theorem MapF.lt(h:MapF ek ev D w b G):b<w.heap.size:=by
  obtain⟨es,c,h2,h3⟩:=h;exact(Ade.1 h2).1
theorem MapF.other{r:Option Nat}(h:MapF ek ev D w b G)(k:w.grownBy w' r)(hr:r≠some b):MapF ek ev D w' b G:=by
  have hl:=h.lt;obtain⟨es,c,h2,h3⟩:=h;exact⟨es,c,(k.block b hl (fun e=>hr e.symm)).trans h2,h3⟩
theorem MapF.grew{v v' :AcJ}(h:MapF ek ev D w b G)(g:Grew w w' v v')(hv:v.ownBlock≠some b):MapF ek ev D w' b G:=h.other g.by_ hv
theorem Ab1(ek:α→AcJ)(ev:β→AcJ)(D:α→Prop)(w:AcK):MapF ek ev D (w.alloc (.map #[] 0)) w.heap.size (fun _=>none):=
  ⟨[],0,heap_alloc_new w _,⟨by simp,by simp,fun _ _ h=>by cases h⟩,MapKept.stamped_empty 0⟩
section
variable {t K E : AcR} {OK : AcJ → Prop} (L : KL P K OK) (hD : ∀ a, D a → OK (ek a)) (hi : ∀ a c, ek a = ek c → a = c) (ht : P.underlying t = some (.map K E))
include L hD hi ht
theorem MapF.look{z:AcJ}(hz:∀u:AcK,(zeroValue E).run P u = .ok z u)(h:MapF ek ev D w b G){a:α}(ha:D a)(ok:Bool):
    (AgA t (.map (some b)) (ek a) ok).run P w = .ok (if ok then .tuple #[(G a).elim z ev, .bool (G a).isSome]else(G a).elim z ev) w:=by
  obtain⟨es,c,hb,H,hS⟩:=h;have hkeys:∀e∈es,OK e.key:=fun e he=>by
    obtain⟨q,y,k1,k2,-⟩:=H.ent e he;rw[k2];exact hD q k1
  rcases L.find w (hD a ha) es hkeys with ⟨f1,f2⟩ | ⟨j,f,f1,f2,f3⟩
  · have hG:G a=none:=by
      cases hG:G a with
      | none=>rfl
      | some y=>
        obtain⟨-,e,he,hek⟩:=H.all a y hG;exact absurd hek (f2 e he)
    cases ok <;> simp[AgA,run_underlying ht,Ad5 hb,L.check w _ (hD a ha),f1,hz,AdH,hG]
  · obtain⟨q,y,k1,k2,k3,k4⟩:=H.ent f (AdX f2);have:q=a:=hi _ _ (k2.symm.trans f3);subst this;cases ok <;> simp[AgA,run_underlying ht,Ad5 hb,L.check w _ (hD q ha),f1,AdH,k4,k3]
variable [DecidableEq α]
omit hi in
theorem MapF.put(h:MapF ek ev D w b G){a:α}(ha:D a)(y:β):
    ∃w',(Ah2 t (.map (some b)) (ek a) (ev y)).run P w = .ok () w' ∧MapF ek ev D w' b (updM G a (some y))∧w.grownBy w' (some b)∧w'.heap.size=w.heap.size:=by
  obtain⟨es,c,hb,H,hS⟩:=h;have hkeys:∀e∈es,OK e.key:=fun e he=>by
    obtain⟨q,y,k1,k2,-⟩:=H.ent e he;rw[k2];exact hD q k1
  have hblt:b<w.heap.size:=(Ade.1 hb).1;have hgr:∀o,w.grownBy { w with heap:=w.heap.setIfInBounds b o } (some b):=fun o=>⟨rfl,rfl,rfl,by simp,fun i _ hi=>by simp only[Aep];rw[if_neg (fun e=>hi (by rw[e]))]⟩;have hnew:∀o,({ w with heap:=w.heap.setIfInBounds b o } :AcK).heap[b]? =some o:=fun o=>by simp[hblt]
  rcases L.find w (hD a ha) es hkeys with ⟨f1,f2⟩ | ⟨j,g,f1,f2,f3⟩
  · have hnone:∀x,G a≠some x:=fun x hx=>by
      obtain⟨-,e,he,hek⟩:=H.all a x hx;exact f2 e he hek
    refine⟨{ w with heap:=w.heap.setIfInBounds b (.map (es++ [({ key:=ek a,val:=ev y,born:=c } :Aev)]).toArray (c+1)) },?_,⟨_,_,hnew _,⟨?_,?_,?_⟩,by have:=MapKept.stamped_push hS (key:=ek a) (val:=ev y) (fun x hx=>f2 x (by simpa using hx));simpa using this⟩,hgr _,by simp⟩
    · simp[Ah2,run_underlying ht,Ad5 hb,L.check w false (hD a ha),f1,AeL _ hb,AdH]
    · simp only[Aei,Ado,AdA];refine AeY.2 ⟨H.keys,by simp,fun x hx z hz e=> ?_⟩;obtain⟨f,he1,rfl⟩:=Adx.1 hx;simp at hz;exact f2 f he1 (e.trans hz)
    · intro e he;rcases Adf.1 he with h1 | h1
      · obtain⟨q,z,k1,k2,k3,k4⟩:=H.ent e h1;refine⟨q,z,k1,k2,k3,?_⟩;unfold updM;rw[if_neg (fun f=>f2 e h1 (by rw[k2,f]))];exact k4
      · rw[AcY.1 h1];exact⟨a,y,ha,rfl,rfl,by unfold updM;rw[if_pos rfl]⟩
    · intro q z hq;unfold updM at hq;split at hq
      · rename_i f
        subst f;exact⟨ha,_,Aex _ (AcY.2 rfl),rfl⟩
      · obtain⟨k1,e,he,hek⟩:=H.all q z hq;exact⟨k1,e,Afv _ he,hek⟩
  · obtain⟨q0,y0,k1,k2,k3,k4⟩:=H.ent g (AdX f2);have hjl:j<es.length:=(Adc.1 f2).1;have hkeq:(es.modify j fun e=> { e with key:=ek a,val:=ev y }).map (·.key)=es.map (·.key):=by
      rw[Aga _ _ _ _ f2,AhN];exact Aih _ _ _ (by rw[Aej,f2];simp[f3])
    have hj:es.toArray[j]? =some g:=by simpa using f2
    refine⟨{ w with heap:=w.heap.setIfInBounds b (.map (es.modify j fun e=> { e with key:=ek a,val:=ev y }).toArray c) },?_,⟨_,_,hnew _,⟨?_,?_,?_⟩,by have:=MapKept.stamped_modify hS j (fun e=> { e with key:=ek a,val:=ev y }) (fun _ _=>rfl) (fun e _ he=>by rw[hj]at he;cases he;exact f3.symm);rwa [List.modify_toArray]at this⟩,hgr _,by simp⟩
    · simp[Ah2,run_underlying ht,Ad5 hb,L.check w false (hD a ha),f1,f2,f3,L.stays w (hD a ha),AeL _ hb,AdH]
    · rw[hkeq];exact H.keys
    · intro e he;rw[Aga _ _ _ _ f2]at he;obtain⟨i,hil,hie⟩:=Agf.1 he;rw[AhQ]at hie;split at hie
      · subst hie;exact⟨a,y,ha,rfl,rfl,by unfold updM;rw[if_pos rfl]⟩
      · rename_i hne
        have hil2:i<es.length:=by simpa using hil
        obtain⟨q,z,m1,m2,m3,m4⟩:=H.ent e (hie▸Ad9 hil2);refine⟨q,z,m1,m2,m3,?_⟩;unfold updM;rw[if_neg ?_]
        · exact m4
        · intro f;subst f
          apply hne
          have hn:=H.keys;have k:(es.map (·.key))[j]'(by simpa using hjl)=(es.map (·.key))[i]'(by simpa using hil2):=by
            simp only[Agg];rw[hie,m2,←f3];exact congrArg AiV (Adc.1 f2).2
          exact(List.getElem_inj hn).1 k
    · intro q z hq;have hmem:∀x,x∈es.map (·.key)→∃e∈(es.modify j fun e=> { e with key:=ek a,val:=ev y }),e.key=x:=fun x hx=>by
        rw[←hkeq]at hx;obtain⟨e,he,rfl⟩:=Adx.1 hx;exact⟨e,he,rfl⟩
      unfold updM at hq;split at hq
      · rename_i f
        subst f;exact⟨ha,hmem _ (Adx.2 ⟨g,AdX f2,f3⟩)⟩
      · obtain⟨k1,e,he,hek⟩:=H.all q z hq;exact⟨k1,hmem _ (Adx.2 ⟨e,he,hek⟩)⟩
theorem MapF.del{ty:AcR}(h:MapF ek ev D w b G){a:α}(ha:D a):
    ∃w',(Ah3 #[t,K] ty #[.map (some b),ek a]).run P w = .ok (.tuple #[]) w' ∧MapF ek ev D w' b (updM G a none)∧w.grownBy w' (some b)∧w'.heap.size=w.heap.size:=by
  obtain⟨es,c,hb,H,hS⟩:=h;have hkeys:∀e∈es,OK e.key:=fun e he=>by
    obtain⟨q,y,k1,k2,-⟩:=H.ent e he;rw[k2];exact hD q k1
  have hblt:b<w.heap.size:=(Ade.1 hb).1;have hgr:∀o,w.grownBy { w with heap:=w.heap.setIfInBounds b o } (some b):=fun o=>⟨rfl,rfl,rfl,by simp,fun i _ hi=>by simp only[Aep];rw[if_neg (fun e=>hi (by rw[e]))]⟩;have hnew:∀o,({ w with heap:=w.heap.setIfInBounds b o } :AcK).heap[b]? =some o:=fun o=>by simp[hblt]
  rcases L.find w (hD a ha) es hkeys with ⟨f1,f2⟩ | ⟨j,k,f1,f2,f3⟩
  · have hG:G a=none:=by
      cases hG:G a with
      | none=>rfl
      | some y=>
        obtain⟨-,e,he,hek⟩:=H.all a y hG;exact absurd hek (f2 e he)
    have hU:updM G a none=G:=by
      funext x
      unfold updM;split
      · rename_i e;rw[e,hG]
      · rfl
    rw[hU];refine⟨{ w with heap:=w.heap.setIfInBounds b (.map es.toArray c) },?_,⟨_,_,hnew _,H,hS⟩,hgr _,by simp⟩;simp[Ah3,run_underlying ht,Ad5 hb,L.check w _ (hD a ha),f1,AeL _ hb,AdH]
  · have hjl:j<es.length:=(Adc.1 f2).1;have hne:∀e∈es.eraseIdx j,e.key≠ek a:=fun e he hk=>by
      obtain⟨i,hil,hie⟩:=Ag9.1 he;obtain⟨hij,hie⟩:=hie;have g:(es.map (·.key))[j]'(by simpa using hjl)=(es.map (·.key))[i]'(by simpa using hil):=by
        simp only[Agg];rw[hie,hk,←f3];exact congrArg AiV (Adc.1 f2).2
      exact hij ((List.getElem_inj H.keys).1 g).symm
    refine⟨{ w with heap:=w.heap.setIfInBounds b (.map (es.eraseIdx j).toArray c) },?_,⟨_,_,hnew _,⟨?_,?_,?_⟩,OX (Ag0 _ _) hS⟩,hgr _,by simp⟩
    · simp[Ah3,run_underlying ht,Ad5 hb,L.check w _ (hD a ha),f1,AeL _ hb,AdH]
    · exact H.keys.sublist ((Ag0 _ _).map _)
    · intro e he;obtain⟨q,z,m1,m2,m3,m4⟩:=H.ent e ((Ag0 _ _).subset he);refine⟨q,z,m1,m2,m3,?_⟩;unfold updM;rw[if_neg (fun f=>hne e he (by rw[m2,f]))];exact m4
    · intro q z hq;unfold updM at hq;split at hq
      · cases hq
      · rename_i hqa
        obtain⟨k1,e,he,hek⟩:=H.all q z hq;refine⟨k1,e,?_,hek⟩;obtain⟨i,hil,hie⟩:=Agf.1 he;refine Ag9.2 ⟨i,hil,fun f=> ?_,hie⟩;subst f
        apply hqa
        refine hi _ _ (hek.symm.trans ?_);rw[←f3,←hie];exact congrArg AiV (Adc.1 f2).2
end
end
theorem Ak{a b:Nat}(h:a≠b):some a≠some b:=fun e=>h (Adu e)
def Ai(u v:AcJ):Prop:=∀k,u.ownBlock=some k→v.ownBlock≠some k
section
variable {N B : Nat} {r : Option Nat} {w w' w1 w0 : AcK} {e t : AcR}
theorem M2{z n:Nat}{v:AcJ}{xs:List AcJ}(ho:w.ownsRow B e z v n xs)(k:w.grownBy w1 r)(ha:∀k,r=some k→v.ownBlock≠some k):w1.ownsRow B e z v n xs:=
  ho.kept k (by
    cases hv:v.ownBlock with
    | none=>exact .inl rfl
    | some g=>exact .inr (fun e=>ha g e.symm hv))
theorem DN{u v:AcJ}{b:Nat}{e' :AcR}{z n z' n' :Nat}{xs ys:List AcJ}(hu:w.ownsRow b e z u n xs)(hv:w'.ownsRow w.heap.size e' z' v n' ys):Ai u v:=fun k h1 h2=>by
  have:=(hu.lt k h1).2;have:=(hv.lt k h2).1;omega
theorem AK{u v v' :AcJ}{b:Nat}{z n:Nat}{xs:List AcJ}(gr:Grew w w' v v')(ha:Ai v u)(hu:w.ownsRow b e z u n xs):Ai v' u:=fun k h1 h2=>by
  rcases gr.fresh k h1 with h3 | h3
  · exact ha k h3 h2
  · have:=(hu.lt k h2).2;omega
theorem Dy{v v' u:AcJ}{b:Nat}{z n:Nat}{xs:List AcJ}(hu:w.ownsRow b e z u n xs)(gr:Grew w w' v v')(ha:Ai v u):w'.ownsRow b e z u n xs:=M2 hu gr.by_ ha
theorem Bg{α:Type}{k b:Nat}{enc:α→List AcJ}{v v' u:AcJ}{l:List α}(hu:OG b e k enc w u l)(gr:Grew w w' v v')(ha:Ai v u):OG b e k enc w' u l:=⟨hu.1,Dy hu.2 gr ha⟩
end
theorem Grew.after{w w1 w2:AcK}{v v' :AcJ}(h:Ext w w1)(g:Grew w1 w2 v v'):Grew w w2 v v' :=
  ⟨Am (r:=v.ownBlock) ⟨h.grown.os,h.grown.tape,h.grown.output,h.grown.size,fun k hk _=>h.block k hk⟩ g.by_ (fun _ hb=> .inl hb),fun k hk=>(g.fresh k hk).imp id (fun h2=>AcN h.size h2)⟩
set_option maxHeartbeats 400000 in
theorem Dz(w:AcK)(B:Nat)(v:AcJ)(l:List UInt8)(hown:w.ownsRow B 5 1 v l.length (AcL l))(hB:B≤w.heap.size)(n:Nat)(hn:n≤9223372036854775807)(hl:l.length+16≤140737488355328):
    Calls AcM 180 #[v, .int .i64 n] w fun e w' =>∃v',e = .returned v' ∧w'.ownsRow B 5 1 v' (l++Ac4 n).length (AcL (l++Ac4 n))∧Grew w w' v v' :=by
  obtain⟨i0,hi,a,b,c⟩:=info_parts Nc;have h9:=Bp n (by omega)
  go_enter Tryz.func180,Tryz.ntmps180
  go_wp2_with fail
  refine(PD w (.slice none 0 0) [] (RB.nil w) (by simp) n hn).mono ?_;rintro e w1 ⟨f,rfl,h1⟩;have g:w1.ownsRow B 5 1 v l.length (AcL l):=Stab.own _ _ _ _ _ _ _ _ hown h1.ext;have hs:=h1.rb.src Gj;have hE:=h1.ext;rw[AdS]at hs;have hz:=h1.ext.size
  go_wp2_with (at_builtin;refine C2 _ rfl _ _ 27 27 rfl B 5 i0 (.int .u8 0) 1 1 Gj hi a b c rfl _ _ _ rfl g f _ _ rfl hs ?c1 ?c2 ?c3 ?_)
  case c1=>unfold maxLen;omega
  case c2=>omega
  case c3=>omega
  intro v' h hown' hgrow
  go_wp2
  go_ret
  exact⟨v',rfl,by rw[AcQ,Ag2];exact hown',Grew.after hE hgrow⟩
def CR:List UInt8→List UInt8→Nat
  | a :: u,b :: z=>if a=b then CR u z+1 else 0
  | _,_=>0
theorem Ul{a b:List UInt8}{i:Nat}(h1:i<a.length)(h2:i<b.length)(h:a.getD i 0=b.getD i 0):CR (a.drop i) (b.drop i)=CR (a.drop (i+1)) (b.drop (i+1))+1:=by
  rw[Ad3 h1,Ad3 h2];rw[CR,if_pos (by simpa [AgX,h1,h2] using h)]
theorem X6{a b:List UInt8}{i:Nat}(h1:i<a.length)(h2:i<b.length)(h:a.getD i 0≠b.getD i 0):CR (a.drop i) (b.drop i)=0:=by
  rw[Ad3 h1,Ad3 h2];unfold CR;rw[if_neg (by simpa [AgX,h1,h2] using h)]
theorem Um{a b:List UInt8}{i:Nat}(h:a.length≤i):CR (a.drop i) (b.drop i)=0:=by
  rw[AdR h];unfold CR;rfl
theorem Un{a b:List UInt8}{i:Nat}(h:b.length≤i):CR (a.drop i) (b.drop i)=0:=by
  rw[AdR h];cases a.drop i <;> rfl
theorem KI:∀a b:List UInt8,CR a b≤a.length∧CR a b≤b.length
  | [],b=>by simp[CR]
  | a :: u,[]=>by simp[CR]
  | a :: u,b :: z=>by
    unfold CR;have:=KI u z;split <;> simp <;> omega
theorem Nd(w:AcK)(v:AcJ)(l:List UInt8)(hr:RB w v l)(a:Nat)(ha:a≤l.length)(h:A6 0 (l.drop a)=none):
    Calls AcM 128 #[v, .int .i64 a] w fun e w' =>e = .returned (.tuple #[.int .i64 0, .int .i64 0, .int .i64 6])∧Ext w w' :=
  (EH w v l hr a ha).mono fun e w' ⟨h1,h2⟩=>by
    rw[h]at h1;exact⟨h1,h2▸Ext.refl w⟩
theorem IA(w:AcK)(v:AcJ)(l:List UInt8)(hr:RB w v l)(a:Nat)(ha:a≤l.length)(x k:Nat)(h:A6 0 (l.drop a)=some (x,k)):
    Calls AcM 128 #[v, .int .i64 a] w fun e w' =>e = .returned (.tuple #[.int .i64 (x:Nat), .int .i64 ((a+k:Nat):Int), .int .i64 0])∧Ext w w' :=
  (EH w v l hr a ha).mono fun e w' ⟨h1,h2⟩=>by
    rw[h]at h1;exact⟨h1,h2▸Ext.refl w⟩
theorem CS{l:List UInt8}{a x k:Nat}(ha:a≤l.length)(h:A6 0 (l.drop a)=some (x,k)):x<9223372036854775808∧a+k≤l.length∧1≤k:=by
  have h1:=Hz _ _ _ h;have h2:=Iz _ _ _ h;have h3:k≤9:=by have:=h1.2.2;simp at this;omega
  have h4:128^k≤128^9:=AeW (by decide) h3;have h5:=h1.2.1;rw[Ac5]at h5;exact⟨AdE h2 h4,by omega,h1.1⟩
section
variable {P : Adg} {n : Nat} {ρ : Ad} {w : AcK} {Q : BE}
def lsOk(l:List Adb)(cs:List Nat)(ks ls:Nat→List Nat):Bool:=cs.all fun m=>(ls m).all fun i=>(ks m).contains i||Ae9 i m||((AL l []).getD i 0).testBit m
def AllCh(S:AcK→AcK→Prop)(ls:Nat→List Nat)(Φs:List Bm):List Nat→Prop
  | []=>True
  | m :: r=>AllStabX S (ls m) 0 Φs∧AllCh S ls Φs r
theorem AllCh.get{S:AcK→AcK→Prop}{ls:Nat→List Nat}{Φs:List Bm}:∀(cs:List Nat),AllCh S ls Φs cs→∀m,cs.contains m=true→AllStabX S (ls m) 0 Φs
  | [],_,m,h=>by simp at h
  | c :: r,h,m,hm=>by
    by_cases e:m=c
    · subst e;exact h.1
    · exact AllCh.get r h.2 m (by simpa [e] using hm)
end
theorem u5:Tryz.prog.underlying 5=some (.int .u8):=by kernel_rfl

theorem Zm(w:AcK)(ao:Option Addr)(n c:Nat)(a:Int)(ha:a<0∨(n:Int)<a):
    Calls AcM 128 #[.slice ao n c, .int .i64 a] w fun e w' =>e = .returned (.tuple #[.int .i64 0, .int .i64 0, .int .i64 1])∧w=w' :=by
  by_cases h0:a<0
  · have hd:decide (a<0)=true:=by simp[h0]
    clear ha
    go_enter AiU,AiA
    go_wp2_with fail
    go_step3
    go_wp2_with fail
    rw[Ah1]
    go_ret3
    exact⟨rfl,rfl⟩
  · have hd:decide (a<0)=false:=by simp[h0]
    have h1:(n:Int)<a:=by omega
    have hd2:decide ((n:Int)<a)=true:=by simp[h1]
    clear ha
    go_enter AiU,AiA
    go_wp2_with fail
    go_step3
    go_wp2_with fail
    rw[Ah1]
    go_ret3
    exact⟨rfl,rfl⟩

def B9(l:List UInt8)(a:Nat)(most:Int):AcJ:=
  match A6 0 (l.drop a)with
  | none=> .tuple #[.string ⟨#[]⟩, .int .i64 0, .int .i64 6]
  | some x=>if most<x.1 then .tuple #[.string ⟨#[]⟩, .int .i64 0, .int .i64 2]
      else if l.length<a+x.2+x.1 then .tuple #[.string ⟨#[]⟩, .int .i64 0, .int .i64 6]
      else .tuple #[.string ⟨((l.drop (a+x.2)).take x.1).toArray⟩, .int .i64 ↑(a+x.2+x.1), .int .i64 0]

set_option maxRecDepth 100000 in
set_option maxHeartbeats 1000000 in
theorem FZ(w:AcK)(v:AcJ)(l:List UInt8)(hr:RB w v l)(a:Nat)(ha:a≤l.length)(most:Int):
    Calls AcM 210 #[v, .int .i64 a, .int .i64 most] w fun e w' =>e = .returned (B9 l a most)∧w=w' :=by
  have HR:=AeD hr;obtain⟨ao,cap,rfl,h2,h3⟩:=hr.len;clear hr;have HG:=AeD (EH w _ l HR.out a ha);cases hL:A6 0 (l.drop a)with
  | none=>
    have hR:B9 l a most = .tuple #[.string ⟨#[]⟩, .int .i64 0, .int .i64 6]:=by unfold B9;rw[hL]
    rw[hR];have HL:=AeD hL;clear hL hR
    go_enter AhR,Ahu
    go_wp2_with fail
    refine HG.out.mono ?_;rintro e w1 ⟨rfl,rfl⟩;rw[HL.out];unfold EG
    go_wp2_with fail
    go_ret3
    exact⟨rfl,rfl⟩
  | some x=>
    obtain⟨n,m⟩:=x;have hp:=Hz _ _ _ hL;have hlt:=Iz _ _ _ hL;rw[Ac5]at hp;have hm9:m≤9:=by have:=hp.2.2;simp at this;exact this
    have b:n≤9223372036854775807:=by
      have h1:128^m≤128^9:=AeW (by decide) hm9;simp only at hlt;omega
    have hm1:1≤m:=hp.1;have hml:a+m≤l.length:=by have:=hp.2.1;simp at this;omega
    have HL:=AeD hL;clear hL hlt hp;by_cases hmost:most<n
    · have hR:B9 l a most = .tuple #[.string ⟨#[]⟩, .int .i64 0, .int .i64 2]:=by unfold B9;rw[HL.out];simp only[];rw[if_pos hmost]
      rw[hR];clear hR
      go_enter AhR,Ahu
      go_wp2_with fail
      refine HG.out.mono ?_;rintro e w1 ⟨rfl,rfl⟩;rw[HL.out];unfold EG
      go_wp2_with fail
      go_ret3
      exact⟨rfl,rfl⟩
    · by_cases hlen:l.length<a+m+n
      · have hR:B9 l a most = .tuple #[.string ⟨#[]⟩, .int .i64 0, .int .i64 6]:=by unfold B9;rw[HL.out];simp only[];rw[if_neg hmost,if_pos hlen]
        rw[hR];clear hR
        go_enter AhR,Ahu
        go_wp2_with fail
        refine HG.out.mono ?_;rintro e w1 ⟨rfl,rfl⟩;rw[HL.out];unfold EG
        go_wp2_with fail
        go_ret3
        exact⟨rfl,rfl⟩
      · have hR:B9 l a most = .tuple #[.string ⟨((l.drop (a+m)).take n).toArray⟩, .int .i64 ↑(a+m+n), .int .i64 0]:=by unfold B9;rw[HL.out];simp only[];rw[if_neg hmost,if_neg hlen]
        rw[hR];clear hR
        go_enter AhR,Ahu
        go_wp2_with fail
        refine HG.out.mono ?_;rintro e w1 ⟨rfl,rfl⟩;rw[HL.out];unfold EG;have hlh:a+m≤a+m+n:=Ae6 _ _;have hhl:a+m+n≤l.length:=by omega
        go_wp2_with (refine G8 (o:=⟨some 38,_,_,_,_,_⟩) rfl _ _ (some _) (some _) rfl Gj Qq _ l rfl HR.out (a+m) (a+m+n) hlh hhl (.inr ⟨.i64,rfl⟩) (.inr ⟨.i64,rfl⟩) ?_)
        intro ao' c' hr';have HR' :=AeD hr';clear hr'
        go_wp2_with (refine OU (o:=⟨some 39,_,_,_,_,_⟩) rfl _ _ _ rfl Gj u5 X5 _ _ rfl HR'.out ?_)
        go_ret3
        exact⟨rfl,rfl⟩
theorem Wq:Tryz.prog.underlying 33=some (.array 32 5):=by kernel_rfl
theorem R4:(Tryz.prog.info? 33).map (·.size)=some 32:=by kernel_rfl
theorem X7:(Tryz.prog.info? 5).map (·.size)=some 1:=by kernel_rfl

def zero32:List UInt8:=AcX 32 0
theorem E7{l:List UInt8}(h:l.length=32):(AcL l).toArray.size=32:=by simp[AcL,h]
theorem Ac{l:List UInt8}(h:l.length=32):(Tryz.prog.info? 33).map (·.size)=some (AcL l).toArray.size:=by rw[E7 h];exact R4
theorem Qs:zero32.length=32:=Ac7

theorem PE(ρ:AcW→AcJ)(d:Option Tmp)(ty:AcR)(pos:String)(af:Array AdL)(w:AcK):(execOp ρ ⟨d, .alloc 33,ty,pos,af,none⟩).run AcM w = .ok (.value (.pointer (some ⟨w.heap.size,0,none⟩))) (w.alloc (.cells (AcL zero32).toArray 33)):=by kernel_rfl

def Ea(l:List UInt8)(a:Nat):AcJ:=
  if l.length-a<32 then .tuple #[.agg (AcL zero32).toArray, .int .i64 0, .int .i64 6]
  else .tuple #[.agg (AcL ((l.drop a).take 32)).toArray, .int .i64 ↑(a+32), .int .i64 0]

set_option maxRecDepth 100000 in
set_option maxHeartbeats 1000000 in
theorem JZ(w:AcK)(v:AcJ)(l:List UInt8)(hr:RB w v l)(a:Nat)(ha:a≤l.length):
    Calls AcM 171 #[v, .int .i64 a] w fun e w' =>e = .returned (Ea l a)∧Ext w w' :=by
  have HR:=AeD hr;obtain⟨ao,cap,rfl,h2,h3⟩:=hr.len;clear hr;have hd:decide ((a:Int)<0)=false:=by simp
  have hd2:decide (l.length<a)=false:=by simp;omega
  by_cases hs:l.length-a<32
  · have hR:Ea l a = .tuple #[.agg (AcL zero32).toArray, .int .i64 0, .int .i64 6]:=by unfold Ea;rw[if_pos hs]
    rw[hR];clear hR
    go_enter Tryz.func171,Tryz.ntmps171
    have HSI:=AeD (Ac Qs)
    go_wp2_with (first | (refine Iq (o:=⟨some 4, .alloc _,_,_,_,_⟩) rfl _ _ (PE _ _ _ _ _ _) ?_) | (refine wpList_load_row (o:=⟨some 21,_,_,_,_,_⟩) rfl _ _ rfl w.heap.size rfl _ _ _ _ (heap_alloc_new w _) Wq rfl HSI.out ?_) | (refine FT (o:=⟨none, .store _ _ _,_,_,_,_⟩) rfl _ _ _ rfl w.heap.size rfl (AcL zero32).toArray 33 rfl (heap_alloc_new w _) HSI.out (Af zero32) ?_))
    refine bodyPost_ret (v:= .tuple #[.agg (AcL zero32).toArray, .int .i64 0, .int .i64 6]) (If Tryz.results171 _ _ w.heap.size 33 (AcL zero32).toArray (0,0) _ rfl (heap_alloc_new w _) Wq rfl HSI.out) rfl ⟨rfl,(AdC _ _).alloc (AcP _) _⟩
  · have hR:Ea l a = .tuple #[.agg (AcL ((l.drop a).take 32)).toArray, .int .i64 ↑(a+32), .int .i64 0]:=by unfold Ea;rw[if_neg hs]
    rw[hR];clear hR
    go_enter Tryz.func171,Tryz.ntmps171
    go_wp2_with (refine Iq (o:=⟨some 4, .alloc _,_,_,_,_⟩) rfl _ _ (PE _ _ _ _ _ _) ?_)
    have hal:a+32≤l.length:=by omega
    obtain⟨w0,hw0⟩:∃w0,w0=w.alloc (.cells (AcL zero32).toArray 33):=⟨_,rfl⟩;have hbox:w0.heap[w.heap.size]? =some (.cells (AcL zero32).toArray 33 (0,0)):=by rw[hw0];exact heap_alloc_new w _
    have hsz:w0.heap.size=w.heap.size+1:=by rw[hw0];simp
    have b:Below w.heap.size w w0:=by rw[hw0];exact(AdC _ _).alloc (AcP _) _
    rw[←hw0];clear hw0;have c:((l.drop a).take 32).length=32:=by rw[Ac8,Ac5];omega
    have HL32:=AeD c;clear c hd hd2;refine Lw [4] (fun n=>if n=4 then [3]else []) (fun w' =>Below w.heap.size w0 w' ∧∃cur:Array AcJ,cur.size=32∧w'.heap[w.heap.size]? =some (.cells cur 33 (0,0)))
      (fun w1 w2=>w1.grownBy w2 (some w.heap.size)∧((∃cur:Array AcJ,cur.size=32∧w1.heap[w.heap.size]? =some (.cells cur 33 (0,0)))→∃cur:Array AcJ,cur.size=32∧w2.heap[w.heap.size]? =some (.cells cur 33 (0,0))))
      [Is (.slice (some ⟨w.heap.size,0,none⟩) 32 32),Is (.slice ao l.length cap),Is (.int .i64 a),(fun x w' =>RB w' x (l.drop a)),(fun _ w' =>w'.heap[w.heap.size]? =some (.cells (AcL ((l.drop a).take 32)).toArray 33 (0,0)))]
      (by kernel_rfl) _ _ (by kernel_rfl) (by kernel_rfl) [22,23,24,25,26] (by kernel_rfl)
      (fun w1 w2 h k=>⟨h.1.trans (k.mono (by have:=h.1.size;have:=hsz;omega)),by obtain⟨cur,h1,h2⟩:=h.2;exact⟨cur,h1,(k.block _ (Ade.1 h2).1).trans h2⟩⟩)
      (fun w1 w2 h k=>⟨h.1.grown k.1 (by have:=h.1.size;have:=hsz;omega) (fun _ e=>by cases e;exact AcP _),k.2 h.2⟩) (fun w=>⟨Aef _ _,fun h=>h⟩) ⟨(AdC _ _).drew,_,E7 rfl,hbox⟩ ?hst ?hsk ?hs ?hQ
    case hst=>
      refine⟨ZD _,ZD _,ZD _,Stab.rb _,fun v w1 w2 h k=> ?_,trivial⟩;have h' :w1.heap[w.heap.size]? =_:=h;exact(k.block _ (Ade.1 h').1).trans h'
    case hsk=>
      intro n i hn hi hk hne hb;simp at hn;subst hn
      match i,hi,hk,hne,hb with
      | 0,_,_,_,_=>exact ZD _
      | 1,_,_,_,_=>exact ZD _
      | 2,_,_,_,_=>exact ZD _
      | 3,_,hk,_,_=>simp at hk
      | 4,_,_,hne,_=>simp at hne
    case hs=>
      refine⟨?_,?_,?_,?_,?_,trivial⟩
      · refine Gg rfl fun ρ w1 hC h=> ?_;have h4:ρ 4 = .pointer (some ⟨w.heap.size,0,none⟩):=h 4 (by decide);refine Yk.value (v:= .slice (some ⟨w.heap.size,0,none⟩) 32 32) (w' :=w1) ?_ ⟨Ext.refl _,rfl⟩;clear h hC;simp[execOp,Aa,h4,go_sem]
      · refine Gg rfl fun ρ w1 hC h=> ?_;have h0:ρ 0 = .slice ao l.length cap:=h 0 (by decide);exact⟨Ext.refl _,h0⟩
      · refine Gg rfl fun ρ w1 hC h=> ?_;have h0:ρ 1 = .int .i64 a:=h 1 (by decide);exact⟨Ext.refl _,h0⟩
      · refine Gg rfl fun ρ w1 hC h=> ?_;have h23:ρ 23 = .slice ao l.length cap:=h 23 (by decide);have h24:ρ 24 = .int .i64 a:=h 24 (by decide);have f:RB w1 (Aa ρ (.tmp 23)) l:=by show RB w1 (ρ 23) l;rw[h23];exact HR.out.keep (b.trans hC.1)
        refine AbF Gj Qq f a l.length ha (AcP _) (.inr ⟨.i64,by simp[Aa,h24]⟩) (.inl ⟨rfl,rfl⟩) ?_;intro ao' c' hr';rw[AdD (by rw[Ac5];exact AcP _)]at hr';exact⟨Ext.refl _,hr'⟩
      · refine Gg rfl fun ρ w1 hC h=> ?_;have h22:ρ 22 = .slice (some ⟨w.heap.size,0,none⟩) 32 32:=h 22 (by decide);have h25:RB w1 (ρ 25) (l.drop a):=h 25 (by decide);obtain⟨hC1,cur,hcs,hcb⟩:=hC;have hm:AfN (l.drop a).length 32=32:=Nat.min_eq_right (by rw[Ac5];exact Nat.le_sub_of_add_le (by rw[AgB];exact hal));have hfit:0+AfN (l.drop a).length 32≤cur.size:=by rw[hm,hcs];exact AcP _
        refine Abk (.tmp 22) (.tmp 25) (o:=0) Gj X7 h22 h25 hcb hfit ?_;have e:(cur.toList.take 0++AcL ((l.drop a).take 32)++cur.toList.drop (0+AfN (l.drop a).length 32)).toArray=(AcL ((l.drop a).take 32)).toArray:=by
          have hd0:cur.toList.drop (0+32)= []:=AdR (AiW (by rw[Aew,hcs]));rw[hm,hd0];simp
        rw[e];have hw:=setRow_heap w1 w.heap.size cur (AcL ((l.drop a).take 32)).toArray 33 (0,0) hcb;exact⟨⟨⟨rfl,rfl,rfl,by simp,fun k _ hk=>setRow_other w1 w.heap.size k _ (fun e=>hk (by rw[e]))⟩,fun _=>⟨_,E7 HL32.out,hw⟩⟩,hw⟩
    case hQ=>
      intro u w1 hC hE;obtain⟨-,-,-,-,h26,-⟩:=hE;have hblk:w1.heap[w.heap.size]? =some (.cells (AcL ((l.drop a).take 32)).toArray 33 (0,0)):=h26;clear h26;simp only[Dm,AfP,List.foldl_nil,List.setIfInBounds_toArray,AgC,List.set_cons_succ];have hsi:(Tryz.prog.info? 33).map (·.size)=some (AcL ((l.drop a).take 32)).toArray.size:=by rw[E7 HL32.out];exact R4
      have HB:=AeD hblk;clear hblk;have HSI:=AeD hsi;clear hsi
      go_wp2_with (first | (refine wpList_load_row (o:=⟨some 27,_,_,_,_,_⟩) rfl _ _ rfl w.heap.size rfl _ _ _ _ HB.out Wq rfl HSI.out ?_) | (refine FT (o:=⟨none, .store _ _ _,_,_,_,_⟩) rfl _ _ _ rfl w.heap.size rfl (AcL ((l.drop a).take 32)).toArray 33 rfl HB.out HSI.out (Af _) ?_))
      refine bodyPost_ret (v:= .tuple #[.agg (AcL ((l.drop a).take 32)).toArray, .int .i64 ↑(a+32), .int .i64 0]) ?_ rfl ⟨rfl,b.trans hC.1⟩;exact If Tryz.results171 _ _ w.heap.size 33 _ (0,0) _ rfl HB.out Wq rfl HSI.out
set_option maxHeartbeats 400000 in
theorem OY(w:AcK)(v:AcJ)(l:List UInt8)(hr:RB w v l)(s:ByteArray)(hl:l.length+s.size+16≤140737488355328):
    Calls AcM 144 #[v, .string s] w fun e w' =>∃v',e = .returned v' ∧NewB 5 w w' v' (l++Ac4 s.size++s.data.toList):=by
  obtain⟨i0,hi,a,b,c⟩:=info_parts Nc;have h9:=Bp s.size (by omega);have hss:s.data.toList.length=s.size:=by simp
  have HSS:=AeD hss;clear hss
  go_enter Tryz.func144,Tryz.ntmps144
  go_wp2_with fail
  refine(PC _ _ l hr (by omega)).mono ?_;rintro e w1 ⟨f,rfl,h1⟩
  go_wp2_with fail
  refine(KH w.heap.size l.length s.size (by omega) f _ w1 h1.own h1.by_.size (by omega)).mono ?_;rintro e w2 ⟨h,rfl,ho,g⟩;have h2:=h1.more g ho
  go_wp2_with (at_builtin;refine C2 _ rfl _ _ 27 9 rfl w.heap.size 5 i0 (.int .u8 0) 1 1 Gj hi a b c rfl _ _ _ rfl h2.own (.string s) _ _ rfl (RT X5 _ s) ?c1 ?c2 ?c3 ?_)
  case c1=>have:=HSS.out;rw[this,AcQ];unfold maxLen;omega
  case c2=>have:=HSS.out;rw[this,AcQ];omega
  case c3=>exact h2.by_.size
  intro v' i hown' hgrow
  go_wp2
  go_ret
  exact⟨v',rfl,h2.more hgrow (by rw[HSS.out,AcQ];exact hown')⟩

variable {P : Adg}
def cellsU(l:List UInt32):Array AcJ:=(l.map fun x=>U x).toArray
theorem G0(l:List UInt32):(cellsU l).size=l.length:=by simp[cellsU]
theorem E8(l:List UInt32):∀v∈(cellsU l).toList,v.oneCell' =true:=by
  intro v hv;simp[cellsU]at hv;obtain⟨x,-,rfl⟩:=hv;rfl
namespace Sha
def rotr(x:UInt32)(n:Nat):UInt32:=x<<<Agx (32-n)|||x>>>Agx n
def be4(b:List UInt8)(t:Nat):UInt32:=
  (b.getD (4*t) 0).toUInt32<<<24|||(b.getD (4*t+1) 0).toUInt32<<<16|||(b.getD (4*t+2) 0).toUInt32<<<8|||(b.getD (4*t+3) 0).toUInt32
def low(x:UInt32):UInt32:=rotr x 7^^^rotr x 18^^^x>>>3
def high(y:UInt32):UInt32:=rotr y 17^^^rotr y 19^^^y>>>10
def nextW(b:List UInt8)(l:List UInt32)(t:Nat):UInt32:=
  if t<16 then be4 b t else high (l.getD (t-2) 0)+l.getD (t-7) 0+low (l.getD (t-15) 0)+l.getD (t-16) 0
def sched(b:List UInt8):Nat→List UInt32
  | 0=> []
  | t+1=>sched b t++ [nextW b (sched b t) t]
theorem sched_length(b:List UInt8):∀t,(sched b t).length=t
  | 0=>rfl
  | t+1=>by simp[sched,sched_length b t]
def first:List UInt32:= [0x6a09e667,0xbb67ae85,0x3c6ef372,0xa54ff53a,0x510e527f,0x9b05688c,0x1f83d9ab,0x5be0cd19]
def words:List UInt32:= [0x428a2f98,0x71374491,0xb5c0fbcf,0xe9b5dba5,0x3956c25b,0x59f111f1,0x923f82a4,0xab1c5ed5,0xd807aa98,0x12835b01,0x243185be,0x550c7dc3,0x72be5d74,0x80deb1fe,0x9bdc06a7,0xc19bf174,0xe49b69c1,0xefbe4786,0x0fc19dc6,0x240ca1cc,0x2de92c6f,0x4a7484aa,0x5cb0a9dc,0x76f988da,0x983e5152,0xa831c66d,0xb00327c8,0xbf597fc7,0xc6e00bf3,0xd5a79147,0x06ca6351,0x14292967,0x27b70a85,0x2e1b2138,0x4d2c6dfc,0x53380d13,0x650a7354,0x766a0abb,0x81c2c92e,0x92722c85,0xa2bfe8a1,0xa81a664b,0xc24b8b70,0xc76c51a3,0xd192e819,0xd6990624,0xf40e3585,0x106aa070,0x19a4c116,0x1e376c08,0x2748774c,0x34b0bcb5,0x391c0cb3,0x4ed8aa4a,0x5b9cca4f,0x682e6ff3,0x748f82ee,0x78a5636f,0x84c87814,0x8cc70208,0x90befffa,0xa4506ceb,0xbef9a3f7,0xc67178f2]
def up(v:List UInt32)(k w:UInt32):UInt32:=
  v.getD 7 0+(rotr (v.getD 4 0) 6^^^rotr (v.getD 4 0) 11^^^rotr (v.getD 4 0) 25)+(v.getD 4 0&&&v.getD 5 0 ^^^ ~~~(v.getD 4 0)&&&v.getD 6 0)+k+w
def two(v:List UInt32):UInt32:=rotr (v.getD 0 0) 2^^^rotr (v.getD 0 0) 13^^^rotr (v.getD 0 0) 22
def most(v:List UInt32):UInt32:=v.getD 0 0&&&v.getD 1 0^^^v.getD 0 0&&&v.getD 2 0^^^v.getD 1 0&&&v.getD 2 0
def round(v:List UInt32)(k w:UInt32):List UInt32:=
  [up v k w+two v+most v,v.getD 0 0,v.getD 1 0,v.getD 2 0,v.getD 3 0+up v k w,v.getD 4 0,v.getD 5 0,v.getD 6 0]
def turned(s ws:List UInt32):Nat→List UInt32
  | 0=>s
  | t+1=>round (turned s ws t) (words.getD t 0) (ws.getD t 0)
theorem turned_length(s ws:List UInt32)(hs:s.length=8):∀t,(turned s ws t).length=8
  | 0=>hs
  | _+1=>rfl
def added(v s:List UInt32):List UInt32:=List.zipWith (· + ·) v s
def rounds(s:List UInt32)(b:List UInt8):List UInt32:=added (turned s (sched b 64) 64) s
theorem rounds_length(s:List UInt32)(b:List UInt8)(hs:s.length=8):(rounds s b).length=8:=by
  simp[rounds,added,turned_length _ _ hs,hs]
def blocks(s:List UInt32)(b:List UInt8):Nat→List UInt32
  | 0=>s
  | n+1=>blocks (rounds s (b.take 64)) (b.drop 64) n
theorem blocks_length(n:Nat):∀(s:List UInt32) (b:List UInt8),s.length=8→(blocks s b n).length=8:=by
  induction n with
  | zero=>exact fun s b h=>h
  | succ n ih=>exact fun s b h=>ih _ _ (rounds_length _ _ h)
def be64(n:Nat):List UInt8:=(AdN 8).map fun i=>AdQ (n/2^(56-8*i))
def tail(n:Nat):List UInt8:=128 :: (AcX ((119-n%64)%64) 0++be64 (8*n))
def out(s:List UInt32):List UInt8:=s.flatMap fun(w:UInt32)=> [(w>>>24).toUInt8,(w>>>16).toUInt8,(w>>>8).toUInt8,w.toUInt8]
def sum(b:List UInt8):List UInt8:=out (blocks first (b++tail b.length) ((b++tail b.length).length/64))
end Sha
namespace Sha
def pad64(l:List UInt32):List UInt32:=l++AcX (64-l.length) 0
theorem pad64_length(l:List UInt32)(h:l.length≤64):(pad64 l).length=64:=by simp[pad64];omega
theorem pad64_get(l:List UInt32)(i:Nat):(pad64 l).getD i 0=l.getD i 0:=by
  unfold pad64;simp only[AcO];rw[List.getElem?_append];split
  · rfl
  · rename_i h
    rw[List.getElem?_replicate,AdY (by omega)];split <;> rfl
theorem pad64_set(l:List UInt32)(x:UInt32)(h:l.length<64):(pad64 l).set l.length x=pad64 (l++ [x]):=by
  unfold pad64;rw[Aeg _ _ (AcP _),Aez];obtain⟨k,hk⟩:∃k,64-l.length=k+1:=⟨64-l.length-1,by omega⟩;rw[hk,AiG,AgC];have:64-(l++ [x]).length=k:=by simp;omega
  rw[this];simp
theorem pad64_full(l:List UInt32)(h:l.length=64):pad64 l=l:=by simp[pad64,h]
theorem sched_step1(b:List UInt8)(t:Nat)(h:t<16):(pad64 (sched b t)).set t (be4 b t)=pad64 (sched b (t+1)):=by
  have:=pad64_set (sched b t) (be4 b t) (by rw[sched_length];omega);rw[sched_length]at this;rw[this];simp[sched,nextW,h]
theorem sched_step2(b:List UInt8)(t:Nat)(h:16≤t)(h2:t<64):(pad64 (sched b t)).set t (high ((pad64 (sched b t)).getD (t-2) 0)+(pad64 (sched b t)).getD (t-7) 0+low ((pad64 (sched b t)).getD (t-15) 0)+(pad64 (sched b t)).getD (t-16) 0)=pad64 (sched b (t+1)):=by
  simp only[pad64_get];have:=pad64_set (sched b t) (nextW b (sched b t) t) (by rw[sched_length];omega);rw[sched_length]at this;rw[sched,←this];unfold nextW;rw[if_neg (by omega)]
end Sha
structure Laid (w : AcK) : Prop where
  first:∃t fr,w.heap[0]? =some (.cells (cellsU Sha.first) t fr)
  words:∃t fr,w.heap[1]? =some (.cells (cellsU Sha.words) t fr)
theorem Laid.keep{w w' :AcK}(h:Laid w)(k:Ext w w'):Laid w' :=⟨by obtain⟨t,fr,h1⟩:=h.first;exact⟨t,fr,k.blk' h1⟩,by obtain⟨t,fr,h1⟩:=h.words;exact⟨t,fr,k.blk' h1⟩⟩
theorem Laid.two{w:AcK}(h:Laid w):1<w.heap.size:=by
  obtain⟨t,fr,h1⟩:=h.words;exact(Ade.1 h1).1
def ZY(v s:List UInt32):Nat→List UInt32
  | 0=>v
  | i+1=>(ZY v s i).set i ((ZY v s i).getD i 0+s.getD i 0)
theorem Aaa(v s:List UInt32):∀i,(ZY v s i).length=v.length
  | 0=>rfl
  | i+1=>by simp[ZY,Aaa v s i]
theorem AaL(v s:List UInt32)(h:s.length=v.length):∀i j,j<v.length→(ZY v s i).getD j 0=if j<i then v.getD j 0+s.getD j 0 else v.getD j 0
  | 0,j,_=>by simp[ZY]
  | i+1,j,hj=>by
    have ih:=AaL v s h i;unfold ZY;by_cases hij:i=j
    · subst hij;have hl:i<(ZY v s i).length:=by rw[Aaa];exact hj
      rw[AcO,Af0 hl,AdI,ih i hj,if_neg (Nat.lt_irrefl _),if_pos (AgV _)]
    · rw[AcO,Air hij,←AcO,ih j hj];by_cases h1:j<i
      · rw[if_pos h1,if_pos (by omega)]
      · rw[if_neg h1,if_neg (by omega)]
theorem Aba(v s:List UInt32)(h:s.length=v.length):ZY v s v.length=Sha.added v s:=by
  apply AgT (by simp[Aaa,Sha.added,h])
  intro j h1 h2;have hj:j<v.length:=by rw[Aaa]at h1;exact h1
  have:=AaL v s h v.length j hj;rw[if_pos hj]at this;have hs:j<s.length:=by omega
  simp[AcO,h1,hj,hs]at this;rw[this];simp[Sha.added]

theorem Abb{v s:List UInt32}{i:Nat}(h:s.length=8)(hv:v.length=8)(h1:i≤8)(h2:¬i<8):ZY v s i=Sha.added v s:=by
  have:=Aba v s (by omega);rw[hv]at this;rw[show i=8 by omega,this]
def Gk:List Nat:= [2,6,7,11,13,17,18,19,22,25]
theorem WM(n:Nat)(hn:n∈Gk)(t:AcR):Adq .and t (.int .u64 (IntKind.u64.wrap (-(n:Int)))) (.int .u64 ((31:Nat):Int))=pure (.int .u64 ((32-n:Nat):Int)):=by
  unfold Gk at hn;simp only[Adz,Aeu,or_false]at hn;rcases hn with rfl | rfl | rfl | rfl | rfl | rfl | rfl | rfl | rfl | rfl <;> rfl
theorem R5{n:Nat}(hn:n∈Gk):0<n∧n<32:=by
  unfold Gk at hn;simp only[Adz,Aeu,or_false]at hn;omega
theorem Ab2{P:Adg}{K:AcJ→AcK→Prop}{ρ:Ad}{w:AcK}{d:Option Tmp}{ty:AcR}{pos:String}{af:Array AdL}{gd:Option (Nat × Bool)}{t:AcR}{x:AcW}{n:Nat}(hn:n∈Gk)(hx:Aa ρ x=NI n)(hk:K (.int .i64 (-(n:Int))) w):Yk P K ((execOp (Aa ρ) ⟨d, .unOp .neg t x,ty,pos,af,gd⟩).run P w):=by
  have h:=R5 hn;refine Yk.value (v:= .int .i64 (-(n:Int))) (w' :=w) ?_ hk;have hw:IntKind.i64.wrap (-(n:Int)) = -(n:Int):=by
    simp only[Agw,Ad0,AeK];simp;omega
  unfold execOp;simp[hx,Op.unary,Agn,hw]
theorem Ab3{P:Adg}{K:AcJ→AcK→Prop}{ρ:Ad}{w:AcK}{d:Option Tmp}{ty:AcR}{pos:String}{af:Array AdL}{gd:Option (Nat × Bool)}{t:AcR}{x0 x1 x2 x3 x4 x5 x6 x7:AcW}{a b c e f g h i v:AcJ}(h0:Aa ρ x0=a)(h1:Aa ρ x1=b)(h2:Aa ρ x2=c)(h3:Aa ρ x3=e)(h4:Aa ρ x4=f)(h5:Aa ρ x5=g)(h6:Aa ρ x6=h)(h7:Aa ρ x7=i)(hr:∀w:AcK,(AeH t #[(0,a),(1,b),(2,c),(3,e),(4,f),(5,g),(6,h),(7,i)]).run P w = .ok v w)(hk:K v w):Yk P K ((execOp (Aa ρ) ⟨d, .build t #[(0,x0),(1,x1),(2,x2),(3,x3),(4,x4),(5,x5),(6,x6),(7,x7)],ty,pos,af,gd⟩).run P w):=by
  refine Yk.value (v:=v) (w' :=w) ?_ hk;unfold execOp;simp only[Ads,Ado,AdA,h0,h1,h2,h3,h4,h5,h6,h7,Ac1,hr,AcV,Ac3]
set_option maxRecDepth 100000
theorem Uo:Tryz.prog.underlying 3=some (.int .i64):=by kernel_rfl
theorem Qt:Tryz.prog.underlying 184=some (.int .u64):=by kernel_rfl
theorem Qu:Plain AcM 214:=fun _ _=>by kernel_rfl
theorem G1:(Tryz.prog.info? 183).map (·.size)=some 64:=by kernel_rfl
theorem KJ{d:Option Tmp}{ty:AcR}{pos:String}{af:Array AdL}{gd:Option (Nat × Bool)}(σ:AcW→AcJ)(w:AcK):(execOp σ ⟨d, .alloc 183,ty,pos,af,gd⟩).run AcM w = .ok (.value (PQ w.heap.size 0)) (w.alloc (.cells ((AcX 64 0).map fun x=>U x).toArray 183)):=by kernel_rfl
theorem AJ:Tryz.prog.underlying 181=some (.int .u32):=by kernel_rfl
theorem CK:Tryz.prog.underlying 183=some (.array 64 181):=by kernel_rfl
theorem AM:∀w' :AcK,(sizeOf 181).run AcM w' = .ok 1 w' :=fun _=>by kernel_rfl
theorem G2:(Tryz.prog.info? 181).map (·.size)=some 1:=by kernel_rfl
theorem CL:Plain AcM 176:=fun _ _=>by kernel_rfl
theorem DW:(Tryz.prog.info? 182).map (·.size)=some 8:=by kernel_rfl
theorem KK{d:Option Tmp}{ty:AcR}{pos:String}{af:Array AdL}{gd:Option (Nat × Bool)}(σ:AcW→AcJ)(w:AcK):(execOp σ ⟨d, .alloc 182,ty,pos,af,gd⟩).run AcM w = .ok (.value (PQ w.heap.size 0)) (w.alloc (.cells ((AcX 8 0).map fun x=>U x).toArray 182)):=by kernel_rfl
theorem AS:Tryz.prog.underlying 182=some (.array 8 181):=by kernel_rfl
theorem Qv:Plain AcM 175:=fun _ _=>by kernel_rfl
theorem Up(a b c d e f g h:UInt32)(w:AcK):(AeH 182 #[(0,U a),(1,U b),(2,U c),(3,U d),(4,U e),(5,U f),(6,U g),(7,U h)]).run AcM w = .ok (.agg (([a,b,c,d,e,f,g,h]:List UInt32).map fun x=>U x).toArray) w:=by kernel_rfl
set_option maxHeartbeats 1600000
theorem Uq(w:AcK)(x:UInt32)(n:Nat)(hn:n∈Gk):
  Calls AcM 214 #[U x, .int .i64 (-(n:Int))] w fun e w' =>e = .returned (U (Sha.rotr x n))∧Ext w w' :=by
 obtain⟨a,b⟩:=R5 hn;refine gG (args:= [U (x),(.int .i64 (-(n:Int)))]) Tryz.func214 rfl 17 rfl rfl ?_;have hE:=Ext.refl w;refine gS (Z4 Uo Qt rfl rfl (gS (Zw (yv:= .int .u64 ((31:Nat):Int)) rfl rfl rfl (WM n hn _) (gS (Zw (yv:= .int .u64 ((32-n:Nat):Int)) rfl rfl rfl (M7 _ _ _ (32-n) (by omega)) (gS (Zw (xv:= .int .u64 ((32:Nat):Int)) (yv:= .int .u64 ((32-n:Nat):Int)) rfl rfl rfl (WF _ _ _ (by omega) (by omega)) (gS (Zw (yv:= .int .u64 (((32)-(32-n):Nat):Int)) rfl rfl rfl (Jj _ _ _ ((32)-(32-n)) (by omega)) (gS (Zw rfl rfl rfl (Qi _ _ _) (Bb rfl (vr (U (((x)<<<Agx (32-n))|||((x)>>>Agx ((32)-(32-n))))) rfl) ?_))))))))))));refine⟨?_,hE⟩;unfold Sha.rotr;rw[show 32-(32-n)=n by omega]

theorem DA(w:AcK)(x:UInt32)(n:Nat)(hn:n∈Gk):
  Calls AcM 176 #[U x,NI n] w fun e w' =>e = .returned (U (Sha.rotr x n))∧Ext w w' :=by
 refine gG (args:= [U (x),NI n]) Tryz.func176 rfl 9 rfl rfl ?_;have hE:=Ext.refl w;refine gS (Ab2 hn rfl (gS (Zx Qu rfl rfl ((Uq _ x n hn).mono ?_))));rintro e b ⟨rfl,a⟩;refine⟨_,rfl,?_⟩;refine Bb rfl (vr (U (Sha.rotr (x) n)) rfl) ?_;have hE:=hE.trans a;exact⟨rfl,hE⟩

theorem Ny(w:AcK)(v:AcJ)(b:List UInt8)(hb:RB w v b)(hl:b.length=64):
  Calls AcM 175 #[v] w fun e w' =>e = .returned (.agg (cellsU (Sha.sched b 64)))∧Ext w w' :=by
 refine gG (args:= [v]) Tryz.func175 rfl 93 rfl rfl ?_;have hE:=Ext.refl w;refine gS (Yk.alloc KJ fun o p a4 z av a5=> ?_);have c:=z;clear z;have a6:o<p.heap.size:=by omega
 refine gS (Yk.alloc KJ fun j aw ax aa s a7=> ?_);have f:=Ext.refl p;have hE:=hE.trans av;have ab:=hE.size;have ac:=aa;clear aa;have a8:j<aw.heap.size:=by omega
 have a9:=As (bl c) ax;have c:=eb s c;have hE:=hE.trans s;have f:=f.trans s;refine gL (fun(ρ:Ad) (wz:AcK)=>∃t:Nat,ρ 0=(v:AcJ)∧ρ 2=(PQ o 0:AcJ)∧ρ 3=(PQ j 0:AcJ)∧ρ 10=(NI t:AcJ)∧Ext w wz∧wz.heap[o]? =some (.cells ((AcX 64 0).map fun x=>U x).toArray 183 (0,0))∧Ext p wz∧wz.heap[j]? =some (.cells ((Sha.pad64 (Sha.sched b t)).map fun x=>U x).toArray 183 (0,0))∧(t≤16)∧True) (fun ρ _=>16-(intOf (ρ 10)).toNat) ⟨0,rfl,rfl,rfl,rfl,hE,c,f,A1 ac (rfl),by omega,trivial⟩ ?_;clear ac;clear hE c;rintro ay az ⟨t,k,n,g,h,hE,c,f,hb21l,ht_t,-⟩;have q10:=h;have hpl_t:(Sha.pad64 (Sha.sched b t)).length=64:=Sha.pad64_length _ (by rw[Sha.sched_length];omega);obtain⟨Bt,hBt⟩:∃B,B=Sha.pad64 (Sha.sched b t):=⟨_,rfl⟩;have hb21l:az.heap[j]? =some (.cells ((Bt).map fun x=>U x).toArray 183 (0,0)):=A1 hb21l (by rw[hBt]);rw[←hBt]at hpl_t;refine gS (Zv (a:=(t:Nat)) (b:=(16:Nat)) h rfl (AI _ _ _ _) ?_);refine cD rfl (fun ad=> ?_) fun ad=> ?_
 ·refine CD [0,1,2,3,4,5,6,7,8,9,10,11,12,13,14,15,16,17,18,19,20,21,22,23,24,25,26,27,28,29,30,31,32,33,34,35] [35] [] fun ba r=> ?_;have hE:=hE.trans r;have hb21l:=eb r hb21l;refine ys (Zw (xv:=NI 4) (yv:=NI t) rfl h rfl (Cq _ _ _ (by omega)) zz) (yA (ZU (l:=b) (i:=(4)*(t)) Gj Qq (ZB (hb.keep hE) k) rfl (by omega) fun bb ae=>(ys (ZL u5 rfl (ZQ ae rfl) zz) (ys (Yk.wide u5 AJ rfl zz) (ys (Zw rfl rfl rfl (M7 _ _ _ 24 (by decide)) zz) (ys (Zw (xv:=NI 4) (yv:=NI t) rfl h rfl (Cq _ _ _ (by omega)) zz) (ys (Zw (xv:=NI ((4)*(t))) (yv:=NI 1) rfl rfl rfl (Ag _ _ _ (by omega)) zz) (yA (ZU (l:=b) (i:=((4)*(t))+(1)) Gj Qq (ZB (hb.keep hE) k) rfl (by omega) fun bc af=>(ys (ZL u5 rfl (ZQ af rfl) zz) (ys (Yk.wide u5 AJ rfl zz) (ys (Zw rfl rfl rfl (M7 _ _ _ 16 (by decide)) zz) (ys (Zw rfl rfl rfl (Qi _ _ _) zz) (ys (Zw (xv:=NI 4) (yv:=NI t) rfl h rfl (Cq _ _ _ (by omega)) zz) (ys (Zw (xv:=NI ((4)*(t))) (yv:=NI 2) rfl rfl rfl (Ag _ _ _ (by omega)) zz) (yA (ZU (l:=b) (i:=((4)*(t))+(2)) Gj Qq (ZB (hb.keep hE) k) rfl (by omega) fun bd ag=>(ys (ZL u5 rfl (ZQ ag rfl) zz) ?_))))))))))))))))));refine ys (Yk.wide u5 AJ rfl zz) (ys (Zw rfl rfl rfl (M7 _ _ _ 8 (by decide)) zz) (ys (Zw rfl rfl rfl (Qi _ _ _) zz) (ys (Zw (xv:=NI 4) (yv:=NI t) rfl h rfl (Cq _ _ _ (by omega)) zz) (ys (Zw (xv:=NI ((4)*(t))) (yv:=NI 3) rfl rfl rfl (Ag _ _ _ (by omega)) zz) (yA (ZU (l:=b) (i:=((4)*(t))+(3)) Gj Qq (ZB (hb.keep hE) k) rfl (by omega) fun be ah=>(ys (ZL u5 rfl (ZQ ah rfl) zz) (ys (Yk.wide u5 AJ rfl zz) (ys (Zw rfl rfl rfl (Qi _ _ _) zz) (ys (ZJ (i:=t) CK AM g h (by omega) zz) (yC (AaI (i:=t) (v:=(((((b.getD ((4)*(t)) 0).toUInt32)<<<24)|||(((b.getD (((4)*(t))+(1)) 0).toUInt32)<<<16))|||(((b.getD (((4)*(t))+(2)) 0).toUInt32)<<<8))|||((b.getD (((4)*(t))+(3)) 0).toUInt32)) rfl rfl hb21l (by rw[hpl_t];omega) G2 fun a0 ai u bf=> ?_))))))))))));clear ae;clear af;clear ag;clear ah;clear hb21l;have hb21l:=ai;clear ai;have bg:=bl hb21l;have hb21l:a0.heap[j]? =some (.cells ((Sha.pad64 (Sha.sched b (t+1))).map fun x=>U x).toArray 183 (0,0)):=A1 hb21l (congrArg (Afs fun x=>U x) (by rw[hBt];exact Sha.sched_step1 b t ad));have c:=eb r c;have c:=kb u c (by omega);have f:=f.trans r;have f:=Ab f u (AcN (AcP _) (by omega));have hE:=Ab hE u (AcN ab (by omega));refine gS (Zw (xv:=NI t) (yv:=NI 1) h rfl rfl (Ag _ _ _ (by omega)) (gK (Adr ⟨t+1,k,n,g,rfl,hE,c,f,A1 hb21l (rfl),by omega,trivial⟩ ?_)));show 16-(intOf (NI ((t)+(1)))).toNat<16-(intOf (ay 10)).toNat;rw[q10];simp only[intOf,Ac0];omega
 refine gL (fun(ρ:Ad) (wz:AcK)=>∃q:Nat,ρ 0=(v:AcJ)∧ρ 2=(PQ o 0:AcJ)∧ρ 3=(PQ j 0:AcJ)∧ρ 10=(NI t:AcJ)∧ρ 5=(NI q:AcJ)∧Ext w wz∧wz.heap[o]? =some (.cells ((AcX 64 0).map fun x=>U x).toArray 183 (0,0))∧Ext p wz∧wz.heap[j]? =some (.cells ((Sha.pad64 (Sha.sched b q)).map fun x=>U x).toArray 183 (0,0))∧(q≤64)∧(16≤q)∧True) (fun ρ _=>64-(intOf (ρ 5)).toNat) ⟨16,k,n,g,h,rfl,hE,c,f,A1 hb21l (congrArg (Afs fun x=>U x) (by rw[hBt,show t=16 by omega])),by omega,AcP _,trivial⟩ ?_;clear hb21l;clear hE c f;rintro a1 aj ⟨q,k,n,g,h,m,hE,c,f,hb21ll,ht_q,ht16,-⟩;have q5:=m;have hpl_q:(Sha.pad64 (Sha.sched b q)).length=64:=Sha.pad64_length _ (by rw[Sha.sched_length];omega);obtain⟨Bq,hBq⟩:∃B,B=Sha.pad64 (Sha.sched b q):=⟨_,rfl⟩;have hb21ll:aj.heap[j]? =some (.cells ((Bq).map fun x=>U x).toArray 183 (0,0)):=A1 hb21ll (by rw[hBq]);rw[←hBq]at hpl_q;refine gS (Zv (a:=(q:Nat)) (b:=(64:Nat)) m rfl (AI _ _ _ _) ?_);refine cD rfl (fun ak=> ?_) fun ak=> ?_
 ·refine CD [0,1,2,3,4,5,6,7,8,9] [] [] fun bh al=> ?_;have hb21ll:=eb al hb21ll;refine ys (Zw (xv:=NI q) (yv:=NI 15) m rfl rfl (BN _ _ _ (by omega) (by omega)) zz) (ys (ZJ (i:=(q)-(15)) CK AM g rfl (by omega) zz) (ys (Zu AJ rfl rfl (cellAt hb21ll (Bf (i:=(q)-(15)) (by rw[hpl_q];omega))) zz) (ys (Zw (xv:=NI q) (yv:=NI 2) m rfl rfl (BN _ _ _ (by omega) (by omega)) zz) (ys (ZJ (i:=(q)-(2)) CK AM g rfl (by omega) zz) (ys (Zu AJ rfl rfl (cellAt hb21ll (Bf (i:=(q)-(2)) (by rw[hpl_q];omega))) zz) (gS (Zx CL rfl rfl ((DA _ ((Bq).getD ((q)-(15)) 0) 7 (by decide)).mono ?_))))))));rintro e bi ⟨rfl,am⟩;refine⟨_,rfl,?_⟩;refine gS (Zx CL rfl rfl ((DA _ ((Bq).getD ((q)-(15)) 0) 18 (by decide)).mono ?_));rintro e bj ⟨rfl,an⟩;refine⟨_,rfl,?_⟩;refine gS (Zw rfl rfl rfl (E4 _ _ _) (gS (Zw rfl rfl rfl (Jj _ _ _ 3 (by decide)) (gS (Zw rfl rfl rfl (E4 _ _ _) (gS (Zx CL rfl rfl ((DA _ ((Bq).getD ((q)-(2)) 0) 17 (by decide)).mono ?_))))))));rintro e bk ⟨rfl,ao⟩;refine⟨_,rfl,?_⟩;refine gS (Zx CL rfl rfl ((DA _ ((Bq).getD ((q)-(2)) 0) 19 (by decide)).mono ?_));rintro e bm ⟨rfl,ap⟩;refine⟨_,rfl,?_⟩;refine gS (Zw rfl rfl rfl (E4 _ _ _) (gS (Zw rfl rfl rfl (Jj _ _ _ 10 (by decide)) (gS (Zw rfl rfl rfl (E4 _ _ _) (CD [0,1,2,3,4,5,6,7,8,9,10,11,12,13,14,15] [15] [] fun bn aq=> ?_))))));have hb21ll:=eb ((((am.trans an).trans ao).trans ap).trans aq) hb21ll;refine ys (Zw (xv:=NI q) (yv:=NI 7) m rfl rfl (BN _ _ _ (by omega) (by omega)) zz) (ys (ZJ (i:=(q)-(7)) CK AM g rfl (by omega) zz) (ys (Zu AJ rfl rfl (cellAt hb21ll (Bf (i:=(q)-(7)) (by rw[hpl_q];omega))) zz) (ys (Zw rfl rfl rfl (E3 _ _ _) zz) (ys (Zw rfl rfl rfl (E3 _ _ _) zz) (ys (Zw (xv:=NI q) (yv:=NI 16) m rfl rfl (BN _ _ _ (by omega) (by omega)) zz) (ys (ZJ (i:=(q)-(16)) CK AM g rfl (by omega) zz) (ys (Zu AJ rfl rfl (cellAt hb21ll (Bf (i:=(q)-(16)) (by rw[hpl_q];omega))) zz) (ys (Zw rfl rfl rfl (E3 _ _ _) zz) (ys (ZJ (i:=q) CK AM g m (by omega) zz) (yC (AaI (i:=q) (v:=(((Sha.high ((Bq).getD ((q)-(2)) 0))+((Bq).getD ((q)-(7)) 0))+(Sha.low ((Bq).getD ((q)-(15)) 0)))+((Bq).getD ((q)-(16)) 0)) rfl rfl hb21ll (by rw[hpl_q];omega) G2 fun a2 ar y bo=> ?_)))))))))));clear hb21ll;have hb21ll:=ar;clear ar;have bp:=bl hb21ll;have hb21ll:a2.heap[j]? =some (.cells ((Sha.pad64 (Sha.sched b (q+1))).map fun x=>U x).toArray 183 (0,0)):=A1 hb21ll (congrArg (Afs fun x=>U x) (by rw[hBq];exact Sha.sched_step2 b q ht16 ak));have hZ1:=((((al.trans am).trans an).trans ao).trans ap).trans aq;have hE:=hE.trans hZ1;have hE:=Ab hE y (AcN ab (by omega));have c:=eb hZ1 c;have c:=kb y c (by omega);have f:=f.trans hZ1;have f:=Ab f y (AcN (AcP _) (by omega));refine gS (Zw (xv:=NI q) (yv:=NI 1) m rfl rfl (Ag _ _ _ (by omega)) (gK (Adr ⟨q+1,k,n,g,h,rfl,hE,c,f,A1 hb21ll (rfl),by omega,by omega,trivial⟩ ?_)));show 64-(intOf (NI ((q)+(1)))).toNat<64-(intOf (a1 5)).toNat;rw[q5];simp only[intOf,Ac0];omega
 obtain⟨F,hF⟩:∃F,F=Sha.sched b 64:=⟨_,rfl⟩;have hb21ll:aj.heap[j]? =some (.cells ((F).map fun x=>U x).toArray 183 (0,0)):=A1 hb21ll (by rw[hBq,show q=64 by omega,←hF,Sha.pad64_full _ (by rw[hF,Sha.sched_length])]);have hFl:F.length=64:=by rw[hF,Sha.sched_length]
 refine gS (Zz g hb21ll CK rfl (by rw[Ac6,Ada,hFl];exact G1) (gS (Zy n (vr (.agg ((F).map fun x=>U x).toArray) rfl) c (by rw[Ac6,Ac6,Ada,Ada,hFl];rfl) (by rw[Ac6,Ada,hFl];exact G1) (E8 _) fun bq au a3 br=> ?_)));clear f;clear c;have c:=au;clear au;have bs:=bl c;refine L6 rfl (ResF.row n c CK rfl (by rw[Ac6,Ada,hFl];exact G1)) ?_;rw[hF];have hE:=Ab hE a3 (AcN (AcP _) (by omega));exact⟨rfl,hE⟩

theorem Qw(w:AcK)(hG:Laid w)(s:List UInt32)(hs:s.length=8)(v:AcJ)(b:List UInt8)(hb:RB w v b)(hl:b.length=64):
  Calls AcM 137 #[.agg (cellsU s),v] w fun e w' =>e = .returned (.agg (cellsU (Sha.rounds s b)))∧Ext w w' :=by
 refine gG (args:= [.agg ((s).map fun x=>U x).toArray,v]) Tryz.func137 rfl 120 rfl rfl ?_;have hE:=Ext.refl w;refine gS (Yk.box (vr (.agg ((s).map fun x=>U x).toArray) rfl) fun r w3 bp ay ba bq=> ?_);have h:=ay;clear ay;have br:r<w3.heap.size:=by omega
 refine gS (Yk.alloc KK fun u ad bb az al bs=> ?_);have f:=Ext.refl w3;have hE:=hE.trans ba;have bc:=hE.size;have j:=az;clear az;have bt:u<ad.heap.size:=by omega
 have bu:=As (bl h) bb;have h:=eb al h;refine gS (Zz rfl h AS rfl (by rw[Ac6,Ada,hs];exact DW) (gS (Yk.alloc KK fun k bd bv a0 am bw=> ?_)));have g:=Ext.refl ad;have hE:=hE.trans al;have f:=f.trans al;have an:=hE.size;have ao:=f.size;have m:=a0;clear a0;have bx:k<bd.heap.size:=by omega
 refine gS (Zy (vr (PQ k 0) rfl) (vr (.agg ((s).map fun x=>U x).toArray) rfl) m (by rw[Ac6,Ac6,Ada,Ada,hs];rfl) (by rw[Ac6,Ada,hs];exact DW) (E8 _) fun bz a1 ap b0=> ?_);clear m;have m:=a1;clear a1;have b1:=bl m;have hE:=hE.trans am;have hE:=Ab hE ap (AcN an (by omega));refine gS (ZA Qv rfl ((Ny _ v b (hb.keep hE) hl).mono ?_));rintro e b2 ⟨rfl,ae⟩;refine⟨_,rfl,?_⟩;have g:=g.trans am;have g:=Ab g ap (AcN (AcP _) (by omega));have g:=g.trans ae;have h:=eb g h;have j:=eb g j;have f:=f.trans am;have f:=Ab f ap (AcN ao (by omega));have f:=f.trans ae;have hE:=hE.trans ae;have m:=eb ae m;refine gL (fun(ρ:Ad) (wz:AcK)=>∃t:Nat,ρ 0=(.agg ((s).map fun x=>U x).toArray:AcJ)∧ρ 1=(v:AcJ)∧ρ 2=(PQ r 0:AcJ)∧ρ 4=(PQ u 0:AcJ)∧ρ 5=(PQ k 0:AcJ)∧ρ 16=(.agg ((Sha.sched b 64).map fun x=>U x).toArray:AcJ)∧ρ 17=(NI t:AcJ)∧Ext w wz∧wz.heap[r]? =some (.cells ((s).map fun x=>U x).toArray 182 (0,0))∧Ext w3 wz∧wz.heap[u]? =some (.cells ((AcX 8 0).map fun x=>U x).toArray 182 (0,0))∧Ext ad wz∧wz.heap[k]? =some (.cells (((Sha.turned s (Sha.sched b 64) t)).map fun x=>U x).toArray 182 (0,0))∧(t≤64)∧True) (fun ρ _=>64-(intOf (ρ 17)).toNat) ⟨0,rfl,rfl,rfl,rfl,rfl,rfl,rfl,hE,h,f,j,g,A1 m (rfl),Adm _,trivial⟩ ?_;clear m;clear hE h j;rintro be a2 ⟨t,T0,T1,y,o,c,z,n,hE,h,f,j,g,hb36l,ht,-⟩;have q17:=n;obtain⟨V,hV⟩:∃V,V=(Sha.turned s (Sha.sched b 64) t):=⟨_,rfl⟩;have hb36l:a2.heap[k]? =some (.cells ((V).map fun x=>U x).toArray 182 (0,0)):=A1 hb36l (by rw[hV]);have hvl:V.length=8:=by rw[hV];exact Sha.turned_length _ _ hs _
 refine gS (Zv (a:=(t:Nat)) (b:=(64:Nat)) n rfl (AI _ _ _ _) ?_);refine cD rfl (fun bf=> ?_) fun bf=> ?_
 ·refine gS (AbC (l:=Sha.sched b 64) (i:=t) CK AJ rfl AM z n (by omega) (Sha.sched_length _ _) (D6 [0,1,3,4,7,8,2,5,6,9,10,11] [2,5,9] [3,6,7] [4,8] fun bg a3=> ?_));have ah:=Ext.refl bg;have hb36l:=eb a3 hb36l;refine DM ah ?_;refine ys (ZJ (i:=4) AS AM c rfl (by omega) zz) (ys (Zu AJ rfl rfl (cellAt hb36l (Bf (i:=4) (by rw[hvl];omega))) zz) (yp (ZJ (i:=4) AS AM c rfl (by omega) zz) (yf (fun _ ⟨hZ,_⟩=>Zu AJ rfl rfl (cellAt (eb hZ hb36l) (Bf (i:=4) (by rw[hvl];omega))) zz) (yp (ZJ (i:=4) AS AM c rfl (by omega) zz) (yf (fun _ ⟨hZ,_⟩=>Zu AJ rfl rfl (cellAt (eb hZ hb36l) (Bf (i:=4) (by rw[hvl];omega))) zz) (yE (Zx CL rfl rfl ((DA _ ((V).getD (4) 0) 6 (by decide)).mono ?_))))))));rintro e bh ⟨rfl,aq⟩;refine⟨_,rfl,?_⟩;have ah:=ah.trans aq;refine⟨ah,?_⟩;have ar:=Ext.refl bh;refine yE (Zx CL rfl rfl ((DA _ ((V).getD (4) 0) 11 (by decide)).mono ?_));rintro e b3 ⟨rfl,au⟩;refine⟨_,rfl,?_⟩;have ar:=ar.trans au;refine⟨ar,?_⟩;refine yp (Zw rfl rfl rfl (E4 _ _ _) zz) (yD rfl (Zx CL rfl rfl ((DA _ ((V).getD (4) 0) 25 (by decide)).mono ?_)));rintro e b4 ⟨rfl,a4⟩;refine⟨_,rfl,?_⟩;have hb36l:=eb ((aq.trans au).trans a4) hb36l;refine ys (Zw rfl rfl rfl (E4 _ _ _) zz) (gS (ZJ (i:=4) AS AM c rfl (by omega) (gS (Zu AJ rfl rfl (cellAt hb36l (Bf (i:=4) (by rw[hvl];omega))) (gS (ZJ (i:=5) AS AM c rfl (by omega) (gS (Zu AJ rfl rfl (cellAt hb36l (Bf (i:=5) (by rw[hvl];omega))) (gS (Zw rfl rfl rfl (Ky _ _ _) (gS (ZJ (i:=4) AS AM c rfl (by omega) (gS (Zu AJ rfl rfl (cellAt hb36l (Bf (i:=4) (by rw[hvl];omega))) (gS (Acd rfl (gS (ZJ (i:=6) AS AM c rfl (by omega) (gS (Zu AJ rfl rfl (cellAt hb36l (Bf (i:=6) (by rw[hvl];omega))) (gS (Zw rfl rfl rfl (Ky _ _ _) (gS (Zw rfl rfl rfl (E4 _ _ _) (CD [0,1,2,3,4,5,6,7,8,9,10,11,12] [] [] fun b5 a5=> ?_)))))))))))))))))))))))));have hZ1:=(((a3.trans aq).trans au).trans a4).trans a5;have hE:=hE.trans hZ1;have hb36l:=eb a5 hb36l;refine ys (ZJ (i:=7) AS AM c rfl (by omega) zz) (ys (Zu AJ rfl rfl (cellAt hb36l (Bf (i:=7) (by rw[hvl];omega))) zz) (ys (Zw rfl rfl rfl (E3 _ _ _) zz) (ys (Zw rfl rfl rfl (E3 _ _ _) zz) (ys (ZJ (i:=t) CK AM rfl n (by omega) zz) (ys (Zu AJ rfl rfl (by obtain⟨tG_,fG_,hG_⟩:=Laid.words (hG.keep hE);exact cellAt (l:=Sha.words.map fun x=>U x) hG_ (Bf (l:=Sha.words) (i:=t) (by show _<64;omega))) zz) (ys (Zw rfl rfl rfl (E3 _ _ _) zz) (ys (Zw rfl rfl rfl (E3 _ _ _) zz) (D6 [0,1,3,4,7,8,2,5,6,9,10,11] [2,5,9] [3,6,7] [4,8] fun bi av=> ?_))))))));have ai:=Ext.refl bi;have hb36l:=eb av hb36l;refine DM ai ?_;refine ys (ZJ (i:=0) AS AM c rfl (by omega) zz) (ys (Zu AJ rfl rfl (cellAt hb36l (Bf (i:=0) (by rw[hvl];omega))) zz) (yp (ZJ (i:=0) AS AM c rfl (by omega) zz) (yf (fun _ ⟨hZ,_⟩=>Zu AJ rfl rfl (cellAt (eb hZ hb36l) (Bf (i:=0) (by rw[hvl];omega))) zz) (yp (ZJ (i:=0) AS AM c rfl (by omega) zz) (yf (fun _ ⟨hZ,_⟩=>Zu AJ rfl rfl (cellAt (eb hZ hb36l) (Bf (i:=0) (by rw[hvl];omega))) zz) (yE (Zx CL rfl rfl ((DA _ ((V).getD (0) 0) 2 (by decide)).mono ?_))))))));rintro e bj ⟨rfl,aj⟩;refine⟨_,rfl,?_⟩;have ai:=ai.trans aj;refine⟨ai,?_⟩;have aw:=Ext.refl bj;refine yE (Zx CL rfl rfl ((DA _ ((V).getD (0) 0) 13 (by decide)).mono ?_));rintro e b6 ⟨rfl,ak⟩;refine⟨_,rfl,?_⟩;have aw:=aw.trans ak;refine⟨aw,?_⟩;refine yp (Zw rfl rfl rfl (E4 _ _ _) zz) (yD rfl (Zx CL rfl rfl ((DA _ ((V).getD (0) 0) 22 (by decide)).mono ?_)));rintro e b7 ⟨rfl,ax⟩;refine⟨_,rfl,?_⟩;have hb36l:=eb ((aj.trans ak).trans ax) hb36l;refine ys (Zw rfl rfl rfl (E4 _ _ _) zz) (gS (ZJ (i:=0) AS AM c rfl (by omega) (gS (Zu AJ rfl rfl (cellAt hb36l (Bf (i:=0) (by rw[hvl];omega))) (gS (ZJ (i:=1) AS AM c rfl (by omega) (gS (Zu AJ rfl rfl (cellAt hb36l (Bf (i:=1) (by rw[hvl];omega))) (gS (Zw rfl rfl rfl (Ky _ _ _) (gS (ZJ (i:=0) AS AM c rfl (by omega) (gS (Zu AJ rfl rfl (cellAt hb36l (Bf (i:=0) (by rw[hvl];omega))) (gS (ZJ (i:=2) AS AM c rfl (by omega) (gS (Zu AJ rfl rfl (cellAt hb36l (Bf (i:=2) (by rw[hvl];omega))) (gS (Zw rfl rfl rfl (Ky _ _ _) (gS (Zw rfl rfl rfl (E4 _ _ _) (gS (ZJ (i:=1) AS AM c rfl (by omega) (gS (Zu AJ rfl rfl (cellAt hb36l (Bf (i:=1) (by rw[hvl];omega))) (gS (ZJ (i:=2) AS AM c rfl (by omega) (gS (Zu AJ rfl rfl (cellAt hb36l (Bf (i:=2) (by rw[hvl];omega))) ?_))))))))))))))))))))))))))))));refine gS (Zw rfl rfl rfl (Ky _ _ _) (gS (Zw rfl rfl rfl (E4 _ _ _) (gS (Zw rfl rfl rfl (E3 _ _ _) (gS (Zw rfl rfl rfl (E3 _ _ _) (gS (ZJ (i:=0) AS AM c rfl (by omega) (gS (Zu AJ rfl rfl (cellAt hb36l (Bf (i:=0) (by rw[hvl];omega))) (gS (ZJ (i:=1) AS AM c rfl (by omega) (gS (Zu AJ rfl rfl (cellAt hb36l (Bf (i:=1) (by rw[hvl];omega))) (gS (ZJ (i:=2) AS AM c rfl (by omega) (gS (Zu AJ rfl rfl (cellAt hb36l (Bf (i:=2) (by rw[hvl];omega))) (gS (ZJ (i:=3) AS AM c rfl (by omega) (gS (Zu AJ rfl rfl (cellAt hb36l (Bf (i:=3) (by rw[hvl];omega))) (gS (Zw rfl rfl rfl (E3 _ _ _) (gS (ZJ (i:=4) AS AM c rfl (by omega) (gS (Zu AJ rfl rfl (cellAt hb36l (Bf (i:=4) (by rw[hvl];omega))) (gS (ZJ (i:=5) AS AM c rfl (by omega) ?_)))))))))))))))))))))))))))))));refine gS (Zu AJ rfl rfl (cellAt hb36l (Bf (i:=5) (by rw[hvl];omega))) (gS (ZJ (i:=6) AS AM c rfl (by omega) (gS (Zu AJ rfl rfl (cellAt hb36l (Bf (i:=6) (by rw[hvl];omega))) (gS (Ab3 (vr (U ((((((((V).getD (7) 0)+(((Sha.rotr ((V).getD (4) 0) 6)^^^(Sha.rotr ((V).getD (4) 0) 11))^^^(Sha.rotr ((V).getD (4) 0) 25)))+((((V).getD (4) 0)&&&((V).getD (5) 0))^^^((~~~((V).getD (4) 0))&&&((V).getD (6) 0))))+(Sha.words.getD (t) 0))+((Sha.sched b 64).getD (t) 0))+(((Sha.rotr ((V).getD (0) 0) 2)^^^(Sha.rotr ((V).getD (0) 0) 13))^^^(Sha.rotr ((V).getD (0) 0) 22)))+(((((V).getD (0) 0)&&&((V).getD (1) 0))^^^(((V).getD (0) 0)&&&((V).getD (2) 0)))^^^(((V).getD (1) 0)&&&((V).getD (2) 0))))) rfl) (vr (U ((V).getD (0) 0)) rfl) (vr (U ((V).getD (1) 0)) rfl) (vr (U ((V).getD (2) 0)) rfl) (vr (U (((V).getD (3) 0)+((((((V).getD (7) 0)+(((Sha.rotr ((V).getD (4) 0) 6)^^^(Sha.rotr ((V).getD (4) 0) 11))^^^(Sha.rotr ((V).getD (4) 0) 25)))+((((V).getD (4) 0)&&&((V).getD (5) 0))^^^((~~~((V).getD (4) 0))&&&((V).getD (6) 0))))+(Sha.words.getD (t) 0))+((Sha.sched b 64).getD (t) 0)))) rfl) (vr (U ((V).getD (4) 0)) rfl) (vr (U ((V).getD (5) 0)) rfl) (vr (U ((V).getD (6) 0)) rfl) (fun w=>Up _ _ _ _ _ _ _ _ w) (gS (Zy c (vr (.agg ((Sha.round V (Sha.words.getD (t) 0) ((Sha.sched b 64).getD (t) 0)).map fun x=>U x).toArray) rfl) hb36l (by rw[Ac6,Ac6,Ada,Ada,hvl];rfl) (DW) (E8 _) fun b8 a6 aa b9=> ?_)))))))));clear hb36l;have hb36l:=a6;clear a6;have ca:=bl hb36l;have hZ2:=(((hZ1.trans av).trans aj).trans ak).trans ax;have h:=eb hZ2 h;have h:=kb aa h (by omega);have f:=f.trans hZ2;have f:=Ab f aa (AcN ao (by omega));have j:=eb hZ2 j;have j:=kb aa j (by omega);have g:=g.trans hZ2;have g:=Ab g aa (AcN (AcP _) (by omega));have hE:=hE.trans (((av.trans aj).trans ak).trans ax);have hE:=Ab hE aa (AcN an (by omega));refine gS (Zw (xv:=NI t) (yv:=NI 1) n rfl rfl (Ag _ _ _ (by omega)) (gK (Adr ⟨t+1,T0,T1,y,o,c,z,rfl,hE,h,f,j,g,A1 hb36l (congrArg (Afs fun x=>U x) (by rw[hV];rfl)),by omega,trivial⟩ ?_)));show 64-(intOf (NI ((t)+(1)))).toNat<64-(intOf (be 17)).toNat;rw[q17];simp only[intOf,Ac0];omega
 obtain⟨T,hT⟩:∃T,T=Sha.turned s (Sha.sched b 64) 64:=⟨_,rfl⟩;have hTl:T.length=8:=by rw[hT,Sha.turned_length _ _ hs]
 have hb36l:a2.heap[k]? =some (.cells ((T).map fun x=>U x).toArray 182 (0,0)):=A1 hb36l (by rw[hV,show t=64 by omega,←hT]);refine gL (fun(ρ:Ad) (wz:AcK)=>∃i:Nat,ρ 0=(.agg ((s).map fun x=>U x).toArray:AcJ)∧ρ 1=(v:AcJ)∧ρ 2=(PQ r 0:AcJ)∧ρ 4=(PQ u 0:AcJ)∧ρ 5=(PQ k 0:AcJ)∧ρ 16=(.agg ((Sha.sched b 64).map fun x=>U x).toArray:AcJ)∧ρ 17=(NI t:AcJ)∧ρ 107=(NI i:AcJ)∧Ext w wz∧wz.heap[r]? =some (.cells ((s).map fun x=>U x).toArray 182 (0,0))∧Ext w3 wz∧wz.heap[u]? =some (.cells ((AcX 8 0).map fun x=>U x).toArray 182 (0,0))∧Ext ad wz∧wz.heap[k]? =some (.cells ((ZY T s i).map fun x=>U x).toArray 182 (0,0))∧(i≤8)∧True) (fun ρ _=>8-(intOf (ρ 107)).toNat) ⟨0,T0,T1,y,o,c,z,n,rfl,hE,h,f,j,g,A1 hb36l (rfl),Adm _,trivial⟩ ?_;clear hb36l;clear hE h f j g;rintro bk bm ⟨i,T0,T1,y,o,c,z,n,p,hE,h,f,j,g,hb36ll,hi,-⟩;have q107:=p;have hal:(ZY T s i).length=8:=by rw[Aaa,hTl]
 refine gS (Zv (a:=(i:Nat)) (b:=(8:Nat)) p rfl (AI _ _ _ _) ?_);refine cD rfl (fun a7=> ?_) fun a7=> ?_
 ·refine CD [0,1,2,3,4,5,6,7,8] [8] [] fun cb q=> ?_;have h:=eb q h;have hb36ll:=eb q hb36ll;refine ys (ZJ (i:=i) AS AM c p (by omega) zz) (ys (Zu AJ rfl rfl (cellAt hb36ll (Bf (i:=i) (by rw[hal];omega))) zz) (ys (ZJ (i:=i) AS AM y p (by omega) zz) (ys (Zu AJ rfl rfl (cellAt h (Bf (i:=i) (by rw[hs];omega))) zz) (ys (Zw rfl rfl rfl (E3 _ _ _) zz) (ys (ZJ (i:=i) AS AM c p (by omega) zz) (yC (AaI (i:=i) (v:=((ZY T s i).getD (i) 0)+((s).getD (i) 0)) rfl rfl hb36ll (by rw[hal];omega) G2 fun bn a8 ab cc=> ?_)))))));clear hb36ll;have hb36ll:=a8;clear a8;have cd:=bl hb36ll;have hb36ll:bn.heap[k]? =some (.cells ((ZY T s (i+1)).map fun x=>U x).toArray 182 (0,0)):=A1 hb36ll (rfl);have hE:=hE.trans q;have hE:=Ab hE ab (AcN an (by omega));have f:=f.trans q;have f:=Ab f ab (AcN ao (by omega));have j:=eb q j;have j:=kb ab j (by omega);have g:=g.trans q;have g:=Ab g ab (AcN (AcP _) (by omega));have h:=kb ab h (by omega);refine gS (Zw (xv:=NI i) (yv:=NI 1) p rfl rfl (Ag _ _ _ (by omega)) (gK (Adr ⟨i+1,T0,T1,y,o,c,z,n,rfl,hE,h,f,j,g,A1 hb36ll (rfl),by omega,trivial⟩ ?_)));show 8-(intOf (NI ((i)+(1)))).toNat<8-(intOf (bk 107)).toNat;rw[q107];simp only[intOf,Ac0];omega
 obtain⟨Q,hQ⟩:∃Q,Q=Sha.rounds s b:=⟨_,rfl⟩;have hAl:Q.length=8:=by rw[hQ,Sha.rounds_length _ _ hs]
 have hb36ll:bm.heap[k]? =some (.cells ((Q).map fun x=>U x).toArray 182 (0,0)):=A1 hb36ll (congrArg (Afs fun x=>U x) ((Abb hs hTl hi a7).trans (by rw[hQ,hT];rfl)));refine gS (Zz c hb36ll AS rfl (by rw[Ac6,Ada,hAl];exact DW) (gS (Zy o (vr (.agg ((Q).map fun x=>U x).toArray) rfl) j (by rw[Ac6,Ac6,Ada,Ada,hAl];rfl) (by rw[Ac6,Ada,hAl];exact DW) (E8 _) fun ce a9 bo cf=> ?_)));clear g;clear j;have j:=a9;clear a9;have cg:=bl j;refine L6 rfl (ResF.row o j AS rfl (by rw[Ac6,Ada,hAl];exact DW)) ?_;rw[hQ];have hE:=Ab hE bo (AcN bc (by omega));exact⟨rfl,hE⟩
namespace Sha
theorem blocks_snoc:∀(k:Nat) (s:List UInt32) (b:List UInt8),blocks s b (k+1)=rounds (blocks s b k) ((b.drop (64*k)).take 64)
  | 0,s,b=>by simp[blocks]
  | k+1,s,b=>by
    rw[blocks,blocks_snoc k,blocks,Ahh];rw[show 64+64*k=64*(k+1) by omega]
theorem blocks_append:∀(k:Nat) (s:List UInt32) (b c:List UInt8),64*k≤b.length→blocks s (b++c) k=blocks s b k
  | 0,_,_,_,_=>rfl
  | k+1,s,b,c,h=>by
    rw[blocks,blocks,Af3 (by omega),Afd (by omega),blocks_append k _ _ _ (by rw[Ac5];omega)]
structure At (p : List UInt8) (s : List UInt32) (r : List UInt8) : Prop where
  state:s=blocks first p (p.length/64)
  len:r.length=64
  rest:r.take (p.length%64)=p.drop (64*(p.length/64))
theorem At.slen{p:List UInt8}{s:List UInt32}{r:List UInt8}(h:At p s r):s.length=8:=by rw[h.state];exact blocks_length _ _ _ rfl
theorem At.put{p:List UInt8}{s:List UInt32}{r:List UInt8}(h:At p s r)(x:List UInt8)(hx:p.length%64+x.length<64):
    At (p++x) s (r.take (p.length%64)++x++r.drop (p.length%64+x.length)):=by
  have hl:(p++x).length=p.length+x.length:=AcQ;have hd:(p++x).length/64=p.length/64:=by rw[hl];omega
  have hm:(p++x).length%64=p.length%64+x.length:=by rw[hl];omega
  have hr:=h.len;refine⟨?_,?_,?_⟩
  · rw[hd,blocks_append _ _ _ _ (by omega)];exact h.state
  · simp only[AcQ,Ac8,Ac5];omega
  · have e:(r.take (p.length%64)++x).length=p.length%64+x.length:=by rw[AcQ,Ac8];omega
    rw[hm,hd,Af3 (by omega),AdD (by omega),h.rest,Afd (by omega)]
theorem At.fill{p:List UInt8}{s:List UInt32}{r:List UInt8}(h:At p s r)(x:List UInt8)(hx:p.length%64+x.length=64):
    At (p++x) (rounds s (r.take (p.length%64)++x)) (r.take (p.length%64)++x):=by
  have hl:(p++x).length=p.length+x.length:=AcQ;have hd:(p++x).length/64=p.length/64+1:=by rw[hl];omega
  have hm:(p++x).length%64=0:=by rw[hl];omega
  have hr:=h.len;have e:(r.take (p.length%64)++x).length=64:=by rw[AcQ,Ac8];omega
  refine⟨?_,e,?_⟩
  · rw[hd,blocks_snoc,blocks_append _ _ _ _ (by omega),←h.state,Afd (by omega),←h.rest];exact congrArg _ (AdD (AiW e)).symm
  · rw[hm,hd,List.take_zero,AdR (by omega)]
theorem at_nil:At [] first (AcX 64 0):=⟨rfl,by simp,by simp⟩
end Sha
section
variable {P : Adg}
theorem Abo{K:AcJ→AcK→Prop}{ρ:Tmp→AcJ}{t e:AcR}{n:Nat}(ht:P.underlying t=some (.array n e))(he:∀w' :AcK,(sizeOf e).run P w' = .ok 1 w'){x lo:AcW}{d:Option Tmp}{ty:AcR}{pos:String}{af:Array AdL}{gd:Option (Nat × Bool)}{w:AcK}{b o i:Nat}{k:AdU} 
    (hx:Aa ρ x = .pointer (some ⟨b,o,none⟩)) (hl:Aa ρ lo = .int k (i:Int)) (hi:i<n) (hk:K (.slice (some ⟨b,o+i,none⟩) (n-i) (n-i)) w):Yk P K ((execOp (Aa ρ) ⟨d, .slice t x (some lo) none none,ty,pos,af,gd⟩).run P w):=by
  refine Yk.value (v:= .slice (some ⟨b,o+i,none⟩) (n-i) (n-i)) (w' :=w) ?_ hk;have hE:P.elem t=e:=by simp[Af5,ht]
  have hN:P.arrayLen t=n:=by simp[AhL,ht]
  have hr:=run_sliceAt_array_l (P:=P) (w:=w) (t:=t) (a:=⟨b,o,none⟩) (by rw[hE,hN];exact ht) k (i:Int) (by omega) (by rw[hN];omega);rw[hE,he,hN]at hr;unfold execOp;simp only[hx,hl,Aeb,AeG,Ac1,hr,AcV,Ac3];have:n≠i:=by omega
  simp[slicedAt,this,Aek]
theorem PF{w:AcK}{b:Nat}{l:List AcJ}{t:AcR}{fr:Nat × Nat}(h:w.heap[b]? =some (.cells l.toArray t fr)){i:Nat}{v:AcJ}(hi:l[i]? =some v):w.cell? ⟨b,i,none⟩=some v:=by
  simp[Afc,h,hi]
end
def hashL(s:List UInt32)(r:List UInt8)(f n:Nat):List AcJ:=(s.map fun x=>U x)++(AcL r++ [NI f,NI n])
theorem Cy{s:List UInt32}{r:List UInt8}{f n:Nat}(hs:s.length=8)(hr:r.length=64):(hashL s r f n).length=74:=by
  simp[hashL,AcL,hs,hr]
theorem HC{s:List UInt32}{r:List UInt8}{f n:Nat}(hs:s.length=8)(hr:r.length=64):(hashL s r f n)[72]? =some (NI f):=by
  unfold hashL;rw[AdB (by simp[hs]),AdB (by simp[AcL,hs,hr])];simp[AcL,hs,hr]
theorem hashL_size{s:List UInt32}{r:List UInt8}{f n:Nat}(hs:s.length=8)(hr:r.length=64):(hashL s r f n)[73]? =some (NI n):=by
  unfold hashL;rw[AdB (by simp[hs]),AdB (by simp[AcL,hs,hr])];simp[AcL,hs,hr]
theorem Ih{s:List UInt32}{r:List UInt8}{f n g:Nat}(hs:s.length=8)(hr:r.length=64):(hashL s r f n).set 72 (NI g)=hashL s r g n:=by
  unfold hashL;rw[Aeg _ _ (by simp[hs]),Aeg _ _ (by simp[AcL,hs,hr])];simp[AcL,hs,hr]
theorem Ii{s:List UInt32}{r:List UInt8}{f n g:Nat}(hs:s.length=8)(hr:r.length=64):(hashL s r f n).set 73 (NI g)=hashL s r f g:=by
  unfold hashL;rw[Aeg _ _ (by simp[hs]),Aeg _ _ (by simp[AcL,hs,hr])];simp[AcL,hs,hr]
theorem Qx{s:List UInt32}{r x:List UInt8}{f n at_:Nat}(hs:s.length=8)(hr:r.length=64)(hx:at_+x.length≤64):
    (hashL s r f n).take (8+at_)++AcL x++(hashL s r f n).drop (8+at_+x.length)=hashL s (r.take at_++x++r.drop (at_+x.length)) f n:=by
  unfold hashL;have h8:(s.map fun x=>U x).length=8:=by simp[hs]
  have hb:(AcL r).length=64:=by simp[AcL,hr]
  rw[AhS,AgW,h8,AdD (by omega),AdR (l:=s.map fun x=>U x) (by omega)];rw[show 8+at_-8=at_ by omega,show 8+at_+x.length-8=at_+x.length by omega,AdS];rw[Af3 (by omega),Afd (by omega)];simp[AcL,Ahr,Aiy]
theorem OZ{s s' :List UInt32}{r:List UInt8}{f n:Nat}(hs:s.length=8):(s'.map fun x=>U x)++(hashL s r f n).drop 8=hashL s' r f n:=by
  unfold hashL;rw[List.drop_left' (by simp[hs])]
theorem R6{s:List UInt32}{r:List UInt8}{f n:Nat}{j:Nat}{v:AcJ}(h:(s.map fun x=>U x)[j]? =some v):(hashL s r f n)[j]? =some v:=by
  unfold hashL;rw[AdF (Adc.1 h).1];exact h
theorem JF{w:AcK}{g:Nat}{s:List UInt32}{r:List UInt8}{f n:Nat}{t:AcR}{fr:Nat × Nat}(h:w.heap[g]? =some (.cells (hashL s r f n).toArray t fr)):w.rangeAt g 0 (s.map fun x=>U x):=fun j v hv=>by
  rw[Ad4];exact PF h (R6 hv)
theorem WN{w:AcK}{g:Nat}{s:List UInt32}{r:List UInt8}{f n:Nat}{t:AcR}{fr:Nat × Nat}(hs:s.length=8)(hr:r.length=64)(h:w.heap[g]? =some (.cells (hashL s r f n).toArray t fr)):RB w (.slice (some ⟨g,8,none⟩) 64 64) r:=by
  refine⟨by simp[AcL],some ⟨g,8,none⟩,64,by rw[hr],by rw[hr];exact AcP _,by decide,fun e=>by simp at e,fun a ha j v hv=> ?_⟩;cases ha;rw[Aek];refine PF h ?_;unfold hashL;have h8:(s.map fun x=>U x).length=8:=by simp[hs]
  rw[AdB (by omega),h8,show 8+j-8=j by omega,AdF (Adc.1 hv).1];exact hv
theorem Laid.kept{w w' :AcK}(h:Laid w){g:Nat}(hg:w.grownBy w' (some g))(h1:1<g):Laid w' :=
  ⟨by obtain⟨t,fr,h2⟩:=h.first;exact⟨t,fr,(hg.block 0 (Ade.1 h2).1 (by simp;omega)).trans h2⟩,by obtain⟨t,fr,h2⟩:=h.words;exact⟨t,fr,(hg.block 1 (Ade.1 h2).1 (by simp;omega)).trans h2⟩⟩
theorem Ij{P:Adg}{w:AcK}:∀(l:List UInt8) (a:Addr) (acc:ByteArray),(∀j u,(AcL l)[j]? =some u→w.cell? (a.add j)=some u)→(AgR a l.length acc).run P w = .ok ⟨acc.data++l.toArray⟩ w
  | [],a,acc,_=>by simp[AgR,Ac3]
  | b :: r,a,acc,h=>by
    have h0:=h 0 (B8 b) (by simp[AcL]);have ha:a.add 0=a:=by unfold AeO;split <;> simp_all
    rw[ha]at h0;have ih:=Ij (P:=P) (w:=w) r (a.add 1) (acc.push b) (fun j u hj=>by
      rw[E2];refine h (1+j) u ?_;rw[AgB]
      simpa [AcL] using hj)
    have hb:(((b.toNat:Nat):Int)).toNat.toUInt8=b:=by simp
    have hl:(load a).run P w = .ok (B8 b) w:=by simp[load,Ag1,h0]
    simp only[Adh,AgR,Ac1,hl,AcV];rw[hb,ih];simp
theorem JG{P:Adg}{w:AcK}{v:AcJ}{l:List UInt8}(h:RB w v l):(Agh v).run P w = .ok ⟨l.toArray⟩ w:=by
  obtain⟨h1,ao,cap,rfl,h2,h3,h4,h5⟩:=h;cases ao with
  | none=>
    have:l= []:=Adw (h4 rfl).1;subst this;rfl
  | some a=>
    have:=Ij (P:=P) (w:=w) l a .empty (h5 a rfl)
    simpa [Agh] using this
theorem M3{P:Adg}{w:AcK}{x y:AcJ}{l m:List UInt8}(hx:RB w x l)(hy:RB w y m):(Aha #[x,y]).run P w = .ok (.int .i64 (Adj l m)) w:=by
  change Ag1 P (do pure (goInt (Extern.BytealgCompare.cmp (←Agh x) (←Agh y)))) w=_;simp only[Ac1,JG hx,JG hy,Ac3,AcV];rw[Lib.cmp_eq];rfl
section
variable {P : Adg} {K : AcJ → AcK → Prop} {ρ : Ad} {w : AcK} {d : Option Tmp} {ty : AcR} {pos : String} {af : Array AdL} {gd : Option (Nat × Bool)}
theorem AbK{f:AeB}{at_:Array AcR}{x y:AcW}{a b v:AcJ}(hx:Aa ρ x=a)(hy:Aa ρ y=b)(hr:(callFunc f #[a,b]).run P w = .ok (.value v) w)(hk:K v w):Yk P K ((execOp (Aa ρ) ⟨d, .call ⟨.value (.func f),#[x,y],at_⟩,ty,pos,af,gd⟩).run P w):=by
  refine Yk.value (v:=v) (w' :=w) ?_ hk;have hf:Aa ρ (.func f) = .func (.func f) #[] #[]:=rfl;unfold execOp;simp[resolve,hf,AfA,invoke,hx,hy,hr]
theorem Acx{t e:AcR}(hr:∀(z0 z1 z2 z3:Int) (w:AcK),(Adt t 4 #[(0, .int .u8 z0),(1, .int .u8 z1),(2, .int .u8 z2),(3, .int .u8 z3)]).run P w = .ok (.slice (some ⟨w.heap.size,0,none⟩) 4 4) (w.alloc (.cells #[.int .u8 z0, .int .u8 z1, .int .u8 z2, .int .u8 z3] e))) 
    {x0 x1 x2 x3:AcW} {b0 b1 b2 b3:UInt8} (h0:Aa ρ x0=B8 b0) (h1:Aa ρ x1=B8 b1) (h2:Aa ρ x2=B8 b2) (h3:Aa ρ x3=B8 b3)
    (hk:∀v w',NewB e w w' v [b0,b1,b2,b3]→K v w'):Yk P K ((execOp (Aa ρ) ⟨d, .buildSlice t 4 #[(0,x0),(1,x1),(2,x2),(3,x3)],ty,pos,af,gd⟩).run P w):=by
  have hr' :(execOp (Aa ρ) ⟨d, .buildSlice t 4 #[(0,x0),(1,x1),(2,x2),(3,x3)],ty,pos,af,gd⟩).run P w = .ok (.value (.slice (some ⟨w.heap.size,0,none⟩) 4 4)) (w.alloc (.cells (AcL [b0,b1,b2,b3]).toArray e)):=by
    unfold execOp;simp only[Ads,Ado,AdA,h0,h1,h2,h3,Ac1,hr,AcV,Ac3];rfl
  rw[hr'];exact hk _ _ (Hx w e [b0,b1,b2,b3] (by simp))
theorem Bn{x y:List UInt8}(hx:x.length=32)(hy:y.length=32):(AcL x).toArray.size=(AcL y).toArray.size:=by simp[AcL,hx,hy]
theorem AD{x:List UInt8}(h:(AcL x).length=32):x.length=32:=by rwa [AcZ]at h
theorem Ach{g:Nat}{l:List UInt8}{t:AcR}{fr:Nat × Nat}(h:w.heap[g]? =some (.cells (AcL l).toArray t fr))(hl:l.length≤9223372036854775807):RB w (.slice (some ⟨g,0,none⟩) l.length l.length) l:=
  ⟨by simp[AcL],_,_,rfl,AcP _,by unfold maxLen;omega,(fun h=>by cases h),fun a ha j u hu=>by
    cases ha;rw[Aek,Ad4];exact cellAt h hu⟩
theorem Aap{g n:Nat}{l:List UInt8}{t:AcR}{fr:Nat × Nat}(h:w.heap[g]? =some (.cells (AcL l).toArray t fr))(hn:l.length=n)(hl:n≤9223372036854775807):RB w (.slice (some ⟨g,0,none⟩) n n) l:=by
  subst hn;exact Ach h hl
end
/-! ### The order of rows of bytes -/
theorem J0:∀a:List UInt8,Adj a a=0
  | []=>rfl
  | x :: a=>by simp[Adj,UInt8.lt_irrefl,J0 a]
theorem R7:∀a b:List UInt8,Adj a b = -1∨Adj a b=0∨Adj a b=1
  | [],[]=> .inr (.inl rfl)
  | [],_ :: _=> .inl rfl
  | _ :: _,[]=> .inr (.inr rfl)
  | x :: a,y :: b=>by
    unfold Adj;split
    · exact .inl rfl
    · split
      · exact .inr (.inr rfl)
      · exact R7 a b
theorem HE:∀ {a b:List UInt8},Adj a b=0→a=b
  | [],[],_=>rfl
  | [],_ :: _,h=>by simp[Adj]at h
  | _ :: _,[],h=>by simp[Adj]at h
  | x :: a,y :: b,h=>by
    unfold Adj at h;split at h
    · cases h
    · split at h
      · cases h
      · rename_i h1 h2
        have hxy:x=y:=AhA (AgD.1 h2) (AgD.1 h1);rw[hxy,HE h]
theorem He:∀a b:List UInt8,Adj a b = - Adj b a
  | [],[]=>rfl
  | [],_ :: _=>rfl
  | _ :: _,[]=>rfl
  | x :: a,y :: b=>by
    unfold Adj;by_cases h1:x<y
    · rw[if_pos h1,if_neg (UInt8.lt_asymm h1),if_pos h1]
    · by_cases h2:y<x
      · rw[if_neg h1,if_pos h2,if_pos h2];rfl
      · rw[if_neg h1,if_neg h2,if_neg h2,if_neg h1];exact He a b
theorem GF:∀ {a b c:List UInt8},Adj a b≤0→Adj b c≤0→Adj a c≤0
  | [],_,[],_,_=>by simp[Adj]
  | [],_,_ :: _,_,_=>by simp[Adj]
  | _ :: _,[],_,h,_=>by simp[Adj]at h
  | _ :: _,_ :: _,[],_,h=>by simp[Adj]at h
  | x :: a,y :: b,z :: c,h1,h2=>by
    unfold Adj at h1 h2 ⊢;by_cases xy:x<y
    · by_cases yz:y<z
      · rw[if_pos (UInt8.lt_trans xy yz)];decide
      · by_cases zy:z<y
        · rw[if_neg yz,if_pos zy]at h2;exact absurd h2 (by decide)
        · have:y=z:=AhA (AgD.1 zy) (AgD.1 yz);rw[←this,if_pos xy];decide
    · by_cases yx:y<x
      · rw[if_neg xy,if_pos yx]at h1;exact absurd h1 (by decide)
      · have e:x=y:=AhA (AgD.1 yx) (AgD.1 xy);subst e;rw[if_neg xy,if_neg xy]at h1;by_cases xz:x<z
        · rw[if_pos xz];decide
        · by_cases zx:z<x
          · rw[if_neg xz,if_pos zx]at h2;exact absurd h2 (by decide)
          · rw[if_neg xz,if_neg zx]at h2 ⊢;exact GF h1 h2
def C8(l:List (List UInt8)):Prop:=l.Pairwise fun a b=>Adj a b≤0
theorem J1:∀ {l m:List (List UInt8)},C8 l→C8 m→l.Perm m→l=m
  | [],m,_,_,h=>(List.nil_perm.1 h).symm
  | l,[],_,_,h=>List.perm_nil.1 h
  | a :: l,b :: m,h1,h2,h=>by
    have ha:=AdZ.1 h1;have hb:=AdZ.1 h2;have e:a=b:=by
      have m1:a∈b :: m:=h.subset (by simp);have m2:b∈a :: l:=h.symm.subset (by simp);rcases Adz.1 m1 with e | m1
      · exact e
      · rcases Adz.1 m2 with e | m2
        · exact e.symm
        · have k1:=hb.1 a m1;have k2:=ha.1 b m2;have k3:=He a b;exact HE (by omega)
    subst e;rw[J1 ha.2 hb.2 (List.Perm.cons_inv h)]
def J2(x:List UInt8):List (List UInt8)→List (List UInt8)
  | []=> [x]
  | a :: r=>if Adj x a≤0 then x :: a :: r else a :: J2 x r
def AO:List (List UInt8)→List (List UInt8)
  | []=> []
  | a :: r=>J2 a (AO r)
theorem IB(x:List UInt8):∀l,(J2 x l).Perm (x :: l)
  | []=>Ahi _
  | a :: r=>by
    unfold J2;split
    · exact Ahi _
    · exact((IB x r).cons a).trans (List.Perm.swap x a r)
theorem sortB_perm:∀l,(AO l).Perm l
  | []=>Ahi _
  | a :: r=>(IB a _).trans ((sortB_perm r).cons a)
theorem Nz(x:List UInt8):∀l,C8 l→C8 (J2 x l)
  | [],_=>by simp[J2,C8]
  | a :: r,h=>by
    have hr:=AdZ.1 h;unfold J2;split
    · rename_i hx
      refine AdZ.2 ⟨fun c hc=> ?_,h⟩;rcases Adz.1 hc with rfl | hc
      · exact hx
      · exact GF hx (hr.1 c hc)
    · rename_i hx
      refine AdZ.2 ⟨fun c hc=> ?_,Nz x r hr.2⟩;rcases Adz.1 ((IB x r).subset hc)with rfl | hc
      · have:=He c a;omega
      · exact hr.1 c hc
theorem GG:∀l,C8 (AO l)
  | []=>AeN
  | a :: r=>Nz a _ (GG r)
theorem GH(l:List (List UInt8)):(AO l).length=l.length:=(sortB_perm l).length_eq
theorem R8{l m:List (List UInt8)}(h:C8 m)(hp:m.Perm l):m=AO l:=J1 h (GG l) (hp.trans (sortB_perm l).symm)
abbrev Bs:=List UInt8
def A8(n:Nat):Bs:= [AdQ (n/2^24),AdQ (n/2^16),AdQ (n/2^8),AdQ n]
def Eb(b:Bs):Nat:=(b.getD 0 0).toNat*2^24+(b.getD 1 0).toNat*2^16+(b.getD 2 0).toNat*2^8+(b.getD 3 0).toNat
theorem GI(n:Nat):(A8 n).length=4:=rfl
theorem Zp(a b c d:Nat)(hb:b<256)(hc:c<256)(hd:d<256):a*2^24|||b*2^16|||c*2^8|||d=a*2^24+b*2^16+c*2^8+d:=by
  have e:a*2^24|||b*2^16=(a*2^8+b)*2^16:=by
    have:=KD a (b*2^16) 24 (by omega);rw[this];omega
  have f:(a*2^8+b)*2^16|||c*2^8=((a*2^8+b)*2^8+c)*2^8:=by
    have:=KD (a*2^8+b) (c*2^8) 16 (by omega);rw[this];omega
  rw[e,f,KD _ d 8 (by omega)];omega
theorem HF(n:Nat)(h:n<2^32)(r:Bs):Eb (A8 n++r)=n:=by
  unfold Eb A8;simp;omega
def Hf(id:Bs):Nat:=(id.getD 0 0).toNat
theorem X8(id:Bs):Hf id<256:=(id.getD 0 0).toNat_lt
def Be(ids:List Bs):List Nat:=(AdN 256).map fun c=>ids.countP fun id=>decide (Hf id≤c)
def Ca(ids:List Bs):List Nat:=(AdN 256).map fun c=>ids.countP fun id=>decide (Hf id=c)
theorem BW(ids:List Bs):(Be ids).length=256:=by simp[Be]
theorem Cz(ids:List Bs):(Ca ids).length=256:=by simp[Ca]
theorem F0(ids:List Bs)(c:Nat)(h:c<256):(Ca ids).getD c 0=ids.countP fun id=>decide (Hf id=c):=by
  rw[AcO];simp[Ca,h]
theorem HH(ids:List Bs)(c:Nat)(h:c<256):(Be ids).getD c 0=ids.countP fun id=>decide (Hf id≤c):=by
  rw[AcO];simp[Be,h]
theorem Jm(ids:List Bs)(c:Nat):(Be ids).getD c 0≤ids.length:=by
  by_cases h:c<256
  · rw[HH _ _ h];exact Aii
  · rw[AcO,AdY (by rw[BW];omega)];simp
theorem O2(ids:List Bs)(id:Bs):Ca (ids++ [id])=(Ca ids).set (Hf id) ((Ca ids).getD (Hf id) 0+1):=by
  have hb:=X8 id
  apply List.ext_getElem?
  intro c;by_cases hc:c<256
  · rw[AcS (by rw[Cz];exact hc),AcS (by rw[Aer,Cz];exact hc)]
    congr 1
    rw[AhQ];have g:∀(l:List Bs) (h:c<(Ca l).length),(Ca l)[c]=l.countP fun id=>decide (Hf id=c):=fun l h=>by simp[Ca]
    rw[g];split
    · rename_i he
      rw[he,F0 _ _ hc,List.countP_append];simp[he]
    · rename_i he
      rw[g,List.countP_append];simp[he]
  · rw[AdY (by rw[Cz];omega),AdY (by rw[Aer,Cz];omega)]
def BJ(ids:List Bs)(k:Nat):List Nat:=(Be ids).take k++(Ca ids).drop k
theorem FB(ids:List Bs)(k:Nat)(h:k≤256):(BJ ids k).length=256:=by
  unfold BJ;rw[AcQ,Ac8,Ac5,BW,Cz];omega
theorem R9(ids:List Bs):(Be ids).getD 0 0=(Ca ids).getD 0 0:=by
  rw[HH _ _ (by omega),F0 _ _ (by omega)]
  congr 1
  funext id
  simp
theorem fanStep_one(ids:List Bs):BJ ids 1=Ca ids:=by
  have h:=R9 ids;have h1:=BW ids;have h2:=Cz ids;unfold BJ
  match hA:Be ids,hB:Ca ids with
  | [],_=>rw[hA]at h1;simp at h1
  | _ :: _,[]=>rw[hB]at h2;simp at h2
  | a :: A,b :: B=>
    rw[hA,hB]at h;simp at h;simp[h]
theorem Sa(ids:List Bs)(c:Nat)(h:c+1<256):(Be ids).getD (c+1) 0=(Ca ids).getD (c+1) 0+(Be ids).getD c 0:=by
  rw[HH _ _ h,F0 _ _ h,HH _ _ (by omega)]
  induction ids with
  | nil=>rfl
  | cons a r ih=>
    simp only[List.countP_cons,ih];by_cases h1:Hf a≤c
    · simp[h1,show Hf a≤c+1 by omega,show Hf a≠c+1 by omega];omega
    · by_cases h2:Hf a=c+1
      · simp[h2,show ¬c+1≤c by omega];omega
      · simp[h1,h2,show ¬Hf a≤c+1 by omega]
theorem IC(ids:List Bs)(k:Nat)(h0:0<k)(h:k<256):BJ ids (k+1)=(BJ ids k).set k ((BJ ids k).getD k 0+(BJ ids k).getD (k-1) 0):=by
  have g1:(BJ ids k).getD k 0=(Ca ids).getD k 0:=by
    unfold BJ;rw[AcO,AdB (by rw[Ac8,BW];omega),Ac8,BW,Agv,show k+(k-min k 256)=k by omega,←AcO]
  have g2:(BJ ids k).getD (k-1) 0=(Be ids).getD (k-1) 0:=by
    unfold BJ;rw[AcO,AdF (by rw[Ac8,BW];omega),AeS,if_pos (by omega),←AcO]
  have g3:=Sa ids (k-1) (by omega);rw[show k-1+1=k by omega]at g3;rw[g1,g2,←g3];unfold BJ;rw[Aeg _ _ (by rw[Ac8,BW];omega),Ac8,BW,show k-min k 256=0 by omega,Adi (by rw[BW];exact h),Adn]
  congr 1
  rw[Ad3 (l:=Ca ids) (i:=k) (by rw[Cz];exact h)];simp only[AgC,Af6,Ag3,and_true];rw[AcO,AcS (by rw[BW];exact h)];rfl
theorem O3(ids:List Bs):BJ ids 256=Be ids:=by
  unfold BJ;rw[AdD (by rw[BW];omega),AdR (by rw[Cz];omega),AeA]
theorem Sb{w w0 w' :AcK}{e:AcR}{v:AcJ}{l:List UInt8}(h:w'.ownsRow w0.heap.size e 1 v l.length (AcL l))(hb:w.heap.size≤w0.heap.size):w'.ownsRow w.heap.size e 1 v l.length (AcL l):=BL h hb
theorem Sc(z0 z1 z2 z3:Int)(w:AcK):(Adt 27 4 #[(0, .int .u8 z0),(1, .int .u8 z1),(2, .int .u8 z2),(3, .int .u8 z3)]).run AcM w = .ok (.slice (some ⟨w.heap.size,0,none⟩) 4 4) (w.alloc (.cells #[.int .u8 z0, .int .u8 z1, .int .u8 z2, .int .u8 z3] 5)):=by kernel_rfl
theorem Sd(z:Int)(w:AcK):(Adt 27 1 #[(0, .int .u8 z)]).run AcM w = .ok (.slice (some ⟨w.heap.size,0,none⟩) 1 1) (w.alloc (.cells #[.int .u8 z] 5)):=by kernel_rfl
theorem Se:Plain AcM 177:=fun _ _=>by kernel_rfl
theorem J3(w0 w:AcK)(hE:Ext w0 w)(v:AcJ)(l:List UInt8)(n:Nat)(hn:n<9223372036854775808)(hl:l.length+4≤140737488355328)(hown:w.ownsRow w0.heap.size 5 1 v l.length (AcL l)):
  Calls AcM 146 #[v,NI n] w fun e w' =>∃v',e = .returned v' ∧w'.ownsRow w0.heap.size 5 1 v' (l++A8 n).length (AcL (l++A8 n))∧Grew w w' v v' :=by
 refine gG (args:= [v,NI n]) Tryz.func146 rfl 19 rfl rfl (gS (Zw (xv:=NI n) (yv:= .int .u64 ((24:Nat):Int)) rfl rfl rfl (Lz _ _ _ _ (by omega)) (gS (Z4 Uo u5 rfl (Hc ((n)/2^(24))) (gS (Zw (xv:=NI n) (yv:= .int .u64 ((16:Nat):Int)) rfl rfl rfl (Lz _ _ _ _ (by omega)) (gS (Z4 Uo u5 rfl (Hc ((n)/2^(16))) (gS (Zw (xv:=NI n) (yv:= .int .u64 ((8:Nat):Int)) rfl rfl rfl (Lz _ _ _ _ (by omega)) (gS (Z4 Uo u5 rfl (Hc ((n)/2^(8))) (gS (Z4 Uo u5 rfl (Hc (n)) (gS (Acx (b0:=AdQ ((n)/2^(24))) (b1:=AdQ ((n)/2^(16))) (b2:=AdQ ((n)/2^(8))) (b3:=AdQ (n)) Sc (vr (B8 (AdQ ((n)/2^(24)))) rfl) (vr (B8 (AdQ ((n)/2^(16)))) rfl) (vr (B8 (AdQ ((n)/2^(8)))) rfl) (vr (B8 (AdQ (n))) rfl) fun g i a=> ?_))))))))))))))));have c:=Ext.refl w;have o:=hE.size;have j:Ai v g:=DN hown a.own;have f:=a.own;have hE:=hE.trans a.ext;have hown:=Stab.own _ _ _ _ _ _ _ _ hown a.ext;refine gS (ZW _ _ w0.heap.size (.int .u8 0) Gj Nc rfl Gj (l) (([AdQ ((n)/2^(24)),AdQ ((n)/2^(16)),AdQ ((n)/2^(8)),AdQ (n)]:List UInt8)) (C3 hown (vr v rfl)) (ZB (ZP f) (vr g rfl)) (by simp;omega) hE.size fun h k m b=> ?_);have c:=c.trans a.ext;have hGr:=Grew.after c b;have b:Grew i k v h:=b;have hE:=Aq hE b hown (AcP _);have f:=Dy f b j;clear hown;refine Bb rfl (vr h rfl) ?_;exact⟨_,rfl,Dq m rfl,hGr⟩

theorem DX(w:AcK)(v:AcJ)(b:List UInt8)(hr:RB w v b)(hl:4≤b.length):
  Calls AcM 127 #[v] w fun e w' =>e = .returned (NI (Eb b))∧Ext w w' :=by
 have c0:(b.getD 0 0).toNat<256:=(b.getD 0 0).toNat_lt;have c1:(b.getD 1 0).toNat<256:=(b.getD 1 0).toNat_lt;have c2:(b.getD 2 0).toNat<256:=(b.getD 2 0).toNat_lt;have c3:(b.getD 3 0).toNat<256:=(b.getD 3 0).toNat_lt;have a:(b.getD 0 0).toNat*2^24<9223372036854775808:=AdE (Agb c0 (by decide)) (by decide);have c:(b.getD 1 0).toNat*2^16<9223372036854775808:=AdE (Agb c1 (by decide)) (by decide);have f:(b.getD 2 0).toNat*2^8<9223372036854775808:=AdE (Agb c2 (by decide)) (by decide);have o:(b.getD 3 0).toNat<9223372036854775808:=by omega
 have g:(b.getD 0 0).toNat*2^24|||(b.getD 1 0).toNat*2^16<9223372036854775808:=Ahz (n:=63) a c;have p:(b.getD 0 0).toNat*2^24|||(b.getD 1 0).toNat*2^16|||(b.getD 2 0).toNat*2^8<9223372036854775808:=Ahz (n:=63) g f;refine gG (args:= [v]) Tryz.func127 rfl 25 rfl rfl ?_;have hE:=Ext.refl w;refine CD [0,1,2,3,4,5,6,7,8,9,10,11,12,13,14,15,16,17,18,19,20,21,22] [] [] fun r q=> ?_;have hE:=hE.trans q;refine yA (ZU (l:=b) (i:=0) Gj Qq (ZB (hr.keep hE) rfl) rfl (by omega) fun s h=>(ys (ZL u5 rfl (ZQ h rfl) zz) (ys (Z4 u5 Uo rfl (KB .i64 (b.getD (0) 0) (fun n hn=>CZ n (by omega))) zz) (ys (Zw (xv:=NI ((b.getD (0) 0).toNat)) (yv:= .int .u64 ((24:Nat):Int)) rfl rfl rfl (Jl _ _ _ _ (by omega) (by exact a)) zz) (yA (ZU (l:=b) (i:=1) Gj Qq (ZB (hr.keep hE) rfl) rfl (by omega) fun t j=>(ys (ZL u5 rfl (ZQ j rfl) zz) (ys (Z4 u5 Uo rfl (KB .i64 (b.getD (1) 0) (fun n hn=>CZ n (by omega))) zz) (ys (Zw (xv:=NI ((b.getD (1) 0).toNat)) (yv:= .int .u64 ((16:Nat):Int)) rfl rfl rfl (Jl _ _ _ _ (by omega) (by exact c)) zz) (ys (Zw (xv:=NI (((b.getD (0) 0).toNat)*2^(24))) (yv:=NI (((b.getD (1) 0).toNat)*2^(16))) rfl rfl rfl (KC _ _ _ (by exact a) (by exact c)) zz) (yA (ZU (l:=b) (i:=2) Gj Qq (ZB (hr.keep hE) rfl) rfl (by omega) fun u k=>(ys (ZL u5 rfl (ZQ k rfl) zz) (ys (Z4 u5 Uo rfl (KB .i64 (b.getD (2) 0) (fun n hn=>CZ n (by omega))) zz) (ys (Zw (xv:=NI ((b.getD (2) 0).toNat)) (yv:= .int .u64 ((8:Nat):Int)) rfl rfl rfl (Jl _ _ _ _ (by omega) (by exact f)) zz) (ys (Zw (xv:=NI ((((b.getD (0) 0).toNat)*2^(24))|||(((b.getD (1) 0).toNat)*2^(16)))) (yv:=NI (((b.getD (2) 0).toNat)*2^(8))) rfl rfl rfl (KC _ _ _ (by exact g) (by exact f)) zz) (yA (ZU (l:=b) (i:=3) Gj Qq (ZB (hr.keep hE) rfl) rfl (by omega) fun x m=>(ys (ZL u5 rfl (ZQ m rfl) zz) ?_)))))))))))))))))));refine ys (Z4 u5 Uo rfl (KB .i64 (b.getD (3) 0) (fun n hn=>CZ n (by omega))) zz) (ys (Zw (xv:=NI (((((b.getD (0) 0).toNat)*2^(24))|||(((b.getD (1) 0).toNat)*2^(16)))|||(((b.getD (2) 0).toNat)*2^(8)))) (yv:=NI ((b.getD (3) 0).toNat)) rfl rfl rfl (KC _ _ _ (by exact p) (by exact o)) zz) ?_);clear h;clear j;clear k;clear m;refine Bb rfl (vr (NI ((((((b.getD (0) 0).toNat)*2^(24))|||(((b.getD (1) 0).toNat)*2^(16)))|||(((b.getD (2) 0).toNat)*2^(8)))|||((b.getD (3) 0).toNat))) rfl) ?_;exact⟨by rw[show Eb b=_ from(Zp _ _ _ _ (b.getD 1 0).toNat_lt (b.getD 2 0).toNat_lt (b.getD 3 0).toNat_lt).symm],hE⟩

theorem Sf(w:AcK)(n:Nat)(hn:n≤9223372036854775807):
  Calls AcM 143 #[NI n] w fun e w' =>∃v,e = .returned v∧w'.ownsRow w.heap.size 5 1 v (80 :: Ac4 n).length (AcL (80 :: Ac4 n))∧Ext w w' :=by
 refine gG (args:= [NI n]) Tryz.func143 rfl 12 rfl rfl ?_;have hE:=Ext.refl w;refine gS (AaB (b:=80) Sd (vr (B8 (80)) rfl) fun g j c=> ?_);have h:=c.own;refine gS (Zx Se rfl rfl ((PD _ g ([(80:UInt8)]) (ZP h) (by simp) n (by omega)).mono ?_));rintro e k ⟨a,rfl,f⟩;refine⟨_,rfl,?_⟩;have hE:=hE.trans c.ext;have l:=hE.size;have i:=f.own;refine gS (Yk.extract (vs:= [a,NI 0]) rfl rfl (gS (Yk.extract (vs:= [a,NI 0]) rfl rfl (Bb rfl (vr a rfl) ?_))));have hE:=hE.trans f.ext;exact⟨_,rfl,Sb i (by omega),hE⟩
section
variable {P : Adg} {K : AcJ → AcK → Prop} {ρ : Ad} {w : AcK} {d : Option Tmp} {ty : AcR} {pos : String} {af : Array AdL} {gd : Option (Nat × Bool)}
variable {α β : Type} {ek : α → AcJ} {ev : β → AcJ} {D : α → Prop} {b : Nat} {G : α → Option β}
variable {t Kt E : AcR} {OK : AcJ → Prop}
theorem Aa3(L:KL P Kt OK)(hD:∀a,D a→OK (ek a))(hi:∀a c,ek a=ek c→a=c)(ht:P.underlying t=some (.map Kt E)){z:AcJ}(hz:∀u:AcK,(zeroValue E).run P u = .ok z u){x y:AcW}{a:α} 
    (hm:Aa ρ x = .map (some b)) (hy:Aa ρ y=ek a) (h:MapF ek ev D w b G) (ha:D a) (hk:K ((G a).elim z ev) w):
    Yk P K ((execOp (Aa ρ) ⟨d, .lookup t x y false,ty,pos,af,gd⟩).run P w):=by
  have hrun:=h.look L hD hi ht hz ha false;refine Yk.value (v:=(G a).elim z ev) (w' :=w) ?_ hk;unfold execOp;simp only[hm,hy,Ac1,hrun,AcV,Ac3];rfl
theorem Abd(L:KL P Kt OK)(hD:∀a,D a→OK (ek a))(hi:∀a c,ek a=ek c→a=c)(ht:P.underlying t=some (.map Kt E)){z:AcJ}(hz:∀u:AcK,(zeroValue E).run P u = .ok z u){x y:AcW}{a:α} 
    (hm:Aa ρ x = .map (some b)) (hy:Aa ρ y=ek a) (h:MapF ek ev D w b G) (ha:D a) (hk:K (.tuple #[(G a).elim z ev, .bool (G a).isSome]) w):
    Yk P K ((execOp (Aa ρ) ⟨d, .lookup t x y true,ty,pos,af,gd⟩).run P w):=by
  have hrun:=h.look L hD hi ht hz ha true;refine Yk.value (v:= .tuple #[(G a).elim z ev, .bool (G a).isSome]) (w' :=w) ?_ hk;unfold execOp;simp only[hm,hy,Ac1,hrun,AcV,Ac3];rfl
theorem Aak[DecidableEq α](L:KL P Kt OK)(hD:∀a,D a→OK (ek a))(ht:P.underlying t=some (.map Kt E)){x y z:AcW}{a:α}{c:β} 
    (hm:Aa ρ x = .map (some b)) (hy:Aa ρ y=ek a) (hz:Aa ρ z=ev c) (h:MapF ek ev D w b G) (ha:D a) (hk:∀w',MapF ek ev D w' b (updM G a (some c))→w.grownBy w' (some b)→w'.heap.size=w.heap.size→K undef w'):
    Yk P K ((execOp (Aa ρ) ⟨d, .mapUpdate t x y z,ty,pos,af,gd⟩).run P w):=by
  obtain⟨w',hrun,h1,h2,h3⟩:=h.put L hD ht ha c;have hr:(execOp (Aa ρ) ⟨d, .mapUpdate t x y z,ty,pos,af,gd⟩).run P w = .ok .skip w' ∨(execOp (Aa ρ) ⟨d, .mapUpdate t x y z,ty,pos,af,gd⟩).run P w = .ok (.value undef) w' :=by
    unfold execOp;simp only[hm,hy,hz,Ac1,hrun,AcV,Ac3];simp
  rcases hr with hr | hr <;> rw[hr] <;> exact hk w' h1 h2 h3
theorem Abc[DecidableEq α](L:KL P Kt OK)(hD:∀a,D a→OK (ek a))(hi:∀a c,ek a=ek c→a=c)(ht:P.underlying t=some (.map Kt E)){x y:AcW}{a:α} 
    (hm:Aa ρ x = .map (some b)) (hy:Aa ρ y=ek a) (h:MapF ek ev D w b G) (ha:D a) (hk:∀w',MapF ek ev D w' b (updM G a none)→w.grownBy w' (some b)→w'.heap.size=w.heap.size→K (.tuple #[]) w'):
    Yk P K ((execOp (Aa ρ) ⟨d, .call ⟨.builtin .delete,#[x,y],#[t,Kt]⟩,ty,pos,af,gd⟩).run P w):=by
  obtain⟨w',hrun,h1,h2,h3⟩:=h.del L hD hi ht (ty:=ty) ha;refine Yk.value (v:= .tuple #[]) (w' :=w') ?_ (hk w' h1 h2 h3);unfold execOp;simp only[resolve,invoke,builtin,Ac1,Ac3,AcV,Ads,Ado,AdA,hm,hy,hrun]
theorem Aan(ek:α→AcJ)(ev:β→AcJ)(D:α→Prop)(hk:∀g w',w.heap.size=g→MapF ek ev D w' g (fun _=>none)→Ext w w' →w'.heap.size=g+1→K (.map (some g)) w'):
    Yk P K ((execOp (Aa ρ) ⟨d, .makeMap t none,ty,pos,af,gd⟩).run P w):=by
  refine Yk.value (v:= .map (some w.heap.size)) (w' :=w.alloc (.map #[] 0)) ?_ (hk _ _ rfl (Ab1 ek ev D w) ((AdC _ _).alloc (AcP _) _) (by simp));unfold execOp;simp[Instr.makeMap,newObj,AdH];rfl
theorem Aab(L:KL P Kt OK)(hD:∀a,D a→OK (ek a))(hi:∀a c,ek a=ek c→a=c)(ht:P.underlying t=some (.map Kt E)){z:AcJ}(hz:∀u:AcK,(zeroValue E).run P u = .ok z u){x y:AcW}{a:α}{c:β} 
    (hm:Aa ρ x = .map (some b)) (hy:Aa ρ y=ek a) (h:MapF ek ev D w b G) (ha:D a) (hG:G a=some c) (hk:K (.tuple #[ev c, .bool true]) w):Yk P K ((execOp (Aa ρ) ⟨d, .lookup t x y true,ty,pos,af,gd⟩).run P w):=
  Abd L hD hi ht hz hm hy h ha (by rw[hG];exact hk)
theorem Aah(L:KL P Kt OK)(hD:∀a,D a→OK (ek a))(hi:∀a c,ek a=ek c→a=c)(ht:P.underlying t=some (.map Kt E)){z:AcJ}(hz:∀u:AcK,(zeroValue E).run P u = .ok z u){x y:AcW}{a:α} 
    (hm:Aa ρ x = .map (some b)) (hy:Aa ρ y=ek a) (h:MapF ek ev D w b G) (ha:D a) (hG:G a=none) (hk:K (.tuple #[z, .bool false]) w):Yk P K ((execOp (Aa ρ) ⟨d, .lookup t x y true,ty,pos,af,gd⟩).run P w):=
  Abd L hD hi ht hz hm hy h ha (by rw[hG];exact hk)
theorem Aaq(L:KL P Kt OK)(hD:∀a,D a→OK (ek a))(hi:∀a c,ek a=ek c→a=c)(ht:P.underlying t=some (.map Kt E)){z:AcJ}(hz:∀u:AcK,(zeroValue E).run P u = .ok z u){x y:AcW}{a:α}{c:β} 
    (hm:Aa ρ x = .map (some b)) (hy:Aa ρ y=ek a) (h:MapF ek ev D w b G) (ha:D a) (hG:G a=some c) (hk:K (ev c) w):Yk P K ((execOp (Aa ρ) ⟨d, .lookup t x y false,ty,pos,af,gd⟩).run P w):=
  Aa3 L hD hi ht hz hm hy h ha (by rw[hG];exact hk)
theorem AaT(L:KL P Kt OK)(hD:∀a,D a→OK (ek a))(hi:∀a c,ek a=ek c→a=c)(ht:P.underlying t=some (.map Kt E)){z:AcJ}(hz:∀u:AcK,(zeroValue E).run P u = .ok z u){x y:AcW}{a:α} 
    (hm:Aa ρ x = .map (some b)) (hy:Aa ρ y=ek a) (h:MapF ek ev D w b G) (ha:D a) (hG:G a=none) (hk:K z w):Yk P K ((execOp (Aa ρ) ⟨d, .lookup t x y false,ty,pos,af,gd⟩).run P w):=
  Aa3 L hD hi ht hz hm hy h ha (by rw[hG];exact hk)
theorem Yk.build{parts:Array (Nat × AcW)}{vs:Array (Nat × AcJ)}{v:AcJ}(hv:(parts.map fun(i,x)=>(i,Aa ρ x))=vs)(hr:∀w:AcK,(AeH t vs).run P w = .ok v w)(hk:K v w):
    Yk P K ((execOp (Aa ρ) ⟨d, .build t parts,ty,pos,af,gd⟩).run P w):=by
  refine Yk.value (v:=v) (w' :=w) ?_ hk;unfold execOp;simp only[hv,hr,Ac1,AcV,Ac3]
theorem AaU{i0:Nat}{x0:AcW}{a v:AcJ}(h0:Aa ρ x0=a)(hr:∀w:AcK,(AeH t #[(i0,a)]).run P w = .ok v w)(hk:K v w):Yk P K ((execOp (Aa ρ) ⟨d, .build t #[(i0,x0)],ty,pos,af,gd⟩).run P w):=
  Yk.build (by simp[h0]) hr hk
theorem Aai{i0 i1:Nat}{x0 x1:AcW}{a b v:AcJ}(h0:Aa ρ x0=a)(h1:Aa ρ x1=b)(hr:∀w:AcK,(AeH t #[(i0,a),(i1,b)]).run P w = .ok v w)(hk:K v w):Yk P K ((execOp (Aa ρ) ⟨d, .build t #[(i0,x0),(i1,x1)],ty,pos,af,gd⟩).run P w):=
  Yk.build (by simp[h0,h1]) hr hk
theorem RG.slice{k:Nat}{enc:α→List AcJ}{v:AcJ}{l:List α}(h:RG k enc w v l):∃ao n c,v = .slice ao n c:=by
  obtain⟨ao,c,rfl⟩:=h.len;exact⟨ao,_,c,rfl⟩
theorem AbL{fs}(hu:P.underlying t=some (.struct fs)){x:AcW}{v:AcJ}(hx:Aa ρ x=v)(hk:K (.iface t v) w):Yk P K ((execOp (Aa ρ) ⟨d, .makeInterface t x,ty,pos,af,gd⟩).run P w):=by
  refine Yk.value (v:= .iface t v) (w' :=w) ?_ hk;unfold execOp;simp[Instr.makeInterface,hx,run_underlying hu,AdH]
theorem Z2{k:Nat}{enc:α→List AcJ}{e:AcR}{x:AcW}{a:α}(hx:Aa ρ x = .agg (enc a).toArray)(hl:(enc a).length=k) 
    (hr:∀(cs:Array AcJ),cs.size=k→∀w:AcK,(Adt t 1 #[(0, .agg cs)]).run P w = .ok (.slice (some ⟨w.heap.size,0,none⟩) 1 1) (w.alloc (.cells cs e)))
    (hk:∀v w',RG k enc w' v [a]→Ext w w' →K v w'):Yk P K ((execOp (Aa ρ) ⟨d, .buildSlice t 1 #[(0,x)],ty,pos,af,gd⟩).run P w):=by
  have hE:Ext w (w.alloc (.cells (enc a).toArray e)):=(AdC _ _).alloc (AcP _) _;refine Yk.value (v:= .slice (some ⟨w.heap.size,0,none⟩) 1 1) (w' :=w.alloc (.cells (enc a).toArray e)) ?_ (hk _ _ (AbY hl (heap_alloc_new w _)) hE);unfold execOp;simp only[Ads,Ado,AdA,hx,Ac1,hr _ (show(enc a).toArray.size=k by rw[Ac6];exact hl),AcV,Ac3]
theorem RG.elem{k:Nat}{enc:α→List AcJ}{v:AcJ}{l:List α}(h:RG k enc w v l)(dd:α){i:Nat}(hi:i<l.length):(enc (l.getD i dd)).length=k:=by
  refine h.1 _ ?_;rw[AcO,AcS hi];exact Ad9 hi
theorem RG.cut{k:Nat}{enc:α→List AcJ}{v:AcJ}{l:List α}(h:∀x∈l,(enc x).length=k){a c:Nat}(ha:a≤c)(hc:c≤l.length)(hR:Reads w k v (c-a) (((l.flatMap enc).drop (a*k)).take ((c-a)*k))):RG k enc w v ((l.drop a).take (c-a)):=by
  have hd:∀(l:List α) (n:Nat),(∀x∈l,(enc x).length=k)→(l.flatMap enc).drop (n*k)=(l.drop n).flatMap enc:=by
    intro l n
    induction n generalizing l with
    | zero=>intro _;simp
    | succ n ih=>
      intro h;cases l with
      | nil=>simp
      | cons x r=>
        have hx:=h x (by simp);rw[AdJ,AfI,←ih r (fun y hy=>h y (by simp[hy])),show(n+1)*k=(enc x).length+n*k by rw[hx,AeV];omega,AgW,AdR (by omega),AeX,AdS]
  have htk:∀(l:List α) (n:Nat),(∀x∈l,(enc x).length=k)→(l.flatMap enc).take (n*k)=(l.take n).flatMap enc:=by
    intro l n
    induction n generalizing l with
    | zero=>intro _;simp
    | succ n ih=>
      intro h;cases l with
      | nil=>simp
      | cons x r=>
        have hx:=h x (by simp);rw[AdJ,AfJ,AdJ,←ih r (fun y hy=>h y (by simp[hy])),show(n+1)*k=(enc x).length+n*k by rw[hx,AeV];omega,AhS,AdD (by omega),AeX]
  refine⟨fun x hx=>h x (Ais (Ait hx)),?_⟩;rw[hd l a h,htk _ _ (fun x hx=>h x (Ais hx))]at hR;rw[show((l.drop a).take (c-a)).length=c-a by rw[Ac8,Ac5];omega];exact hR
theorem Gl{l:List Nat}{i:Nat}(hi:i<l.length):(l.map fun x=>NI x)[i]? =some (NI (l.getD i 0)):=by simp[hi]
theorem Qy(l:List Nat):∀v∈(l.map fun x=>NI x),v.oneCell' =true:=by
  intro v hv;obtain⟨_,_,rfl⟩:=Adx.1 hv;rfl
theorem AaV{t' :AcR}{x y:AcW}{g i:Nat}{l:List Nat}{t:AcR}{v:Nat}(hx:Aa ρ x = .pointer (some ⟨g,i,none⟩))(hy:Aa ρ y=NI v)(hg:w.heap[g]? =some (.cells (l.map fun x=>NI x).toArray t (0,0)))(hi:i<l.length)(hz:(P.info? t').map (·.size)=some 1) 
    (hk:∀w',w'.heap[g]? =some (.cells ((l.set i v).map fun x=>NI x).toArray t (0,0))→w.grownBy w' (some g)→w'.heap.size=w.heap.size→K undef w'):Yk P K ((execOp (Aa ρ) ⟨d, .store t' x y,ty,pos,af,gd⟩).run P w):=
  ZK hx hy hg (by simpa using hi) hz rfl rfl fun w' h1 h2 h3=>hk w' (by rw[AhN];exact h1) h2 h3
theorem AbD{xType e:AcR}{n:Nat}(ht:P.underlying xType=some (.array n e)){de:TypeDesc}(he:P.underlying e=some de)(hd:(match de with | .struct _ | .array _ _=>false | _=>true)=true)(hs:∀w' :AcK,(sizeOf e).run P w' = .ok 1 w'){x y:AcW}{l:List Nat}{i:Nat}{k:AdU} 
    (hx:Aa ρ x = .agg (l.map fun x=>NI x).toArray) (hy:Aa ρ y = .int k (i:Int)) (hi:i<n) (hl:l.length=n) (hk:K (NI (l.getD i 0)) w):Yk P K ((execOp (Aa ρ) ⟨d, .index xType x y,ty,pos,af,gd⟩).run P w):=
  Aa9 ht he hd hs hx hy hi (Gl (by omega)) hk
theorem Ab4{f:AeB}(hp:Plain P f){x0:AcW}{a:AcJ}{at_:Array AcR}{J:List PanicEntry→AcK→Prop}(h0:Aa ρ x0=a) 
    (h:Calls P f #[a] w fun e w' =>match e with | .returned v=>K v w' | .panicked ch=>J ch w' | .outgrown=>False):Yp P K J ((execOp (Aa ρ) ⟨d, .call ⟨.value (.func f),#[x0],at_⟩,ty,pos,af,gd⟩).run P w):=
  Yp.call hp [a] (by simp[h0]) h
theorem ZN{f:AeB}(hp:Plain P f){x0 x1:AcW}{a b:AcJ}{at_:Array AcR}{J:List PanicEntry→AcK→Prop}(h0:Aa ρ x0=a)(h1:Aa ρ x1=b) 
    (h:Calls P f #[a,b] w fun e w' =>match e with | .returned v=>K v w' | .panicked ch=>J ch w' | .outgrown=>False):Yp P K J ((execOp (Aa ρ) ⟨d, .call ⟨.value (.func f),#[x0,x1],at_⟩,ty,pos,af,gd⟩).run P w):=
  Yp.call hp [a,b] (by simp[h0,h1]) h
theorem Abe{f:AeB}(hp:Plain P f){x0 x1 x2:AcW}{a b c:AcJ}{at_:Array AcR}{J:List PanicEntry→AcK→Prop}(h0:Aa ρ x0=a)(h1:Aa ρ x1=b)(h2:Aa ρ x2=c) 
    (h:Calls P f #[a,b,c] w fun e w' =>match e with | .returned v=>K v w' | .panicked ch=>J ch w' | .outgrown=>False):Yp P K J ((execOp (Aa ρ) ⟨d, .call ⟨.value (.func f),#[x0,x1,x2],at_⟩,ty,pos,af,gd⟩).run P w):=
  Yp.call hp [a,b,c] (by simp[h0,h1,h2]) h
theorem Ab5{f:AeB}(hp:Plain P f){x0 x1 x2 x3:AcW}{a b c g:AcJ}{at_:Array AcR}{J:List PanicEntry→AcK→Prop}(h0:Aa ρ x0=a)(h1:Aa ρ x1=b)(h2:Aa ρ x2=c)(h3:Aa ρ x3=g) 
    (h:Calls P f #[a,b,c,g] w fun e w' =>match e with | .returned v=>K v w' | .panicked ch=>J ch w' | .outgrown=>False):Yp P K J ((execOp (Aa ρ) ⟨d, .call ⟨.value (.func f),#[x0,x1,x2,x3],at_⟩,ty,pos,af,gd⟩).run P w):=
  Yp.call hp [a,b,c,g] (by simp[h0,h1,h2,h3]) h
end
open Go.ChangeMaps (setBlock heap_setBlock_same heap_setBlock_other)
def rk(r:List UInt8):AcJ:= .agg (AcL r).toArray
theorem Cg{r s:List UInt8}(h:rk r=rk s):r=s:=by
  unfold rk at h;injection h with h
  have h2:AcL r=AcL s:=List.toArray_inj h;unfold AcL at h2;exact(List.map_inj_right (fun a b hab=>by injection hab with _ h3;exact Agr.1 (by omega))).1 h2
theorem PG{α β:Type}{f:α→Option β}:∀ {l:List α},(∀x∈l,∃y,f x=some y)→∃ys,l.mapM f=some ys
  | [],_=>⟨[],rfl⟩
  | x :: l,h=>by
    obtain⟨y,hy⟩:=h x (by simp);obtain⟨ys,hys⟩:=PG (l:=l) (fun z hz=>h z (by simp[hz]));exact⟨y :: ys,by simp[List.mapM_cons,hy,hys]⟩
theorem L7{P:Adg}{k e:AcR}{n:Nat}(hu:P.underlying k=some (.array n e))(he:P.underlying e=some (.int .u8))(hc:P.cellsOf e=1)(hn:P.cellsOf k=n)(hk:P.keyType k=true)(hsz:0<P.types.size){r:List UInt8}(hr:r.length=n):∃l,keyOf P k (rk r)=some l:=by
  have hf:(rk r).formed P k=true:=by simp[rk,Value.formed,hu,hn,hr,AcL]
  have hl:∀i∈AdN n,∃y,P.keyLits P.types.size e (((AcL r).drop (i*P.cellsOf e)).take (P.cellsOf e))=some y:=fun i hi=>by
    have hi' :i<r.length:=by rw[hr];simpa using hi
    have h1:((AcL r).drop (i*P.cellsOf e)).take (P.cellsOf e)= [AeJ .u8 ((r[i]).toNat:Int)]:=by
      rw[hc,Ah9];simp[AcL,hi',List.take_one,List.head?_drop]
    have hw:(Lit.int .u8 ((r[i]).toNat:Int)).wf=true:=by
      have:=(r[i]).toNat_lt;simp[Lit.wf,Aia,Aib,AeK,Ad0];omega
    rw[h1];obtain⟨m,hm⟩:∃m,P.types.size=m+1:=⟨P.types.size-1,by omega⟩;rw[hm];exact⟨[.int .u8 ((r[i]).toNat:Int)],by simp[Program.keyLits,he,hw]⟩
  obtain⟨ys,hys⟩:=PG hl;refine⟨.string (keyBytes ys.flatten),?_⟩
  · unfold keyOf;simp only[hu];rw[if_pos (by simp[hk,hf])];unfold Program.keyLits;simp only[hu,rk,Ahm];rw[if_pos (by rw[hn];simp[AcL,hr]),hys];rfl
def EntAt(w:AcK)(base:Nat)(I:AcR)(G:List UInt8→List Nat)(e:Aev):Prop:=∃r,r.length=8∧e.key=rk r∧G r≠ []∧w.ownsRow base I 1 e.val (G r).length ((G r).map NI)
structure IdxIn (w : AcK) (base : Nat) (I : AcR) (G : List UInt8 → List Nat) (es : List Aev) (clock : Nat) : Prop where
  born:∀e∈es,e.born<clock
  nodup:(es.map (·.born)).Nodup
  keys:(es.map (·.key)).Nodup
  ent:∀e∈es,EntAt w base I G e
  all:∀r,r.length=8→G r≠ []→∃e∈es,e.key=rk r
  apart:es.Pairwise fun e f=>Ai e.val f.val∧Ai f.val e.val
def IdxAt(w:AcK)(b base:Nat)(I:AcR)(G:List UInt8→List Nat):Prop:=b<base∧∃es clock,w.heap[b]? =some (.map es.toArray clock)∧IdxIn w base I G es clock
section
variable {P : Adg} {w w' : AcK} {b base : Nat} {I : AcR} {G : List UInt8 → List Nat}
theorem EntAt.keep{e:Aev}(h:EntAt w base I G e)(k:Ext w w'):EntAt w' base I G e:=by
  obtain⟨r,h1,h2,h3,h4⟩:=h;exact⟨r,h1,h2,h3,Stab.own _ _ _ _ _ _ _ _ h4 k⟩
theorem IdxIn.keep{es:List Aev}{c:Nat}(h:IdxIn w base I G es c)(k:Ext w w'):IdxIn w' base I G es c:=
  ⟨h.born,h.nodup,h.keys,fun e he=>(h.ent e he).keep k,h.all,h.apart⟩
theorem IdxAt.keep(h:IdxAt w b base I G)(k:Ext w w'):IdxAt w' b base I G:=by
  obtain⟨h1,es,c,h2,h3⟩:=h;exact⟨h1,es,c,Ext.blk' k h2,h3.keep k⟩
theorem IdxAt.lt(h:IdxAt w b base I G):b<w.heap.size:=by
  obtain⟨h1,es,c,h2,h3⟩:=h;exact(Ade.1 h2).1
theorem AbM(w:AcK):IdxAt (w.alloc (.map #[] 0)) w.heap.size (w.heap.size+1) I (fun _=> []):=
  ⟨AgV _,[],0,heap_alloc_new w _,by simp,by simp,by simp,by simp,fun r _ h=>absurd rfl h,by simp⟩
structure X9 (w : AcK) (base : Nat) (I : AcR) (G : List UInt8 → List Nat) (r : List UInt8) (v : AcJ) (l1 : List Aev) (e0 : Aev) (l2 : List Aev) (clock : Nat) : Prop where
  key:e0.key=rk r
  born:∀e∈l1++e0 :: l2,e.born<clock
  nodup:((l1++e0 :: l2).map (·.born)).Nodup
  keys:((l1++e0 :: l2).map (·.key)).Nodup
  ent:∀e∈l1++l2,EntAt w base I G e
  all:∀s,s.length=8→s≠r→G s≠ []→∃e∈l1++l2,e.key=rk s
  apart:(l1++l2).Pairwise fun e f=>Ai e.val f.val∧Ai f.val e.val
  mine:∀e∈l1++l2,Ai e.val v∧Ai v e.val
def IdxOpen(w:AcK)(b base:Nat)(I:AcR)(G:List UInt8→List Nat)(r:List UInt8)(v:AcJ)(zs:List Nat)(st:Nat):Prop:=
  b<base∧r.length=8∧w.ownsRow base I 1 v zs.length (zs.map NI)∧∃l1 e0 l2 clock,w.heap[b]? =some (.map (l1++e0 :: l2).toArray clock)∧e0.born=st∧X9 w base I G r v l1 e0 l2 clock
theorem IdxOpen.grew{r:List UInt8}{v v' :AcJ}{zs zs' :List Nat}{st:Nat}(h:IdxOpen w b base I G r v zs st)(gr:Grew w w' v v')(ho:w'.ownsRow base I 1 v' zs'.length (zs'.map NI)):IdxOpen w' b base I G r v' zs' st:=by
  obtain⟨h1,h2,h3,l1,a,l2,c,h4,h5,h6⟩:=h;have hvb:v.ownBlock≠some b:=fun e=>by have:=(h3.lt b e).1;omega
  refine⟨h1,h2,ho,l1,a,l2,c,Ao h4 gr hvb,h5,h6.key,h6.born,h6.nodup,h6.keys,fun e he=> ?_,h6.all,h6.apart,fun e he=> ?_⟩
  · obtain⟨q,k1,k2,k3,k4⟩:=h6.ent e he;refine⟨q,k1,k2,k3,k4.kept gr.by_ ?_⟩;cases hb:e.val.ownBlock with
    | none=>exact .inl rfl
    | some g=>exact .inr (fun f=>(h6.mine e he).1 g hb f.symm)
  · obtain⟨q,k1,k2,k3,k4⟩:=h6.ent e he;have key:∀k,e.val.ownBlock=some k→v'.ownBlock≠some k:=fun k hk hv=>by
      rcases gr.fresh k hv with h7 | h7
      · exact(h6.mine e he).1 k hk h7
      · have:=(k4.lt k hk).2;omega
    exact⟨key,fun k hv hk=>key k hk hv⟩
def updG(G:List UInt8→List Nat)(r:List UInt8)(zs:List Nat)(s:List UInt8):List Nat:=if s=r then zs else G s
theorem KM{α:Type}(f:α→α)(x:α)(l2:List α):∀l1:List α,(l1++x :: l2).modify l1.length f=l1++f x :: l2
  | []=>rfl
  | a :: r=>by simp[List.modify_succ_cons,KM f x l2 r]
section
variable {t K E e8 : AcR} (L : KeyLaw P K) (hk : ∀ r : List UInt8, r.length = 8 → ∃ l, keyOf P K (rk r) = some l) (ht : P.underlying t = some (.map K E)) (hz : ∀ u : AcK, (zeroValue E).run P u = .ok (.slice none 0 0) u)
include L hk ht hz
theorem IdxAt.look(h:IdxAt w b base I G){r:List UInt8}(hr:r.length=8):∃v,(AgA t (.map (some b)) (rk r) false).run P w = .ok v w∧w.ownsRow base I 1 v (G r).length ((G r).map NI):=by
  obtain⟨h1,es,c,hb,H⟩:=h;obtain⟨l,hl⟩:=hk r hr;have hkeys:∀e∈es,∃l,keyOf P K e.key=some l:=fun e he=>by
    obtain⟨q,k1,k2,-⟩:=H.ent e he;rw[k2];exact hk q k1
  rcases L.find w hl es hkeys with ⟨f1,f2⟩ | ⟨j,a,f1,f2,f3⟩
  · have hG:G r= []:=by
      by_cases hG:G r= []
      · exact hG
      · obtain⟨e,he,hek⟩:=H.all r hr hG;exact absurd hek (f2 e he)
    refine⟨.slice none 0 0,by simp[AgA,run_underlying ht,Ad5 hb,L.check w _ hl,f1,hz,AdH],?_⟩;rw[hG];exact AdK _ _ _ _
  · have hm:a∈es:=AdX f2;obtain⟨q,k1,k2,k3,k4⟩:=H.ent a hm;have:q=r:=Cg (k2.symm.trans f3);subst this;exact⟨a.val,by simp[AgA,run_underlying ht,Ad5 hb,L.check w _ hl,f1,AdH],k4⟩
theorem IdxAt.entry(h:IdxAt w b base I G){r:List UInt8}(hr:r.length=8):∃v st w1,(Ahj t (.map (some b)) (rk r)).run P w = .ok (.tuple #[v,goInt ((st:Nat):Int)]) w1∧w.grownBy w1 (some b)∧w1.heap.size=w.heap.size∧IdxOpen w1 b base I G r v (G r) st:=by
  obtain⟨h1,es,c,hb,H⟩:=h;obtain⟨l,hl⟩:=hk r hr;have hblt:b<w.heap.size:=(Ade.1 hb).1;have hkeys:∀e∈es,∃l,keyOf P K e.key=some l:=fun e he=>by
    obtain⟨q,k1,k2,-⟩:=H.ent e he;rw[k2];exact hk q k1
  have hgr:∀o,w.grownBy { w with heap:=w.heap.setIfInBounds b o } (some b):=fun o=>⟨rfl,rfl,rfl,by simp,fun i _ hi=>by simp only[Aep];rw[if_neg (fun e=>hi (by rw[e]))]⟩;have hnew:∀o,({ w with heap:=w.heap.setIfInBounds b o } :AcK).heap[b]? =some o:=fun o=>by simp[hblt]
  have hkeep:∀(o:Obj) e,EntAt w base I G e→EntAt { w with heap:=w.heap.setIfInBounds b o } base I G e:=fun o e ⟨q,k1,k2,k3,k4⟩=>by
    refine⟨q,k1,k2,k3,k4.kept (hgr o) ?_⟩;cases he:e.val.ownBlock with
    | none=>exact .inl rfl
    | some g=>
      have:=(k4.lt g he).1;exact .inr (fun f=>by cases f;omega)
  rcases L.find w hl es hkeys with ⟨f1,f2⟩ | ⟨j,a,f1,f2,f3⟩
  · have hG:G r= []:=by
      by_cases hG:G r= []
      · exact hG
      · obtain⟨e,he,hek⟩:=H.all r hr hG;exact absurd hek (f2 e he)
    refine⟨.slice none 0 0,c,{ w with heap:=w.heap.setIfInBounds b (.map (es++({ key:=rk r,val:= .slice none 0 0,born:=c } :Aev) :: []).toArray (c+1)) },?_,hgr _,by simp,h1,hr,?_,es,({ key:=rk r,val:= .slice none 0 0,born:=c } :Aev),[],c+1,hnew _,rfl,rfl,?_,?_,?_,?_,?_,?_,?_⟩
    · simp[Ahj,run_underlying ht,Ad5 hb,L.check w false hl,f1,hz,AeL _ hb,AdH]
    · rw[hG];exact AdK _ _ _ _
    · intro e he;rcases Adf.1 he with h2 | h2
      · have:=H.born e h2;omega
      · rw[AcY.1 h2];simp
    · simp only[Aei,Ado,AdA];refine AeY.2 ⟨H.nodup,by simp,fun x hx y hy e=> ?_⟩;obtain⟨f,he1,rfl⟩:=Adx.1 hx;have:=H.born f he1;simp at hy;omega
    · simp only[Aei,Ado,AdA];refine AeY.2 ⟨H.keys,by simp,fun x hx y hy e=> ?_⟩;obtain⟨f,he1,rfl⟩:=Adx.1 hx;simp at hy;exact f2 f he1 (e.trans hy)
    · simp only[AeA];exact fun e he=>hkeep _ e (H.ent e he)
    · simp only[AeA];exact fun s h2 _ h3=>H.all s h2 h3
    · simp only[AeA];exact H.apart
    · exact fun e _=>⟨fun k _ hk=>by simp[AcT]at hk,fun k hk=>by simp[AcT]at hk⟩
  · have hm:a∈es:=AdX f2;obtain⟨q,k1,k2,k3,k4⟩:=H.ent a hm;have hq:q=r:=Cg (k2.symm.trans f3);subst hq;have hsame:es.modify j (fun e=> { e with key:=rk q })=es:=by
      rw[Aga _ _ _ _ f2];have:({ a with key:=rk q } :Aev)=a:=by rw[←f3]
      rw[this];exact Aih _ _ _ f2
    have hrun:(Ahj t (.map (some b)) (rk q)).run P w = .ok (.tuple #[a.val,goInt ((a.born:Nat):Int)]) { w with heap:=w.heap.setIfInBounds b (.map es.toArray c) } :=by
      simp[Ahj,run_underlying ht,Ad5 hb,L.check w false hl,f1,f2,f3,L.stays w hl,hsame,AeL _ hb,AdH]
    obtain⟨l1,l2,rfl⟩:=Afm hm;have hp:=H.apart;rw[Aee,AdZ]at hp;have hsub:∀e,e∈l1++l2→e∈l1++a :: l2:=fun e he=>by
      rcases Adf.1 he with h2 | h2
      · simp[h2]
      · simp[h2]
    refine⟨a.val,a.born,{ w with heap:=w.heap.setIfInBounds b (.map (l1++a :: l2).toArray c) },?_,hgr _,by simp,h1,hr,?_,l1,a,l2,c,hnew _,rfl,f3,H.born,H.nodup,H.keys,fun e he=>hkeep _ e (H.ent e (hsub e he)),?_,?_,?_⟩
    · exact hrun
    · refine k4.kept (hgr _) ?_;cases he:a.val.ownBlock with
      | none=>exact .inl rfl
      | some g=>
        have:=(k4.lt g he).1;exact .inr (fun f=>by cases f;omega)
    · intro s h2 h3 h4;obtain⟨e,he,hek⟩:=H.all s h2 h4;refine⟨e,?_,hek⟩;rcases Adf.1 he with h5 | h5
      · simp[h5]
      · rcases Adz.1 h5 with h6 | h6
        · subst h6;exact absurd (Cg (hek.symm.trans f3)) h3
        · simp[h6]
    · rw[Aee];exact⟨hp.1,hp.2.1.2,fun x hx y hy=>hp.2.2 x hx y (by simp[hy])⟩
    · intro e he;rcases Adf.1 he with h5 | h5
      · exact hp.2.2 e h5 a (by simp)
      · exact⟨(hp.2.1.1 e h5).2,(hp.2.1.1 e h5).1⟩
end
theorem IdxOpen.store{t:AcR}{r:List UInt8}{v:AcJ}{zs:List Nat}{st:Nat}(h:IdxOpen w b base I G r v zs st)(hne:zs≠ []):∃w1,(AhT t (.map (some b)) (goInt ((st:Nat):Int)) v).run P w = .ok () w1∧w.grownBy w1 (some b)∧w1.heap.size=w.heap.size∧IdxAt w1 b base I (updG G r zs):=by
  obtain⟨h1,hr,h3,l1,a,l2,c,hb,rfl,H⟩:=h;have hblt:b<w.heap.size:=(Ade.1 hb).1;have hgr:∀o,w.grownBy { w with heap:=w.heap.setIfInBounds b o } (some b):=fun o=>⟨rfl,rfl,rfl,by simp,fun i _ hi=>by simp only[Aep];rw[if_neg (fun e=>hi (by rw[e]))]⟩;have hnew:∀o,({ w with heap:=w.heap.setIfInBounds b o } :AcK).heap[b]? =some o:=fun o=>by simp[hblt]
  have hrow:∀(o:Obj) {x:AcJ} {n:Nat} {xs:List AcJ},w.ownsRow base I 1 x n xs→Ahv { w with heap:=w.heap.setIfInBounds b o } base I 1 x n xs:=fun o x n xs k4=>by
    refine k4.kept (hgr o) ?_;cases he:x.ownBlock with
    | none=>exact .inl rfl
    | some g=>
      have:=(k4.lt g he).1;exact .inr (fun f=>by cases f;omega)
  have hidx:(l1++a :: l2).toArray.findIdx? (fun e=>((e.born:Nat):Int)==((a.born:Nat):Int))=some l1.length:=by
    rw[Go.WideElems.findIdx_arr];exact Go.WideElems.findIdx_born H.nodup (by simp)
  have hmod:(l1++a :: l2).toArray.modify l1.length (fun e=> { e with val:=v })=(l1 ++ { a with val:=v } :: l2).toArray:=by
    apply Array.ext'
    rw[Array.toList_modify];exact KM _ _ _ _
  have hsub:∀e,e∈l1++l2→e∈l1++a :: l2:=fun e he=>by
    rcases Adf.1 he with h2 | h2
    · simp[h2]
    · simp[h2]
  have hkn:∀e∈l1++l2,e.key≠a.key:=fun e he hke=>by
    have hkk:=H.keys;simp only[Aei,Ado,AeY,AeQ]at hkk;rcases Adf.1 he with h2 | h2
    · exact hkk.2.2 e.key (Adx.2 ⟨e,h2,rfl⟩) a.key (by simp) hke
    · exact hkk.2.1.1 (hke▸Adx.2 ⟨e,h2,rfl⟩)
  have hent:∀(o:Obj),∀e∈l1++l2,EntAt { w with heap:=w.heap.setIfInBounds b o } base I (updG G r zs) e:=fun o e he=>by
    obtain⟨q,k1,k2,k3,k4⟩:=H.ent e he;have hqr:q≠r:=fun f=>hkn e he (by rw[k2,f,H.key]);have hu:updG G r zs q=G q:=if_neg hqr;exact⟨q,k1,k2,by rw[hu];exact k3,by rw[hu];exact hrow o k4⟩
  have hur:updG G r zs r=zs:=if_pos rfl;have hp:=H.apart;rw[Aee]at hp;refine⟨{ w with heap:=w.heap.setIfInBounds b (.map (l1 ++ { a with val:=v } :: l2).toArray c) },?_,hgr _,by simp,h1,_,c,hnew _,?_,?_,?_,?_,?_,?_⟩
  · simp[AhT,Ad5 hb,asInt,asIntOf,goInt,hidx,hmod,AeL _ hb,AdH]
  · intro e he;rcases Adf.1 he with h2 | h2
    · exact H.born e (by simp[h2])
    · rcases Adz.1 h2 with h4 | h4
      · rw[h4];exact H.born a (by simp)
      · exact H.born e (by simp[h4])
  · have:=H.nodup
    simpa using this
  · have:=H.keys
    simpa using this
  · intro e he;rcases Adf.1 he with h2 | h2
    · exact hent _ e (by simp[h2])
    · rcases Adz.1 h2 with h4 | h4
      · rw[h4];exact⟨r,hr,H.key,by rw[hur];exact hne,by rw[hur];exact hrow _ h3⟩
      · exact hent _ e (by simp[h4])
  · intro s h2 h4;by_cases hs:s=r
    · exact⟨{ a with val:=v },by simp,by rw[hs];exact H.key⟩
    · rw[show updG G r zs s=G s from if_neg hs]at h4;obtain⟨e,he,hek⟩:=H.all s h2 hs h4;refine⟨e,?_,hek⟩;rcases Adf.1 he with h5 | h5
      · simp[h5]
      · simp[h5]
  · rw[Aee,AdZ];refine⟨hp.1,⟨fun e he=> ?_,hp.2.1⟩,fun x hx y hy=> ?_⟩
    · have:=H.mine e (by simp[he]);exact⟨this.2,this.1⟩
    · rcases Adz.1 hy with h4 | h4
      · rw[h4];exact H.mine x (by simp[hx])
      · exact hp.2.2 x hx y h4
end
structure BX (N : Nat) (r : Option Nat) (w w' : AcK) : Prop where
  os:w'.os=w.os
  tape:w'.tape=w.tape
  output:w'.output=w.output
  size:w.heap.size≤w'.heap.size
  block:∀k,k<N→some k≠r→w'.heap[k]? =w.heap[k]?
def E9(B N:Nat)(e:AcR)(r:Option Nat)(l:List UInt8)(x:AcJ)(w' :AcK):Prop:=w'.ownsRow B e 1 x l.length (AcL l)∧∀k,x.ownBlock=some k→r=some k∨N≤k
section
variable {N B : Nat} {r : Option Nat} {w w' w1 w0 : AcK} {e t : AcR}
theorem BX.refl(N:Nat)(r:Option Nat)(w:AcK):BX N r w w:=⟨rfl,rfl,rfl,AcP _,fun _ _ _=>rfl⟩
theorem BX.trans{a b c:AcK}(h:BX N r a b)(k:BX N r b c):BX N r a c:=⟨k.os.trans h.os,k.tape.trans h.tape,k.output.trans h.output,AcN h.size k.size,fun i hi hr=>(k.block i hi hr).trans (h.block i hi hr)⟩
theorem Z5(h:Ext w w')(hN:N≤w.heap.size):BX N r w w' :=⟨h.os,h.tape,h.output,h.size,fun k hk _=>h.block k (AdE hk hN)⟩
theorem Z6{q:Option Nat}(h:w.grownBy w' q)(hN:N≤w.heap.size)(hq:∀k,q=some k→r=some k∨N≤k):BX N r w w' :=
  ⟨h.os,h.tape,h.output,h.size,fun k hk hr=>h.block k (AdE hk hN) (fun e=>(hq k e.symm).elim (fun x=>hr x.symm) (fun x=>by omega))⟩
theorem BX.grown(h:BX w.heap.size r w w'):w.grownBy w' r:=⟨h.os,h.tape,h.output,h.size,h.block⟩
theorem DH(h:Ext w0 w)(k:BX N r w w1)(hle:w0.heap.size≤N)(hr:∀k,r=some k→w0.heap.size≤k):Ext w0 w1:=
  Aic h ⟨k.os,k.tape,k.output,k.size,fun i hi=>k.block i (AdE hi hle) (fun e=>by have:=hr i e.symm;omega)⟩
theorem BX.blk{g:Nat}{o:Obj}(k:BX w.heap.size r w w1)(h:w.heap[g]? =some o)(hne:r≠some g):w1.heap[g]? =some o:=(k.block g (Ade.1 h).1 (fun e=>hne e.symm)).trans h
end
section
variable {P : Adg} {n : Nat} {ρ : Ad} {w : AcK} {Q : BE}
def Nf(w:AcK)(r:Option Nat)(es:List Nat)(m:Nat):AcK→Prop:=bif es.contains m then Ext w else BX w.heap.size r w
def Jn(N:Nat)(r:Option Nat)(cs:List Nat)(m:Nat):AcK→AcK→Prop:=bif cs.contains m then BX N r else Ext
def Ya(l:List Adb)(cs es:List Nat):Bool:=cs.all fun m=>es.all fun i=>((AL l []).getD m 0).testBit i
theorem Es{l:List Adb}(r:Option Nat)(cs es:List Nat)(ks ls:Nat→List Nat)(Φs:List Bm){id:Nat}(hm:P.follows .mixedOrders=true)(ds:List Tmp)(hg:Cw l n=true)(hkl:CJ l ks=true)(hds:slotsW l=ds) 
    (hls:lsOk l cs ks ls=true) (hes:Ya l cs es=true) (hgc:(cs.all fun m=>((l[m]?).bind (·.guard)).isNone)=true) (hst:AllStab Ext Φs) (hsB:AllCh (BX w.heap.size r) ls Φs cs)
    (hs:StepsF P l (Nf w r es) (Jn w.heap.size r cs) (AQ Φs) ρ 0 l)
    (hQ:∀(ρ' :Ad) w',BX w.heap.size r w w' →EndF ds ρ ρ' →Bd l ks (AQ Φs) ρ' w' ds→Q .normal ρ' w'):B1 P n (.region id l.toArray true) Q ρ w:=by
  have stepR:∀m a b,BX w.heap.size r w a→Jn w.heap.size r cs m a b→BX w.heap.size r w b:=fun m a b h k=>by
    unfold Jn at k;cases hc:cs.contains m <;> rw[hc]at k
    · exact h.trans (Z5 k h.size)
    · exact h.trans k
  have drew:Ext w w.drew:=(AdC _ _).drew;intro a ha;obtain⟨T,df⟩:=a;have hz:T.size=n:=ha.size;subst hz;refine Ep ks (Nf w r es) (fun _ w' =>BX w.heap.size r w w') _ (AQ Φs) hm T df hg hkl ds hds (fun m i _ _ hne hbit w1 w' hc hr=> ?_) (fun m listed w1 w' _ _ _ _ hE hR=>stepR m _ _ hE hR) (fun m i hm' hi hni hne hbit v w1 w' h hr=> ?_) (fun m o w1 ho hgo=> ?_) (fun m _=> ?_) (Z5 drew (AcP _)) (StepsF.ok ha.get l 0 hs) (fun u listed w' hall hE hf=> ?_)
  · unfold Nf at hc ⊢;cases he:es.contains i <;> rw[he]at hc
    · exact stepR m _ _ hc hr
    · unfold Jn at hr;cases hcm:cs.contains m <;> rw[hcm]at hr
      · exact Ext.trans hc hr
      · unfold Ya at hes;have:=Adv.1 (Adv.1 hes m (by simpa using hcm)) i (by simpa using he);rw[this]at hbit;cases hbit
  · unfold Jn at hr;cases hc:cs.contains m <;> rw[hc]at hr
    · exact hst.get Φs i v w1 w' h hr
    · refine(AllCh.get cs hsB m hc).get Φs 0 i ?_ v w1 w' h hr;rw[Ad4];intro hmem;unfold lsOk at hls;have h1:=Adv.1 (Adv.1 hls m (by simpa using hc)) i hmem;simp only[AeF]at h1;rcases h1 with (h1 | h1) | h1
      · exact hni (by simpa using h1)
      · exact hne (Afo h1)
      · rw[h1]at hbit;cases hbit
  · unfold Jn;cases hc:cs.contains m
    · exact Ext.refl w1
    · have:=Adv.1 hgc m (by simpa using hc);rw[ho]at this;simp only[Ae4,AhF]at this;rw[this]at hgo;cases hgo
  · unfold Nf;cases es.contains m
    · exact Z5 drew (AcP _)
    · exact drew
  · have hw:=Fz ha.get ds (GE hg ds hds) u;refine⟨fun t=>if t∈ds then u t else ρ t,⟨by rw[Dn],ha.defers,hw⟩,hQ _ w' hE ⟨fun t ht=>if_neg (by simpa using ht)⟩ ?_⟩;have key:∀es:List Tmp,(∀d∈es,d∈ds)→Bd l ks (AQ Φs) u w' es→Bd l ks (AQ Φs) (fun t=>if t∈ds then u t else ρ t) w' es:=by
      intro es
      induction es with
      | nil=>exact fun _ _=>trivial
      | cons d es ih=>
        intro hm h;refine⟨?_,ih (fun x hx=>hm x (by simp[hx])) h.2⟩;have:=h.1;simp only[if_pos (hm d (by simp))];exact this
    exact key ds (fun _ h=>h) hf
end
def CV(e:Nat):PanicEntry:= { v:= .iface 143 (.agg ([NI e]:List AcJ).toArray),recovered:=false }
theorem Ze{vx vy:AcJ}{x y:Bs}{w:AcK}(hx:RB w vx x)(hy:RB w vy y):(callFunc 184 #[vx,vy]).run AcM w = .ok (.value (.int .i64 (Adj x y))) w:=by
 rw[run_callFunc_extern (e:=Aha) Tryz.func184 (by kernel_rfl) (by kernel_rfl) (by kernel_rfl) (by kernel_rfl),M3 hx hy];rfl
theorem NA(z0:Int)(w:AcK):(AeH 143 #[(0, .int .i64 z0)]).run AcM w = .ok (.agg ([.int .i64 z0]:List AcJ).toArray) w:=by kernel_rfl
theorem Sg:∃fs,Tryz.prog.underlying 143=some (.struct fs):=EZ (by kernel_rfl)
theorem Sh:Plain AcM 147:=fun _ _=>by kernel_rfl
theorem AW(w:AcK)(b:Bool)(e:Nat):
  Calls AcM 129 #[.bool b,NI e] w fun r w' =>(∃v,r = .returned v∧v = .tuple #[]∧b=true∧Ext w w')∨∃ch,r = .panicked ch∧ch= [CV e]∧b=false∧Ext w w' :=by
 refine gG (args:= [.bool (b),NI e]) Tryz.func129 rfl 9 rfl rfl ?_;have hE:=Ext.refl w;refine gS (Z9 rfl ?_);refine cB (!(b)) rfl (fun a=> ?_) fun a=> ?_
 ·refine gS (AaU (vr (NI e) rfl) (fun w=>NA (((e:Nat):Int)) w) (gS (AbL (Sg).choose_spec (vr (.agg ([NI e]).toArray) rfl) (gP (Yp.panic rfl (Au ?_))))));exact .inr ⟨_,rfl,rfl,by simpa using a,hE⟩
 refine rt0 rfl ?_;exact .inl ⟨_,rfl,rfl,by simpa using a,hE⟩

theorem J4(w:AcK)(vx vy:AcJ)(x y:Bs)(hx:RB w vx x)(hy:RB w vy y):
  Calls AcM 147 #[vx,vy] w fun e w' =>e = .returned (.int .i64 (Adj x y))∧Ext w w' :=by
 refine gG (args:= [vx,vy]) Tryz.func147 rfl 8 rfl rfl ?_;have hE:=Ext.refl w;refine gS (AbK rfl rfl (Ze (hx.keep hE) (hy.keep hE)) (Bb rfl (vr (.int .i64 (Adj x y:Int)) rfl) ?_));exact⟨rfl,hE⟩

theorem G3(w:AcK)(x y:Bs)(hxl:x.length=32)(hyl:y.length=32):
  Calls AcM 100 #[AB x,AB y] w fun e w' =>e = .returned (.int .i64 (Adj x y))∧Ext w w' :=by
 refine gG (args:= [AB x,AB y]) Tryz.func100 rfl 8 rfl rfl ?_;have hE:=Ext.refl w;refine gS (Yk.box (vr (AB x) rfl) fun h i q c j r=> ?_);have a:=c;clear c;have s:h<i.heap.size:=by omega
 refine gS (Yk.box (vr (AB y) rfl) fun k l m f n t=> ?_);have hE:=hE.trans j;have u:=hE.size;have b:=f;clear f;have v:k<l.heap.size:=by omega
 refine CD [0,1,2,3] [2] [] fun o g=>(ys (Aac Wq Qq rfl zz) (ys (Aac Wq Qq rfl zz) ?_));have hC:=Ext.refl o;have z:=As (bl a) m;have hZ1:=n.trans g;have a:=eb hZ1 a;have b:=eb g b;refine yC (Zx Sh rfl rfl ((J4 _ _ _ x y (Aap (eb hC a) hxl (by decide)) (Aap (eb hC b) hyl (by decide))).mono ?_));rintro e aa ⟨rfl,p⟩;refine⟨_,rfl,?_⟩;refine Bb rfl (vr (.int .i64 (Adj x y:Int)) rfl) ?_;have hZ2:=hZ1.trans p;have hE:=hE.trans hZ2;exact⟨rfl,hE⟩
theorem Si(ids:List Bs)(c:Nat):(Ca ids).getD c 0≤ids.length:=by
 by_cases h:c<256
 ·rw[F0 _ _ h];exact Aii
 ·rw[AcO,AdY (by rw[Cz];omega)];simp
theorem O4(ids:List Bs)(c:Nat)(h0:0<c)(h:c<256):(BJ ids c).getD c 0+(BJ ids c).getD (c-1) 0≤ids.length:=by
 have h1:=IC ids c h0 h;have h2:(BJ ids (c+1)).getD c 0=(Be ids).getD c 0:=by
  unfold BJ;rw[AcO,AdF (by rw[Ac8,BW];omega),AeS,if_pos (by omega),←AcO]
 rw[h1,AcO,Af0 (by rw[FB _ _ (by omega)];exact h)]at h2;have h3:=Jm ids c;rw[AdI]at h2;omega
theorem HI:(Tryz.prog.info? 205).map (·.size)=some 256:=by kernel_rfl
theorem L8{d:Option Tmp}{ty:AcR}{pos:String}{af:Array AdL}{gd:Option (Nat × Bool)}(σ:AcW→AcJ)(w:AcK):(execOp σ ⟨d, .alloc 205,ty,pos,af,gd⟩).run AcM w = .ok (.value (PQ w.heap.size 0)) (w.alloc (.cells ((AcX 256 0).map fun x=>NI x).toArray 205)):=by kernel_rfl
theorem NB:Tryz.prog.underlying 42=some (.slice 33):=by kernel_rfl
theorem Sj:∀w' :AcK,(sizeOf 33).run AcM w' = .ok 32 w' :=fun _=>by kernel_rfl
theorem Ur{d:Option Tmp}{ty:AcR}{pos:String}{af:Array AdL}{gd:Option (Nat × Bool)}(σ:AcW→AcJ)(w:AcK):(execOp σ ⟨d, .alloc 33,ty,pos,af,gd⟩).run AcM w = .ok (.value (PQ w.heap.size 0)) (w.alloc (.cells (AcL (AcX 32 0)).toArray 33)):=by kernel_rfl
theorem Ec:Tryz.prog.underlying 205=some (.array 256 3):=by kernel_rfl
theorem Hg:∀w' :AcK,(sizeOf 3).run AcM w' = .ok 1 w' :=fun _=>by kernel_rfl
theorem NC:(Tryz.prog.info? 3).map (·.size)=some 1:=by kernel_rfl
theorem PH(w:AcK)(v:AcJ)(ids:List Bs)(hr:RG 32 AcL w v ids):
  Calls AcM 132 #[v] w fun e w' =>e = .returned (.agg ((Be ids).map fun x=>NI x).toArray)∧Ext w w' :=by
 have hil:=hr.lenLt;refine gG (args:= [v]) Tryz.func132 rfl 34 rfl rfl ?_;have hE:=Ext.refl w;refine gS (Yk.alloc L8 fun n s a7 ae ap a8=> ?_);have f:=ae;clear ae;have a9:n<s.heap.size:=by omega
 refine gS (Yk.alloc L8 fun k aq ar af aa ba=> ?_);have g:=Ext.refl s;have hE:=hE.trans ap;have ag:=hE.size;have ah:=af;clear af;have bb:k<aq.heap.size:=by omega
 have bc:=As (bl f) ar;have f:=eb aa f;have hE:=hE.trans aa;have g:=g.trans aa;refine gS (ZI NB (ZC (hr.keep hE) rfl) (gL (fun(ρ:Ad) (wz:AcK)=>∃i:Nat,ρ 0=(v:AcJ)∧ρ 2=(PQ n 0:AcJ)∧ρ 3=(PQ k 0:AcJ)∧ρ 7=(v:AcJ)∧ρ 8=(NI ids.length:AcJ)∧ρ 9=(NI i:AcJ)∧Ext w wz∧wz.heap[n]? =some (.cells ((AcX 256 0).map fun x=>NI x).toArray 205 (0,0))∧Ext s wz∧wz.heap[k]? =some (.cells ((Ca (ids.take i)).map fun x=>NI x).toArray 205 (0,0))∧(i≤ids.length)∧True) (fun ρ _=>ids.length-(intOf (ρ 9)).toNat) ⟨0,rfl,rfl,rfl,rfl,rfl,rfl,hE,f,g,A1 ah (congrArg (Afs fun x=>NI x) (show _=Ca []from by decide+kernel)),Adm _,trivial⟩ ?_));clear ah;clear hE f;rintro au av ⟨i,t,l,h,o,p,j,hE,f,g,hb21l,hi,-⟩;have q9:=j;refine gS (Zv (a:=(i:Nat)) (b:=(ids.length:Nat)) j p (AI _ _ _ _) ?_);refine cD rfl (fun aw=> ?_) fun aw=> ?_
 ·have ax:(ids.getD i []).length=32:=by have h1:=RG.elem hr [] (show i<ids.length by omega);rwa [AcZ]at h1
  have ab:(AcL (ids.getD (i) ([]:List UInt8))).length=32:=(RG.elem (hr.keep hE) ([]:List UInt8) (by omega));refine gS (ZO NB Sj (by decide) ([]:List UInt8) (ZC (hr.keep hE) o) j (by omega) fun bd ai=>(gS (ZS (ZT ai rfl) Wq rfl (by rw[ab];exact R4) (gS (Yk.alloc Ur fun aj ay az ak u be=> ?_)))));have q:=Ext.refl av;have a0:=hE.size;have a1:=g.size;have r:=ak;clear ak;have bf:aj<ay.heap.size:=by omega
  refine gS (Zy (vr (PQ aj 0) rfl) (vr (AB (ids.getD (i) ([]:List UInt8))) rfl) r (by exact Bn (AD (ab)) Ac7) (by exact Ac (AD (ab))) (Af _) fun bg al y bh=> ?_);clear r;have r:=al;clear al;have bi:=bl r;clear ai;have q:=q.trans u;have q:=Ab q y (AcN (AcP _) (by omega));have hb21l:=eb q hb21l;refine gS (ZJ (i:=0) Wq Qq rfl rfl (by decide) (gS (Zu u5 rfl rfl (cellAt r (Jk (i:=0) (by rw[ax];omega))) (gS (ZJ (i:=((ids.getD (i) ([]:List UInt8)).getD (0) 0).toNat) Ec Hg h rfl (by exact Ahk _) (gS (Zu Uo rfl rfl (cellAt hb21l (Gl (i:=((ids.getD (i) ([]:List UInt8)).getD (0) 0).toNat) (by rw[Cz];exact Ahk _))) (gS (Zw (xv:=NI ((Ca (ids.take i)).getD (((ids.getD (i) ([]:List UInt8)).getD (0) 0).toNat) 0)) (yv:=NI 1) rfl rfl rfl (Ag _ _ _ (by have:=Si (ids.take i) ((ids.getD i []).getD 0 0).toNat;rw[Ac8]at this;omega)) (gS (ZJ (i:=((ids.getD (i) ([]:List UInt8)).getD (0) 0).toNat) Ec Hg h rfl (by exact Ahk _) (gS (AaV (i:=((ids.getD (i) ([]:List UInt8)).getD (0) 0).toNat) (v:=((Ca (ids.take i)).getD (((ids.getD (i) ([]:List UInt8)).getD (0) 0).toNat) 0)+(1)) rfl rfl hb21l (by rw[Cz];exact Ahk _) NC fun bj am ac bk=> ?_)))))))))))));clear hb21l;have hb21l:=am;clear am;have bm:=bl hb21l;have bn:=As (bl f) az;have f:=eb u f;have f:=kb y f (by omega);have f:=kb ac f (by omega);have hE:=hE.trans u;have hE:=Ab hE y (AcN a0 (by omega));have hE:=Ab hE ac (AcN ag (by omega));have g:=g.trans u;have g:=Ab g y (AcN a1 (by omega));have g:=Ab g ac (AcN (AcP _) (by omega));refine gS (Zw (xv:=NI i) (yv:=NI 1) j rfl rfl (Ag _ _ _ (by omega)) ?_);refine gK (Adr ⟨i+1,t,l,h,o,p,rfl,hE,f,g,A1 hb21l (congrArg (Afs fun x=>NI x) (by rw[Adi (by omega),O2];simp only[AcO,AcS (show i<ids.length by omega),AdI];rfl)),by omega,trivial⟩ ?_);show ids.length-(intOf (NI ((i)+(1)))).toNat<ids.length-(intOf (au 9)).toNat;rw[q9];simp only[intOf,Ac0];omega
 refine gL (fun(ρ:Ad) (wz:AcK)=>∃c:Nat,ρ 0=(v:AcJ)∧ρ 2=(PQ n 0:AcJ)∧ρ 3=(PQ k 0:AcJ)∧ρ 7=(v:AcJ)∧ρ 8=(NI ids.length:AcJ)∧ρ 9=(NI i:AcJ)∧ρ 6=(NI c:AcJ)∧Ext w wz∧wz.heap[n]? =some (.cells ((AcX 256 0).map fun x=>NI x).toArray 205 (0,0))∧Ext s wz∧wz.heap[k]? =some (.cells ((BJ ids c).map fun x=>NI x).toArray 205 (0,0))∧(0<c)∧(c≤256)∧True) (fun ρ _=>256-(intOf (ρ 6)).toNat) ⟨1,t,l,h,o,p,j,rfl,hE,f,g,A1 hb21l (congrArg (Afs fun x=>NI x) (by rw[fanStep_one,show i=ids.length by omega,Ad6])),by omega,by omega,trivial⟩ ?_;clear hb21l;clear hE f g;rintro a2 a3 ⟨c,t,l,h,o,p,j,m,hE,f,g,hb21ll,hc0',hcl,-⟩;have q6:=m;refine gS (Zv (a:=(c:Nat)) (b:=(256:Nat)) m rfl (AI _ _ _ _) ?_);refine cD rfl (fun a4=> ?_) fun a4=> ?_
 ·refine CD [0,1,2,3,4,5,6,7,8,9] [9] [] fun bo z=> ?_;have hb21ll:=eb z hb21ll;refine ys (ZJ (i:=c) Ec Hg h m (by omega) zz) (ys (Zu Uo rfl rfl (cellAt hb21ll (Gl (i:=c) (by rw[FB _ _ hcl];omega))) zz) (ys (Zw (xv:=NI c) (yv:=NI 1) m rfl rfl (BN _ _ _ (by omega) (by omega)) zz) (ys (ZJ (i:=(c)-(1)) Ec Hg h rfl (by omega) zz) (ys (Zu Uo rfl rfl (cellAt hb21ll (Gl (i:=(c)-(1)) (by rw[FB _ _ hcl];omega))) zz) (ys (Zw (xv:=NI ((BJ ids c).getD (c) 0)) (yv:=NI ((BJ ids c).getD ((c)-(1)) 0)) rfl rfl rfl (Ag _ _ _ (by have:=O4 ids c hc0' (by omega);omega)) zz) (ys (ZJ (i:=c) Ec Hg h m (by omega) zz) (yC (AaV (i:=c) (v:=((BJ ids c).getD (c) 0)+((BJ ids c).getD ((c)-(1)) 0)) rfl rfl hb21ll (by rw[FB _ _ hcl];omega) NC fun bp an ad bq=> ?_))))))));clear hb21ll;have hb21ll:=an;clear an;have br:=bl hb21ll;have hE:=hE.trans z;have hE:=Ab hE ad (AcN ag (by omega));have f:=eb z f;have f:=kb ad f (by omega);have g:=g.trans z;have g:=Ab g ad (AcN (AcP _) (by omega));refine gS (Zw (xv:=NI c) (yv:=NI 1) m rfl rfl (Ag _ _ _ (by omega)) (gK (Adr ⟨c+1,t,l,h,o,p,j,rfl,hE,f,g,A1 hb21ll (congrArg (Afs fun x=>NI x) (IC ids c hc0' (by omega)).symm),by omega,by omega,trivial⟩ ?_)));show 256-(intOf (NI ((c)+(1)))).toNat<256-(intOf (a2 6)).toNat;rw[q6];simp only[intOf,Ac0];omega
 have a5:c=256:=by omega
 obtain⟨F,hF⟩:∃F,F=Be ids:=⟨_,rfl⟩;have hb21ll:a3.heap[k]? =some (.cells (F.map fun x=>NI x).toArray 205 (0,0)):=A1 hb21ll (by rw[a5,O3,hF]);have hFl:F.length=256:=by rw[hF,BW]
 refine gS (Zz h hb21ll Ec rfl (by rw[Ac6,Ada,hFl];exact HI) (gS (Zy l (vr (.agg (F.map fun x=>NI x).toArray) rfl) f (by rw[Ac6,Ac6,Ada,Ada,hFl];rfl) (by rw[Ac6,Ada,hFl];exact HI) (Qy _) fun bs ao a6 bt=> ?_)));clear g;clear f;have f:=ao;clear ao;have bu:=bl f;refine L6 rfl (ResF.row l f Ec rfl (by rw[Ac6,Ada,hFl];exact HI)) ?_;subst hF;have hE:=Ab hE a6 (AcN (AcP _) (by omega));exact⟨rfl,hE⟩
section
variable {P : Adg}
theorem FF{t e:AcR}{size:Nat}(ht:P.underlying t=some (.slice e))(he:∀w' :AcK,(sizeOf e).run P w' = .ok size w'){w:AcK}{v:AcJ}{n:Nat}{xs:List AcJ}(hr:Reads w size v n xs)(lo hi:Option AcJ)(l h:Nat)(hlh:l≤h)(hn:h≤n) 
    (hlo:lo=none∧l=0∨∃k,lo=some (.int k l)) (hhi:hi=none∧h=n∨∃k,hi=some (.int k h)):
    ∃ao c,((∀w:AcK,(Agl t v lo hi none).run P w = .ok (.slice ao (h-l) c) w)∧(AcU ao (h-l) c).ownBlock=v.ownBlock)∧Reads w size (.slice ao (h-l) c) (h-l) ((xs.drop (l*size)).take ((h-l)*size)):=by
  obtain⟨h1,ao,cap,rfl,h2,h3,h4,h5⟩:=hr;have hE:P.elem t=e:=by simp[Af5,ht]
  have ht' :P.underlying t=some (.slice (P.elem t)):=by rw[hE];exact ht
  refine⟨if cap=l then ao else ao.map (·.add (l*size)),cap-l,⟨?_,?_⟩,?_,_,_,rfl,by omega,by omega,?_,?_⟩
  · intro w;rw[run_sliceAt_slice (P:=P) w t _ _ _ _ ht'];have hl' :(l:Int)≤(h:Int):=by omega
    have hh' :(h:Int)≤(cap:Int):=by omega
    have hn' :(l:Int)≤(n:Int):=by omega
    rcases hlo with ⟨rfl,rfl⟩ | ⟨k,rfl⟩ <;> rcases hhi with ⟨rfl,rfl⟩ | ⟨k',rfl⟩
    · rw[run_slice_all (P:=P) w t ao h cap ht',hE,he];simp[AdH,sliced]
    · rw[run_slice_h (P:=P) w t ao n cap ht' k' h (by omega) hh',hE,he];simp[AdH,sliced]
    · rw[run_slice_l (P:=P) w t ao h cap ht' k l (by omega) hl',hE,he];simp[AdH,sliced]
    · rw[run_slice_lh (P:=P) w t ao n cap ht' k k' l h (by omega) hl' hh',hE,he];simp[AdH,sliced]
  · cases ao with
    | none=>simp[AcT]
    | some x=>
      split
      · rfl
      · simp only[Aeb,AcT,Aey];unfold AeO;split <;> rfl
  · rw[Ac8,Ac5,h1];have:(h-l)*size≤n*size-l*size:=by rw[←Nat.sub_mul];exact Agc _ (by omega)
    omega
  · intro hnone;have:ao=none:=by
      cases ao with
      | none=>rfl
      | some x=>split at hnone <;> simp at hnone
    obtain⟨h6,h7⟩:=h4 this;omega
  · intro a ha j u hu;have hj:j<((xs.drop (l*size)).take ((h-l)*size)).length:=(Adc.1 hu).1;have hj2:j<(h-l)*size:=by rw[Ac8]at hj;omega
    have hhl:h-l≠0:=fun e=>by rw[e]at hj2;simp at hj2
    rw[if_neg (by omega)]at ha;cases ao with
    | none=>simp at ha
    | some x=>
      simp at ha;subst ha;rw[E2];refine h5 x rfl _ _ ?_;rw[AeS,if_pos hj2,Agv]at hu;exact hu
end
section
variable {P : Adg} {K : AcJ → AcK → Prop} {ρ : Ad} {w w0 : AcK} {d : Option Tmp} {ty : AcR} {pos : String} {af : Array AdL} {gd : Option (Nat × Bool)}
variable {α : Type} {k : Nat} {enc : α → List AcJ} {t e : AcR}
theorem AaJ(ht:P.underlying t=some (.slice e))(he:∀w' :AcK,(sizeOf e).run P w' = .ok k w'){x lo:AcW}{v:AcJ}{xs:List α}(hx:Aa ρ x=v)(h:RG k enc w0 v xs){kd:AdU}{l:Nat}(hlo:Aa ρ lo = .int kd (l:Int))(hl:l≤xs.length) 
    (hk:∀v',RG k enc w0 v' (xs.drop l)→v'.ownBlock=v.ownBlock→K v' w):Yk P K ((execOp (Aa ρ) ⟨d, .slice t x (some lo) none none,ty,pos,af,gd⟩).run P w):=by
  obtain⟨ao,c,⟨hrun,hb⟩,hR⟩:=FF ht he h.2 (some (.int kd l)) none l xs.length hl (AcP _) (.inr ⟨kd,rfl⟩) (.inl ⟨rfl,rfl⟩);have hR' :=RG.cut h.1 hl (AcP _) hR;rw[AdD (by rw[Ac5];exact AcP _)]at hR';refine Yk.value (v:= .slice ao (xs.length-l) c) (w' :=w) ?_ (hk _ hR' hb);unfold execOp;simp only[hx,hlo,Aeb,AeG,hrun,Ac1,Ac3,AcV]
theorem Aby(ht:P.underlying t=some (.slice e))(he:∀w' :AcK,(sizeOf e).run P w' = .ok k w'){x hi:AcW}{v:AcJ}{xs:List α}(hx:Aa ρ x=v)(h:RG k enc w0 v xs){kd:AdU}{n:Nat}(hhi:Aa ρ hi = .int kd (n:Int))(hl:n≤xs.length) 
    (hk:∀v',RG k enc w0 v' (xs.take n)→v'.ownBlock=v.ownBlock→K v' w):Yk P K ((execOp (Aa ρ) ⟨d, .slice t x none (some hi) none,ty,pos,af,gd⟩).run P w):=by
  obtain⟨ao,c,⟨hrun,hb⟩,hR⟩:=FF ht he h.2 none (some (.int kd n)) 0 n (Adm _) hl (.inl ⟨rfl,rfl⟩) (.inr ⟨kd,rfl⟩);have hR' :=RG.cut h.1 (Adm _) hl hR;rw[Afg,AiR]at hR';refine Yk.value (v:= .slice ao (n-0) c) (w' :=w) ?_ (hk _ hR' hb);unfold execOp;simp only[hx,hhi,Aeb,AeG,hrun,Ac1,Ac3,AcV]
theorem Fl{P:Adg}{e:AcR}{k b:Nat}(h:(P.info? e).map (fun i=>(i.zero.map (fun z=>z.cells.size),i.size,i.bytes))=some (some k,k,b)):∃z,(P.info? e).map (fun i=>(i.zero,i.size,i.bytes))=some (some z,k,b)∧z.cells.size=k:=by
  cases hi:P.info? e with
  | none=>rw[hi]at h;cases h
  | some i=>
    rw[hi]at h;simp only[Aeb,Aey,Aht]at h;cases hz:i.zero with
    | none=>rw[hz]at h;cases h.1
    | some z=>
      rw[hz]at h;simp only[Aeb,Aey]at h;exact⟨z,by simp[hz,h.2.1,h.2.2],h.1⟩
theorem Aci(base:Nat)(z:AcJ)(bytes:Nat)(ht:P.underlying t=some (.slice e))(hi:(P.info? e).map (fun i=>(i.zero,i.size,i.bytes))=some (some z,k,bytes)){x y:AcW}{kl kc:AdU}{n:Nat}(hx:Aa ρ x = .int kl 0)(hy:Aa ρ y = .int kc (n:Int))(hb:bytes*n≤281474976710656)(hn:n≤9223372036854775807)(hbase:base≤w.heap.size) 
    (hk:∀v w',OG base e k enc w' v ([]:List α)→Ext w w' →K v w'):Yk P K ((execOp (Aa ρ) ⟨d, .makeSlice t x y,ty,pos,af,gd⟩).run P w):=by
  obtain⟨i,hi,hz,hsize,hby⟩:=info_parts hi;obtain⟨w',hr,h2,h3⟩:=run_make_own (P:=P) (w:=w) base t e i z k ht hi hz hsize kl kc n (by rw[hby];exact hb) (by unfold maxLen;omega) hbase;refine Yk.value (v:= .slice (some ⟨w.heap.size,0,none⟩) 0 n) (w' :=w') ?_ (hk _ w' ⟨by simp,h2⟩ (AaQ h3));unfold execOp;simp only[hx,hy,hr,Ac1,Ac3,AcV]
theorem Acj(bytes:Nat)(ht:P.underlying t=some (.slice e))(hi:(P.info? e).map (fun i=>(i.zero,i.size,i.bytes))=some (some (.int .i64 0),1,bytes)){x y:AcW}{kl kc:AdU}{n:Nat}(hx:Aa ρ x = .int kl (n:Int))(hy:Aa ρ y = .int kc (n:Int))(hb:bytes*n≤281474976710656)(hn:n≤9223372036854775807) 
    (hk:∀g w',w.heap.size=g→w'.heap[g]? =some (.cells ((AcX n 0).map fun x=>NI x).toArray e (0,0))→Ext w w' →w'.heap.size=g+1→K (.slice (some ⟨g,0,none⟩) n n) w'):Yk P K ((execOp (Aa ρ) ⟨d, .makeSlice t x y,ty,pos,af,gd⟩).run P w):=by
  obtain⟨i,hi,hz,hsize,hby⟩:=info_parts hi;have hb' :(i.bytes:Int)*(n:Int)≤281474976710656:=by
    have h:((i.bytes*n:Nat):Int)≤281474976710656:=by rw[hby];omega
    rwa [AhZ]at h
  have hr:=run_make (P:=P) w t e i _ ht hi hz kl kc (n:Int) n (by omega) (by omega) hb' (by omega);have hm:madeCells (AeJ .i64 0).cells (n*i.size)=((AcX n 0).map fun x=>NI x).toArray:=by
    rw[hsize,Ah9]
    apply Array.ext
    · simp[madeCells]
    · intro j h1 h2;simp[madeCells,Ahm,Nat.mod_one]
  simp only[Ac0]at hr;rw[hm]at hr;refine Yk.value (v:= .slice (some ⟨w.heap.size,0,none⟩) n n) (w' :=w.alloc (.cells ((AcX n 0).map fun x=>NI x).toArray e)) ?_ (hk w.heap.size _ rfl (heap_alloc_new w _) ((AdC _ _).alloc (AcP _) _) (by simp));unfold execOp;simp only[hx,hy,hr,Ac1,Ac3,AcV]
theorem AaF(ht:P.underlying t=some (.slice e))(he:∀w' :AcK,(sizeOf e).run P w' = .ok 1 w'){x y:AcW}{b i n c:Nat}{kd:AdU}(hx:Aa ρ x = .slice (some ⟨b,0,none⟩) n c)(hy:Aa ρ y = .int kd (i:Int))(hi:i<n)(hk:K (.pointer (some ⟨b,i,none⟩)) w):Yk P K ((execOp (Aa ρ) ⟨d, .indexAddr t x y,ty,pos,af,gd⟩).run P w):=
  AaK ht he hx hy hi (by rw[Ad4];exact hk)
theorem OG.base{α:Type}{b b' k:Nat}{e:AcR}{enc:α→List AcJ}{v:AcJ}{l:List α}(h:OG b e k enc w v l)(hb:b' ≤b):OG b' e k enc w v l:=⟨h.1,BL h.2 hb⟩
theorem Cb{α β:Type}{ek:α→AcJ}{ev:β→AcJ}{D:α→Prop}{b:Nat}{G G' :α→Option β}(h:MapF ek ev D w b G)(e:G=G'):MapF ek ev D w b G' :=by rw[←e];exact h
def FM{α:Type}(B N:Nat)(e:AcR)(k:Nat)(enc:α→List AcJ)(r:Option Nat)(l:List α)(x:AcJ)(w' :AcK):Prop:=OG B e k enc w' x l∧∀k,x.ownBlock=some k→r=some k∨N≤k
theorem Ab6(w:AcK)(b:Nat)(e:AcR):OG b e k enc w (.slice none 0 0) ([]:List α):=OG.nil b e k enc w
structure MI (l O A B : List (List UInt8)) : Prop where
  perm:(O++(A++B)).Perm l
  ascO:C8 O
  ascA:C8 A
  ascB:C8 B
  le:∀x∈O,∀y∈A++B,Adj x y≤0
theorem Ack{l A B:List (List UInt8)}{h:Nat}(hA:A.Perm (l.take h))(hB:B.Perm (l.drop h))(a1:C8 A)(b1:C8 B):MI l [] A B:=
  ⟨by rw[AdS];exact(hA.append hB).trans (by rw[Afb]),AeN,a1,b1,by simp⟩
theorem MI.left{l O A B:List (List UInt8)}(h:MI l O A B)(hA:0<A.length)(hB:0<B.length)(hc:Adj (A.getD 0 []) (B.getD 0 [])≤0):MI l (O++ [A.getD 0 []]) (A.drop 1) B:=by
  match A,B,hA,hB,h,hc with
  | a :: A,b :: B,_,_,h,hc=>
    simp only[Ahb,AfI,Afg]at hc ⊢;have hp:=AdZ.1 h.ascA;have hq:=AdZ.1 h.ascB;have hall:∀y∈A++b :: B,Adj a y≤0:=fun y hy=>by
      rcases Adf.1 hy with h1 | h1
      · exact hp.1 y h1
      · rcases Adz.1 h1 with rfl | h1
        · exact hc
        · exact GF hc (hq.1 y h1)
    refine⟨by rw[Adn];exact h.perm,?_,hp.2,h.ascB,?_⟩
    · unfold C8;rw[Aee];exact⟨h.ascO,by simp,fun x hx y hy=>by rw[AcY.1 hy];exact h.le x hx a (by simp)⟩
    · intro x hx y hy;rcases Adf.1 hx with h1 | h1
      · exact h.le x h1 y (by simp only[AdP,Adz];exact .inr hy)
      · rw[AcY.1 h1];exact hall y hy
theorem MI.right{l O A B:List (List UInt8)}(h:MI l O A B)(hA:0<A.length)(hB:0<B.length)(hc:¬Adj (A.getD 0 []) (B.getD 0 [])≤0):MI l (O++ [B.getD 0 []]) A (B.drop 1):=by
  match A,B,hA,hB,h,hc with
  | a :: A,b :: B,_,_,h,hc=>
    simp only[Ahb,AfI,Afg]at hc ⊢;have hp:=AdZ.1 h.ascA;have hq:=AdZ.1 h.ascB;have hba:Adj b a≤0:=by have:=He a b;omega
    have hall:∀y∈a :: A++B,Adj b y≤0:=fun y hy=>by
      rcases Adf.1 hy with h1 | h1
      · rcases Adz.1 h1 with rfl | h1
        · exact hba
        · exact GF hba (hp.1 y h1)
      · exact hq.1 y h1
    refine⟨?_,?_,h.ascA,hq.2,?_⟩
    · refine List.Perm.trans ?_ h.perm;rw[Adn];refine List.Perm.append_left O ?_;simp only[Af6];exact(List.perm_middle (l₁:=a :: A) (l₂:=B) (a:=b)).symm
    · unfold C8;rw[Aee];exact⟨h.ascO,by simp,fun x hx y hy=>by rw[AcY.1 hy];exact h.le x hx b (by simp)⟩
    · intro x hx y hy;rcases Adf.1 hx with h1 | h1
      · exact h.le x h1 y (by
          rcases Adf.1 hy with h2 | h2
          · exact Afv _ h2
          · exact Aex _ (by simp[h2]))
      · rw[AcY.1 h1];exact hall y hy
theorem MI.done{l O A B:List (List UInt8)}(h:MI l O A B)(he:A.length=0∨B.length=0):((O++A)++B).Perm l∧C8 ((O++A)++B):=by
  refine⟨by rw[Adn];exact h.perm,?_⟩;rw[Adn];unfold C8;rw[Aee];refine⟨h.ascO,?_,h.le⟩;rcases he with he | he
  · rw[Adw he,AdS];exact h.ascB
  · rw[Adw he,AeA];exact h.ascA
theorem Sk{l:List (List UInt8)}(h:l.length<2):C8 l:=by
  match l,h with
  | [],_=>exact AeN
  | [a],_=>simp[C8]
end
end Go.Proofs.YtfpekahfdalfkaaGreatDoor
