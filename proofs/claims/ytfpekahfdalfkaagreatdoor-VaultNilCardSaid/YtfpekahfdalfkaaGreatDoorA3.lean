/- Part 3 of what stands behind these statements: laws and walks of the functions that are reached. Conditions: those that each theorem names. -/
import Derived.Test.YtfpekahfdalfkaaGreatDoorA2
set_option linter.unusedVariables false
set_option linter.unusedSimpArgs false
namespace Go.Proofs.YtfpekahfdalfkaaGreatDoor
open _root_.Go renaming World → AaS, Value → AaR, TypeId → AaZ, Program → Abo, Edge → AbP, Operand → Aa5, IntKind → AbU
open _root_.Go.Proofs.Tryz renaming prog → AaU, underlying5 → AdJ
open _root_.Nat renaming zero_le → Abs, le_trans → AaV, le_refl → AaX, zero_add → Ab9, lt_of_lt_of_le → AbL, le_of_ble_eq_true → Aa9, add_sub_cancel_left → AcZ, add_assoc → Ac5, min → AdR, min_comm → AgP, min_le_left → Ae8, mul_comm → AfS, sub_self → AcD, mul_one → Agb, lt_succ_self → AeW
open _root_.And renaming intro → Aby
open _root_.Int renaming toNat_natCast → Aba
open _root_.UInt8 renaming toNat_inj → Aes, ofNat → AbQ
open _root_.Go.RowKit.Below renaming refl → AbJ, grown → Aep, trans → Agc
open _root_.Option renaming map_none → AcI, getD_some → AbR
open _root_.Go.Sem renaming run_bind → Aa7, run_pure → Abb
open _root_.Go.Result renaming andThen_ok → Aa3
open _root_.Go.Instr renaming entryStore → AfW, buildSlice → Abz
open _root_.Go.Lib renaming byteCells → AaT, byteCells_length → Aa8, uvarint → Abd, uvarint_small → Ad6, uvarint_big → Af4
open _root_.List renaming getElem?_eq_some_iff → Abn, getD → AeY, range → Ab6, filter_append → AeB, length_filter_le → AcH, replicate → Aa4, map_toArray → Abx, map_cons → Abv, map_nil → AbG, length_take → Abg, length_drop → Abf, size_toArray → Abe, mem_singleton → Aa6, length_append → AaY, map_append → Acj, take_succ_eq_append_getElem → Abu, getD_eq_getElem?_getD → AaW, getElem?_eq_getElem → Aa2, getElem_mem → Acp, mem_filter → Acw, mem_range → AeI, toArray → Acn, nil_append → AbV, length_nil → Abw, length_map → Abh, take_of_length_le → AbK, append_toArray → Ac4, cons_append → AbS, append_assoc → Abr, drop_zero → Adk, drop_left → AcP, foldl_cons → AdT, take_succ_cons → AdO, take_left → Ada, take_length → Acy, append_nil → AcK, drop_of_length_le → Ab4, drop_drop → Agi, flatMap_cons → AbW, length_replicate → Abc, length_set → Acv, flatten_append → AgI, take_append_drop → Ad8, eq_nil_of_length_eq_zero → AbC, length → AeR, mem_cons → AbF, not_mem_nil → AcN, zip_cons_cons → AcX, lookup_cons → Acq, mem_append → Abk, length_cons → Abp, getElem?_append_left → AbN, map → Adw, getElem?_append_right → AbH, singleton_append → Ad9, set_append_right → Acg, flatMap_append → AdL, mem_of_mem_take → Agt, getElem?_cons_succ → Acr
open _root_.Go.Src renaming ofSlice → Afp
open _root_.Go.Addr renaming add_lit → Ack, add → AcU
open _root_.Go.Value renaming ownBlock → Aa1, slice → Aa0, int → AcM, bool → AbA
open _root_.Option.some renaming injEq → AcA
open _root_.Array renaming getElem?_eq_some_iff → Abm
open _root_.Go.World renaming ownsRow_nil → AbO
open _root_.Prod.mk renaming injEq → Afv
open _root_.Go.World.grownBy renaming refl → Ace
open _root_.ByteArray renaming size → Agk
open Go.RowKit
set_option maxRecDepth 100000
set_option maxHeartbeats 1600000
theorem PS(w:AaS)(va vb:AaR)(a b:List UInt8)(hra:RB w va a)(hrb:RB w vb b)(hal:a.length≤4611686018427387904):
  Calls AaU 183 #[va,vb] w fun e w' =>e = .returned (NI (CL a b))∧Ext w w' :=by
 refine gG (args:= [va,vb]) Tryz.func183 rfl 30 rfl rfl ?_;have hE:=Ext.refl w;refine gL (fun(ρ:Ad) (wz:AaS)=>∃i:Nat,ρ 0=(va:AaR)∧ρ 1=(vb:AaR)∧ρ 4=(NI 0:AaR)∧ρ 5=(NI i:AaR)∧Ext w wz∧(i≤a.length)∧(i≤b.length)∧(CL a b=i+CL (a.drop i) (b.drop i))∧True) (fun ρ _=>a.length-(intOf (ρ 5)).toNat) ⟨0,rfl,rfl,rfl,rfl,hE,Abs _,Abs _,by simp,trivial⟩ ?_;clear hE;rintro p v ⟨i,f,g,q,c,hE,hia,hib,hlc,-⟩;have q5:=c;by_cases h1:i<a.length
 ·by_cases h2:i<b.length
  ·by_cases h3:a.getD i 0=b.getD i 0
   ·refine CC [0,1,2,3,4,5,6,7,8,9,10,11,12,13,14,15,16,17,18,19,20] [] [] fun x r=> ?_;have hE:=hE.trans r;refine ys (XS F5 (XP (hra.keep hE) f) zz) (ys (XK (a:=(i:Nat)) (b:=(a.length:Nat)) c rfl (AL _ _ _ _) zz) (kT (h1) (ys (XS F5 (XP (hrb.keep hE) g) zz) (ys (XK (a:=(i:Nat)) (b:=(b.length:Nat)) c rfl (AL _ _ _ _) zz) (kT (h2) (ys (XR rfl rfl zz) (yA (X7 (l:=a) (i:=i) F5 PG (XP (hra.keep hE) f) c (h1) fun y k=>(ys (X0 u5 rfl (X6 k rfl) zz) (yA (X7 (l:=b) (i:=i) F5 PG (XP (hrb.keep hE) g) c (h2) fun z m=>(ys (X0 u5 rfl (X6 m rfl) zz) (ys (XK (a:=((a.getD (i) 0).toNat:Nat)) (b:=((b.getD (i) 0).toNat:Nat)) rfl rfl (AA _ _ _ _) zz) (kT (congrArg UInt8.toNat h3) (ys (XR rfl rfl zz) ?_)))))))))))))));clear k;clear m;refine cT rfl (gS (XL (xv:=NI i) (yv:=NI 1) c rfl rfl (Ai _ _ _ (by omega)) (gK (Aby ⟨i+1,f,g,q,rfl,hE,by omega,by omega,by rw[hlc,S9 h1 h2 h3];omega,trivial⟩ ?_))));show a.length-(intOf (NI ((i)+(1)))).toNat<a.length-(intOf (p 5)).toNat;rw[q5];simp only[intOf,Aba];omega
   have j:=Ww h1 h2 h3;refine CC [0,1,2,3,4,5,6,7,8,9,10,11,12,13,14,15,16,17,18,19,20] [] [] fun aa s=> ?_;have hE:=hE.trans s;refine ys (XS F5 (XP (hra.keep hE) f) zz) (ys (XK (a:=(i:Nat)) (b:=(a.length:Nat)) c rfl (AL _ _ _ _) zz) (kT (h1) (ys (XS F5 (XP (hrb.keep hE) g) zz) (ys (XK (a:=(i:Nat)) (b:=(b.length:Nat)) c rfl (AL _ _ _ _) zz) (kT (h2) (ys (XR rfl rfl zz) (yA (X7 (l:=a) (i:=i) F5 PG (XP (hra.keep hE) f) c (h1) fun ab n=>(ys (X0 u5 rfl (X6 n rfl) zz) (yA (X7 (l:=b) (i:=i) F5 PG (XP (hrb.keep hE) g) c (h2) fun ac o=>(ys (X0 u5 rfl (X6 o rfl) zz) (ys (XK (a:=((a.getD (i) 0).toNat:Nat)) (b:=((b.getD (i) 0).toNat:Nat)) rfl rfl (AA _ _ _ _) zz) (kF (fun h=>h3 (Aes.1 h)) (ys (XR rfl rfl zz) ?_)))))))))))))));clear n;clear o;refine cF rfl (Bn rfl c ?_);rw[hlc,j];exact⟨rfl,hE⟩
  have j:=Tb (a:=a) (i:=i) (b:=b) (by omega);refine CC [0,1,2,3,4,5,6,7,8,9,10,11,12,13,14,15,16,17,18,19,20] [] [] fun ad t=> ?_;have hE:=hE.trans t;refine ys (XS F5 (XP (hra.keep hE) f) zz) (ys (XK (a:=(i:Nat)) (b:=(a.length:Nat)) c rfl (AL _ _ _ _) zz) (kT (h1) (ys (XS F5 (XP (hrb.keep hE) g) zz) (ys (XK (a:=(i:Nat)) (b:=(b.length:Nat)) c rfl (AL _ _ _ _) zz) (kF (by omega) (ys (XR rfl rfl zz) (ys (XV rfl rfl zz) (cF rfl (Bn rfl c ?_)))))))));rw[hlc,j];exact⟨rfl,hE⟩
 have j:=Ta (a:=a) (i:=i) (b:=b) (by omega);refine CC [0,1,2,3,4,5,6,7,8,9,10,11,12,13,14,15,16,17,18,19,20] [] [] fun ae u=> ?_;have hE:=hE.trans u;refine ys (XS F5 (XP (hra.keep hE) f) zz) (ys (XK (a:=(i:Nat)) (b:=(a.length:Nat)) c rfl (AL _ _ _ _) zz) (kF (by omega) (ys (XV rfl rfl zz) (ys (XV rfl rfl zz) (cF rfl (Bn rfl c ?_))))));rw[hlc,j];exact⟨rfl,hE⟩
open Go.WideMaps (KeyLaw)
structure IX (w0 w : AaS) (b base : Nat) (I : AaZ) (G : List UInt8 → List Nat) : Prop where
  ext:Ext w0 w
  lo:w0.heap.size≤b
  hb:base≤w.heap.size
  idx:IdxAt w b base I G
structure IXO (w0 w : AaS) (b base : Nat) (I : AaZ) (G : List UInt8 → List Nat) (r : List UInt8) (v : AaR) (zs : List Nat) (st : Nat) : Prop where
  ext:Ext w0 w
  lo:w0.heap.size≤b
  hb:base≤w.heap.size
  opn:IdxOpen w b base I G r v zs st
section
variable {P : Abo} {K : AaR → AaS → Prop} {ρ : Ad} {w w' : AaS} {d : Option Tmp} {ty : AaZ} {pos : String} {af : Array AbP} {gd : Option (Nat × Bool)}
variable {w0 : AaS} {b base : Nat} {I : AaZ} {G : List UInt8 → List Nat} {r : List UInt8} {v : AaR} {zs : List Nat} {st : Nat}
theorem IX.keep(h:IX w0 w b base I G)(k:Ext w w'):IX w0 w' b base I G:=⟨h.ext.trans k,h.lo,AaV h.hb k.size,h.idx.keep k⟩
theorem Yk.makeMap{t:AaZ}(hk:∀b w',w.heap.size=b→IX w w' b (b+1) I (fun _=> [])→K (.map (some b)) w'):Yk P K ((execOp (Aa ρ) ⟨d, .makeMap t none,ty,pos,af,gd⟩).run P w):=by
  refine Yk.value (v:= .map (some w.heap.size)) (w' :=w.alloc (.map #[] 0)) ?_ (hk _ _ rfl ⟨(AbJ _ _).alloc (AaX _) _,AaX _,by simp,ZZ w⟩);unfold execOp;simp only[AcI,Aa7,run_makeMap,Aa3,Abb]
theorem Yk.entry{t Kt E:AaZ}(L:KeyLaw P Kt)(hkr:∀r:List UInt8,r.length=8→∃l,keyOf P Kt (rk r)=some l)(ht:P.underlying t=some (.map Kt E))(hz:∀u:AaS,(zeroValue E).run P u = .ok (.slice none 0 0) u){x y:Aa5} 
    (hm:Aa ρ x = .map (some b)) (hy:Aa ρ y=rk r) (h:IX w0 w b base I G) (hr:r.length=8) (hk:∀v st w1,IXO w0 w1 b base I G r v (G r) st→w.grownBy w1 (some b)→K (.tuple #[v,NI st]) w1):
    Yk P K ((execOp (Aa ρ) ⟨d, .mapEntry t x y,ty,pos,af,gd⟩).run P w):=by
  obtain⟨v,st,w1,hrun,hg,hs,ho⟩:=h.idx.entry L hkr ht hz hr;refine Yk.value (v:= .tuple #[v,NI st]) (w' :=w1) ?_ (hk v st w1 ⟨Aep h.ext hg h.ext.size (fun k hk=>by cases hk;exact h.lo),h.lo,by rw[hs];exact h.hb,ho⟩ hg);unfold execOp;simp only[hm,hy,Aa7,hrun,Aa3,Abb];rfl
theorem Yk.entryStore{t:AaZ}{x s y:Aa5}(hm:Aa ρ x = .map (some b))(hs:Aa ρ s=NI st)(hy:Aa ρ y=v)(h:IXO w0 w b base I G r v zs st)(hne:zs≠ [])(hk:∀w1,IX w0 w1 b base I (updG G r zs)→K undef w1):
    Yk P K ((execOp (Aa ρ) ⟨d, .entryStore t x s y,ty,pos,af,gd⟩).run P w):=by
  obtain⟨w1,hrun,hg,hsz,ho⟩:=h.opn.store (P:=P) (t:=t) hne;have hrun' :(AfW t (.map (some b)) (NI st) v).run P w = .ok () w1:=hrun;have hK:=hk w1 ⟨Aep h.ext hg h.ext.size (fun k hk=>by cases hk;exact h.lo),h.lo,by rw[hsz];exact h.hb,ho⟩;unfold execOp;simp only[hm,hs,hy,Aa7,hrun',Aa3,Abb];exact hK
theorem IXO.own(h:IXO w0 w b base I G r v zs st):w.ownsRow base I 1 v zs.length (zs.map NI):=h.opn.2.2.1
theorem IXO.grew{v' :AaR}{zs' :List Nat}(h:IXO w0 w b base I G r v zs st)(gr:Grew w w' v v')(ho:w'.ownsRow base I 1 v' zs'.length (zs'.map NI)):IXO w0 w' b base I G r v' zs' st:=
  ⟨Aep h.ext gr.by_ h.ext.size (fun k hk=>AaV h.lo (AaV (Nat.le_of_lt h.opn.1) (h.own.lt k hk).1)),h.lo,AaV h.hb gr.by_.size,h.opn.grew gr ho⟩
theorem ZB{t e:AaZ}{n:Nat}(ht:P.underlying t=some (.array n e)){x:Aa5}{l:List UInt8}(h:RB w (Aa ρ x) l)(hl:l.length=n)(hn:0<n)(hk:∀g o,w.rangeAt g o (AaT l)→K (.pointer (some ⟨g,o,none⟩)) w):
    Yk P K ((execOp (Aa ρ) ⟨d, .sliceToArrayPointer t x,ty,pos,af,gd⟩).run P w):=by
  obtain⟨g,o,cap,hv,h1,h2,h3,h4⟩:=h.open_ (by omega);refine Yk.value (v:= .pointer (some ⟨g,o,none⟩)) (w' :=w) ?_ (hk g o fun j v hj=> ?_)
  · unfold execOp;simp only[hv,Instr.arrayAt,Aa7,run_underlying ht,Aa3];rw[if_neg (by omega)];rfl
  · have hj' :j<l.length:=by simpa [AaT] using (Abn.1 hj).1
    rw[h4 j hj',←hj];simp[AaT,hj',AeY]
theorem Yk.look{t Kt E:AaZ}(L:KeyLaw P Kt)(hkr:∀r:List UInt8,r.length=8→∃l,keyOf P Kt (rk r)=some l)(ht:P.underlying t=some (.map Kt E))(hz:∀u:AaS,(zeroValue E).run P u = .ok (.slice none 0 0) u){x y:Aa5} 
    (hm:Aa ρ x = .map (some b)) (hy:Aa ρ y=rk r) (h:IdxAt w b base I G) (hr:r.length=8) (hk:∀v,w.ownsRow base I 1 v (G r).length ((G r).map NI)→K v w):
    Yk P K ((execOp (Aa ρ) ⟨d, .lookup t x y false,ty,pos,af,gd⟩).run P w):=by
  obtain⟨v,hrun,ho⟩:=h.look L hkr ht hz hr;refine Yk.value (v:=v) (w' :=w) ?_ (hk v ho);unfold execOp;simp only[hm,hy,Aa7,hrun,Aa3,Abb]
end
def posOf(l:List UInt8)(k:Nat)(r:List UInt8):List Nat:=(Ab6 k).filter fun j=>(l.drop j).take 8==r
theorem Rw(l:List UInt8)(k:Nat):updG (posOf l k) ((l.drop k).take 8) (posOf l k ((l.drop k).take 8)++ [k])=posOf l (k+1):=by
  funext s
  unfold updG posOf;rw[List.range_succ,AeB];by_cases h:s=(l.drop k).take 8
  · subst h;rw[if_pos rfl];simp
  · rw[if_neg h];have:((l.drop k).take 8==s)=false:=by simpa using fun e=>h e.symm
    simp[this]
theorem PT(l:List UInt8):posOf l 0=fun _=> []:=by
  funext s
  rfl
theorem posOf_length(l:List UInt8)(k:Nat)(r:List UInt8):(posOf l k r).length≤k:=by
  have:=AcH (fun j=>(l.drop j).take 8==r) (Ab6 k);rw[List.length_range]at this;exact this
theorem Rx:KeyLaw AaU 273:=deep_law_laid (by kernel_rfl) (m:=3) (by decide) (of_decide_eq_true (by kernel_rfl)) (by kernel_rfl) (by kernel_rfl)
theorem Ry:∀r:List UInt8,r.length=8→∃l,keyOf AaU 273 (rk r)=some l:=fun _ h=>
  Ly (n:=8) (e:=5) Tryz.underlying273 AdJ (by kernel_rfl) (by kernel_rfl) (by kernel_rfl) (of_decide_eq_true (by kernel_rfl)) h
theorem M8:∀u:AaS,(zeroValue 22).run AaU u = .ok (.slice none 0 0) u:=fun _=>by kernel_rfl
theorem W6:(Tryz.prog.info? 3).map (fun i=>(i.zero,i.size,i.bytes))=some (some (.int .i64 0),1,8):=by kernel_rfl
theorem GM:(Tryz.prog.info? 273).map (·.size)=some 8:=by kernel_rfl
theorem Hp:Tryz.prog.underlying 273=some (.array 8 5):=by kernel_rfl
theorem PU{d:Option Tmp}{ty:AaZ}{pos:String}{af:Array AbP}{gd:Option (Nat × Bool)}(σ:Aa5→AaR)(w:AaS):(execOp σ ⟨d, .alloc 273,ty,pos,af,gd⟩).run AaU w = .ok (.value (PQ w.heap.size 0)) (w.alloc (.cells (AaT (Aa4 8 0)).toArray 273)):=by kernel_rfl
theorem PV(z:Int)(w:AaS):(Abz 22 1 #[(0, .int .i64 z)]).run AaU w = .ok (.slice (some ⟨w.heap.size,0,none⟩) 1 1) (w.alloc (.cells #[.int .i64 z] 3)):=by kernel_rfl
theorem AaG{P:Abo}{K:AaR→AaS→Prop}{ρ:Ad}{w:AaS}{d:Option Tmp}{ty:AaZ}{pos:String}{af:Array AbP}{gd:Option (Nat × Bool)}{t e:AaZ}{x:Aa5}{z:Nat}(hx:Aa ρ x=NI z)(hr:∀w:AaS,(Abz t 1 #[(0, .int .i64 z)]).run P w = .ok (.slice (some ⟨w.heap.size,0,none⟩) 1 1) (w.alloc (.cells #[.int .i64 z] e)))(hk:∀b w',w.heap.size=b→w'.heap[b]? =some (.cells #[.int .i64 z] e (0,0))→Ext w w' →w'.heap.size=b+1→K (.slice (some ⟨b,0,none⟩) 1 1) w'):Yk P K ((execOp (Aa ρ) ⟨d, .buildSlice t 1 #[(0,x)],ty,pos,af,gd⟩).run P w):=AaC (cs:= #[.int .i64 z]) (fun w=>(by simp only[Abx,Abv,AbG,hx]:_=_).trans (hr w)) hk
theorem PW:Tryz.prog.underlying 270=some (.map 273 22):=by kernel_rfl
theorem LA:Tryz.prog.underlying 22=some (.slice 3):=by kernel_rfl
theorem Rz(w:AaS)(v:AaR)(l:List UInt8)(hr:RB w v l)(hl:l.length≤1048576):
  Calls AaU 181 #[v] w fun e w' =>∃b base,e = .returned (.map (some b))∧IX w w' b base 3 (posOf l (l.length-7)):=by
 refine gG (args:= [v]) Tryz.func181 rfl 30 rfl rfl ?_;have hE:=Ext.refl w;refine gS (Yk.makeMap (I:=3) fun h w4 an hX6=> ?_);have hX6:=(PT l)▸hX6;have hE:=hX6.ext;refine gL (fun(ρ:Ad) (wz:AaS)=>∃i:Nat,ρ 0=(v:AaR)∧ρ 2=((Value.map none):AaR)∧ρ 3=(.map (some h):AaR)∧ρ 4=(NI i:AaR)∧Ext w wz∧IX w wz h (h+1) 3 (posOf l i)∧(i≤l.length-7)∧True) (fun ρ _=>l.length-(intOf (ρ 4)).toNat) ⟨0,rfl,rfl,rfl,rfl,hE,hX6,Abs _,trivial⟩ ?_;clear hX6;clear hE;rintro x y ⟨i,m,T2,k,g,hE,hXi,hil,-⟩;have q4:=g;refine gS (XL (xv:=NI i) (yv:=NI 8) g rfl rfl (Ai _ _ _ (by omega)) (gS (XS F5 (XP (hr.keep hE) m) (gS (XK (a:=((i)+(8):Nat)) (b:=(l.length:Nat)) rfl rfl (Dw _ _ _ _) ?_)))));refine cD rfl (fun h8=> ?_) fun h8=> ?_
 ·have hrl:((l.drop i).take (i+8-i)).length=8:=by rw[Abg,Abf];omega
  have hrl8:((l.drop i).take 8).length=8:=by rw[Abg,Abf];omega
  refine gS (XL (xv:=NI i) (yv:=NI 8) g rfl rfl (Ai _ _ _ (by omega)) (gS (YI (xs:=l) (l:=i) (n:=(i)+(8)) F5 PG m (hr.keep hE) g rfl (by omega) (by omega) fun ao ab ha17=>(gS (ZB Hp (XP ab rfl) (l:=(l.drop (i)).take (((i)+(8))-(i))) (n:=8) (by rw[Abg,Abf];omega) (by decide) fun ap aq ac=>(gS (Yf rfl ac Hp rfl (by rw[Aa8,hrl];exact GM) (gS (Yk.alloc PU fun o ad ar r ae au=> ?_)))))))));have c:=Ext.refl y;have av:=hE.size;have f:=r;clear r;have aw:o<ad.heap.size:=by omega
  refine gS (XN (vr (PQ o 0) rfl) (vr (AB ((l.drop (i)).take (((i)+(8))-(i)))) rfl) f (by simp only[Abe,Aa8,hrl];rfl) (by simp only[Abe,Aa8,hrl];exact GM) (Af _) fun af s ag ax=> ?_);clear f;have f:=s;clear s;have ay:=bl f;have f:af.heap[o]? =some (.cells (AaT ((l.drop i).take 8)).toArray 273 (0,0)):=AV f (by rw[show i+8-i=8 by omega]);refine gS (XO rfl f Hp rfl (by simp only[Abe,Aa8,hrl8];exact GM) (gS (AaG (z:=i) g (fun w=>PV _ w) fun p az a0 ah ai a1=> ?_)));have hb1i:=ah;have c:=c.trans ae;have c:=Ab c ag (AaV (AaX _) (by omega));have c:=c.trans ai;refine gS (Yk.entry Rx Ry PW M8 k rfl (hXi.keep c) hrl8 fun q t a2 hX46 aj=> ?_);have hE:=hE.trans c;have hE:=hX46.ext;clear f;have hb1i:=(Eq.trans (aj.block p (bl hb1i) (by have h1:=hXi.idx.lt;simp;omega)) hb1i);refine gS (Yk.extract (vs:= [q,NI t]) rfl rfl (gS (Yk.append _ _ (h+1) 3 (.int .i64 0) 1 8 LA W6 rfl (posOf l i ((l.drop i).take 8)).length ((posOf l i ((l.drop i).take 8)).map NI) (CV hX46.own (vr q rfl)) 1 [NI i] (show Src _ _ _ _ _ _ _ from by rw[(vr (.slice (some ⟨p,0,none⟩) 1 1) rfl)];exact(Afp _ LA ⟨p,0,none⟩ 1 1 [NI i] rfl (fun j u hu=>by rw[Ack,Ab9];exact cellAt (l:= [NI i]) hb1i hu) (fun u hu=>by rw[Aa6.1 hu];rfl))) (by have:=posOf_length l i ((l.drop i).take 8);unfold maxLen;omega) (by have:=posOf_length l i ((l.drop i).take 8);omega) hX46.hb fun a3 a4 ak al=> ?_)));have hX52:=IXO.grew (zs' :=posOf l i ((l.drop i).take 8)++ [i]) hX46 al (by rw[AaY,Acj];exact ak);have hE:=hX52.ext;clear hX46;refine gS (Yk.extract (vs:= [q,NI t]) rfl rfl (gS (Yk.entryStore k rfl rfl hX52 (by simp) fun a5 hX54=> ?_)));have hX54:=(Rw l i)▸hX54;have hE:=hX54.ext;clear hX52;refine gS (XL (xv:=NI i) (yv:=NI 1) g rfl rfl (Ai _ _ _ (by omega)) (gK (Aby ⟨i+1,m,T2,k,rfl,hE,hX54,by omega,trivial⟩ ?_)));show l.length-(intOf (NI ((i)+(1)))).toNat<l.length-(intOf (x 4)).toNat;rw[q4];simp only[intOf,Aba];omega
 have hik:i=l.length-7:=by omega
 refine Bn rfl k ?_;rw[hik]at hXi;exact⟨_,_,rfl,hXi⟩
structure MKD (w0 wI w : AaS) (lo g3 g5 g7 : Nat) (vt vc v : AaR) (o : List UInt8) (fr : Nat) : Prop where
  ext:Ext w0 w
  b3:w.heap[g3]? =some (.cells #[vt] 27 (0,0))
  b5:w.heap[g5]? =some (.cells #[vc] 27 (0,0))
  b7:w.heap[g7]? =some (.cells #[NI fr] 3 (0,0))
  own:w.ownsRow w0.heap.size 5 1 v o.length (AaT o)
  fz:∀k,lo≤k→k<wI.heap.size→w.heap[k]? =wI.heap[k]?
  apz:∀k,v.ownBlock=some k→k<lo∨wI.heap.size≤k
  l3:w0.heap.size≤g3
  l5:w0.heap.size≤g5
  l7:w0.heap.size≤g7
  o3:g3<lo
  o5:g5<lo
  o35:g3≠g5
  o7:wI.heap.size≤g7
  oi:lo≤wI.heap.size
  os:wI.heap.size≤w.heap.size
theorem E7{w:AaS}{b:Nat}{e t:AaZ}{z n g:Nat}{v:AaR}{xs:List AaR}{cs:Array AaR}{fr:Nat × Nat}(ho:w.ownsRow b e z v n xs)(hb:w.heap[g]? =some (.cells cs t fr))(hne:e≠t):v.ownBlock≠some g:=fun h=>by
  rcases ho.2 with ⟨rfl,_⟩ | ⟨g',cap,cur,rfl,_,hg,_⟩
  · cases h
  · have:g' =g:=by simpa [Aa1] using h
    subst this;rw[hg]at hb;simp only[AcA,Obj.cells.injEq]at hb;exact hne hb.2.1
section
variable {w0 wI w w' : AaS} {lo g3 g5 g7 : Nat} {vt vc v : AaR} {o : List UInt8} {fr : Nat}
theorem MKD.keep(h:MKD w0 wI w lo g3 g5 g7 vt vc v o fr)(k:Ext w w'):MKD w0 wI w' lo g3 g5 g7 vt vc v o fr:=
  ⟨h.ext.trans k,Ext.blk' k h.b3,Ext.blk' k h.b5,Ext.blk' k h.b7,Stab.own _ _ _ _ _ _ _ _ h.own k,fun i h1 h2=>(k.block i (AbL h2 h.os)).trans (h.fz i h1 h2),h.apz,h.l3,h.l5,h.l7,h.o3,h.o5,h.o35,h.o7,h.oi,AaV h.os k.size⟩
theorem MKD.grew{v' :AaR}{o' :List UInt8}(h:MKD w0 wI w lo g3 g5 g7 vt vc v o fr)(gr:Grew w w' v v')(ho:w'.ownsRow w0.heap.size 5 1 v' o'.length (AaT o')):MKD w0 wI w' lo g3 g5 g7 vt vc v' o' fr:=
  ⟨Av h.ext gr h.own (AaX _),Aq h.b3 gr (E7 h.own h.b3 (by decide)),Aq h.b5 gr (E7 h.own h.b5 (by decide)),Aq h.b7 gr (E7 h.own h.b7 (by decide)),ho,
    fun i h1 h2=>(gr.by_.block i (AbL h2 h.os) (fun e=>by rcases h.apz i e.symm with h3 | h3 <;> omega)).trans (h.fz i h1 h2),
    fun k hk=>(gr.fresh k hk).elim (h.apz k) (fun h3=> .inr (AaV h.os h3)),h.l3,h.l5,h.l7,h.o3,h.o5,h.o35,h.o7,h.oi,AaV h.os gr.by_.size⟩
theorem Y1(h:MKD w0 wI w lo g3 g5 g7 vt vc v o fr)(hb:w'.heap[g5]? =some (.cells #[v] 27 (0,0)))(hg:w.grownBy w' (some g5)):MKD w0 wI w' lo g3 g5 g7 vt v v o fr:=
  have lt:=fun {k:Nat} {x:Obj} (hx:w.heap[k]? =some x)=>(Abm.1 hx).1;have h57:g7≠g5:=by have:=h.o5;have:=h.o7;have:=h.oi;omega
  ⟨Aep h.ext hg h.ext.size (fun k hk=>by cases hk;exact h.l5),(hg.block g3 (lt h.b3) (by simp[h.o35])).trans h.b3,hb,(hg.block g7 (lt h.b7) (by simp[h57])).trans h.b7,
    BI h.own hg (E7 h.own h.b5 (by decide)),fun i h1 h2=>(hg.block i (AbL h2 h.os) (fun e=>by cases e;have:=h.o5;omega)).trans (h.fz i h1 h2),h.apz,h.l3,h.l5,h.l7,h.o3,h.o5,h.o35,h.o7,h.oi,AaV h.os hg.size⟩
theorem ZC{n:Nat}(h:MKD w0 wI w lo g3 g5 g7 vt vc v o fr)(hb:w'.heap[g7]? =some (.cells #[NI n] 3 (0,0)))(hg:w.grownBy w' (some g7)):MKD w0 wI w' lo g3 g5 g7 vt vc v o n:=
  have lt:=fun {k:Nat} {x:Obj} (hx:w.heap[k]? =some x)=>(Abm.1 hx).1;have h57:g5≠g7:=by have:=h.o5;have:=h.o7;have:=h.oi;omega
  have h37:g3≠g7:=by have:=h.o3;have:=h.o7;have:=h.oi;omega
  ⟨Aep h.ext hg h.ext.size (fun k hk=>by cases hk;exact h.l7),(hg.block g3 (lt h.b3) (by simp[h37])).trans h.b3,(hg.block g5 (lt h.b5) (by simp[h57])).trans h.b5,hb,
    BI h.own hg (E7 h.own h.b7 (by decide)),fun i h1 h2=>(hg.block i (AbL h2 h.os) (fun e=>by cases e;have:=h.o7;omega)).trans (h.fz i h1 h2),h.apz,h.l3,h.l5,h.l7,h.o3,h.o5,h.o35,h.o7,h.oi,AaV h.os hg.size⟩
theorem MKD.idx{b base:Nat}{I:AaZ}{G:List UInt8→List Nat}(h:MKD w0 wI w lo g3 g5 g7 vt vc v o fr)(hI:IdxAt wI b base I G)(hb:lo≤b):IdxAt w b base I G:=by
  obtain⟨h1,es,c,h2,h3⟩:=hI;refine⟨h1,es,c,(h.fz b hb (Abm.1 h2).1).trans h2,h3.born,h3.nodup,h3.keys,fun e he=> ?_,h3.all,h3.apart⟩;obtain⟨q,k1,k2,k3,k4⟩:=h3.ent e he;refine⟨q,k1,k2,k3,k4.1,?_⟩;rcases k4.2 with h5 | ⟨g,cap,cur,a,hbg,hg,r⟩
  · exact .inl h5
  · exact .inr ⟨g,cap,cur,a,hbg,(h.fz g (by omega) (Abm.1 hg).1).trans hg,r⟩
end
def Cj(T:List UInt8)(fr to:Nat)(o:List UInt8):List UInt8:=if fr<to then o++Abd (2*(to-fr))++(T.drop fr).take (to-fr)else o
theorem Kh:(Tryz.prog.info? 27).map (·.size)=some 1:=by kernel_rfl
theorem PX:Plain AaU 180:=fun _ _=>by kernel_rfl
theorem Ih(w0 wI w:AaS)(lo g3 g5 g7:Nat)(vt v:AaR)(o T:List UInt8)(fr to:Nat)(hM:MKD w0 wI w lo g3 g5 g7 vt v v o fr)(hT:RB w0 vt T)(hto:to≤T.length)(hfr:fr≤T.length)(hTl:T.length≤1048576)(hol:o.length≤1073741824):
  Calls AaU 182 #[NI to,PQ g7 0,PQ g5 0,PQ g3 0] w fun e w' =>e = .returned (.tuple #[])∧∃v',MKD w0 wI w' lo g3 g5 g7 vt v' v' (Cj T fr to o) fr:=by
 have av:w.heap[g3]? =some (.cells ([vt]:List AaR).toArray 27 (0,0)):=hM.b3;have u:w.heap[g5]? =some (.cells ([v]:List AaR).toArray 27 (0,0)):=hM.b5;have q:w.heap[g7]? =some (.cells ([NI (fr)]:List AaR).toArray 3 (0,0)):=hM.b7;have aw:=hT.keep hM.ext;refine gG (args:= [NI to,PQ g7 0,PQ g5 0,PQ g3 0]) Tryz.func182 rfl 20 rfl rfl (gS (XJ Tc rfl rfl (cellAt q rfl) (gS (XK (a:=(to:Nat)) (b:=(fr:Nat)) rfl rfl (Bj _ _ _ _) ?_))));refine cD rfl (fun hc=> ?_) fun hc=> ?_
 ·have ax:=Bg (2*(to-fr)) (by omega);refine gS (XJ F5 rfl rfl (cellAt u rfl) (gS (XJ Tc rfl rfl (cellAt q rfl) (gS (XL (xv:=NI to) (yv:=NI fr) rfl rfl rfl (BJ _ _ _ (by omega) (by omega)) (gS (XL (xv:=NI 2) (yv:=NI ((to)-(fr))) rfl rfl rfl (Ci _ _ _ (by omega)) (gS (XM PX rfl rfl ((Ds _ w0.heap.size v (o) hM.own hM.ext.size ((2)*((to)-(fr))) (by omega) (by omega)).mono ?_))))))))));rintro e g ⟨c,rfl,y,z⟩;refine⟨_,rfl,?_⟩;have hM10:=MKD.grew hM z y;clear hM;have ay:g.heap[g3]? =some (.cells ([vt]:List AaR).toArray 27 (0,0)):=hM10.b3;have az:g.heap[g5]? =some (.cells ([v]:List AaR).toArray 27 (0,0)):=hM10.b5;have a0:g.heap[g7]? =some (.cells ([NI (fr)]:List AaR).toArray 3 (0,0)):=hM10.b7;have a1:=hT.keep hM10.ext;refine gS (XY (i:=0) (v:=c) rfl rfl hM10.b5 (Aa9 rfl) Kh (B7 hM10.own).1 (B7 hM10.own).2 fun j aa ab a2=> ?_);have hM20:=Y1 hM10 aa ab;clear hM10;have ac:j.heap[g3]? =some (.cells ([vt]:List AaR).toArray 27 (0,0)):=hM20.b3;have ad:j.heap[g5]? =some (.cells ([c]:List AaR).toArray 27 (0,0)):=hM20.b5;have ae:j.heap[g7]? =some (.cells ([NI (fr)]:List AaR).toArray 3 (0,0)):=hM20.b7;have af:=hT.keep hM20.ext;refine gR ?_;refine Ml 5 _ [4] [Is (c),Is (vt),Is (NI fr),Is (NI to),fun x w' =>RB w' x ((T.drop (fr)).take ((to)-(fr))),fun x w' =>MKD w0 wI w' lo g3 g5 g7 vt c x ((o++Abd ((2)*((to)-(fr))))++(T.drop (fr)).take ((to)-(fr))) (fr)] (by kernel_rfl) [14,15,16,17,18,19] (by kernel_rfl) (by kernel_rfl) (by kernel_rfl) (by kernel_rfl) (by kernel_rfl) rfl rfl rfl rfl (Wq ⟨(fun _ _ _ h k=>RB.keep h k),trivial⟩) ⟨.inr (XT _), .inr (XT _), .inr (XT _), .inr (XT _), .inl rfl,trivial⟩ ?ag ?hQ1002
  case ag=>
   refine⟨?_,?_,?_,?_,?_,?_,?_,trivial⟩
   ·refine Dy (Aj rfl fun σ w1 hC h=> ?_);have e2:σ 2=PQ g5 0:=(AI (h 2 (by decide))).trans rfl;exact XJ F5 rfl e2 (cellAt (eb hC ad) (show _=some (c:AaR)from rfl)) ⟨Ext.refl _,rfl⟩
   ·refine Dy (Aj rfl fun σ w1 hC h=> ?_);have e3:σ 3=PQ g3 0:=(AI (h 3 (by decide))).trans rfl;exact XJ F5 rfl e3 (cellAt (eb hC ac) (show _=some (vt:AaR)from rfl)) ⟨Ext.refl _,rfl⟩
   ·refine Dy (Aj rfl fun σ w1 hC h=> ?_);have e1:σ 1=PQ g7 0:=(AI (h 1 (by decide))).trans rfl;exact XJ Tc rfl e1 (cellAt (eb hC ae) (show _=some (NI fr:AaR)from rfl)) ⟨Ext.refl _,rfl⟩
   ·refine Dy (Aj rfl fun σ w1 hC h=> ?_);have e0:σ 0=NI to:=(AI (h 0 (by decide))).trans rfl;exact Yk.move e0 ⟨Ext.refl _,rfl⟩
   ·refine Dy (Aj rfl fun σ w1 hC h=> ?_);have al:=AI (h 15 (by decide));have am:=AI (h 16 (by decide));have an:=AI (h 17 (by decide));exact YI (xs:=T) (l:=fr) (n:=to) F5 PG rfl (XP (af.keep hC) al) am an (by omega) (by omega) fun v hr _=>⟨Ext.refl _,hr⟩
   ·refine Dy (Aj rfl fun σ w1 hC h=> ?_);have r:=AI (h 14 (by decide));have ao:(fun x w' =>RB w' x ((T.drop (fr)).take ((to)-(fr)))) (σ 18) w1:=h 18 (by decide);have hM1:=hM20.keep hC;exact Ya _ _ w0.heap.size (.int .u8 0) F5 MA rfl F5 (o++Abd ((2)*((to)-(fr)))) ((T.drop (fr)).take ((to)-(fr))) (CV hM1.own r) ao (by simp only[AaY,Abg,Abf];omega) hM1.ext.size fun x w2 ho hg=>⟨trivial,MKD.grew hM1 (r▸hg) ho⟩
   ·exact trivial
  intro s ap he hf;obtain⟨-,-,-,-,-,k19,-⟩:=hf;obtain⟨T0,T1,T2,T3,-⟩:=he.hold [(0,NI to),(1,PQ g7 0),(2,PQ g5 0),(3,PQ g3 0)] ⟨rfl,rfl,rfl,rfl,trivial⟩ rfl;clear he;have k19:(fun x w' =>MKD w0 wI w' lo g3 g5 g7 vt c x ((o++Abd ((2)*((to)-(fr))))++(T.drop (fr)).take ((to)-(fr))) (fr)) (s 19) ap:=k19;obtain⟨m,t⟩:∃v,s 19=v:=⟨_,rfl⟩;rw[t]at k19;have f:=k19;clear k19;refine(XY (i:=0) (v:=m) T2 t f.b5 (Aa9 rfl) Kh (B7 f.own).1 (B7 f.own).2 fun p ar au a6=> ?_);have hM34:=Y1 f ar au;clear f;have a7:p.heap[g3]? =some (.cells ([vt]:List AaR).toArray 27 (0,0)):=hM34.b3;have a8:p.heap[g5]? =some (.cells ([m]:List AaR).toArray 27 (0,0)):=hM34.b5;have a9:p.heap[g7]? =some (.cells ([NI (fr)]:List AaR).toArray 3 (0,0)):=hM34.b7;have ba:=hT.keep hM34.ext;refine gX (rt0 rfl ?_);refine⟨rfl,m,?_⟩;rw[Cj,if_pos hc];exact hM34
 refine rt0 rfl ?_;refine⟨rfl,v,?_⟩;rw[Cj,if_neg (by omega)];exact hM
section
variable {P : Abo} {K : AaR → AaS → Prop} {ρ : Ad} {w : AaS} {d : Option Tmp} {ty : AaZ} {pos : String} {af : Array AbP} {gd : Option (Nat × Bool)}
theorem Aak{t e c:AaZ}(ht:P.underlying t=some (.slice c)){x:Aa5}{b z n:Nat}{xs:List AaR}(h:w.ownsRow b e z (Aa ρ x) n xs)(hk:K (NI n) w):Yk P K ((execOp (Aa ρ) ⟨d, .call ⟨.builtin .len,#[x],#[t]⟩,ty,pos,af,gd⟩).run P w):=by
  rcases h.2 with ⟨a,h0⟩ | ⟨g,cap,cur,a,-⟩
  · subst h0;exact YO ht a hk
  · exact YO ht a hk
theorem Aaw{t e c:AaZ}(ht:P.underlying t=some (.slice c))(he:∀w' :AaS,(sizeOf c).run P w' = .ok 1 w'){x y:Aa5}{b:Nat}{xs:List AaR}(h:w.ownsRow b e 1 (Aa ρ x) xs.length xs){k:AbU}{i:Nat}(hy:Aa ρ y = .int k (i:Int))(hi:i<xs.length) 
    (hk:∀v,PCell (xs.getD i undef) v w→K v w):Yk P K ((execOp (Aa ρ) ⟨d, .indexAddr t x y,ty,pos,af,gd⟩).run P w):=by
  rcases h.2 with ⟨a,h0⟩ | ⟨g,cap,cur,a,-⟩
  · omega
  · have hc:=h.cells (g:=g) (by rw[a];rfl) i (xs.getD i undef) (by simp[hi]);rw[Ack]at hc;exact YY ht he a hy hi (hk _ ⟨_,rfl,hc⟩)
end
def Ej(B T:List UInt8)(i:Nat)(pn:Nat × Nat)(q:Nat):Nat × Nat:=if pn.2<CL (B.drop q) (T.drop i)then(q,CL (B.drop q) (T.drop i))else pn
def BR(B T:List UInt8)(i:Nat):Nat × Nat:=if i+8≤T.length then(posOf B (B.length-7) ((T.drop i).take 8)).foldl (Ej B T i) (0,0)else(0,0)
def C6(B T:List UInt8):Nat→Nat→Nat→List UInt8→List UInt8
  | 0,_,fr,o=>Cj T fr T.length o
  | f+1,i,fr,o=>if i<T.length then(if(BR B T i).2=0 then C6 B T f (i+1) fr o
      else C6 B T f (i+(BR B T i).2) (i+(BR B T i).2) (Cj T fr i o++Abd (2*(BR B T i).2+1)++Abd (BR B T i).1))else Cj T fr T.length o
def BU(B T:List UInt8):List UInt8:=C6 B T T.length 0 0 (Abd B.length++Abd T.length)
theorem EB(T:List UInt8)(fr to:Nat)(o:List UInt8)(ht:to≤1048576):(Cj T fr to o).length≤o.length+(to-fr)+9:=by
  unfold Cj;split
  · have:=Bg (2*(to-fr)) (by omega);simp only[AaY,Abg,Abf];omega
  · omega
theorem Gu{α:Type}(f:α→Nat→α)(a:α)(zs:List Nat)(j:Nat)(h:j<zs.length):(zs.take (j+1)).foldl f a=f ((zs.take j).foldl f a) (zs.getD j 0):=by
  rw[Abu h,List.foldl_append];simp[h]
theorem Vk(zs:List Nat)(j:Nat)(h:j<zs.length):(zs.map NI).getD j undef=NI (zs.getD j 0):=by simp[h]
theorem PY{B T:List UInt8}{f i fr:Nat}{o:List UInt8}(h:¬i<T.length):C6 B T f i fr o=Cj T fr T.length o:=by
  cases f with
  | zero=>rfl
  | succ f=>rw[C6,if_neg h]
theorem Ti{B:List UInt8}{k:Nat}{r:List UInt8}{j:Nat}(h:j<(posOf B k r).length):(posOf B k r).getD j 0<k:=by
  have hm:(posOf B k r).getD j 0∈posOf B k r:=by
    rw[AaW,Aa2 h];exact Acp h
  unfold posOf at hm;rw[Acw,AeI]at hm;exact hm.1
theorem RA{d:Option Tmp}{ty:AaZ}{pos:String}{af:Array AbP}{gd:Option (Nat × Bool)}(σ:Aa5→AaR)(w:AaS):(execOp σ ⟨d, .alloc 27,ty,pos,af,gd⟩).run AaU w = .ok (.value (PQ w.heap.size 0)) (w.alloc (.cells ([.slice none 0 0]:List AaR).toArray 27)):=by kernel_rfl
theorem PZ:Plain AaU 181:=fun _ _=>by kernel_rfl
theorem Tj{d:Option Tmp}{ty:AaZ}{pos:String}{af:Array AbP}{gd:Option (Nat × Bool)}(σ:Aa5→AaR)(w:AaS):(execOp σ ⟨d, .alloc 3,ty,pos,af,gd⟩).run AaU w = .ok (.value (PQ w.heap.size 0)) (w.alloc (.cells ([NI 0]).toArray 3)):=by kernel_rfl
theorem P0:Plain AaU 183:=fun _ _=>by kernel_rfl
theorem Hq:Plain AaU 182:=fun _ _=>by kernel_rfl
theorem Tk(w:AaS)(vb q:AaR)(B T:List UInt8)(hrb:RB w vb B)(hrt:RB w q T)(hB:B.length≤1048576)(hTl:T.length≤1048576):
  Calls AaU 145 #[vb,q] w fun e w' =>∃v',e = .returned v' ∧Ext w w' ∧w'.ownsRow w.heap.size 5 1 v' (BU B T).length (AaT (BU B T)):=by
 refine gG (args:= [vb,q]) Tryz.func145 rfl 83 rfl rfl ?_;have hE:=Ext.refl w;refine gS (Yz (vr q rfl) (RB.one (hrt.keep hE)).1 fun c u dq ac b9 dr=> ?_);have ap:=ac;clear ac;have ds:c<u.heap.size:=by omega
 have ak:=Ext.refl u;have hE:=hE.trans b9;have ca:=hE.size;have hAS:=ak;refine gR ?_;have dt:c<u.heap.size:=(bl ap);refine Mm 5 7 _ [2] (fun a b=>Below u.heap.size a b∧∀(g:Nat) (cs:Array AaR),a.heap[g]? =some (.cells cs 27 (0,0))→b.heap[g]? =some (.cells cs 27 (0,0))) [Is (vb),Is (NI B.length),fun x w' =>w'.ownsRow u.heap.size 5 1 x (([]:List UInt8)++Abd B.length).length (AaT (([]:List UInt8)++Abd B.length)),Is (q),Is (NI T.length),fun x w' =>w'.ownsRow u.heap.size 5 1 x (([]++Abd B.length)++Abd T.length).length (AaT (([]++Abd B.length)++Abd T.length)),fun x w' =>∃g:Nat,x=PQ g 0∧u.heap.size≤g∧w'.heap[g]? =some (.cells #[.slice none 0 0] 27 (0,0))] (by kernel_rfl) [15,16,17,18,19,20,5] (by kernel_rfl) (by kernel_rfl) (by kernel_rfl) (by kernel_rfl) rfl rfl rfl (by decide) rfl (Ls ⟨(fun _ _ _ h k=>Stab.own _ _ _ _ _ _ _ _ h k),(Ls ⟨(fun _ _ _ h k=>Stab.own _ _ _ _ _ _ _ _ h k),(fun _ _ _ ⟨g,h1,h2,h3⟩ k=>⟨g,h1,h2,eb k h3⟩),trivial⟩)⟩) ⟨.inr (XT _), .inr (XT _), .inl rfl, .inr (XT _), .inr (XT _), .inl rfl, .inr ((fun _ _ _ ⟨g,h1,h2,h3⟩ k=>⟨g,h1,h2,k.2 _ _ h3⟩)),trivial⟩ (fun _ _ h k=>Agc h k.1) ?cb ?hQ3001
 case cb=>
  refine⟨?_,?_,?_,?_,?_,?_,?_,?_,trivial⟩
  ·refine Dy (Aj rfl fun σ w1 hC h=> ?_);have e0:σ 0=vb:=(AI (h 0 (by decide))).trans rfl;exact Yk.move e0 ⟨Ext.refl _,rfl⟩
  ·refine Dy (Aj rfl fun σ w1 hC h=> ?_);have cc:=AI (h 15 (by decide));exact XS F5 (XP (hrb.keep (hE.trans hC)) cc) ⟨Ext.refl _,rfl⟩
  ·refine Dy (Aj rfl fun σ w1 hC h=> ?_);have cd:=AI (h 16 (by decide));have hC:Ext u w1:=hC;have al:w1.ownsRow u.heap.size 5 1 (.slice none 0 0) ([]:List UInt8).length (AaT ([]:List UInt8)):=AbO _ _ _ 1;refine XM PX rfl cd ((Ds w1 u.heap.size (.slice none 0 0) [] al hC.size B.length (by omega) (by simp)).mono ?_);rintro e w2 ⟨v',rfl,ho,hg⟩;exact⟨_,rfl,Zf hg.by_,ho⟩
  ·refine Dy (Aj rfl fun σ w1 hC h=> ?_);have e3:σ 3=PQ c 0:=(AI (h 3 (by decide))).trans rfl;exact XJ F5 rfl e3 (cellAt (eb hC ap) (show _=some (q:AaR)from rfl)) ⟨Ext.refl _,rfl⟩
  ·refine Dy (Aj rfl fun σ w1 hC h=> ?_);have ce:=AI (h 18 (by decide));exact XS F5 (XP (hrt.keep (hE.trans hC)) ce) ⟨Ext.refl _,rfl⟩
  ·refine Dy (Aj rfl fun σ w1 hC h=> ?_);have ba:(fun x w' =>w'.ownsRow u.heap.size 5 1 x (([]:List UInt8)++Abd B.length).length (AaT (([]:List UInt8)++Abd B.length))) (σ 17) w1:=h 17 (by decide);have cf:=AI (h 19 (by decide));have hC:Ext u w1:=hC;refine XM PX rfl cf ((Ds w1 u.heap.size (σ 17) (([]:List UInt8)++Abd B.length) ba hC.size T.length (by omega) (by have:=Bg B.length (by omega);simp;omega)).mono ?_);rintro e w2 ⟨v',rfl,ho,hg⟩;exact⟨_,rfl,⟨hg.below hC.size (fun k hk=>(World.ownsRow.lt ba k hk).1),fun g cs h=>Aq h hg (E7 ba h (by decide))⟩,ho⟩
  ·refine Dy (Aj rfl fun σ w1 hC h=> ?_);have hC:Ext u w1:=hC;exact Yk.alloc (cs:=([.slice none 0 0]:List AaR).toArray) RA fun g w2 hn hb hx hs=>⟨hx,g,rfl,by have:=hC.size;omega,hb⟩
  ·exact trivial
 intro a2 bs bt he hf;obtain⟨-,-,-,-,-,k20,k5,-⟩:=hf;obtain⟨y,T1,s,T4,-⟩:=he.hold [(0,vb),(1,q),(3,PQ c 0),(4,(Aa0 none 0 0))] ⟨rfl,rfl,rfl,rfl,trivial⟩ rfl;clear he;have k20:(fun x w' =>w'.ownsRow u.heap.size 5 1 x (([]++Abd B.length)++Abd T.length).length (AaT (([]++Abd B.length)++Abd T.length))) (a2 20) bs:=k20;obtain⟨ay,bu⟩:∃v,a2 20=v:=⟨_,rfl⟩;rw[bu]at k20;have am:=k20;clear k20;have k5:(fun x w' =>∃g:Nat,x=PQ g 0∧u.heap.size≤g∧w'.heap[g]? =some (.cells #[.slice none 0 0] 27 (0,0))) (a2 5) bs:=k5;obtain⟨du,r⟩:∃v,a2 5=v:=⟨_,rfl⟩;rw[r]at k5;have cg:=k5;clear k5;obtain⟨g5,hv5,hlo5,ac⟩:=cg;rw[hv5]at r;have ch:OB ay g5:=E7 am ac (by decide);refine(XY (i:=0) (v:=ay) r bu ac (Aa9 rfl) Kh (B7 am).1 (B7 am).2 fun au bv bb dv=> ?_);clear ac;have ac:=bv;clear bv;have dw:=bl ac;refine gX ?_;have hE:=hE.trans bt;have hE:=Ab hE bb (AaV ca (by omega));have ak:=ak.trans bt;have ak:=Ab ak bb (AaV (AaX _) (by omega));have dx:=hE.size;have dy:=ak.size;have ap:=eb ak ap;have hq3:=(bl ap);have hq5:=(bl ac);have am:=BI am bb ch;have hoP:=am;have hzP:=hE.size;have hzS:=hAS.size;refine gS (XQ PZ y ((Rz _ vb B (hrb.keep hE) (by omega)).mono ?_));rintro e aq ⟨bM,baseM,rfl,hX⟩;refine⟨_,rfl,?_⟩;have hzI:=hX.ext.size;have ar:=Ext.refl aq;have hE:=hE.trans hX.ext;have ak:=ak.trans hX.ext;have ci:=hE.size;have dz:=ak.size;refine gS (Yk.alloc Tj fun m cj d0 bw bx d1=> ?_);have az:=bw;clear bw;have d2:m<cj.heap.size:=by omega
 refine gS (XY (i:=0) (v:=NI 0) rfl rfl az (Aa9 rfl) M5 rfl rfl fun ck bz b0 d3=> ?_);clear az;have az:=bz;clear bz;have d4:=bl az;refine gS (Ys (vs:= #[PQ m 0,PQ g5 0,PQ c 0]) (by simp only[Abx,Abv,AbG];exact congrArg Acn (UU (vr (PQ m 0) rfl) r s)) ?_);have ar:=ar.trans bx;have ar:=Ab ar b0 (AaV (AaX _) (by omega));have ap:=eb (hX.ext.trans ar) ap;have am:=Stab.own _ _ _ _ _ _ _ _ am (hX.ext.trans ar);have ac:=eb (hX.ext.trans ar) ac;have hE:=hE.trans bx;have hE:=Ab hE b0 (AaV ci (by omega));have hM0:MKD w aq ck au.heap.size c g5 m q ay ay (([]++Abd B.length)++Abd T.length) (0):=⟨hE,ap,ac,az,BH am (by omega),fun k h1 h2=>ar.block k h2,fun k hk=> .inl (hoP.lt k hk).2,by omega,by omega,by omega,hq3,hq5,by omega,by omega,by omega,by omega⟩;have hT:=hrt;refine gL (fun(ρ:Ad) (wz:AaS)=>∃ia:Nat,∃fr:Nat,∃f:Nat,∃o:List UInt8,∃v:AaR,ρ 0=(vb:AaR)∧ρ 1=(q:AaR)∧ρ 3=(PQ c 0:AaR)∧ρ 4=((Aa0 none 0 0):AaR)∧ρ 5=(PQ g5 0:AaR)∧ρ 6=(.map (some bM):AaR)∧ρ 7=(PQ m 0:AaR)∧ρ 8=(.func (.func 182) #[] #[PQ m 0,PQ g5 0,PQ c 0]:AaR)∧ρ 9=(NI ia:AaR)∧Ext w wz∧MKD w aq wz au.heap.size c g5 m q v v (o) (fr)∧(C6 B T f ia fr o=BU B T)∧(T.length≤ia+f)∧(fr≤ia)∧(ia≤T.length)∧(o.length≤20+40*fr)∧True) (fun ρ _=>T.length-(intOf (ρ 9)).toNat) ⟨0,0,T.length,([]++Abd B.length)++Abd T.length,ay,y,T1,s,T4,r,rfl,rfl,rfl,rfl,hE,hM0,(show C6 B T T.length 0 0 _=_ from by rw[BU,AbV]),by omega,AaX _,Abs _,by have:=Bg B.length (by omega);have:=Bg T.length (by omega);simp only[AaY,Abw];omega,trivial⟩ ?_;clear hM0;clear hE;rintro a3 bc ⟨ia,fr,f,o,v,y,T1,s,T4,r,T6,T7,T8,t,hE,hM,hgo,hf,hfr,hat,hol,-⟩;have q9:=t;have z:bc.heap[c]? =some (.cells ([q]:List AaR).toArray 27 (0,0)):=hM.b3;have an:bc.heap[g5]? =some (.cells ([v]:List AaR).toArray 27 (0,0)):=hM.b5;have ao:bc.heap[m]? =some (.cells ([NI (fr)]:List AaR).toArray 3 (0,0)):=hM.b7;refine gS (XJ F5 rfl s (cellAt z rfl) (gS (XS F5 (XP (hrt.keep hE) rfl) (gS (XK (a:=(ia:Nat)) (b:=(T.length:Nat)) t rfl (AL _ _ _ _) ?_)))));refine cD rfl (fun aw=> ?_) fun aw=> ?_
 ·obtain⟨f',rfl⟩:∃f',f=f' +1:=⟨f-1,by omega⟩;refine gS (XL (xv:=NI ia) (yv:=NI 8) t rfl rfl (Ai _ _ _ (by omega)) (gS (XJ F5 rfl s (cellAt z rfl) (gS (XS F5 (XP (hrt.keep hE) rfl) (gS (XK (a:=((ia)+(8):Nat)) (b:=(T.length:Nat)) rfl rfl (Dw _ _ _ _) ?_)))))));refine cD rfl (fun bd=> ?_) fun bd=> ?_
  ·have hrl:((T.drop ia).take (ia+8-ia)).length=8:=by rw[Abg,Abf];omega
   have hrl8:((T.drop ia).take 8).length=8:=by rw[Abg,Abf];omega
   refine gS (XJ F5 rfl s (cellAt z rfl) (gS (XL (xv:=NI ia) (yv:=NI 8) t rfl rfl (Ai _ _ _ (by omega)) (gS (YI (xs:=T) (l:=ia) (n:=(ia)+(8)) F5 PG rfl (hrt.keep hE) t rfl (by omega) (by omega) fun cl ai ha74=>(gS (ZB Hp (XP ai rfl) (l:=(T.drop (ia)).take (((ia)+(8))-(ia))) (n:=8) (by rw[Abg,Abf];omega) (by decide) fun d5 d6 cm=>(gS (Yf rfl (show World.rangeAt _ _ _ (AaT ((T.drop ia).take 8))from by simpa only[AcZ] using cm) Hp rfl (by rw[Aa8,hrl8];exact GM) (gS (Yk.look Rx Ry PW M8 T6 rfl (MKD.idx hM hX.idx hX.lo) hrl8 fun b1 ag=>(gS (Aak LA (CV ag rfl) (gL (fun(ρ:Ad) (wz:AaS)=>∃j:Nat,∃p:Nat,∃n:Nat,ρ 0=(vb:AaR)∧ρ 1=(q:AaR)∧ρ 3=(PQ c 0:AaR)∧ρ 4=((Aa0 none 0 0):AaR)∧ρ 5=(PQ g5 0:AaR)∧ρ 6=(.map (some bM):AaR)∧ρ 7=(PQ m 0:AaR)∧ρ 8=(.func (.func 182) #[] #[PQ m 0,PQ g5 0,PQ c 0]:AaR)∧ρ 9=(NI ia:AaR)∧ρ 41=(b1:AaR)∧ρ 42=(NI ((posOf B (B.length-7) ((T.drop ia).take 8)).length):AaR)∧ρ 43=(NI j:AaR)∧ρ 10=(NI p:AaR)∧ρ 11=(NI n:AaR)∧Ext w wz∧MKD w aq wz au.heap.size c g5 m q v v (o) (fr)∧wz.heap[c]? =some (.cells ([q]:List AaR).toArray 27 (0,0))∧wz.heap[g5]? =some (.cells ([v]:List AaR).toArray 27 (0,0))∧wz.heap[m]? =some (.cells ([NI (fr)]:List AaR).toArray 3 (0,0))∧RB wz cl ((T.drop (ia)).take (((ia)+(8))-(ia)))∧wz.ownsRow baseM 3 1 b1 (posOf B (B.length-7) ((T.drop ia).take 8)).length ((posOf B (B.length-7) ((T.drop ia).take 8)).map NI)∧(j≤(posOf B (B.length-7) ((T.drop ia).take 8)).length)∧(((posOf B (B.length-7) ((T.drop ia).take 8)).take j).foldl (Ej B T ia) (0,0)=(p,n))∧(p≤B.length)∧(n≤T.length-ia)∧True) (fun ρ _=>(posOf B (B.length-7) ((T.drop ia).take 8)).length-(intOf (ρ 43)).toNat) ⟨0,0,0,y,T1,s,T4,r,T6,T7,T8,t,rfl,rfl,rfl,rfl,rfl,hE,hM,z,an,ao,ai,ag,Abs _,rfl,Abs _,Abs _,trivial⟩ ?_))))))))))))));clear hE hM z an ao ai ag;rintro b2 d7 ⟨j,p,n,y,T1,s,T4,r,T6,T7,T8,t,a0,a1,av,ax,aj,hE,hM,z,an,ao,ai,ag,hjl,hbp,hp,hn,-⟩;have q43:=av;refine gS (XK (a:=(j:Nat)) (b:=((posOf B (B.length-7) ((T.drop ia).take 8)).length:Nat)) av a1 (AL _ _ _ _) ?_);refine cD rfl (fun hj=> ?_) fun hj=> ?_
   ·have hq:=Ti hj;have hpl:=posOf_length B (B.length-7) ((T.drop ia).take 8);refine gS (Aaw (xs:=(posOf B (B.length-7) ((T.drop ia).take 8)).map NI) LA G1 (by rw[Abh];exact CV ag a0) av (by rw[Abh];exact hj) fun d8 be=> ?_);rw[Vk _ _ hj]at be;refine gS (X0 Tc rfl (X6 be rfl) ?_);clear be;refine gR ?_;refine Hd [Is (vb),Is (NI ((posOf B (B.length-7) ((T.drop ia).take 8)).getD j 0)),fun x w' =>RB w' x (B.drop ((posOf B (B.length-7) ((T.drop ia).take 8)).getD j 0)),Is (q),Is (NI ia),fun x w' =>RB w' x (T.drop (ia)),Is (NI (CL (B.drop ((posOf B (B.length-7) ((T.drop ia).take 8)).getD j 0)) (T.drop (ia)))),Is (NI (CL (B.drop ((posOf B (B.length-7) ((T.drop ia).take 8)).getD j 0)) (T.drop (ia))))] (by kernel_rfl) [47,48,49,50,51,52,53,14] (by kernel_rfl) (by kernel_rfl) (Ls ⟨(fun _ _ _ h k=>RB.keep h k),(Ls ⟨(fun _ _ _ h k=>RB.keep h k),(Ls trivial)⟩)⟩) ?cn ?hQ4012
    case cn=>
     refine⟨?_,?_,?_,?_,?_,?_,?_,?_,trivial⟩
     ·refine Aj rfl fun σ w1 hC h=> ?_;have e0:=(AI (h 0 (by decide))).trans y;exact Yk.move e0 ⟨Ext.refl _,rfl⟩
     ·refine Aj rfl fun σ w1 hC h=> ?_;have co:σ 13=NI ((posOf B (B.length-7) ((T.drop ia).take 8)).getD j 0):=(AI (h 13 (by decide))).trans rfl;exact Yk.move co ⟨Ext.refl _,rfl⟩
     ·refine Aj rfl fun σ w1 hC h=> ?_;have cp:=AI (h 47 (by decide));have cq:=AI (h 48 (by decide));exact Yg (xs:=B) (l:=(posOf B (B.length-7) ((T.drop ia).take 8)).getD j 0) F5 PG rfl (XP (hrb.keep (hE.trans hC)) cp) cq (by omega) fun v hr _=>⟨Ext.refl _,hr⟩
     ·refine Aj rfl fun σ w1 hC h=> ?_;have e3:=(AI (h 3 (by decide))).trans s;exact XJ F5 rfl e3 (cellAt (eb hC z) (show _=some (q:AaR)from rfl)) ⟨Ext.refl _,rfl⟩
     ·refine Aj rfl fun σ w1 hC h=> ?_;have e9:=(AI (h 9 (by decide))).trans t;exact Yk.move e9 ⟨Ext.refl _,rfl⟩
     ·refine Aj rfl fun σ w1 hC h=> ?_;have ct:=AI (h 50 (by decide));have cu:=AI (h 51 (by decide));exact Yg (xs:=T) (l:=ia) F5 PG rfl (XP (hrt.keep (hE.trans hC)) ct) cu (by omega) fun v hr _=>⟨Ext.refl _,hr⟩
     ·refine Aj rfl fun σ w1 hC h=> ?_;have cv:(fun x w' =>RB w' x (B.drop ((posOf B (B.length-7) ((T.drop ia).take 8)).getD j 0))) (σ 49) w1:=h 49 (by decide);have cw:(fun x w' =>RB w' x (T.drop (ia))) (σ 52) w1:=h 52 (by decide);refine XM P0 rfl rfl ((PS _ (σ 49) (σ 52) (B.drop ((posOf B (B.length-7) ((T.drop ia).take 8)).getD j 0)) (T.drop (ia)) cv cw (by simp only[Abf];omega)).mono ?_);rintro e w2 ⟨rfl,hx⟩;exact⟨_,rfl,hx,rfl⟩
     ·refine Aj rfl fun σ w1 hC h=> ?_;have cx:=AI (h 53 (by decide));exact Yk.assign cx ⟨Ext.refl _,rfl⟩
    intro cy cz ab he hf;obtain⟨-,-,-,-,-,-,-,k14,-⟩:=hf;obtain⟨y,T1,s,T4,r,T6,T7,T8,t,ax,aj,c0,a0,a1,av,-⟩:=he.hold [(0,_),(1,_),(3,_),(4,_),(5,_),(6,_),(7,_),(8,_),(9,_),(10,_),(11,_),(13,NI ((posOf B (B.length-7) ((T.drop ia).take 8)).getD j 0)),(41,_),(42,_),(43,_)] ⟨y,T1,s,T4,r,T6,T7,T8,t,ax,aj,rfl,a0,a1,av,trivial⟩ rfl;clear he;have hM:MKD w aq cz au.heap.size c g5 m q v v (o) (fr):=(hM.keep ab);have b4:cy 14=NI (CL (B.drop ((posOf B (B.length-7) ((T.drop ia).take 8)).getD j 0)) (T.drop (ia))):=k14;clear k14;refine gX (gS (XK (a:=(CL (B.drop ((posOf B (B.length-7) ((T.drop ia).take 8)).getD j 0)) (T.drop (ia)):Nat)) (b:=(n:Nat)) b4 aj (Bj _ _ _ _) ?_));refine cD rfl (fun bf=> ?_) fun bf=> ?_
    ·have hE:=hE.trans ab;have z:=eb ab z;have an:=eb ab an;have ao:=eb ab ao;have ai:=ai.keep ab;have ag:=Stab.own _ _ _ _ _ _ _ _ ag ab;refine gS (XL (xv:=NI j) (yv:=NI 1) av rfl rfl (Ai _ _ _ (by omega)) (gK (Aby ⟨j+1,(posOf B (B.length-7) ((T.drop ia).take 8)).getD j 0,CL (B.drop ((posOf B (B.length-7) ((T.drop ia).take 8)).getD j 0)) (T.drop ia),y,T1,s,T4,r,T6,T7,T8,t,a0,a1,rfl,c0,b4,hE,hM,z,an,ao,ai,ag,by omega,by rw[Gu _ _ _ _ hj,hbp,Ej,if_pos bf],by omega,by have:=(Kd (B.drop ((posOf B (B.length-7) ((T.drop ia).take 8)).getD j 0)) (T.drop ia)).2;rw[Abf]at this;omega,trivial⟩ ?_)));show(posOf B (B.length-7) ((T.drop ia).take 8)).length-(intOf (NI ((j)+(1)))).toNat<(posOf B (B.length-7) ((T.drop ia).take 8)).length-(intOf (b2 43)).toNat;rw[q43];simp only[intOf,Aba];omega
    have hE:=hE.trans ab;have z:=eb ab z;have an:=eb ab an;have ao:=eb ab ao;have ai:=ai.keep ab;have ag:=Stab.own _ _ _ _ _ _ _ _ ag ab;refine gS (XL (xv:=NI j) (yv:=NI 1) av rfl rfl (Ai _ _ _ (by omega)) (gK (Aby ⟨j+1,p,n,y,T1,s,T4,r,T6,T7,T8,t,a0,a1,rfl,ax,aj,hE,hM,z,an,ao,ai,ag,by omega,by rw[Gu _ _ _ _ hj,hbp,Ej,if_neg bf],by omega,hn,trivial⟩ ?_)));show(posOf B (B.length-7) ((T.drop ia).take 8)).length-(intOf (NI ((j)+(1)))).toNat<(posOf B (B.length-7) ((T.drop ia).take 8)).length-(intOf (b2 43)).toNat;rw[q43];simp only[intOf,Aba];omega
   rw[show(posOf B (B.length-7) ((T.drop ia).take 8)).take j=posOf B (B.length-7) ((T.drop ia).take 8)from AbK (by omega)]at hbp;have hbe:BR B T ia=(p,n):=by rw[BR,if_pos bd,hbp]
   refine gS (XK (a:=(n:Nat)) (b:=(0:Nat)) aj rfl (AA _ _ _ _) ?_);refine cD rfl (fun al=> ?_) fun al=> ?_
   ·refine gS (XL (xv:=NI ia) (yv:=NI 1) t rfl rfl (Ai _ _ _ (by omega)) (gK (Aby ⟨ia+1,fr,f',o,v,y,T1,s,T4,r,T6,T7,T8,rfl,hE,hM,by rw[C6,if_pos aw,if_pos (by rw[hbe];exact al)]at hgo;exact hgo,by omega,by omega,by omega,hol,trivial⟩ ?_)));show T.length-(intOf (NI ((ia)+(1)))).toNat<T.length-(intOf (a3 9)).toNat;rw[q9];simp only[intOf,Aba];omega
   refine gS (YN Hq (caps:= #[PQ m 0,PQ g5 0,PQ c 0]) T8 #[NI ia,PQ m 0,PQ g5 0,PQ c 0] (by simp only[Abx,Abv,AbG,Ac4,AbS,AbV];exact congrArg Acn (PC t rfl rfl rfl)) ((Ih w aq _ (au.heap.size) c g5 m q v (o) T (fr) (ia) hM hT (by omega) (by omega) (by omega) (by omega)).mono ?_));rintro e bg ⟨rfl,a4,hM98⟩;refine⟨_,rfl,?_⟩;have hE:=hM98.ext;clear ai;clear ag;clear hM;have d9:bg.heap[c]? =some (.cells ([q]:List AaR).toArray 27 (0,0)):=hM98.b3;have c1:bg.heap[g5]? =some (.cells ([a4]:List AaR).toArray 27 (0,0)):=hM98.b5;have ea:bg.heap[m]? =some (.cells ([NI (fr)]:List AaR).toArray 3 (0,0)):=hM98.b7;have hfl:=EB T fr ia o (by omega);have c2:=Bg (2*n+1) (by omega);have c3:=Bg p (by omega);refine gS (XJ F5 rfl r (cellAt c1 rfl) (gS (XL (xv:=NI 2) (yv:=NI n) rfl aj rfl (Ci _ _ _ (by omega)) (gS (XL (xv:=NI ((2)*(n))) (yv:=NI 1) rfl rfl rfl (Ai _ _ _ (by omega)) (gS (XM PX rfl rfl ((Ds _ w.heap.size a4 (Cj T (fr) (ia) (o)) hM98.own hM98.ext.size (((2)*(n))+(1)) (by omega) (by first | omega | (simp only[AaY];omega))).mono ?_))))))));rintro e bh ⟨c4,rfl,c5,c6⟩;refine⟨_,rfl,?_⟩;have hM107:=MKD.grew hM98 c6 c5;have hE:=hM107.ext;clear hM98;have ec:bh.heap[c]? =some (.cells ([q]:List AaR).toArray 27 (0,0)):=hM107.b3;have ed:bh.heap[g5]? =some (.cells ([a4]:List AaR).toArray 27 (0,0)):=hM107.b5;have ee:bh.heap[m]? =some (.cells ([NI (fr)]:List AaR).toArray 3 (0,0)):=hM107.b7;refine gS (XM PX rfl ax ((Ds _ w.heap.size c4 (Cj T (fr) (ia) (o)++Abd (((2)*(n))+(1))) hM107.own hM107.ext.size (p) (by omega) (by first | omega | (simp only[AaY];omega))).mono ?_));rintro e bi ⟨a5,rfl,c7,c8⟩;refine⟨_,rfl,?_⟩;have hM115:=MKD.grew hM107 c8 c7;have hE:=hM115.ext;clear hM107;have ef:bi.heap[c]? =some (.cells ([q]:List AaR).toArray 27 (0,0)):=hM115.b3;have eg:bi.heap[g5]? =some (.cells ([a4]:List AaR).toArray 27 (0,0)):=hM115.b5;have eh:bi.heap[m]? =some (.cells ([NI (fr)]:List AaR).toArray 3 (0,0)):=hM115.b7;refine gS (XY (i:=0) (v:=a5) r rfl hM115.b5 (Aa9 rfl) Kh (B7 hM115.own).1 (B7 hM115.own).2 fun bj c9 da ei=> ?_);have hM124:=Y1 hM115 c9 da;have hE:=hM124.ext;clear hM115;have ej:bj.heap[c]? =some (.cells ([q]:List AaR).toArray 27 (0,0)):=hM124.b3;have el:bj.heap[g5]? =some (.cells ([a5]:List AaR).toArray 27 (0,0)):=hM124.b5;have em:bj.heap[m]? =some (.cells ([NI (fr)]:List AaR).toArray 3 (0,0)):=hM124.b7;refine gS (XL (xv:=NI ia) (yv:=NI n) t aj rfl (Ai _ _ _ (by omega)) (gS (XY (i:=0) (v:=NI ((ia)+(n))) T7 rfl hM124.b7 (Aa9 rfl) M5 rfl rfl fun bk db dc en=> ?_)));have hM133:=ZC (n:=(ia)+(n)) hM124 db dc;have hE:=hM133.ext;clear hM124;have eo:bk.heap[c]? =some (.cells ([q]:List AaR).toArray 27 (0,0)):=hM133.b3;have ep:bk.heap[g5]? =some (.cells ([a5]:List AaR).toArray 27 (0,0)):=hM133.b5;have eq:bk.heap[m]? =some (.cells ([NI ((ia)+(n))]:List AaR).toArray 3 (0,0)):=hM133.b7;refine gK (Aby ⟨ia+n,ia+n,f',Cj T (fr) (ia) (o)++Abd (((2)*(n))+(1))++Abd (p),a5,y,T1,s,T4,r,T6,T7,T8,rfl,hE,hM133,by rw[C6,if_pos aw,if_neg (by rw[hbe];exact al),hbe]at hgo;exact hgo,by omega,by omega,by omega,by have h5:=EB T fr ia o (by omega);have h6:=Bg (2*n+1) (by omega);have h7:=Bg p (by omega);simp only[AaY];omega,trivial⟩ ?_);show T.length-(intOf (NI ((ia)+(n)))).toNat<T.length-(intOf (a3 9)).toNat;rw[q9];simp only[intOf,Aba];omega
  obtain⟨p,b6⟩:∃p,p=0:=⟨_,rfl⟩;obtain⟨n,hnz⟩:∃n,n=0:=⟨_,rfl⟩;have ax:=(vr (NI 0) rfl).trans (show(AcM .i64 ((0:Nat):Int))=NI p by rw[b6]);have aj:=(vr (NI 0) rfl).trans (show(AcM .i64 ((0:Nat):Int))=NI n by rw[hnz]);have hbe:BR B T ia=(p,n):=by rw[BR,if_neg bd,b6,hnz]
  have hp:p≤B.length:=by omega
  have hn:n≤T.length-ia:=by omega
  refine gS (XK (a:=(n:Nat)) (b:=(0:Nat)) aj rfl (AA _ _ _ _) ?_);refine cD rfl (fun al=> ?_) fun al=> ?_
  ·refine gS (XL (xv:=NI ia) (yv:=NI 1) t rfl rfl (Ai _ _ _ (by omega)) (gK (Aby ⟨ia+1,fr,f',o,v,y,T1,s,T4,r,T6,T7,T8,rfl,hE,hM,by rw[C6,if_pos aw,if_pos (by rw[hbe];exact al)]at hgo;exact hgo,by omega,by omega,by omega,hol,trivial⟩ ?_)));show T.length-(intOf (NI ((ia)+(1)))).toNat<T.length-(intOf (a3 9)).toNat;rw[q9];simp only[intOf,Aba];omega
  refine gS (YN Hq (caps:= #[PQ m 0,PQ g5 0,PQ c 0]) T8 #[NI ia,PQ m 0,PQ g5 0,PQ c 0] (by simp only[Abx,Abv,AbG,Ac4,AbS,AbV];exact congrArg Acn (PC t rfl rfl rfl)) ((Ih w aq _ (au.heap.size) c g5 m q v (o) T (fr) (ia) hM hT (by omega) (by omega) (by omega) (by omega)).mono ?_));rintro e bm ⟨rfl,a6,hM142⟩;refine⟨_,rfl,?_⟩;have hE:=hM142.ext;clear hM;have er:bm.heap[c]? =some (.cells ([q]:List AaR).toArray 27 (0,0)):=hM142.b3;have dd:bm.heap[g5]? =some (.cells ([a6]:List AaR).toArray 27 (0,0)):=hM142.b5;have es:bm.heap[m]? =some (.cells ([NI (fr)]:List AaR).toArray 3 (0,0)):=hM142.b7;have hfl:=EB T fr ia o (by omega);have c2:=Bg (2*n+1) (by omega);have c3:=Bg p (by omega);refine gS (XJ F5 rfl r (cellAt dd rfl) (gS (XL (xv:=NI 2) (yv:=NI n) rfl aj rfl (Ci _ _ _ (by omega)) (gS (XL (xv:=NI ((2)*(n))) (yv:=NI 1) rfl rfl rfl (Ai _ _ _ (by omega)) (gS (XM PX rfl rfl ((Ds _ w.heap.size a6 (Cj T (fr) (ia) (o)) hM142.own hM142.ext.size (((2)*(n))+(1)) (by omega) (by first | omega | (simp only[AaY];omega))).mono ?_))))))));rintro e bn ⟨de,rfl,df,dh⟩;refine⟨_,rfl,?_⟩;have hM151:=MKD.grew hM142 dh df;have hE:=hM151.ext;clear hM142;have et:bn.heap[c]? =some (.cells ([q]:List AaR).toArray 27 (0,0)):=hM151.b3;have eu:bn.heap[g5]? =some (.cells ([a6]:List AaR).toArray 27 (0,0)):=hM151.b5;have ew:bn.heap[m]? =some (.cells ([NI (fr)]:List AaR).toArray 3 (0,0)):=hM151.b7;refine gS (XM PX rfl ax ((Ds _ w.heap.size de (Cj T (fr) (ia) (o)++Abd (((2)*(n))+(1))) hM151.own hM151.ext.size (p) (by omega) (by first | omega | (simp only[AaY];omega))).mono ?_));rintro e bo ⟨a7,rfl,di,dj⟩;refine⟨_,rfl,?_⟩;have hM159:=MKD.grew hM151 dj di;have hE:=hM159.ext;clear hM151;have ex:bo.heap[c]? =some (.cells ([q]:List AaR).toArray 27 (0,0)):=hM159.b3;have ey:bo.heap[g5]? =some (.cells ([a6]:List AaR).toArray 27 (0,0)):=hM159.b5;have ez:bo.heap[m]? =some (.cells ([NI (fr)]:List AaR).toArray 3 (0,0)):=hM159.b7;refine gS (XY (i:=0) (v:=a7) r rfl hM159.b5 (Aa9 rfl) Kh (B7 hM159.own).1 (B7 hM159.own).2 fun bp dk dl e1=> ?_);have hM168:=Y1 hM159 dk dl;have hE:=hM168.ext;clear hM159;have e2:bp.heap[c]? =some (.cells ([q]:List AaR).toArray 27 (0,0)):=hM168.b3;have e4:bp.heap[g5]? =some (.cells ([a7]:List AaR).toArray 27 (0,0)):=hM168.b5;have e5:bp.heap[m]? =some (.cells ([NI (fr)]:List AaR).toArray 3 (0,0)):=hM168.b7;refine gS (XL (xv:=NI ia) (yv:=NI n) t aj rfl (Ai _ _ _ (by omega)) (gS (XY (i:=0) (v:=NI ((ia)+(n))) T7 rfl hM168.b7 (Aa9 rfl) M5 rfl rfl fun bq dm dn e6=> ?_)));have hM177:=ZC (n:=(ia)+(n)) hM168 dm dn;have hE:=hM177.ext;clear hM168;have e7:bq.heap[c]? =some (.cells ([q]:List AaR).toArray 27 (0,0)):=hM177.b3;have e8:bq.heap[g5]? =some (.cells ([a7]:List AaR).toArray 27 (0,0)):=hM177.b5;have fa:bq.heap[m]? =some (.cells ([NI ((ia)+(n))]:List AaR).toArray 3 (0,0)):=hM177.b7;refine gK (Aby ⟨ia+n,ia+n,f',Cj T (fr) (ia) (o)++Abd (((2)*(n))+(1))++Abd (p),a7,y,T1,s,T4,r,T6,T7,T8,rfl,hE,hM177,by rw[C6,if_pos aw,if_neg (by rw[hbe];exact al),hbe]at hgo;exact hgo,by omega,by omega,by omega,by have h5:=EB T fr ia o (by omega);have h6:=Bg (2*n+1) (by omega);have h7:=Bg p (by omega);simp only[AaY];omega,trivial⟩ ?_);show T.length-(intOf (NI ((ia)+(n)))).toNat<T.length-(intOf (a3 9)).toNat;rw[q9];simp only[intOf,Aba];omega
 rw[PY aw]at hgo;refine gS (XJ F5 rfl s (cellAt z rfl) (gS (XS F5 (XP (hrt.keep hE) rfl) (gS (YN Hq (caps:= #[PQ m 0,PQ g5 0,PQ c 0]) T8 #[NI T.length,PQ m 0,PQ g5 0,PQ c 0] (by simp only[Abx,Abv,AbG,Ac4,AbS,AbV];exact congrArg Acn (PC rfl rfl rfl rfl)) ((Ih w aq _ (au.heap.size) c g5 m q v (o) T (fr) (T.length) hM hT (by omega) (by omega) (by omega) (by omega)).mono ?_))))));rintro e br ⟨rfl,b8,hM183⟩;refine⟨_,rfl,?_⟩;have hE:=hM183.ext;clear hM;have fb:br.heap[c]? =some (.cells ([q]:List AaR).toArray 27 (0,0)):=hM183.b3;have dp:br.heap[g5]? =some (.cells ([b8]:List AaR).toArray 27 (0,0)):=hM183.b5;have fc:br.heap[m]? =some (.cells ([NI (fr)]:List AaR).toArray 3 (0,0)):=hM183.b7;refine gS (XJ F5 rfl r (cellAt dp rfl) (Bn rfl (vr b8 rfl) ?_));rw[hgo]at hM183;exact⟨_,rfl,hM183.ext,BH hM183.own (AaX _)⟩
def DJ(D:List UInt8):Option (Nat × Nat × Nat):=match A1 0 (D.drop 0)with
  | none=>none
  | some (a,k)=>match A1 0 (D.drop (0+k))with
    | none=>none
    | some (b,j)=>some (a,b,0+k+j)
def Tl:Option (Nat × Nat × Nat)→AaR
  | none=> .tuple #[NI 0,NI 0,NI 0,NI 6]
  | some (a,b,n)=> .tuple #[NI a,NI b,NI n,NI 0]
def EV(F:List UInt8)(p s nx:Nat):Option (List UInt8 × Nat):=if s<1∨F.length<p∨F.length-p<s then none else some ((F.drop p).take s,nx)
def Ca(B D:List UInt8)(i:Nat):Option (List UInt8 × Nat):=match A1 0 (D.drop i)with
  | none=>none
  | some (x,k)=>if x%2=1 then(match A1 0 (D.drop (i+k))with
    | none=>none
    | some (p,m)=>EV B p (x/2) (i+k+m))else EV D (i+k) (x/2) (i+k+x/2)
def Ck(B D:List UInt8)(size:Nat):Nat→Nat→List UInt8→Option (List UInt8)
  | 0,_,_=>none
  | f+1,i,o=>if i<D.length then(match Ca B D i with
    | none=>none
    | some (b,nx)=>if size-o.length<b.length then none else Ck B D size f nx (o++b))else if o.length=size then some o else none
def A5(B D:List UInt8):List UInt8 × Nat:=match DJ D with
  | none=>([],6)
  | some (a,b,n)=>if 262144<b then([],2)else if a≠B.length then([],6)else match Ck B D b (D.length+1) n []with
    | none=>([],6)
    | some o=>(o,0)
theorem M9{D:List UInt8}{a b n:Nat}(h:DJ D=some (a,b,n)):a<9223372036854775808∧b<9223372036854775808∧n≤D.length:=by
  unfold DJ at h;split at h
  · cases h
  · rename_i x k hk
    have h1:=CM (a:=0) (by omega) hk;split at h
    · cases h
    · rename_i y j hj
      have h2:=CM (a:=0+k) (by omega) hj;simp only[AcA,Afv]at h;obtain⟨rfl,rfl,rfl⟩:=h;omega
theorem LB{F b:List UInt8}{p s nx n:Nat}(h:EV F p s nx=some (b,n)):1≤s∧p≤F.length∧s≤F.length-p∧b=(F.drop p).take s∧n=nx:=by
  unfold EV at h;split at h
  · cases h
  · simp only[AcA,Afv]at h;exact⟨by omega,by omega,by omega,h.1.symm,h.2.symm⟩
theorem Na{B D b:List UInt8}{i nx:Nat}(hi:i≤D.length)(h:Ca B D i=some (b,nx)):i<nx∧nx≤D.length∧b.length≤B.length+D.length:=by
  unfold Ca at h;split at h
  · cases h
  · rename_i x k hk
    have h1:=CM hi hk;split at h
    · split at h
      · cases h
      · rename_i p m hm
        have h2:=CM (a:=i+k) (by omega) hm;obtain⟨c1,c2,c3,rfl,rfl⟩:=LB h;rw[Abg,Abf];omega
    · obtain⟨c1,c2,c3,rfl,rfl⟩:=LB h;rw[Abg,Abf];omega
theorem CG:Plain AaU 128:=fun _ _=>by kernel_rfl
theorem LC(w:AaS)(v:AaR)(D:List UInt8)(hr:RB w v D):
  Calls AaU 211 #[v] w fun e w' =>e = .returned (Tl (DJ D))∧Ext w w' :=by
 refine gG (args:= [v]) Tryz.func211 rfl 26 rfl rfl ?_;have hE:=Ext.refl w;rcases hgxa:A1 0 (D.drop (0))with _ | ⟨xa,ka⟩
 ·refine gS (XM CG rfl rfl ((MB _ v D (hr.keep hE) (0) (by omega) hgxa).mono ?_));rintro e j ⟨rfl,c⟩;refine⟨_,rfl,?_⟩;have hE:=hE.trans c;refine gS (Yk.extract (vs:= [NI 0,NI 0,NI 6]) rfl rfl (gS (Yk.extract (vs:= [NI 0,NI 0,NI 6]) rfl rfl (gS (Yk.extract (vs:= [NI 0,NI 0,NI 6]) rfl rfl (gS (XK (a:=(6:Nat)) (b:=(0:Nat)) rfl rfl (AX _ _ _ _) (kT (by decide) (cT rfl (Wu (v:= .tuple #[NI 0,NI 0,NI 0,NI 6]) (vs:= [NI 0,NI 0,NI 0,NI 6]) rfl rfl ⟨rfl,rfl,rfl,rfl,trivial⟩ ?_))))))))));refine⟨?_,hE⟩;rw[DJ,hgxa];rfl
 have hqxa:=CM (a:=0) (by omega) hgxa;rcases hgxb:A1 0 (D.drop (0+ka))with _ | ⟨xb,kb⟩
 ·refine gS (XM CG rfl rfl ((Ie _ v D (hr.keep hE) (0) (by omega) xa ka hgxa).mono ?_));rintro e k ⟨rfl,f⟩;refine⟨_,rfl,?_⟩;have hE:=hE.trans f;refine gS (Yk.extract (vs:= [NI xa,NI ((0)+ka),NI 0]) rfl rfl (gS (Yk.extract (vs:= [NI xa,NI ((0)+ka),NI 0]) rfl rfl (gS (Yk.extract (vs:= [NI xa,NI ((0)+ka),NI 0]) rfl rfl (gS (XK (a:=(0:Nat)) (b:=(0:Nat)) rfl rfl (AX _ _ _ _) (kF (by decide) (cF rfl (gS (XM CG rfl rfl ((MB _ v D (hr.keep hE) ((0)+ka) (by omega) hgxb).mono ?_))))))))))));rintro e l ⟨rfl,g⟩;refine⟨_,rfl,?_⟩;have hE:=hE.trans g;refine gS (Yk.extract (vs:= [NI 0,NI 0,NI 6]) rfl rfl (gS (Yk.extract (vs:= [NI 0,NI 0,NI 6]) rfl rfl (gS (Yk.extract (vs:= [NI 0,NI 0,NI 6]) rfl rfl (gS (XK (a:=(6:Nat)) (b:=(0:Nat)) rfl rfl (AX _ _ _ _) (kT (by decide) (cT rfl (Wu (v:= .tuple #[NI 0,NI 0,NI 0,NI 6]) (vs:= [NI 0,NI 0,NI 0,NI 6]) rfl rfl ⟨rfl,rfl,rfl,rfl,trivial⟩ ?_))))))))));refine⟨?_,hE⟩;rw[DJ,hgxa];simp only;rw[hgxb];rfl
 have hqxb:=CM (a:=0+ka) (by omega) hgxb;refine gS (XM CG rfl rfl ((Ie _ v D (hr.keep hE) (0) (by omega) xa ka hgxa).mono ?_));rintro e m ⟨rfl,h⟩;refine⟨_,rfl,?_⟩;have hE:=hE.trans h;refine gS (Yk.extract (vs:= [NI xa,NI ((0)+ka),NI 0]) rfl rfl (gS (Yk.extract (vs:= [NI xa,NI ((0)+ka),NI 0]) rfl rfl (gS (Yk.extract (vs:= [NI xa,NI ((0)+ka),NI 0]) rfl rfl (gS (XK (a:=(0:Nat)) (b:=(0:Nat)) rfl rfl (AX _ _ _ _) (kF (by decide) (cF rfl (gS (XM CG rfl rfl ((Ie _ v D (hr.keep hE) ((0)+ka) (by omega) xb kb hgxb).mono ?_))))))))))));rintro e n ⟨rfl,i⟩;refine⟨_,rfl,?_⟩;have hE:=hE.trans i;refine gS (Yk.extract (vs:= [NI xb,NI (((0)+ka)+kb),NI 0]) rfl rfl (gS (Yk.extract (vs:= [NI xb,NI (((0)+ka)+kb),NI 0]) rfl rfl (gS (Yk.extract (vs:= [NI xb,NI (((0)+ka)+kb),NI 0]) rfl rfl (gS (XK (a:=(0:Nat)) (b:=(0:Nat)) rfl rfl (AX _ _ _ _) (kF (by decide) (cF rfl (Wu (v:= .tuple #[NI xa,NI xb,NI (((0)+ka)+kb),NI 0]) (vs:= [NI xa,NI xb,NI (((0)+ka)+kb),NI 0]) rfl rfl ⟨rfl,rfl,rfl,rfl,trivial⟩ ?_))))))))));refine⟨?_,hE⟩;rw[DJ,hgxa];simp only;rw[hgxb];rfl

theorem Tm(w:AaS)(v:AaR)(D:List UInt8)(hr:RB w v D)(h:DJ D=none):
  Calls AaU 211 #[v] w fun e w' =>e = .returned (.tuple #[NI 0,NI 0,NI 0,NI 6])∧Ext w w' :=by
 have:=LC w v D hr;rw[h]at this;exact this
theorem RC(w:AaS)(v:AaR)(D:List UInt8)(hr:RB w v D)(a b n:Nat)(h:DJ D=some (a,b,n)):
  Calls AaU 211 #[v] w fun e w' =>e = .returned (.tuple #[NI a,NI b,NI n,NI 0])∧Ext w w' :=by
 have:=LC w v D hr;rw[h]at this;exact this

theorem LD(w:AaS)(vb v:AaR)(B D:List UInt8)(hrb:RB w vb B)(hr:RB w v D)(i:Nat)(hi:i≤D.length)(hB:B.length≤1048576)(hD:D.length≤4611686018427387904):
  Calls AaU 212 #[vb,v,NI i] w fun e w' =>(match Ca B D i with | none=>e = .returned (.tuple #[.slice none 0 0,NI 0, .bool false]) | some (b,nx)=>∃v',e = .returned (.tuple #[v',NI nx, .bool true])∧RB w' v' b)∧Ext w w' :=by
 refine gG (args:= [vb,v,NI i]) Tryz.func212 rfl 70 rfl rfl ?_;have hE:=Ext.refl w;rcases hgx:A1 0 (D.drop (i))with _ | ⟨x,k⟩
 ·refine gS (XM CG rfl rfl ((MB _ v D (hr.keep hE) (i) (by omega) hgx).mono ?_));rintro e y ⟨rfl,o⟩;refine⟨_,rfl,?_⟩;refine gS (Yk.extract (vs:= [NI 0,NI 0,NI 6]) rfl rfl (gS (Yk.extract (vs:= [NI 0,NI 0,NI 6]) rfl rfl (gS (Yk.extract (vs:= [NI 0,NI 0,NI 6]) rfl rfl (gS (XK (a:=(6:Nat)) (b:=(0:Nat)) rfl rfl (AX _ _ _ _) (kT (by decide) (cT rfl (Jf rfl (vr (Aa0 none 0 0) rfl) (vr (NI 0) rfl) (vr (.bool (false)) rfl) ?_))))))))));rw[Ca,hgx];have hE:=hE.trans o;exact⟨rfl,hE⟩
 have hqx:=CM (a:=i) (by omega) hgx;refine gS (XM CG rfl rfl ((Ie _ v D (hr.keep hE) (i) (by omega) x k hgx).mono ?_));rintro e z ⟨rfl,g⟩;refine⟨_,rfl,?_⟩;refine gS (Yk.extract (vs:= [NI x,NI ((i)+k),NI 0]) rfl rfl (gS (Yk.extract (vs:= [NI x,NI ((i)+k),NI 0]) rfl rfl (gS (Yk.extract (vs:= [NI x,NI ((i)+k),NI 0]) rfl rfl (gS (XK (a:=(0:Nat)) (b:=(0:Nat)) rfl rfl (AX _ _ _ _) (kF (by decide) (cF rfl (gS (XL (xv:=NI x) (yv:=NI 2) rfl rfl rfl (KZ _ _ _ (by omega) (by omega)) (gS (XL (xv:=NI x) (yv:=NI 2) rfl rfl rfl (GW _ _ _ (by omega)) (gS (XK (a:=((x)%(2):Nat)) (b:=(1:Nat)) rfl rfl (AA _ _ _ _) ?_)))))))))))))));refine cD rfl (fun hodd=> ?_) fun hodd=> ?_
 ·rcases hgp:A1 0 (D.drop (i+k))with _ | ⟨p,m⟩
  ·have hE:=hE.trans g;refine gS (XM CG rfl rfl ((MB _ v D (hr.keep hE) ((i)+k) (by omega) hgp).mono ?_));rintro e aa ⟨rfl,q⟩;refine⟨_,rfl,?_⟩;refine gS (Yk.extract (vs:= [NI 0,NI 0,NI 6]) rfl rfl (gS (Yk.extract (vs:= [NI 0,NI 0,NI 6]) rfl rfl (gS (Yk.extract (vs:= [NI 0,NI 0,NI 6]) rfl rfl (gS (XK (a:=(6:Nat)) (b:=(0:Nat)) rfl rfl (AX _ _ _ _) (kT (by decide) (cT rfl (Jf rfl (vr (Aa0 none 0 0) rfl) (vr (NI 0) rfl) (vr (.bool (false)) rfl) ?_))))))))));rw[Ca,hgx];simp only;rw[if_pos hodd,hgp];have hE:=hE.trans q;refine⟨?_,hE⟩
   first | rfl | trivial
  have hqp:=CM (a:=i+k) (by omega) hgp;have hE:=hE.trans g;refine gS (XM CG rfl rfl ((Ie _ v D (hr.keep hE) ((i)+k) (by omega) p m hgp).mono ?_));rintro e ab ⟨rfl,j⟩;refine⟨_,rfl,?_⟩;refine gS (Yk.extract (vs:= [NI p,NI (((i)+k)+m),NI 0]) rfl rfl (gS (Yk.extract (vs:= [NI p,NI (((i)+k)+m),NI 0]) rfl rfl (gS (Yk.extract (vs:= [NI p,NI (((i)+k)+m),NI 0]) rfl rfl (gS (XK (a:=(0:Nat)) (b:=(0:Nat)) rfl rfl (AX _ _ _ _) (kF (by decide) (cF rfl ?_)))))))));by_cases c:x/2<1
  ·refine gS (XK (a:=((x)/(2):Nat)) (b:=(1:Nat)) rfl rfl (AL _ _ _ _) (kT (c) (gS (XR rfl rfl (gS (XR rfl rfl (cT rfl (Jf rfl (vr (Aa0 none 0 0) rfl) (vr (NI 0) rfl) (vr (.bool (false)) rfl) ?_))))))));rw[Ca,hgx];simp only;rw[if_pos hodd,hgp];simp only;rw[EV,if_pos (by omega)];have hE:=hE.trans j;refine⟨?_,hE⟩
   first | rfl | trivial
  by_cases f:B.length<p
  ·have hE:=hE.trans j;refine gS (XK (a:=((x)/(2):Nat)) (b:=(1:Nat)) rfl rfl (AL _ _ _ _) (kF (c) (gS (XS F5 (XP (hrb.keep hE) rfl) (gS (XK (a:=(p:Nat)) (b:=(B.length:Nat)) rfl rfl (Bj _ _ _ _) (kT (f) (gS (XV rfl rfl (gS (XR rfl rfl (cT rfl (Jf rfl (vr (Aa0 none 0 0) rfl) (vr (NI 0) rfl) (vr (.bool (false)) rfl) ?_)))))))))))));rw[Ca,hgx];simp only;rw[if_pos hodd,hgp];simp only;rw[EV,if_pos (by omega)];refine⟨?_,hE⟩
   first | rfl | trivial
  by_cases h:B.length-(p)<x/2
  ·have hE:=hE.trans j;refine gS (XK (a:=((x)/(2):Nat)) (b:=(1:Nat)) rfl rfl (AL _ _ _ _) (kF (c) (gS (XS F5 (XP (hrb.keep hE) rfl) (gS (XK (a:=(p:Nat)) (b:=(B.length:Nat)) rfl rfl (Bj _ _ _ _) (kF (f) (gS (XV rfl rfl (gS (XS F5 (XP (hrb.keep hE) rfl) (gS (XL (xv:=NI B.length) (yv:=NI p) rfl rfl rfl (BJ _ _ _ (by omega) (by omega)) (gS (XK (a:=((x)/(2):Nat)) (b:=((B.length)-(p):Nat)) rfl rfl (Bj _ _ _ _) (kT (h) (gS (XV rfl rfl (cT rfl (Jf rfl (vr (Aa0 none 0 0) rfl) (vr (NI 0) rfl) (vr (.bool (false)) rfl) ?_))))))))))))))))))));rw[Ca,hgx];simp only;rw[if_pos hodd,hgp];simp only;rw[EV,if_pos (by omega)];refine⟨?_,hE⟩
   first | rfl | trivial
  have hE:=hE.trans j;refine gS (XK (a:=((x)/(2):Nat)) (b:=(1:Nat)) rfl rfl (AL _ _ _ _) (kF (c) (gS (XS F5 (XP (hrb.keep hE) rfl) (gS (XK (a:=(p:Nat)) (b:=(B.length:Nat)) rfl rfl (Bj _ _ _ _) (kF (f) (gS (XV rfl rfl (gS (XS F5 (XP (hrb.keep hE) rfl) (gS (XL (xv:=NI B.length) (yv:=NI p) rfl rfl rfl (BJ _ _ _ (by omega) (by omega)) (gS (XK (a:=((x)/(2):Nat)) (b:=((B.length)-(p):Nat)) rfl rfl (Bj _ _ _ _) (kF (h) (gS (XV rfl rfl (cF rfl (gS (XL (xv:=NI x) (yv:=NI 2) rfl rfl rfl (GW _ _ _ (by omega)) (gS (XK (a:=((x)%(2):Nat)) (b:=(0:Nat)) rfl rfl (AA _ _ _ _) (kF (by omega) (cF rfl (gS (XL (xv:=NI p) (yv:=NI ((x)/(2))) rfl rfl rfl (Ai _ _ _ (by omega)) (gS (YI (xs:=B) (l:=p) (n:=(p)+((x)/(2))) F5 PG rfl (hrb.keep hE) rfl rfl (by omega) (by omega) fun r s ha44=>(Jf rfl (vr r rfl) (vr (NI (((i)+k)+m)) rfl) (vr (.bool (true)) rfl) ?_))))))))))))))))))))))))))))));rw[Ca,hgx];simp only;rw[if_pos hodd,hgp];simp only;rw[EV,if_neg (by omega)];refine⟨⟨_,rfl,?_⟩,hE⟩
  simpa only[AcZ] using s
 by_cases c:x/2<1
 ·refine gS (XK (a:=((x)/(2):Nat)) (b:=(1:Nat)) rfl rfl (AL _ _ _ _) (kT (c) (gS (XR rfl rfl (gS (XR rfl rfl (cT rfl (Jf rfl (vr (Aa0 none 0 0) rfl) (vr (NI 0) rfl) (vr (.bool (false)) rfl) ?_))))))));rw[Ca,hgx];simp only;rw[if_neg hodd];rw[EV,if_pos (by omega)];have hE:=hE.trans g;refine⟨?_,hE⟩
  first | rfl | trivial
 by_cases f:D.length<i+k
 ·have hE:=hE.trans g;refine gS (XK (a:=((x)/(2):Nat)) (b:=(1:Nat)) rfl rfl (AL _ _ _ _) (kF (c) (gS (XS F5 (XP (hr.keep hE) rfl) (gS (XK (a:=((i)+k:Nat)) (b:=(D.length:Nat)) rfl rfl (Bj _ _ _ _) (kT (f) (gS (XV rfl rfl (gS (XR rfl rfl (cT rfl (Jf rfl (vr (Aa0 none 0 0) rfl) (vr (NI 0) rfl) (vr (.bool (false)) rfl) ?_)))))))))))));rw[Ca,hgx];simp only;rw[if_neg hodd];rw[EV,if_pos (by omega)];refine⟨?_,hE⟩
  first | rfl | trivial
 by_cases h:D.length-(i+k)<x/2
 ·have hE:=hE.trans g;refine gS (XK (a:=((x)/(2):Nat)) (b:=(1:Nat)) rfl rfl (AL _ _ _ _) (kF (c) (gS (XS F5 (XP (hr.keep hE) rfl) (gS (XK (a:=((i)+k:Nat)) (b:=(D.length:Nat)) rfl rfl (Bj _ _ _ _) (kF (f) (gS (XV rfl rfl (gS (XS F5 (XP (hr.keep hE) rfl) (gS (XL (xv:=NI D.length) (yv:=NI ((i)+k)) rfl rfl rfl (BJ _ _ _ (by omega) (by omega)) (gS (XK (a:=((x)/(2):Nat)) (b:=((D.length)-((i)+k):Nat)) rfl rfl (Bj _ _ _ _) (kT (h) (gS (XV rfl rfl (cT rfl (Jf rfl (vr (Aa0 none 0 0) rfl) (vr (NI 0) rfl) (vr (.bool (false)) rfl) ?_))))))))))))))))))));rw[Ca,hgx];simp only;rw[if_neg hodd];rw[EV,if_pos (by omega)];refine⟨?_,hE⟩
  first | rfl | trivial
 have hE:=hE.trans g;refine gS (XK (a:=((x)/(2):Nat)) (b:=(1:Nat)) rfl rfl (AL _ _ _ _) (kF (c) (gS (XS F5 (XP (hr.keep hE) rfl) (gS (XK (a:=((i)+k:Nat)) (b:=(D.length:Nat)) rfl rfl (Bj _ _ _ _) (kF (f) (gS (XV rfl rfl (gS (XS F5 (XP (hr.keep hE) rfl) (gS (XL (xv:=NI D.length) (yv:=NI ((i)+k)) rfl rfl rfl (BJ _ _ _ (by omega) (by omega)) (gS (XK (a:=((x)/(2):Nat)) (b:=((D.length)-((i)+k):Nat)) rfl rfl (Bj _ _ _ _) (kF (h) (gS (XV rfl rfl (cF rfl (gS (XL (xv:=NI x) (yv:=NI 2) rfl rfl rfl (GW _ _ _ (by omega)) (gS (XK (a:=((x)%(2):Nat)) (b:=(0:Nat)) rfl rfl (AA _ _ _ _) (kT (by omega) (cT rfl (gS (XL (xv:=NI ((i)+k)) (yv:=NI ((x)/(2))) rfl rfl rfl (Ai _ _ _ (by omega)) (gS (XL (xv:=NI ((i)+k)) (yv:=NI ((x)/(2))) rfl rfl rfl (Ai _ _ _ (by omega)) (gS (YI (xs:=D) (l:=(i)+k) (n:=((i)+k)+((x)/(2))) F5 PG rfl (hr.keep hE) rfl rfl (by omega) (by omega) fun t u ha61=>(Jf rfl (vr t rfl) (vr (NI (((i)+k)+((x)/(2)))) rfl) (vr (.bool (true)) rfl) ?_))))))))))))))))))))))))))))))));rw[Ca,hgx];simp only;rw[if_neg hodd];rw[EV,if_neg (by omega)];refine⟨⟨_,rfl,?_⟩,hE⟩
 simpa only[AcZ] using u
theorem Ji:Plain AaU 211:=fun _ _=>by kernel_rfl
theorem Jj:Plain AaU 212:=fun _ _=>by kernel_rfl
theorem Tn(w:AaS)(vb v:AaR)(B D:List UInt8)(hrb:RB w vb B)(hr:RB w v D)(i:Nat)(hi:i≤D.length)(hB:B.length≤1048576)(hD:D.length≤4611686018427387904)(h:Ca B D i=none):
  Calls AaU 212 #[vb,v,NI i] w fun e w' =>e = .returned (.tuple #[.slice none 0 0,NI 0, .bool false])∧Ext w w' :=by
 have:=LD w vb v B D hrb hr i hi hB hD;rw[h]at this;exact this
theorem RD(w:AaS)(vb v:AaR)(B D:List UInt8)(hrb:RB w vb B)(hr:RB w v D)(i:Nat)(hi:i≤D.length)(hB:B.length≤1048576)(hD:D.length≤4611686018427387904)(b:List UInt8)(nx:Nat)(h:Ca B D i=some (b,nx)):
  Calls AaU 212 #[vb,v,NI i] w fun e w' =>∃v',e = .returned (.tuple #[v',NI nx, .bool true])∧RB w' v' b∧Ext w w' :=by
 have:=LD w vb v B D hrb hr i hi hB hD;rw[h]at this;exact this.mono fun e w' ⟨⟨v',h1,h2⟩,h3⟩=>⟨v',h1,h2,h3⟩

theorem RE(w:AaS)(vb v:AaR)(B D:List UInt8)(hrb:RB w vb B)(hr:RB w v D)(hB:B.length≤1048576)(hD:D.length≤4611686018427387904):
  Calls AaU 173 #[vb,v] w fun e w' =>∃v',e = .returned (.tuple #[v',NI (A5 B D).2])∧RB w' v' (A5 B D).1∧Ext w w' ∧∀k,Aa1 v' =some k→w.heap.size≤k∧k<w'.heap.size:=by
 refine gG (args:= [vb,v]) Tryz.func173 rfl 65 rfl rfl ?_;have hE:=Ext.refl w;rcases hsz:DJ D with _ | ⟨sa,sb,sn⟩
 ·refine gS (XQ Ji rfl ((Tm _ v D (hr.keep hE) hsz).mono ?_));rintro e w4 ⟨rfl,aa⟩;refine⟨_,rfl,?_⟩;refine gS (Yk.extract (vs:= [NI 0,NI 0,NI 0,NI 6]) rfl rfl (gS (Yk.extract (vs:= [NI 0,NI 0,NI 0,NI 6]) rfl rfl (gS (Yk.extract (vs:= [NI 0,NI 0,NI 0,NI 6]) rfl rfl (gS (Yk.extract (vs:= [NI 0,NI 0,NI 0,NI 6]) rfl rfl (gS (XK (a:=(6:Nat)) (b:=(0:Nat)) rfl rfl (AX _ _ _ _) (kT (by decide) (cT rfl (By rfl (vr (Aa0 none 0 0) rfl) (vr (NI 6) rfl) ?_))))))))))));have hP:A5 B D=([],6):=by rw[A5,hsz]
  rw[hP];have hE:=hE.trans aa;exact⟨_,rfl,RB.nil _,hE,(fun k hk=>by cases hk)⟩
 have hsb:=M9 hsz;refine gS (XQ Ji rfl ((RC _ v D (hr.keep hE) sa sb sn hsz).mono ?_));rintro e ab ⟨rfl,x⟩;refine⟨_,rfl,?_⟩;refine gS (Yk.extract (vs:= [NI sa,NI sb,NI sn,NI 0]) rfl rfl (gS (Yk.extract (vs:= [NI sa,NI sb,NI sn,NI 0]) rfl rfl (gS (Yk.extract (vs:= [NI sa,NI sb,NI sn,NI 0]) rfl rfl (gS (Yk.extract (vs:= [NI sa,NI sb,NI sn,NI 0]) rfl rfl (gS (XK (a:=(0:Nat)) (b:=(0:Nat)) rfl rfl (AX _ _ _ _) (kF (by decide) (cF rfl (gS (XK (a:=(sb:Nat)) (b:=(262144:Nat)) rfl rfl (Bj _ _ _ _) ?_)))))))))))));refine cD rfl (fun c=> ?_) fun c=> ?_
 ·refine By rfl (vr (Aa0 none 0 0) rfl) (vr (NI 2) rfl) ?_;have hP:A5 B D=([],2):=by rw[A5,hsz];simp only;rw[if_pos c]
  rw[hP];have hE:=hE.trans x;exact⟨_,rfl,RB.nil _,hE,(fun k hk=>by cases hk)⟩
 have hE:=hE.trans x;refine gS (XS F5 (XP (hrb.keep hE) rfl) (gS (XK (a:=(sa:Nat)) (b:=(B.length:Nat)) rfl rfl (AX _ _ _ _) ?_)));refine cD rfl (fun g=> ?_) fun g=> ?_
 ·refine By rfl (vr (Aa0 none 0 0) rfl) (vr (NI 6) rfl) ?_;have hP:A5 B D=([],6):=by rw[A5,hsz];simp only;rw[if_neg c,if_pos g]
  rw[hP];exact⟨_,rfl,RB.nil _,hE,(fun k hk=>by cases hk)⟩
 have hoN:w.ownsRow w.heap.size 5 1 (Aa0 none 0 0) ([]:List UInt8).length (AaT ([]:List UInt8)):=AbO _ _ _ 1;have hoN:ab.ownsRow w.heap.size 5 1 (Aa0 none 0 0) ([]:List UInt8).length (AaT ([]:List UInt8)):=AbO _ _ _ 1;refine gL (fun(ρ:Ad) (wz:AaS)=>∃i:Nat,∃f:Nat,∃o:List UInt8,∃vo:AaR,ρ 0=(vb:AaR)∧ρ 1=(v:AaR)∧ρ 6=(NI sa:AaR)∧ρ 7=(NI sb:AaR)∧ρ 9=(NI 0:AaR)∧ρ 21=(.bool (false):AaR)∧ρ 8=(NI i:AaR)∧ρ 10=(vo:AaR)∧Ext w wz∧wz.ownsRow w.heap.size 5 1 vo o.length (AaT (o))∧(Ck B D sb f i o=Ck B D sb (D.length+1) sn [])∧(D.length<i+f)∧(i≤D.length)∧(o.length≤sb)∧True) (fun ρ _=>D.length-(intOf (ρ 8)).toNat) ⟨sn,D.length+1,[],(Aa0 none 0 0),rfl,rfl,rfl,rfl,rfl,rfl,rfl,rfl,hE,Dh hoN (rfl),rfl,by omega,by omega,by simp,trivial⟩ ?_;clear hoN;clear hE;rintro ac al ⟨i,f,o,vo,p,l,T6,q,T9,af,m,j,hE,ho_vo,hgo,hf,hi,hos,-⟩;have q8:=m;have ql10:=EP ho_vo;obtain⟨f',rfl⟩:∃f',f=f' +1:=⟨f-1,by omega⟩;refine gS (XS F5 (XP (hr.keep hE) l) (gS (XK (a:=(i:Nat)) (b:=(D.length:Nat)) m rfl (AL _ _ _ _) ?_)));refine cD rfl (fun h=> ?_) fun h=> ?_
 ·rcases hpc:Ca B D i with _ | ⟨pb,nx⟩
  ·refine gS (X8 Jj p l m ((Tn _ vb v B D (hrb.keep hE) (hr.keep hE) i (by omega) hB hD hpc).mono ?_));rintro e am ⟨rfl,ag⟩;refine⟨_,rfl,?_⟩;refine gS (Yk.extract (vs:= [(Aa0 none 0 0),NI 0, .bool (false)]) rfl rfl (gS (Yk.extract (vs:= [(Aa0 none 0 0),NI 0, .bool (false)]) rfl rfl (gS (Yk.extract (vs:= [(Aa0 none 0 0),NI 0, .bool (false)]) rfl rfl (gS (Ym rfl (gS (XR rfl rfl (cT rfl (By rfl (vr (Aa0 none 0 0) rfl) (vr (NI 6) rfl) ?_)))))))))));rw[Ck,if_pos h,hpc]at hgo;have hP:A5 B D=([],6):=by rw[A5,hsz];simp only;rw[if_neg c,if_neg g,←hgo]
   rw[hP];have hE:=hE.trans ag;exact⟨_,rfl,RB.nil _,hE,(fun k hk=>by cases hk)⟩
  have hpb:=Na (by omega) hpc;refine gS (X8 Jj p l m ((RD _ vb v B D (hrb.keep hE) (hr.keep hE) i (by omega) hB hD pb nx hpc).mono ?_));rintro e ah ⟨n,rfl,r,s⟩;refine⟨_,rfl,?_⟩;have ho_vo:=Stab.own _ _ _ _ _ _ _ _ ho_vo s;refine gS (Yk.extract (vs:= [n,NI nx, .bool (true)]) rfl rfl (gS (Yk.extract (vs:= [n,NI nx, .bool (true)]) rfl rfl (gS (Yk.extract (vs:= [n,NI nx, .bool (true)]) rfl rfl (gS (Ym rfl (gS (XS F5 (XP r rfl) (gS (XS F5 (XP (X3 ho_vo) j) (gS (XL (xv:=NI sb) (yv:=NI o.length) q rfl rfl (BJ _ _ _ (by omega) (by omega)) (gS (XK (a:=(pb.length:Nat)) (b:=((sb)-(o.length):Nat)) rfl rfl (Bj _ _ _ _) (gS (XV rfl rfl ?_)))))))))))))))));refine cD rfl (fun t=> ?_) fun t=> ?_
  ·refine By rfl (vr (Aa0 none 0 0) rfl) (vr (NI 6) rfl) ?_;rw[Ck,if_pos h,hpc]at hgo;simp only at hgo;rw[if_pos t]at hgo;have hP:A5 B D=([],6):=by rw[A5,hsz];simp only;rw[if_neg c,if_neg g,←hgo]
   rw[hP];have hE:=hE.trans s;exact⟨_,rfl,RB.nil _,hE,(fun k hk=>by cases hk)⟩
  have hE:=hE.trans s;refine gS (Ya _ _ w.heap.size (.int .u8 0) F5 MA rfl F5 (o) (pb) (CV ho_vo j) (XP r (vr n rfl)) (by omega) hE.size fun y ai aj u=> ?_);have u:Grew ah ai vo y:= .eqv j u;have hE:=Av hE u ho_vo (AaX _);clear r;clear ho_vo;refine gK (Aby ⟨nx,f',o++pb,y,p,l,T6,q,T9,af,rfl,rfl,hE,Dh aj (rfl),by rw[Ck,if_pos h,hpc]at hgo;simp only at hgo;rw[if_neg t]at hgo;exact hgo,by omega,by omega,by rw[AaY];omega,trivial⟩ ?_);show D.length-(intOf (NI nx)).toNat<D.length-(intOf (ac 8)).toNat;rw[q8];simp only[intOf,Aba];omega
 refine gS (XS F5 (XP (X3 ho_vo) j) (gS (XK (a:=(o.length:Nat)) (b:=(sb:Nat)) rfl q (AX _ _ _ _) ?_)));refine cD rfl (fun z=> ?_) fun z=> ?_
 ·refine By rfl (vr (Aa0 none 0 0) rfl) (vr (NI 6) rfl) ?_;rw[Ck,if_neg h,if_neg z]at hgo;have hP:A5 B D=([],6):=by rw[A5,hsz];simp only;rw[if_neg c,if_neg g,←hgo]
  rw[hP];exact⟨_,rfl,RB.nil _,hE,(fun k hk=>by cases hk)⟩
 refine By rfl j (vr (NI 0) rfl) ?_;rw[Ck,if_neg h,if_pos (by omega)]at hgo;have hP:A5 B D=(o,0):=by rw[A5,hsz];simp only;rw[if_neg c,if_neg g,←hgo]
 rw[hP];exact⟨_,rfl,X3 ho_vo,hE,(ho_vo).lt⟩

theorem Ii(T:List UInt8)(fr to:Nat)(o:List UInt8):∃r,Cj T fr to o=o++r:=by
  unfold Cj;split
  · exact⟨Abd (2*(to-fr))++(T.drop fr).take (to-fr),by rw[Abr]⟩
  · exact⟨[],by simp⟩
theorem Ij(B T:List UInt8):∀(f i fr:Nat) (o:List UInt8),∃r,C6 B T f i fr o=o++r
  | 0,_,fr,o=>Ii T fr T.length o
  | f+1,i,fr,o=>by
    unfold C6;split
    · split
      · exact Ij B T f _ _ _
      · obtain⟨r,hr⟩:=Ij B T f (i+(BR B T i).2) (i+(BR B T i).2) (Cj T fr i o++Abd (2*(BR B T i).2+1)++Abd (BR B T i).1);obtain⟨q,hq⟩:=Ii T fr i o;exact⟨q++Abd (2*(BR B T i).2+1)++Abd (BR B T i).1++r,by rw[hr,hq];simp only[Abr]⟩
    · exact Ii T fr T.length o
theorem DZ(n:Nat)(h:n<9223372036854775808)(r:List UInt8):A1 0 (Abd n++r)=some (n,(Abd n).length):=GY r 8 n 0 (AbL h (by decide)) (by omega) (by omega)
theorem Ot(B T:List UInt8)(hB:B.length≤1048576)(hT:T.length≤1048576):DJ (BU B T)=some (B.length,T.length,0+(Abd B.length).length+(Abd T.length).length):=by
  obtain⟨r,hr⟩:=Ij B T T.length 0 0 (Abd B.length++Abd T.length);have h1:BU B T=Abd B.length++(Abd T.length++r):=by rw[BU,hr,Abr]
  unfold DJ;rw[h1,Adk,DZ _ (by omega)];simp only;rw[Ab9,AcP,DZ _ (by omega)]
theorem O1(B T:List UInt8)(i:Nat)(hi:i≤T.length):∀(zs:List Nat) (pn:Nat × Nat),(∀z∈zs,z≤B.length)→pn.1≤B.length→pn.2≤T.length-i→(zs.foldl (Ej B T i) pn).1≤B.length∧(zs.foldl (Ej B T i) pn).2≤T.length-i
  | [],_,_,h1,h2=>⟨h1,h2⟩
  | z :: zs,pn,hz,h1,h2=>by
    rw[AdT];refine O1 B T i hi zs _ (fun x hx=>hz x (by simp[hx])) ?_ ?_
    · unfold Ej;split
      · exact hz z (by simp)
      · exact h1
    · unfold Ej;split
      · have:=(Kd (B.drop z) (T.drop i)).2;rw[Abf]at this;exact this
      · exact h2
theorem O2(B T:List UInt8)(i:Nat)(hi:i≤T.length):(BR B T i).1≤B.length∧(BR B T i).2≤T.length-i:=by
  unfold BR;split
  · refine O1 B T i hi _ _ (fun z hz=> ?_) (Abs _) (Abs _);unfold posOf at hz;rw[Acw,AeI]at hz;omega
  · exact⟨Abs _,Abs _⟩
theorem Nb:∀(a b:List UInt8) (n:Nat),n≤CL a b→a.take n=b.take n
  | _,_,0,_=>by simp
  | [],b,n+1,h=>by simp[CL]at h
  | a :: u,[],n+1,h=>by simp[CL]at h
  | a :: u,b :: z,n+1,h=>by
    unfold CL at h;split at h
    · rename_i e
      rw[AdO,AdO,e,Nb u z n (by omega)]
    · omega
theorem RF:∀(n:Nat) (a b:List UInt8),n≤a.length→n≤b.length→a.take n=b.take n→n≤CL a b
  | 0,_,_,_,_,_=>Abs _
  | n+1,[],_,h,_,_=>by simp at h
  | n+1,_ :: _,[],_,h,_=>by simp at h
  | n+1,a :: u,b :: z,h1,h2,h=>by
    rw[AdO,AdO]at h;injection h with c e
    unfold CL;rw[if_pos c];have:=RF n u z (by simpa using h1) (by simpa using h2) e;omega
theorem O3(B T:List UInt8)(i:Nat):∀(zs:List Nat) (pn:Nat × Nat),(pn.2=0∨pn.2=CL (B.drop pn.1) (T.drop i)∧8≤pn.2)→(∀z∈zs,8≤CL (B.drop z) (T.drop i))→(zs.foldl (Ej B T i) pn).2=0∨(zs.foldl (Ej B T i) pn).2=CL (B.drop (zs.foldl (Ej B T i) pn).1) (T.drop i)∧8≤(zs.foldl (Ej B T i) pn).2
  | [],_,h,_=>h
  | z :: zs,pn,h,hz=>by
    rw[AdT];refine O3 B T i zs _ ?_ (fun x hx=>hz x (by simp[hx]));unfold Ej;split
    · exact .inr ⟨rfl,hz z (by simp)⟩
    · exact h
theorem O4(B T:List UInt8)(i:Nat)(h:(BR B T i).2≠0):(BR B T i).2=CL (B.drop (BR B T i).1) (T.drop i)∧8≤(BR B T i).2:=by
  have key:(BR B T i).2=0∨(BR B T i).2=CL (B.drop (BR B T i).1) (T.drop i)∧8≤(BR B T i).2:=by
    unfold BR;split
    · rename_i h8
      refine O3 B T i _ _ (.inl rfl) (fun z hz=> ?_);unfold posOf at hz;rw[Acw,AeI]at hz;have he:=eq_of_beq hz.2;exact RF 8 _ _ (by rw[Abf];omega) (by rw[Abf];omega) he
    · exact .inl rfl
  exact key.resolve_left h
def Cb(T:List UInt8)(fr to:Nat):List UInt8:=if fr<to then Abd (2*(to-fr))++(T.drop fr).take (to-fr)else []
def EC(B T:List UInt8):Nat→Nat→Nat→List UInt8
  | 0,_,fr=>Cb T fr T.length
  | f+1,i,fr=>if i<T.length then(if(BR B T i).2=0 then EC B T f (i+1) fr
      else Cb T fr i++(Abd (2*(BR B T i).2+1)++(Abd (BR B T i).1++EC B T f (i+(BR B T i).2) (i+(BR B T i).2))))else Cb T fr T.length
theorem JE(T:List UInt8)(fr to:Nat)(o:List UInt8):Cj T fr to o=o++Cb T fr to:=by
  unfold Cj Cb;split
  · rw[Abr]
  · simp
theorem JF(B T:List UInt8):∀(f i fr:Nat) (o:List UInt8),C6 B T f i fr o=o++EC B T f i fr
  | 0,_,fr,o=>JE T fr T.length o
  | f+1,i,fr,o=>by
    unfold C6 EC;split
    · split
      · exact JF B T f _ _ _
      · rw[JF B T f,JE];simp only[Abr]
    · exact JE T fr T.length o
theorem RH(n:Nat)(h:n<16384):(Abd n).length≤2:=Lib.uvarint_length 1 n (by omega)
theorem Hr(T:List UInt8)(fr to:Nat)(ht:to≤T.length)(hT:T.length≤5000):(Cb T fr to).length≤2*(to-fr):=by
  unfold Cb;split
  · have h2:=RH (2*(to-fr)) (by omega);rw[AaY,Abg,Abf];by_cases h1:to-fr=1
    · rw[h1,Ad6 (by omega)];simp;omega
    · omega
  · simp
theorem Ik(B T:List UInt8)(hB:B.length≤5000)(hT:T.length≤5000):∀(f i fr:Nat),fr≤i→i≤T.length→(EC B T f i fr).length≤2*(T.length-fr)
  | 0,i,fr,_,_=>Hr T fr T.length (AaX _) hT
  | f+1,i,fr,h,hi=>by
    unfold EC;split
    · split
      · exact Ik B T hB hT f (i+1) fr (by omega) (by omega)
      · rename_i h1 hn
        have hb:=O2 B T i hi;have h8:=(O4 B T i hn).2;have ih:=Ik B T hB hT f (i+(BR B T i).2) (i+(BR B T i).2) (AaX _) (by omega);have hf:=Hr T fr i hi hT;have a:=RH (2*(BR B T i).2+1) (by omega);have b:=RH (BR B T i).1 (by omega);simp only[AaY];omega
    · exact Hr T fr T.length (AaX _) hT
theorem O5(B T:List UInt8):BU B T=Abd B.length++Abd T.length++EC B T T.length 0 0:=JF B T _ _ _ _
theorem Il(B T:List UInt8)(hB:B.length≤5000)(hT:T.length≤5000):(BU B T).length≤2*T.length+18:=by
  have:=Ik B T hB hT T.length 0 0 (AaX _) (Abs _);have a:=RH B.length (by omega);have b:=RH T.length (by omega);rw[O5,AaY,AaY];omega
theorem RI(B pre bs rest:List UInt8)(h1:1≤bs.length)(h2:bs.length≤1048576):Ca B (pre++(Abd (2*bs.length)++(bs++rest))) pre.length=some (bs,pre.length+(Abd (2*bs.length)).length+bs.length):=by
  unfold Ca;rw[AcP,DZ _ (by omega)];simp only;rw[if_neg (by omega),EV,if_neg (by simp only[AaY];omega),Nat.mul_div_cancel_left _ (by decide)];rw[show pre++(Abd (2*bs.length)++(bs++rest))=(pre++Abd (2*bs.length))++(bs++rest) by rw[Abr],←AaY,AcP,Ada]
theorem P1(B pre rest:List UInt8)(p n:Nat)(hn:1≤n)(hp:p≤B.length)(hpn:n≤B.length-p)(hB:B.length≤1048576):Ca B (pre++(Abd (2*n+1)++(Abd p++rest))) pre.length=some ((B.drop p).take n,pre.length+(Abd (2*n+1)).length+(Abd p).length):=by
  unfold Ca;rw[AcP,DZ _ (by omega)];simp only;rw[if_pos (by omega),show pre++(Abd (2*n+1)++(Abd p++rest))=(pre++Abd (2*n+1))++(Abd p++rest) by rw[Abr],←AaY,AcP,DZ _ (by omega)];simp only;rw[show(2*n+1)/2=n by omega,EV,if_neg (by omega)]
theorem LE(T:List UInt8)(fr to:Nat)(h:fr≤to):T.take fr++(T.drop fr).take (to-fr)=T.take to:=by
  rw[←List.take_add]
  congr 1
  omega
theorem Ki(B T pre rest:List UInt8)(fr to:Nat)(h:fr≤to)(ht:to≤T.length)(hT:T.length≤1048576)(g:Nat)(hg:(Cb T fr to++rest).length<g):∃g',rest.length<g' ∧Ck B (pre++(Cb T fr to++rest)) T.length g pre.length (T.take fr)=Ck B (pre++(Cb T fr to++rest)) T.length g' (pre++Cb T fr to).length (T.take to):=by
  by_cases hlt:fr<to
  · have hl:((T.drop fr).take (to-fr)).length=to-fr:=by rw[Abg,Abf];omega
    have hf:Cb T fr to=Abd (2*((T.drop fr).take (to-fr)).length)++(T.drop fr).take (to-fr):=by rw[Cb,if_pos hlt,hl]
    have hfl:1≤(Cb T fr to).length:=by rw[hf,AaY,hl];omega
    cases g with
    | zero=>omega
    | succ g=>
      refine⟨g,by rw[AaY]at hg;omega,?_⟩;rw[Ck,if_pos (by simp only[AaY];omega)];have hp:=RI B pre ((T.drop fr).take (to-fr)) rest (by omega) (by omega);rw[show pre++(Cb T fr to++rest)=pre++(Abd (2*((T.drop fr).take (to-fr)).length)++((T.drop fr).take (to-fr)++rest)) by rw[hf,Abr],hp];simp only;rw[if_neg (by rw[hl,Abg];omega),LE T fr to h]
      congr 1
      rw[hf];simp only[AaY];omega
  · have he:fr=to:=by omega
    subst he;have hf:Cb T fr fr= []:=by rw[Cb,if_neg (by omega)]
    rw[hf]at hg ⊢;exact⟨g,by simpa using hg,by simp⟩
theorem Ou(B D T:List UInt8)(g:Nat)(hg:0<g):Ck B D T.length g D.length (T.take T.length)=some T:=by
  cases g with
  | zero=>omega
  | succ g=>rw[Ck,if_neg (by omega),Acy,if_pos rfl]
theorem LF(B T pre:List UInt8)(fr:Nat)(h:fr≤T.length)(hT:T.length≤1048576)(g:Nat)(hg:(Cb T fr T.length).length<g):Ck B (pre++Cb T fr T.length) T.length g pre.length (T.take fr)=some T:=by
  obtain⟨g',h1,h2⟩:=Ki B T pre [] fr T.length h (AaX _) hT g (by simpa using hg);rw[AcK]at h2;rw[h2];exact Ou B _ T g' (by omega)
theorem Im(B T:List UInt8)(hB:B.length≤1048576)(hT:T.length≤1048576):∀(f i fr:Nat) (pre:List UInt8) (g:Nat),fr≤i→i≤T.length→(EC B T f i fr).length<g→Ck B (pre++EC B T f i fr) T.length g pre.length (T.take fr)=some T
  | 0,i,fr,pre,g,h1,h2,hg=>LF B T pre fr (by omega) hT g hg
  | f+1,i,fr,pre,g,h1,h2,hg=>by
    unfold EC at hg ⊢;split
    · rename_i hi
      rw[if_pos hi]at hg;split
      · rename_i hn
        rw[if_pos hn]at hg;exact Im B T hB hT f (i+1) fr pre g (by omega) (by omega) hg
      · rename_i hn
        rw[if_neg hn]at hg;have hb:=O2 B T i h2;have hs:=O4 B T i hn
        generalize BR B T i=pn at *
        obtain⟨p,n⟩:=pn;simp only at hn hb hs hg ⊢;have hpn:=(Kd (B.drop p) (T.drop i)).1;rw[Abf]at hpn;obtain⟨g',h3,h4⟩:=Ki B T pre (Abd (2*n+1)++(Abd p++EC B T f (i+n) (i+n))) fr i h1 h2 hT g hg;rw[h4];have hu:=Lib.uvarint_pos (2*n+1);cases g' with
        | zero=>omega
        | succ g' =>
          rw[←Abr pre,Ck,if_pos (by simp only[AaY];omega),P1 B (pre++Cb T fr i) _ p n (by omega) hb.1 (by omega) hB];simp only;have hl:((B.drop p).take n).length=n:=by rw[Abg,Abf];omega
          rw[if_neg (by rw[hl,Abg];omega),Nb (B.drop p) (T.drop i) n (by omega)];have ht:T.take i++(T.drop i).take n=T.take (i+n):=by
            have:=LE T i (i+n) (by omega)
            rwa [AcZ]at this
          rw[ht];have ih:=Im B T hB hT f (i+n) (i+n) (pre++Cb T fr i++Abd (2*n+1)++Abd p) g' (AaX _) (by omega) (by simp only[AaY]at h3;omega);rw[←ih];simp only[Abr,AaY,Ac5]
    · rename_i hi
      rw[if_neg hi]at hg;exact LF B T pre fr (by omega) hT g hg
theorem P2(B T:List UInt8)(hB:B.length≤5000)(hT:T.length≤5000):A5 B (BU B T)=(T,0):=by
  unfold A5;rw[Ot B T (by omega) (by omega)];simp only;rw[if_neg (by omega),if_neg (by simp),O5,Ab9,←AaY];have:=Im B T (by omega) (by omega) T.length 0 0 (Abd B.length++Abd T.length) ((Abd B.length++Abd T.length++EC B T T.length 0 0).length+1) (AaX _) (Abs _) (by simp only[AaY];omega);rw[List.take_zero]at this;rw[this]
theorem Zt(n i:Nat)(h:i<8):(Sha.be64 n).take (i+1)=(Sha.be64 n).take i++ [AbQ (n/2^(56-8*i))]:=by
 unfold Sha.be64;rw[Abu (by simp;omega)];simp
def HashAt(w:AaS)(g:Nat)(p:List UInt8):Prop:=∃s r,Sha.At p s r∧w.heap[g]? =some (.cells (hashL s r (p.length%64) p.length).toArray 226 (0,0))
theorem HashAt.keep{w w' :AaS}{g:Nat}{p:List UInt8}(h:HashAt w g p)(k:Ext w w'):HashAt w' g p:=by
  obtain⟨s,r,h1,h2⟩:=h;exact⟨s,r,h1,eb k h2⟩
theorem sha6_ty147:Tryz.prog.underlying 147=some (.pointer 226):=by kernel_rfl
theorem sha6_fo226_3:A2 AaU 226 3 73:=fun b o w=>by simp[go_sem]
theorem In:A2 AaU 226 1 8:=fun b o w=>by simp[go_sem]
theorem D4:A2 AaU 226 2 72:=fun b o w=>by simp[go_sem]
theorem Kj:Tryz.prog.underlying 224=some (.array 64 5):=by kernel_rfl
theorem Io:A2 AaU 226 0 0:=fun b o w=>by simp[go_sem]
theorem P3:Plain AaU 137:=fun _ _=>by kernel_rfl
theorem Vl(w:AaS)(hG:Laid w):
    Calls AaU 81 #[] w fun e w' =>∃g,e = .returned (PQ g 0)∧w.heap.size≤g∧HashAt w' g []∧Ext w w' :=by
  obtain⟨tF,fF,hF0⟩:=hG.first;refine gG (args:= []) Tryz.func81 rfl 4 rfl rfl ?_;have hE:=Ext.refl w;refine gS (XO rfl (eb hE hF0) AQ rfl DM (gS (Yk.run (v:= .agg (hashL Sha.first (Aa4 64 0) 0 0).toArray) (by kernel_rfl) (gS (Yk.box (vr (.agg (hashL Sha.first (Aa4 64 0) 0 0).toArray) rfl) fun a c i b f j=> ?_)))));have h:=b;clear b;have k:a<c.heap.size:=by omega
  refine Bn rfl (vr (PQ a 0) rfl) ?_;have hE:=hE.trans f;exact⟨_,rfl,by omega,⟨_,_,Sha.at_nil,h⟩,hE⟩

theorem LG(w:AaS)(hG:Laid w)(g:Nat)(hh:1<g)(p:List UInt8)(hH:HashAt w g p)(v:AaR)(c:List UInt8)(hc:RB w v c)(hv:v.ownBlock≠some g)(hb:p.length+c.length<4611686018427387904):
    Calls AaU 82 #[PQ g 0,v] w fun e w' =>e = .returned (.tuple #[])∧HashAt w' g (p++c)∧w.grownBy w' (some g):=by
  obtain⟨s,r,hat,u⟩:=hH;have hs:=hat.slen;have hr:=hat.len;obtain⟨f,hf⟩:∃f,f=p.length%64:=⟨_,rfl⟩;rw[←hf]at u;obtain⟨N,hN⟩:∃N,p.length+c.length=N:=⟨_,rfl⟩;have hgr:w.grownBy w (some g):=Ace _ _;refine gG (args:= [PQ g 0,v]) Tryz.func82 rfl 60 rfl rfl (gS (X5 sha6_ty147 rfl (cF rfl (gS (Yk.nilCheck rfl (gS (Yk.fieldAt sha6_fo226_3 rfl (gS (XJ Tc rfl rfl (cellAt u (hashL_size hs hr)) (gS (XS F5 (XP hc rfl) (gS (XL (xv:=NI p.length) (yv:=NI c.length) rfl rfl rfl (Ai _ _ _ (by omega)) (gS (Yk.nilCheck rfl (gS (Yk.fieldAt sha6_fo226_3 rfl (gS (XY (i:=73) (v:=NI ((p.length)+(c.length))) rfl rfl u (by rw[Cr hs hr];omega) M5 rfl rfl fun w4 ay al b2=> ?_)))))))))))))))))));have hG:Laid w4:=Laid.kept hG al hh;have hgr:w.grownBy w4 (some g):=Ak hgr al (fun _ e=> .inl e);clear u;have u:=ay;clear ay;have b3:=bl u;have u:w4.heap[g]? =some (.cells (hashL s r f N).toArray 226 (0,0)):=AV u (by rw[HU hs hr,hN]);have hc:=RB.kept hc al (.inr hv);refine gL (fun(ρ:Ad) (wz:AaS)=>∃m:Nat,∃s1:List UInt32,∃r1:List UInt8,∃f1:Nat,∃v1:AaR,ρ 0=(PQ g 0:AaR)∧ρ 6=(.bool (false):AaR)∧ρ 1=(v1:AaR)∧Laid wz∧w.grownBy wz (some g)∧RB wz v1 (c.drop m)∧wz.heap[g]? =some (.cells (hashL s1 r1 f1 N).toArray 226 (0,0))∧(m≤c.length)∧(Sha.At (p++c.take m) s1 r1)∧(f1=(p++c.take m).length%64)∧(OB v1 g)∧True) (fun ρ _=>BD (ρ 1)) ⟨0,s,r,f,v,rfl,rfl,rfl,hG,hgr,hc,AV u (rfl),by omega,by simpa using hat,by simpa using hf,hv,trivial⟩ ?_;clear hc;clear u;clear hG hgr;rintro az ag ⟨m,s1,r1,f1,v1,q,T6,z,hG,hgr,ab,hb0l,hm,hat1,hf1,hv1,-⟩;have q1:=z;have ql1:=ab.sliceLen;have t:=hat1.slen;have am:=hat1.len;have hf64:f1<64:=by omega
  refine gS (XS F5 (XP ab z) (gS (XK (a:=((c.drop m:List UInt8).length:Nat)) (b:=(0:Nat)) rfl rfl (Bj _ _ _ _) ?_)));refine cD rfl (fun hc1' => ?_) fun hc1' => ?_
  · obtain⟨X,hX⟩:∃X,X=(c.drop m).take (64-f1):=⟨_,rfl⟩;obtain⟨n,hn⟩:∃n,n=X.length:=⟨_,rfl⟩;have hxl:X.length=n:=hn.symm;have hcl:(c.drop m).length=c.length-m:=Abf;have hnm:AdR (c.drop m).length (64-f1)=n:=by rw[hn,hX,Abg];exact AgP _ _
    have b4:0<n:=by rw[←hnm];exact Nat.lt_min.2 ⟨hc1',by omega⟩
    have b5:f1+n≤64:=by(have:n≤64-f1:=by rw[←hnm];exact Nat.min_le_right _ _);omega
    have a6:n≤(c.drop m).length:=by rw[←hnm];exact Ae8 _ _
    have hXn:X=(c.drop m).take n:=by rw[hX,←hnm];simp[List.take_eq_take_iff];exact AgP _ _
    have htk:(p++c.take m)++X=p++c.take (m+n):=by rw[Abr,hXn,List.take_add]
    
    refine gR ?_;refine MM 9 [Is (PQ g 0),Is (PQ g 0),Is (PQ g 8),Is (PQ g 0),Is (PQ g 0),Is (PQ g 72),Is (NI f1),Is (.slice (some ⟨g,8+f1,none⟩) (64-f1) (64-f1)),Is (v1),fun x w' =>x=NI n∧w'.heap[g]? =some (.cells (hashL s1 (r1.take f1++X++r1.drop (f1+n)) f1 N).toArray 226 (0,0))∧ag.grownBy w' (some g),fun x w' =>x=NI n∧w'.heap[g]? =some (.cells (hashL s1 (r1.take f1++X++r1.drop (f1+n)) f1 N).toArray 226 (0,0))∧ag.grownBy w' (some g)] (by kernel_rfl) [19,20,21,22,23,24,25,26,27,28,4] (by kernel_rfl) (by kernel_rfl) (by kernel_rfl) rfl (Xr ⟨(fun _ _ _ hp he=>⟨hp.1,eb he hp.2.1,Ak hp.2.2 he.grown (fun _ e=>by cases e)⟩),(fun _ _ _ hp he=>⟨hp.1,eb he hp.2.1,Ak hp.2.2 he.grown (fun _ e=>by cases e)⟩),trivial⟩) (Xr trivial) ?a7 ?hQ1003
    case a7=>
      refine⟨?_,?_,?_,?_,?_,?_,?_,?_,?_,?_,?_,trivial⟩
      · refine Aj rfl fun σ w1 hC h=> ?_;have e0:=(AI (h 0 (by decide))).trans q;have hC:Ext _ w1:=hC;exact Yk.move e0 ⟨Ext.refl _,rfl⟩
      · refine Aj rfl fun σ w1 hC h=> ?_;have a8:=AI (h 19 (by decide));have hC:Ext _ w1:=hC;exact Yk.nilCheck a8 ⟨Ext.refl _,rfl⟩
      · refine Aj rfl fun σ w1 hC h=> ?_;have a9:=AI (h 20 (by decide));have hC:Ext _ w1:=hC;exact Yk.fieldAt In a9 ⟨Ext.refl _,rfl⟩
      · refine Aj rfl fun σ w1 hC h=> ?_;have e0:=(AI (h 0 (by decide))).trans q;have hC:Ext _ w1:=hC;exact Yk.move e0 ⟨Ext.refl _,rfl⟩
      · refine Aj rfl fun σ w1 hC h=> ?_;have ba:=AI (h 22 (by decide));have hC:Ext _ w1:=hC;exact Yk.nilCheck ba ⟨Ext.refl _,rfl⟩
      · refine Aj rfl fun σ w1 hC h=> ?_;have bb:=AI (h 23 (by decide));have hC:Ext _ w1:=hC;exact Yk.fieldAt D4 bb ⟨Ext.refl _,rfl⟩
      · refine Aj rfl fun σ w1 hC h=> ?_;have bc:=AI (h 24 (by decide));have hC:Ext _ w1:=hC;exact XJ Tc rfl bc (cellAt (eb hC hb0l) (Hk t am)) ⟨Ext.refl _,rfl⟩
      · refine Aj rfl fun σ w1 hC h=> ?_;have bd:=AI (h 21 (by decide));have be:=AI (h 25 (by decide));have hC:Ext _ w1:=hC;exact ZA Kj PG bd be (by omega) ⟨Ext.refl _,rfl⟩
      · refine Aj rfl fun σ w1 hC h=> ?_;have e1:=(AI (h 1 (by decide))).trans z;have hC:Ext _ w1:=hC;exact Yk.move e1 ⟨Ext.refl _,rfl⟩
      · refine Aj rfl fun σ w1 hC h=> ?_;have bf:=AI (h 26 (by decide));have bg:=AI (h 27 (by decide));have hC:Ext _ w1:=hC;refine Zv (.tmp 26) (.tmp 27) (o:=8+f1) F5 Wx bf (l:=c.drop m) (by show RB w1 (σ 27) _;rw[bg];exact ab.keep hC) (eb hC hb0l) (by rw[hnm];simp only[Abe,Cr t am];omega) ?_;refine⟨trivial,by rw[hnm];rfl,?_,?_⟩
        · rw[hnm,←hX,←hxl];have:=PN (f:=f1) (n:=N) (at_:=f1) (x:=X) t am (by omega);rw[this];exact setRow_heap w1 g _ _ _ _ (eb hC hb0l)
        · exact Ak (S4 hC.grown (some g)) ⟨rfl,rfl,rfl,by simp,fun k _ hk=>setRow_other w1 g k _ (fun e=>hk (by rw[e]))⟩ (fun _ e=> .inl e)
      · refine Aj rfl fun σ w1 hC h=> ?_;have bh:(fun x w' =>x=NI n∧w'.heap[g]? =some (.cells (hashL s1 (r1.take f1++X++r1.drop (f1+n)) f1 N).toArray 226 (0,0))∧ag.grownBy w' (some g)) (σ 28) w1:=h 28 (by decide);exact Yk.assign rfl ⟨Ext.refl _,bh⟩
    intro a0 ah he hf;obtain⟨-,-,-,-,-,-,-,-,-,-,k4,-⟩:=hf;obtain⟨q,z,T6,-⟩:=he.hold [(0,_),(1,_),(6,_)] ⟨q,z,T6,trivial⟩ rfl;clear he;have k4:(fun x w' =>x=NI n∧w'.heap[g]? =some (.cells (hashL s1 (r1.take f1++X++r1.drop (f1+n)) f1 N).toArray 226 (0,0))∧ag.grownBy w' (some g)) (a0 4) ah:=k4;obtain⟨b6,T4⟩:∃v,a0 4=v:=⟨_,rfl⟩;rw[T4]at k4;have bi:=k4;clear k4;obtain⟨hv4,a1,ao⟩:=bi;rw[hv4]at T4;have hG:Laid ah:=Laid.kept hG ao hh;have hgr:w.grownBy ah (some g):=Ak hgr ao (fun _ e=> .inl e);clear hb0l;have j:=a1;clear a1;obtain⟨r2,ai⟩:∃r2,r2=r1.take f1++X++r1.drop (f1+n):=⟨_,rfl⟩;have hr2l:r2.length=64:=by rw[ai];simp only[AaY,Abg,Abf];omega
    have j:ah.heap[g]? =some (.cells (hashL s1 r2 f1 N).toArray 226 (0,0)):=AV j (by rw[←ai]);refine gX (gS (Yk.nilCheck q (gS (Yk.fieldAt D4 rfl (gS (XJ Tc rfl rfl (cellAt j (Hk t hr2l)) (gS (XL (xv:=NI f1) (yv:=NI n) rfl T4 rfl (Ai _ _ _ (by omega)) (gS (Yk.nilCheck q (gS (Yk.fieldAt D4 rfl (gS (XY (i:=72) (v:=NI ((f1)+(n))) rfl rfl j (by rw[Cr t hr2l];omega) M5 rfl rfl fun ap a2 aq b7=> ?_))))))))))))));have hG:Laid ap:=Laid.kept hG aq hh;have hgr:w.grownBy ap (some g):=Ak hgr aq (fun _ e=> .inl e);clear j;have j:=a2;clear a2;have b8:=bl j;have j:ap.heap[g]? =some (.cells (hashL s1 r2 (f1+n) N).toArray 226 (0,0)):=AV j (HT t hr2l);have ab:=RB.kept ab ao (.inr hv1);have ab:=RB.kept ab aq (.inr hv1);refine gS (Yg (xs:=c.drop m) (l:=n) F5 PG z ab T4 (a6) fun af y ha29=> ?_);have aj:OB af g:=fun e=>hv1 (ha29.symm.trans e);refine gS (Yk.nilCheck q (gS (Yk.fieldAt D4 rfl (gS (XJ Tc rfl rfl (cellAt j (Hk t hr2l)) (gS (XK (a:=((f1+n):Nat)) (b:=(64:Nat)) rfl rfl (AA _ _ _ _) ?_)))))));refine cD rfl (fun bj=> ?_) fun bj=> ?_
    · have hr2f:r2=r1.take f1++X:=by rw[ai,Ab4 (by omega),AcK]
      obtain⟨R,hR⟩:∃R,R=Sha.rounds s1 r2:=⟨_,rfl⟩;have HRl:R.length=8:=by rw[hR,Sha.rounds_length _ _ t]
      have hatF:Sha.At ((p++c.take m)++X) R r2:=by rw[hR,hr2f,hf1];exact hat1.fill X (by omega)
      have hfF:0=((p++c.take m)++X).length%64:=by rw[AaY];omega
      refine gR ?_;refine KY 12 (fun(a_ b_:AaS)=>b_.heap[g]? =some (.cells ((cellsU R).toList++(hashL s1 r2 (f1+n) N).drop (cellsU R).size).toArray 226 (0,0))∧a_.grownBy b_ (some g)∧b_.heap.size=a_.heap.size) [Is (PQ g 0),Is (PQ g 0),Is (PQ g 0),Is (PQ g 0),Is (.agg (cellsU s1)),Is (PQ g 0),Is (PQ g 0),Is (PQ g 8),Is (.slice (some ⟨g,8,none⟩) 64 64),Is (.agg (cellsU R)),Is (PQ g 0),Is (PQ g 0),(fun _ _=>True)] (by kernel_rfl) [45,46,47,48,49,50,51,52,53,54,55,56] (by kernel_rfl) (by kernel_rfl) (by kernel_rfl) rfl (Wr ⟨Stab.any,trivial⟩) (Wr ⟨Stab.any,trivial⟩) ?bk ?hQ2007
      case bk=>
        refine⟨?_,?_,?_,?_,?_,?_,?_,?_,?_,?_,?_,?_,?_,trivial⟩
        · refine Aj rfl fun σ w1 hC h=> ?_;have e0:=(AI (h 0 (by decide))).trans q;have hC:Ext _ w1:=hC;exact Yk.move e0 ⟨Ext.refl _,rfl⟩
        · refine Aj rfl fun σ w1 hC h=> ?_;have e0:=(AI (h 0 (by decide))).trans q;have hC:Ext _ w1:=hC;exact Yk.move e0 ⟨Ext.refl _,rfl⟩
        · refine Aj rfl fun σ w1 hC h=> ?_;have bm:=AI (h 46 (by decide));have hC:Ext _ w1:=hC;exact Yk.nilCheck bm ⟨Ext.refl _,rfl⟩
        · refine Aj rfl fun σ w1 hC h=> ?_;have bn:=AI (h 47 (by decide));have hC:Ext _ w1:=hC;exact Yk.fieldAt Io bn ⟨Ext.refl _,rfl⟩
        · refine Aj rfl fun σ w1 hC h=> ?_;have bo:=AI (h 48 (by decide));have hC:Ext _ w1:=hC;exact Yf (cs:=s1.map fun x=>U x) bo (Jg (eb hC j)) AQ rfl (by rw[Abh,t];exact DM) ⟨Ext.refl _,rfl⟩
        · refine Aj rfl fun σ w1 hC h=> ?_;have e0:=(AI (h 0 (by decide))).trans q;have hC:Ext _ w1:=hC;exact Yk.move e0 ⟨Ext.refl _,rfl⟩
        · refine Aj rfl fun σ w1 hC h=> ?_;have bp:=AI (h 50 (by decide));have hC:Ext _ w1:=hC;exact Yk.nilCheck bp ⟨Ext.refl _,rfl⟩
        · refine Aj rfl fun σ w1 hC h=> ?_;have bq:=AI (h 51 (by decide));have hC:Ext _ w1:=hC;exact Yk.fieldAt In bq ⟨Ext.refl _,rfl⟩
        · refine Aj rfl fun σ w1 hC h=> ?_;have br:=AI (h 52 (by decide));have hC:Ext _ w1:=hC;exact Yt Kj PG br ⟨Ext.refl _,rfl⟩
        · refine Aj rfl fun σ w1 hC h=> ?_;have bs:=AI (h 49 (by decide));have bt:=AI (h 53 (by decide));have hC:Ext _ w1:=hC;refine XM P3 bs bt ((PM _ (hG.keep hC) s1 t _ r2 (Vj t hr2l (eb hC j)) hr2l).mono ?_);rintro e w2 ⟨rfl,hx⟩;exact⟨_,rfl,hx,by rw[hR];rfl⟩
        · refine Aj rfl fun σ w1 hC h=> ?_;have bu:=AI (h 45 (by decide));have hC:Ext _ w1:=hC;exact Yk.nilCheck bu ⟨Ext.refl _,rfl⟩
        · refine Aj rfl fun σ w1 hC h=> ?_;have bv:=AI (h 55 (by decide));have hC:Ext _ w1:=hC;exact Yk.fieldAt Io bv ⟨Ext.refl _,rfl⟩
        · refine Aj rfl fun σ w1 hC h=> ?_;have bw:=AI (h 56 (by decide));have bx:=AI (h 54 (by decide));have hC:Ext _ w1:=hC;exact ZS bw bx (eb hC j) (by rw[GI,HRl,Cr t hr2l];omega) (by rw[GI,HRl];exact DM) (ET _) fun w2 h1 h2 h3=>⟨⟨h1,h2,h3⟩,trivial⟩
      intro bz a3 ar au b0 he hf;obtain⟨-,-,-,-,-,-,-,-,-,-,-,-,-⟩:=hf;obtain⟨q,z,T4,T6,-⟩:=he.hold [(0,_),(1,af),(4,_),(6,_)] ⟨q,rfl,T4,T6,trivial⟩ rfl;clear he;have hG:Laid a3:=(hG.keep au);have hgr:w.grownBy a3 (some g):=Ak hgr au.grown (fun _ e=>by cases e);obtain⟨a4,av,b9⟩:=b0;have hG:Laid ar:=Laid.kept hG av hh;have hgr:w.grownBy ar (some g):=Ak hgr av (fun _ e=> .inl e);clear j;have j:=a4;clear a4;have j:ar.heap[g]? =some (.cells (hashL R r2 (f1+n) N).toArray 226 (0,0)):=AV j (by rw[GI,HRl];exact Om t);refine gX (gS (Yk.nilCheck q (gS (Yk.fieldAt D4 rfl (gS (XY (i:=72) (v:=NI 0) rfl rfl j (by rw[Cr HRl hr2l];omega) M5 rfl rfl fun aw a5 ax ca=> ?_))))));have hG:Laid aw:=Laid.kept hG ax hh;have hgr:w.grownBy aw (some g):=Ak hgr ax (fun _ e=> .inl e);clear j;have j:=a5;clear a5;have cb:=bl j;have j:aw.heap[g]? =some (.cells (hashL R r2 0 N).toArray 226 (0,0)):=AV j (HT HRl hr2l);have y:=y.keep au;have y:=RB.kept y av (.inr aj);have y:=RB.kept y ax (.inr aj);refine gK (Aby ⟨m+n,R,r2,0,af,q,T6,z,hG,hgr,(show RB _ _ _ from(by rw[←Agi];exact y)),AV j (rfl),by omega,by rw[←htk];exact hatF,by rw[←htk];exact hfF,aj,trivial⟩ ?_);show BD (bz 1)<BD (az 1);rw[z,q1];have q3:=y.sliceLen;have q4:=ql1;rw[q3,q4];simp only[Abf];omega
    have hatP:Sha.At ((p++c.take m)++X) s1 r2:=by rw[ai,←hxl,hf1];exact hat1.put X (by omega)
    have hfP:f1+n=((p++c.take m)++X).length%64:=by rw[AaY];omega
    refine gK (Aby ⟨m+n,s1,r2,f1+n,af,q,T6,rfl,hG,hgr,(show RB _ _ _ from(by rw[←Agi];exact y)),AV j (rfl),by omega,by rw[←htk];exact hatP,by rw[←htk];exact hfP,aj,trivial⟩ ?_);show BD (af)<BD (az 1);rw[q1];have q3:=y.sliceLen;have q4:=ql1;rw[q3,q4];simp only[Abf];omega
  have hcF:=hc1';refine rt0 rfl ?_;have hml:m=c.length:=by have:=hcF;simp at this;omega
  subst hml;refine⟨rfl,⟨s1,r1,by simpa using hat1,?_⟩,hgr⟩;have e1:f1=(p++c).length%64:=by simpa using hf1
  have e2:N=(p++c).length:=by rw[←hN,AaY]
  rw[←e1,←e2];exact hb0l
theorem RJ(s:List UInt32)(r:List UInt8)(f n:Nat):∀v∈(hashL s r f n).toArray.toList,v.oneCell' =true:=by
 intro v hv;simp[hashL,AaT]at hv;rcases hv with ⟨_,_,rfl⟩ | ⟨_,_,rfl⟩ | rfl | rfl <;> rfl
namespace Sha
def outs(s:List UInt32)(i:Nat):List UInt8:=(out s).take (4*i)++Aa4 (32-4*i) 0
theorem out_length:∀s:List UInt32,(out s).length=4*s.length
 | []=>rfl
 | x :: s=>by
  have:=out_length s;unfold out at *;rw[AbW,AaY,this];simp;omega
theorem outs_length(s:List UInt32)(hs:s.length=8)(i:Nat)(hi:i≤8):(outs s i).length=32:=by
 unfold outs;rw[AaY,Abg,Abc,out_length,hs];omega
theorem outs_all(s:List UInt32)(hs:s.length=8):outs s 8=out s:=by
 unfold outs;rw[AbK (by rw[out_length,hs];exact AaX _)];simp
theorem outs_step(s:List UInt32)(hs:s.length=8)(i:Nat)(hi:i<8):
  ((((outs s i).set (4*i) (s.getD i 0>>>24).toUInt8).set (4*i+1) (s.getD i 0>>>16).toUInt8).set (4*i+2) (s.getD i 0>>>8).toUInt8).set (4*i+3) (s.getD i 0).toUInt8=outs s (i+1):=by
 match s,hs with
 | [a,b,c,d,e,f,g,h],_=>
  have:i=0∨i=1∨i=2∨i=3∨i=4∨i=5∨i=6∨i=7:=by omega
  rcases this with rfl | rfl | rfl | rfl | rfl | rfl | rfl | rfl <;> rfl
theorem sum_length(p:List UInt8):(sum p).length=32:=by
 unfold sum;rw[out_length,blocks_length _ _ _ rfl]
end Sha
theorem Jk:(Tryz.prog.info? 226).map (·.size)=some 74:=by kernel_rfl
theorem P4:∃fs,Tryz.prog.underlying 226=some (.struct fs):=Fo (by kernel_rfl)
theorem P5{d:Option Tmp}{ty:AaZ}{pos:String}{af:Array AbP}{gd:Option (Nat × Bool)}(σ:Aa5→AaR)(w:AaS):(execOp σ ⟨d, .alloc 226,ty,pos,af,gd⟩).run AaU w = .ok (.value (PQ w.heap.size 0)) (w.alloc (.cells (hashL (Aa4 8 0) (Aa4 64 0) 0 0).toArray 226)):=by kernel_rfl
theorem Kk:Tryz.prog.underlying 228=some (.int .u64):=by kernel_rfl
theorem RK:Plain AaU 82:=fun _ _=>by kernel_rfl
theorem RL(w:AaS)(hG:Laid w)(g:Nat)(p:List UInt8)(hH:HashAt w g p)(hp:p.length<1152921504606846976):
  Calls AaU 83 #[PQ g 0] w fun e w' =>e = .returned (AB (Sha.sum p))∧Ext w w' :=by
 obtain⟨s,r,hat,c⟩:=hH;have hs:=hat.slen;have hr:=hat.len;obtain⟨f,hf⟩:∃f,f=p.length%64:=⟨_,rfl⟩;obtain⟨N,hN⟩:∃N,p.length=N:=⟨_,rfl⟩;rw[←hf,hN]at c;have hw2:1<w.heap.size:=hG.two;refine gG (args:= [PQ g 0]) Tryz.func83 rfl 85 rfl rfl ?_;have hE:=Ext.refl w;refine gS (Yk.alloc Tf fun n2 w3 b4 bf bg ct=> ?_);have cu:=Ar (bl c) b4;have h:=bf;clear bf;have cv:n2<w3.heap.size:=by omega
 have c:=eb bg c;refine gS (X5 sha6_ty147 rfl (cF rfl (gS (Yk.nilCheck rfl (gS (XO rfl c (P4).choose_spec rfl (by rw[Abe,Cr hs hr];exact Jk) (gS (Yk.alloc P5 fun y b5 bh bi a4 cw=> ?_))))))));have m:=Ext.refl w3;have hE:=hE.trans bg;have bj:=hE.size;have cx:=Ar (bl c) bh;have cy:=Ar (bl h) bh;have o:=bi;clear bi;have cz:y<b5.heap.size:=by omega
 refine gS (XN (vr (PQ y 0) rfl) (vr (.agg (hashL s r f N).toArray) rfl) o (by rw[Abe,Abe,Cr hs hr];rfl) (by rw[Abe,Cr hs hr];exact Jk) (RJ s r f N) fun af bk a5 c0=> ?_);have c:=eb a4 c;have c:=kb a5 c (by omega);have hE:=hE.trans a4;have hE:=Ab hE a5 (AaV bj (by omega));have h:=eb a4 h;have h:=kb a5 h (by omega);have m:=m.trans a4;have m:=Ab m a5 (AaV (AaX _) (by omega));clear o;have o:=bk;clear bk;have c1:=bl o;refine gS (YR (b:=128) Rm (vr (B8 (128)) rfl) fun a6 c2 ag=> ?_);have q:=Ext.refl af;have bm:=hE.size;have bn:=m.size;have b6:OB a6 g:=EK ag.own (bl c);have b7:OB a6 n2:=EK ag.own (bl h);have b8:OB a6 y:=EK ag.own (bl o);have bo:=ag.own;have c:=eb ag.ext c;have hE:=hE.trans ag.ext;have h:=eb ag.ext h;have m:=m.trans ag.ext;have o:=eb ag.ext o;have q:=q.trans ag.ext;refine gL (fun(ρ:Ad) (wz:AaS)=>∃k:Nat,∃v4:AaR,ρ 0=(PQ g 0:AaR)∧ρ 2=(PQ n2 0:AaR)∧ρ 3=(PQ y 0:AaR)∧ρ 11=(.bool (false):AaR)∧ρ 4=(v4:AaR)∧wz.heap[g]? =some (.cells (hashL s r f N).toArray 226 (0,0))∧Ext w wz∧wz.heap[n2]? =some (.cells (AaT (Aa4 32 0)).toArray 33 (0,0))∧Ext w3 wz∧wz.heap[y]? =some (.cells (hashL s r f N).toArray 226 (0,0))∧Ext af wz∧wz.ownsRow af.heap.size 5 1 v4 (128 :: Aa4 k 0:List UInt8).length (AaT (128 :: Aa4 k 0))∧(k≤(119-N%64)%64)∧(OB v4 g)∧(OB v4 n2)∧(OB v4 y)∧True) (fun ρ _=>65-BD (ρ 4)) ⟨0,a6,rfl,rfl,rfl,rfl,rfl,c,hE,h,m,o,q,Dh bo (rfl),Abs _,b6,b7,b8,trivial⟩ ?_;clear bo;clear c hE h m o q;rintro b9 ca ⟨k,v4,T0,T2,T3,ao,T4,c,hE,h,m,o,q,ho_v4,hk,hap_v4_g,hap_v4_n2,hap_v4_n14,-⟩;have q4:=T4;have ql4:=EP ho_v4;refine gS (Yk.nilCheck T0 (gS (Yk.fieldAt sha6_fo226_3 rfl (gS (XJ Tc rfl rfl (cellAt c (hashL_size hs hr)) (gS (XS F5 (XP (X3 ho_v4) T4) (gS (XL (xv:=NI N) (yv:=NI ((128 :: Aa4 k 0:List UInt8).length)) rfl rfl rfl (Ai _ _ _ (by simp;omega)) (gS (XL (xv:=NI ((N)+((128 :: Aa4 k 0:List UInt8).length))) (yv:=NI 64) rfl rfl rfl (GW _ _ _ (by omega)) (gS (XK (a:=(((N)+((128 :: Aa4 k 0:List UInt8).length))%(64):Nat)) (b:=(56:Nat)) rfl rfl (AX _ _ _ _) ?_)))))))))))));refine cD rfl (fun bb=> ?_) fun bb=> ?_
 ·refine gS (YR (b:=0) Rm (vr (B8 (0)) rfl) fun bp cb al=> ?_);have c3:=hE.size;have c4:=m.size;have c5:=q.size;have cc:Ah v4 bp:=Eh ho_v4 al.own;have bc:=al.own;have q:=q.trans al.ext;have ho_v4:=Stab.own _ _ _ _ _ _ _ _ ho_v4 al.ext;refine gS (Ya _ _ af.heap.size (.int .u8 0) F5 MA rfl F5 (128 :: Aa4 k 0) ([(0:UInt8)]) (CV ho_v4 T4) (XP (X3 bc) (vr bp rfl)) (by simp;omega) q.size fun ax cd bq ac=> ?_);have ac:Grew cb cd v4 ax:= .eqv T4 ac;have c:=eb al.ext c;have ce:OB ax g:=Ao ac hap_v4_g (bl c);have h:=eb al.ext h;have cf:OB ax n2:=Ao ac hap_v4_n2 (bl h);have o:=eb al.ext o;have cg:OB ax y:=Ao ac hap_v4_n14 (bl o);have c:=Aq c ac hap_v4_g;have hE:=hE.trans al.ext;have hE:=Av hE ac ho_v4 bm;have h:=Aq h ac hap_v4_n2;have m:=m.trans al.ext;have m:=Av m ac ho_v4 bn;have o:=Aq o ac hap_v4_n14;have q:=Av q ac ho_v4 (AaX _);have bc:=Dr bc ac cc;clear ho_v4;refine gK (Aby ⟨k+1,ax,T0,T2,T3,ao,rfl,c,hE,h,m,o,q,Dh bq (by simp[List.replicate_succ']),by simp at bb;omega,ce,cf,cg,trivial⟩ ?_);show 65-BD (ax)<65-BD (b9 4);rw[q4];have qn:=EP bq;rw[qn,ql4];simp;omega
 refine gS (Yk.nilCheck T0 (gS (Yk.fieldAt sha6_fo226_3 rfl (gS (XJ Tc rfl rfl (cellAt c (hashL_size hs hr)) (gS (Yn Tc Kk rfl (Jx (N) (by omega)) (gS (XL (xv:= .int .u64 ((N:Nat):Int)) (yv:= .int .u64 ((8:Nat):Int)) rfl rfl rfl (Va _ _ _ (by omega)) ?_)))))))));obtain⟨Z,hZ⟩:∃Z,Z=(128:UInt8) :: Aa4 k 0:=⟨_,rfl⟩;have ho_v4:ca.ownsRow af.heap.size 5 1 v4 (Z:List UInt8).length (AaT (Z)):=(hZ.symm:128 :: Aa4 k 0=Z)▸ho_v4;have hZl:Z.length=1+k:=by rw[hZ];simp;omega
 refine gL (fun(ρ:Ad) (wz:AaS)=>∃i:Nat,∃z:AaR,ρ 0=(PQ g 0:AaR)∧ρ 2=(PQ n2 0:AaR)∧ρ 3=(PQ y 0:AaR)∧ρ 5=(.int .u64 (((N)*(8):Nat):Int):AaR)∧ρ 11=(.bool (false):AaR)∧ρ 36=(NI i:AaR)∧ρ 4=(z:AaR)∧wz.heap[g]? =some (.cells (hashL s r f N).toArray 226 (0,0))∧Ext w wz∧wz.heap[n2]? =some (.cells (AaT (Aa4 32 0)).toArray 33 (0,0))∧Ext w3 wz∧wz.heap[y]? =some (.cells (hashL s r f N).toArray 226 (0,0))∧Ext af wz∧wz.ownsRow af.heap.size 5 1 z (Z++(Sha.be64 (8*N)).take i:List UInt8).length (AaT (Z++(Sha.be64 (8*N)).take i))∧(i≤8)∧(OB z g)∧(OB z n2)∧(OB z y)∧True) (fun ρ _=>8-(intOf (ρ 36)).toNat) ⟨0,v4,T0,T2,T3,rfl,ao,rfl,T4,c,hE,h,m,o,q,Dh ho_v4 (by simp),by omega,hap_v4_g,hap_v4_n2,hap_v4_n14,trivial⟩ ?_;clear ho_v4;clear c hE h m o q;rintro ch ci ⟨i,z,T0,T2,T3,T5,ao,ap,T4,c,hE,h,m,o,q,n,hi,hap_v5_g,hap_v5_n2,hap_v5_n14,-⟩;have q36:=ap;have ql4:=EP n;refine gS (XK (a:=(i:Nat)) (b:=(8:Nat)) ap rfl (AL _ _ _ _) ?_);refine cD rfl (fun br=> ?_) fun br=> ?_
 ·refine gS (XL (xv:=NI 8) (yv:=NI i) rfl ap rfl (Ci _ _ _ (by omega)) (gS (XL (xv:=NI 56) (yv:=NI ((8)*(i))) rfl rfl rfl (BJ _ _ _ (by omega) (by omega)) (gS (XL (xv:= .int .u64 (((N)*(8):Nat):Int)) (yv:=NI ((56)-((8)*(i)))) T5 rfl rfl (Vc _ _ _ _ (by omega)) (gS (Yn Kk u5 rfl (GX (((N)*(8))/2^((56)-((8)*(i))))) (gS (YR (b:=AbQ (((N)*(8))/2^((56)-((8)*(i))))) Rm (vr (B8 (AbQ (((N)*(8))/2^((56)-((8)*(i)))))) rfl) fun bs cj am=> ?_)))))))));have c6:=hE.size;have c7:=m.size;have c8:=q.size;have ck:Ah z bs:=Eh n am.own;have bd:=am.own;have q:=q.trans am.ext;have n:=Stab.own _ _ _ _ _ _ _ _ n am.ext;refine gS (Ya _ _ af.heap.size (.int .u8 0) F5 MA rfl F5 (Z++(Sha.be64 (8*N)).take i) ([(AbQ (((N)*(8))/2^((56)-((8)*(i)))):UInt8)]) (CV n T4) (XP (X3 bd) (vr bs rfl)) (by simp[Sha.be64];omega) q.size fun a1 cl cm ad=> ?_);have ad:Grew cj cl z a1:= .eqv T4 ad;have c:=eb am.ext c;have cn:OB a1 g:=Ao ad hap_v5_g (bl c);have h:=eb am.ext h;have co:OB a1 n2:=Ao ad hap_v5_n2 (bl h);have o:=eb am.ext o;have cp:OB a1 y:=Ao ad hap_v5_n14 (bl o);have c:=Aq c ad hap_v5_g;have hE:=hE.trans am.ext;have hE:=Av hE ad n bm;have h:=Aq h ad hap_v5_n2;have m:=m.trans am.ext;have m:=Av m ad n bn;have o:=Aq o ad hap_v5_n14;have q:=Av q ad n (AaX _);have bd:=Dr bd ad ck;clear n;refine gS (XL (xv:=NI i) (yv:=NI 1) ap rfl rfl (Ai _ _ _ (by omega)) (gK (Aby ⟨i+1,a1,T0,T2,T3,T5,ao,rfl,rfl,c,hE,h,m,o,q,Dh cm (by rw[Zt _ _ br,Abr,AfS N 8]),by omega,cn,co,cp,trivial⟩ ?_)));show 8-(intOf (NI ((i)+(1)))).toNat<8-(intOf (ch 36)).toNat;rw[q36];simp only[intOf,Aba];omega
 obtain⟨Q,hQ⟩:∃Q,Q=Z++(Sha.be64 (8*N)).take i:=⟨_,rfl⟩;have n:ci.ownsRow af.heap.size 5 1 z (Q:List UInt8).length (AaT (Q)):=(hQ.symm:Z++(Sha.be64 (8*N)).take i=Q)▸n;have hQt:Q=Sha.tail p.length:=by simp at bb;rw[hQ,hZ,show i=8 by omega,show k=(119-p.length%64)%64 by omega,AbK (by simp[Sha.be64]),←hN];simp[Sha.tail]
 have hQl:Q.length≤100:=by rw[hQ];simp[Sha.be64];omega
 refine gS (XM RK T3 T4 ((LG _ (hG.keep hE) y (by omega) p ⟨s,r,hat,by rw[←hf,hN];exact o⟩ z Q (X3 n) hap_v5_n14 (by omega)).mono ?_));rintro e bt ⟨rfl,⟨s2,r2,hat2,t⟩,a2⟩;refine⟨_,rfl,?_⟩;have c:=kb a2 c (by omega);have hE:=Ab hE a2 (AaV bj (by omega));have h:=kb a2 h (by omega);have m:=Ab m a2 (AaV (AaX _) (by omega));clear q;have n:=BI n a2 hap_v5_n14;clear o;have ae:=hat2.slen;have c9:=hat2.len;refine gS (Yk.alloc Tf fun a7 cq be bu aq da=> ?_);have u:=Ext.refl bt;have a8:=hE.size;have a9:=m.size;have db:=Ar (bl c) be;have dc:=Ar (bl h) be;have dd:=Ar (bl t) be;have ba:OB z a7:=A7 n (by omega);have bv:=bu;clear bu;have de:a7<cq.heap.size:=by omega
 have c:=eb aq c;have hE:=hE.trans aq;have h:=eb aq h;have m:=m.trans aq;have n:=Stab.own _ _ _ _ _ _ _ _ n aq;have t:=eb aq t;have u:=u.trans aq;refine gS (Yk.fieldAt Io T3 (gS (Yf (cs:=s2.map fun x=>U x) rfl (Jg t) AQ rfl (by rw[Abh,ae];exact DM) (gL (fun(ρ:Ad) (wz:AaS)=>∃j:Nat,ρ 0=(PQ g 0:AaR)∧ρ 2=(PQ n2 0:AaR)∧ρ 3=(PQ y 0:AaR)∧ρ 4=(z:AaR)∧ρ 5=(.int .u64 (((N)*(8):Nat):Int):AaR)∧ρ 7=(PQ a7 0:AaR)∧ρ 11=(.bool (false):AaR)∧ρ 36=(NI i:AaR)∧ρ 52=(.agg (s2.map fun x=>U x).toArray:AaR)∧ρ 53=(NI j:AaR)∧wz.heap[g]? =some (.cells (hashL s r f N).toArray 226 (0,0))∧Ext w wz∧wz.heap[n2]? =some (.cells (AaT (Aa4 32 0)).toArray 33 (0,0))∧Ext w3 wz∧wz.ownsRow af.heap.size 5 1 z (Q:List UInt8).length (AaT (Q))∧wz.heap[y]? =some (.cells (hashL s2 r2 ((p++Q).length%64) (p++Q).length).toArray 226 (0,0))∧Ext bt wz∧wz.heap[a7]? =some (.cells (AaT (Sha.outs s2 j)).toArray 33 (0,0))∧(j≤8)∧True) (fun ρ _=>8-(intOf (ρ 53)).toNat) ⟨0,T0,T2,T3,T4,T5,rfl,ao,ap,rfl,rfl,c,hE,h,m,n,t,u,AV bv (rfl),by omega,trivial⟩ ?_))));clear bv;clear c hE h m n t u;rintro cr df ⟨j,T0,T2,T3,T4,T5,T7,ao,ap,bw,an,c,hE,h,m,n,t,u,hb128l,hj,-⟩;have q53:=an;refine gS (XK (a:=(j:Nat)) (b:=(8:Nat)) an rfl (AL _ _ _ _) ?_);refine cD rfl (fun bx=> ?_) fun bx=> ?_
 ·refine gS (ZO (l:=s2) (i:=j) AQ AF rfl AH bw an (by omega) (ae) (gS (XL (xv:=NI 4) (yv:=NI j) rfl an rfl (Ci _ _ _ (by omega)) (gS (XL (xv:=NI 4) (yv:=NI j) rfl an rfl (Ci _ _ _ (by omega)) (gS (XL (xv:=NI ((4)*(j))) (yv:=NI 1) rfl rfl rfl (Ai _ _ _ (by omega)) (gS (XL (xv:=NI 4) (yv:=NI j) rfl an rfl (Ci _ _ _ (by omega)) (gS (XL (xv:=NI ((4)*(j))) (yv:=NI 2) rfl rfl rfl (Ai _ _ _ (by omega)) (gS (XL (xv:=NI 4) (yv:=NI j) rfl an rfl (Ci _ _ _ (by omega)) (gS (XL (xv:=NI ((4)*(j))) (yv:=NI 3) rfl rfl rfl (Ai _ _ _ (by omega)) (gS (XL rfl rfl rfl (IV _ _ _ 24 (by decide)) (gS (YV AF u5 rfl (gS (XL rfl rfl rfl (IV _ _ _ 16 (by decide)) (gS (YV AF u5 rfl (gS (XL rfl rfl rfl (IV _ _ _ 8 (by decide)) (gS (YV AF u5 rfl (gS (YV AF u5 rfl (gS (XX (i:=(4)*(j)) UY PG T7 rfl (by omega) ?_)))))))))))))))))))))))))))))));refine gS (YM (i:=(4)*(j)) (v:=((s2.getD (j) 0)>>>24).toUInt8) rfl rfl hb128l (by rw[Sha.outs_length _ ae _ (by omega)];omega) Wx fun dh bz ar di=> ?_);have c:=kb ar c (by omega);have hE:=Ab hE ar (AaV a8 (by omega));have h:=kb ar h (by omega);have m:=Ab m ar (AaV a9 (by omega));have n:=BI n ar ba;have t:=kb ar t (by omega);have u:=Ab u ar (AaV (AaX _) (by omega));clear hb128l;have hb128l:=bz;clear bz;have dj:=bl hb128l;refine gS (XX (i:=((4)*(j))+(1)) UY PG T7 rfl (by omega) (gS (YM (i:=((4)*(j))+(1)) (v:=((s2.getD (j) 0)>>>16).toUInt8) rfl rfl hb128l (by rw[Acv,Sha.outs_length _ ae _ (by omega)];omega) Wx fun dk b0 au dl=> ?_)));have c:=kb au c (by omega);have hE:=Ab hE au (AaV a8 (by omega));have h:=kb au h (by omega);have m:=Ab m au (AaV a9 (by omega));have n:=BI n au ba;have t:=kb au t (by omega);have u:=Ab u au (AaV (AaX _) (by omega));clear hb128l;have hb128l:=b0;clear b0;have dm:=bl hb128l;refine gS (XX (i:=((4)*(j))+(2)) UY PG T7 rfl (by omega) (gS (YM (i:=((4)*(j))+(2)) (v:=((s2.getD (j) 0)>>>8).toUInt8) rfl rfl hb128l (by rw[Acv,Acv,Sha.outs_length _ ae _ (by omega)];omega) Wx fun dn b1 av dp=> ?_)));have c:=kb av c (by omega);have hE:=Ab hE av (AaV a8 (by omega));have h:=kb av h (by omega);have m:=Ab m av (AaV a9 (by omega));have n:=BI n av ba;have t:=kb av t (by omega);have u:=Ab u av (AaV (AaX _) (by omega));clear hb128l;have hb128l:=b1;clear b1;have dq:=bl hb128l;refine gS (XX (i:=((4)*(j))+(3)) UY PG T7 rfl (by omega) (gS (YM (i:=((4)*(j))+(3)) (v:=(s2.getD (j) 0).toUInt8) rfl rfl hb128l (by rw[Acv,Acv,Acv,Sha.outs_length _ ae _ (by omega)];omega) Wx fun dr b2 aw ds=> ?_)));have c:=kb aw c (by omega);have hE:=Ab hE aw (AaV a8 (by omega));have h:=kb aw h (by omega);have m:=Ab m aw (AaV a9 (by omega));have n:=BI n aw ba;have t:=kb aw t (by omega);have u:=Ab u aw (AaV (AaX _) (by omega));clear hb128l;have hb128l:=b2;clear b2;have dt:=bl hb128l;refine gS (XL (xv:=NI j) (yv:=NI 1) an rfl rfl (Ai _ _ _ (by omega)) (gK (Aby ⟨j+1,T0,T2,T3,T4,T5,T7,ao,ap,bw,rfl,c,hE,h,m,n,t,u,AV hb128l (congrArg AaT (Sha.outs_step s2 ae j bx)),by omega,trivial⟩ ?_)));show 8-(intOf (NI ((j)+(1)))).toNat<8-(intOf (cr 53)).toNat;rw[q53];simp only[intOf,Aba];omega
 refine gS (XO T7 hb128l UY rfl (by rw[Abe,Aa8,Sha.outs_length _ ae _ (by omega)];exact Rb) (gS (XN T2 (vr (AB (Sha.outs s2 j)) rfl) h (by rw[Abe,Aa8,Sha.outs_length _ ae _ (by omega)];rfl) (by rw[Abe,Aa8,Sha.outs_length _ ae _ (by omega)];exact Rb) (Af _) fun du b3 a3 dv=> ?_)));have c:=kb a3 c (by omega);have hE:=Ab hE a3 (AaV (AaX _) (by omega));clear m;have n:=BI n a3 hap_v5_n2;have t:=kb a3 t (by omega);clear u;have hb128l:=kb a3 hb128l (by omega);clear h;have h:=b3;clear b3;have dw:=bl h;refine Lx rfl (ResF.row T2 h UY rfl (by rw[Abe,Aa8,Sha.outs_length _ ae _ (by omega)];exact Rb)) ?_;refine⟨?_,hE⟩;have e:Sha.outs s2 j=Sha.sum p:=by rw[show j=8 by omega,Sha.outs_all s2 ae,hat2.state,hQt];rfl
 rw[e]

theorem HashAt.other{w w' :AaS}{g b:Nat}{p:List UInt8}(h:HashAt w g p)(hg:w.grownBy w' (some b))(hne:g≠b):HashAt w' g p:=by
 obtain⟨s,r,h1,h2⟩:=h;exact⟨s,r,h1,(hg.block g (bl h2) (by simpa using hne)).trans h2⟩
theorem Ip(ls:List (List UInt8))(i:Nat)(hi:i<ls.length):(ls.take (i+1)).flatten=(ls.take i).flatten++ls.getD i []:=by
 rw[Abu hi,AgI];simp[hi]
theorem Kl(ls:List (List UInt8))(i:Nat)(hi:i<ls.length):(ls.take i).flatten.length+(ls.getD i []).length≤ls.flatten.length:=by
 have h1:=Ip ls i hi;have h2:ls.flatten=(ls.take (i+1)).flatten++(ls.drop (i+1)).flatten:=by rw[←AgI,Ad8]
 rw[h2,h1];simp only[AaY];omega
theorem RM:Plain AaU 81:=fun _ _=>by kernel_rfl
theorem LH:Tryz.prog.underlying 38=some (.slice 27):=by kernel_rfl
theorem RN:∀w' :AaS,(sizeOf 27).run AaU w' = .ok 1 w' :=fun _=>by kernel_rfl
theorem RO:Plain AaU 83:=fun _ _=>by kernel_rfl
theorem K4(w:AaS)(g:Nat)(p:List UInt8)(hH:HashAt w g p)(v:AaR)(hc:RB w v [])(hb:p.length<4611686018427387904):
  Calls AaU 82 #[PQ g 0,v] w fun e w' =>e = .returned (.tuple #[])∧HashAt w' g p∧w.grownBy w' (some g):=by
 obtain⟨s,r,hat,c⟩:=hH;have hs:=hat.slen;have hr:=hat.len;obtain⟨f,hf⟩:∃f,f=p.length%64:=⟨_,rfl⟩;rw[←hf]at c;have hgr:w.grownBy w (some g):=Ace _ _;refine gG (args:= [PQ g 0,v]) Tryz.func82 rfl 60 rfl rfl (gS (X5 sha6_ty147 rfl (cF rfl (gS (Yk.nilCheck rfl (gS (Yk.fieldAt sha6_fo226_3 rfl (gS (XJ Tc rfl rfl (cellAt c (hashL_size hs hr)) (gS (XS F5 (XP hc rfl) (gS (XL (xv:=NI p.length) (yv:=NI ((([]:List UInt8):List UInt8).length)) rfl rfl rfl (Ai _ _ _ (by simp;omega)) (gS (Yk.nilCheck rfl (gS (Yk.fieldAt sha6_fo226_3 rfl (gS (XY (i:=73) (v:=NI ((p.length)+((([]:List UInt8):List UInt8).length))) rfl rfl c (by rw[Cr hs hr];omega) M5 rfl rfl fun h j k m=> ?_)))))))))))))))))));have hc:RB h v ([]:List UInt8):=Z8 hc;have hgr:w.grownBy h (some g):=Ak hgr k (fun _ e=> .inl e);clear c;have c:=j;clear j;have n:=bl c;have c:h.heap[g]? =some (.cells (hashL s r f p.length).toArray 226 (0,0)):=AV c (HU hs hr);refine gL (fun(ρ:Ad) (wz:AaS)=>ρ 0=(PQ g 0:AaR)∧ρ 6=(.bool (false):AaR)∧ρ 1=(v:AaR)∧RB wz v ([]:List UInt8)∧w.grownBy wz (some g)∧wz.heap[g]? =some (.cells (hashL s r f p.length).toArray 226 (0,0))∧True) (fun ρ _=>0) ⟨rfl,rfl,rfl,hc,hgr,c,trivial⟩ ?_;clear hc hgr c;rintro o q ⟨t,u,l,hc,hgr,c,-⟩;refine gS (XS F5 (XP hc l) (gS (XK (a:=((([]:List UInt8):List UInt8).length:Nat)) (b:=(0:Nat)) rfl rfl (Bj _ _ _ _) (cF ((rfl).trans (congrArg AbA (decide_eq_false (by simp)))) (rt0 rfl ?_)))));exact⟨rfl,⟨s,r,hat,by rw[←hf];exact c⟩,hgr⟩

theorem RP(w:AaS)(hG:Laid w)(g:Nat)(hh:1<g)(p:List UInt8)(hH:HashAt w g p)(v:AaR)(c:List UInt8)(hc:RB w v c)(hv:0<c.length→v.ownBlock≠some g)(hb:p.length+c.length<4611686018427387904):
  Calls AaU 82 #[PQ g 0,v] w fun e w' =>e = .returned (.tuple #[])∧HashAt w' g (p++c)∧w.grownBy w' (some g):=by
 by_cases h0:0<c.length
 ·exact LG w hG g hh p hH v c hc (hv h0) hb
 ·have:c= []:=AbC (by omega);subst this;rw[AcK];exact K4 w g p hH v hc (by simpa using hb)

theorem O6(w:AaS)(hG:Laid w)(v:AaR)(ls:List (List UInt8))(hls:RBs w v ls)(hb:ls.flatten.length<1152921504606846976)(hlen:ls.length<1152921504606846976):
    Calls AaU 45 #[v] w fun e w' =>e = .returned (AB (Sha.sum ls.flatten))∧Ext w w' :=by
 have hw2:1<w.heap.size:=hG.two;refine gG (args:= [v]) Tryz.func45 rfl 19 rfl rfl ?_;have hE:=Ext.refl w;refine gS (Yk.alloc Tf fun g j ag p aa ah=> ?_);have c:=p;clear p;have ai:g<j.heap.size:=by omega
 have hE:=hE.trans aa;refine gS (Zo RM ((Vl _ (hG.keep hE)).mono ?_));rintro e aj ⟨gH,rfl,q,r,k⟩;refine⟨_,rfl,?_⟩;have f:=Ext.refl j;have ab:=hE.size;have ak:g<gH:=by have:=(bl c);omega
 have hE:=hE.trans k;have c:=eb k c;have f:=f.trans k;refine gS (Aaa LH (AaN (hls.keep hE) rfl) (gL (fun(ρ:Ad) (wz:AaS)=>∃i:Nat,ρ 0=(v:AaR)∧ρ 2=(PQ g 0:AaR)∧ρ 3=(PQ gH 0:AaR)∧ρ 7=(v:AaR)∧ρ 8=(NI ls.length:AaR)∧ρ 9=(NI i:AaR)∧Ext w wz∧wz.heap[g]? =some (.cells (AaT (Aa4 32 0)).toArray 33 (0,0))∧Ext j wz∧HashAt wz gH ((ls.take i).flatten)∧(i≤ls.length)∧True) (fun ρ _=>ls.length-(intOf (ρ 9)).toNat) ⟨0,rfl,rfl,rfl,rfl,rfl,rfl,hE,c,f,by simpa using r,Abs _,trivial⟩ ?_));clear r;clear hE c;rintro ac al ⟨i,T0,l,m,s,t,h,hE,c,f,hHi,hi,-⟩;have q9:=h;refine gS (XK (a:=(i:Nat)) (b:=(ls.length:Nat)) h t (AL _ _ _ _) ?_);refine cD rfl (fun hi3=> ?_) fun hi3=> ?_
 ·refine gS (Z9 (ls:=ls) (i:=i) hE LH RN hls s h (hi3) fun am ae u x=>(gS (X0 F5 rfl (X6 u rfl) ?_)));clear u;refine gS (XM RK m rfl ((RP _ (hG.keep hE) gH (by omega) ((ls.take i).flatten) hHi ae (ls.getD (i) []) (x.keep hE) (fun h0 hb=>by have:=RB.lt x h0 hb;omega) (by have:=Kl ls i hi3;omega)).mono ?_));rintro e an ⟨rfl,af,n⟩;refine⟨_,rfl,?_⟩;clear hHi;have hE:=Ab hE n (AaV ab q);have c:=kb n c (by omega);have f:=Ab f n (AaV (AaX _) q);refine gS (XL (xv:=NI i) (yv:=NI 1) h rfl rfl (Ai _ _ _ (by have:=hlen;omega)) (gK (Aby ⟨i+1,T0,l,m,s,t,rfl,hE,c,f,(show HashAt _ _ _ from by rw[Ip ls i hi3];exact af),by omega,trivial⟩ ?_)));show ls.length-(intOf (NI ((i)+(1)))).toNat<ls.length-(intOf (ac 9)).toNat;rw[q9];simp only[intOf,Aba];omega
 have hfl:(ls.take i).flatten=ls.flatten:=by rw[AbK (by omega)]
 have hfl2:=congrArg AeR hfl;refine gS (XQ RO m ((RL _ (hG.keep hE) gH ((ls.take i).flatten) hHi (by omega)).mono ?_));rintro e ao ⟨rfl,o⟩;refine⟨_,rfl,?_⟩;have c:=eb o c;refine gS (XN l (vr (AB (Sha.sum ((ls.take i).flatten))) rfl) c (by rw[Abe,Aa8,Sha.sum_length];rfl) (by rw[Abe,Aa8,Sha.sum_length];exact Rb) (Af _) fun ap y z aq=> ?_);clear f;have hHi:=hHi.keep o;have hHi:=HashAt.other hHi z (by omega);clear c;have c:=y;clear y;have ar:=bl c;refine Lx rfl (ResF.row l c UY rfl (by rw[Abe,Aa8,Sha.sum_length];exact Rb)) ?_;rw[hfl];have hE:=hE.trans o;have hE:=Ab hE z (AaV (AaX _) (by omega));exact⟨rfl,hE⟩
namespace Sha
end Sha
structure Pt where
  v:AaR
  bytes:Bs
  base:Int
def Az:Pt:=⟨.slice none 0 0,[],0⟩
def partC(p:Pt):List AaR:= [p.v, .int .i64 p.base]
def K5(w:AaS)(ps:List Pt):Prop:=∀p∈ps,RB w p.v p.bytes ∧ -9223372036854775808≤p.base∧p.base≤9223372036854775807
theorem partC_one{p:Pt}(h:p.v.cells = #[p.v]∧p.v.oneCell' =true):∀u∈partC p,u.oneCell' =true:=by
  intro u hu;simp only[partC,AbF,AcN,or_false]at hu;rcases hu with rfl | rfl
  · exact h.2
  · rfl
structure BS where
  b:Bs
  ids:List Bs
  places:List Nat
  depths:List Nat
  total:Nat
def Bk(s:Bs):Bs:=Abd s.length++s
def Dj(p:Pt)(s:BS):Nat:=if p.base<0 then 0 else s.depths.getD p.base.toNat 0+1
def bnext(ps:List Pt)(p:Pt)(s:BS):BS:=
  { b:=if p.base<0 then s.b++ [0]++Bk p.bytes else s.b++ [1]++s.ids.getD p.base.toNat []++Bk (BU (ps.getD p.base.toNat Az).bytes p.bytes)
    ids:=s.ids++ [Sha.sum p.bytes],places:=s.places++ [s.b.length],depths:=s.depths++ [Dj p s],total:=s.total+p.bytes.length }
def ED(ps:List Pt)(i:Nat)(s:BS):Except Nat BS:=
  if(ps.getD i Az).base < -1∨(i:Int)≤(ps.getD i Az).base then .error 1
  else if Sha.sum (ps.getD i Az).bytes∈s.ids then .error 11
  else if 50<Dj (ps.getD i Az) s then .error 17
  else .ok (bnext ps (ps.getD i Az) s)
def CW(ps:List Pt):Nat→Except Nat BS
  | 0=> .ok ⟨80 :: Abd ps.length,[],[],[],0⟩
  | i+1=>match CW ps i with
    | .error e=> .error e
    | .ok s=>ED ps i s
theorem E8{ps:List Pt}{e:Nat}:∀ {i:Nat} (_:CW ps i = .error e) (k:Nat),CW ps (i+k) = .error e
  | _,h,0=>h
  | i,h,k+1=>by
    show(match CW ps (i+k)with | .error e=>_ | .ok s=>_)=_;rw[E8 h k]
theorem EJ{ps:List Pt}{i:Nat}{s:BS}(h:CW ps i = .ok s):CW ps (i+1)=ED ps i s:=by
  show(match CW ps i with | .error e=>_ | .ok s=>_)=_;rw[h]
def Bm(s:BS)(id:Bs):Option Nat:=(s.ids.zip s.places).lookup id
def Cl(ps:List Pt):Prop:=ps.length≤60∧∀p∈ps,p.bytes.length≤200
structure BOk (i : Nat) (s : BS) : Prop where
  ids:s.ids.length=i
  places:s.places.length=i
  depths:s.depths.length=i
  len:∀id∈s.ids,id.length=32
  b:s.b.length≤10+500*i
  pl:∀p∈s.places,p≤10+500*i
  dp:∀d∈s.depths,d≤50
  total:s.total≤200*i
theorem UZ{n:Nat}(h:n<16384):(Abd n).length≤2:=by
  by_cases h1:n<128
  · rw[Ad6 h1];simp
  · rw[Af4 (by omega),Ad6 (by omega)];simp
theorem CP{α β:Type}[BEq α][LawfulBEq α]:∀(l:List α) (m:List β) (x:α),x∉l→(l.zip m).lookup x=none
  | [],_,_,_=>by simp
  | _ :: _,[],_,_=>by simp
  | a :: l,b :: m,x,h=>by
    simp only[AbF,not_or]at h;rw[AcX,Acq,CP l m x h.2];have:(x==a)=false:=by simpa using h.1
    rw[this]
theorem DS{α β:Type}[BEq α][LawfulBEq α]:∀(l:List α) (m:List β) (x:α),l.length=m.length→x∈l→∃y,(l.zip m).lookup x=some y∧y∈m
  | [],_,_,_,h=>by simp at h
  | _ :: _,[],_,h,_=>by simp at h
  | a :: l,b :: m,x,hl,h=>by
    rw[AcX,Acq];by_cases e:x=a
    · subst e;exact⟨b,by simp,by simp⟩
    · have:(x==a)=false:=by simpa using e
      rw[this];obtain⟨y,h1,h2⟩:=DS l m x (by simpa using hl) ((AbF.1 h).resolve_left e);exact⟨y,h1,by simp[h2]⟩
theorem Gv{α β:Type}[BEq α][LawfulBEq α][DecidableEq α]:∀(l:List α) (m:List β) (a:α) (b:β),l.length=m.length→a∉l→(fun x=>((l++ [a]).zip (m++ [b])).lookup x)=updM (fun x=>(l.zip m).lookup x) a (some b)
  | [],[],a,b,_,_=>by
    funext x
    unfold updM;simp only[AbV,AcX,List.zip_nil_left,Acq,List.lookup_nil];by_cases e:x=a
    · simp[e]
    · have:(x==a)=false:=by simpa using e
      simp[e,this]
  | [],_ :: _,_,_,h,_=>by simp at h
  | _ :: _,[],_,_,h,_=>by simp at h
  | c :: l,d :: m,a,b,hl,h=>by
    simp only[AbF,not_or]at h;have ih:=Gv l m a b (by simpa using hl) h.2
    funext x
    have ihx:=congrFun ih x;unfold updM at ihx ⊢;simp only[AbS,AcX,Acq,ihx];by_cases e:x=a
    · subst e;have:(x==c)=false:=by simpa using h.1
      simp[this]
    · simp[e]
theorem Iq{ps:List Pt}{p:Pt}{i:Nat}{s:BS}(h:BOk i s)(hn:Sha.sum p.bytes∉s.ids):Bm (bnext ps p s)=updM (Bm s) (Sha.sum p.bytes) (some s.b.length):=by
  have:=Gv s.ids s.places (Sha.sum p.bytes) s.b.length (by rw[h.ids,h.places]) hn;exact this
theorem BOk.next{ps:List Pt}{i:Nat}{s:BS}(hL:Cl ps)(h:BOk i s)(hi:i<ps.length){s' :BS}(hs:ED ps i s=Except.ok s'):BOk (i+1) s' :=by
  unfold ED at hs;split at hs
  · cases hs
  · split at hs
    · cases hs
    · split at hs
      · cases hs
      · rename_i h1 h2 h3
        cases hs;have hp:=hL.2 _ (AO Az hi);refine⟨by simp[bnext,h.ids],by simp[bnext,h.places],by simp[bnext,h.depths],?_,?_,?_,?_,?_⟩
        · intro id hid;simp only[bnext,Abk,Aa6]at hid;rcases hid with hid | rfl
          · exact h.len id hid
          · exact Sha.sum_length _
        · have hb:=h.b;have hu:=UZ (n:=(ps.getD i Az).bytes.length) (by omega);simp only[bnext];split
          · simp only[AaY,Abp,Abw,Bk];omega
          · rename_i hbase
            have a:(ps.getD i Az).base.toNat<s.ids.length:=by rw[h.ids];omega
            have h32:=h.len _ (AO [] a);have hq:=hL.2 _ (AO Az (l:=ps) (i:=(ps.getD i Az).base.toNat) (by rw[h.ids]at a;omega));have hm:=Il (ps.getD (ps.getD i Az).base.toNat Az).bytes (ps.getD i Az).bytes (by omega) (by omega);have c:=UZ (n:=(BU (ps.getD (ps.getD i Az).base.toNat Az).bytes (ps.getD i Az).bytes).length) (by omega);simp only[AaY,Abp,Abw,Bk,h32];omega
        · intro q hq;have hb:=h.b;simp only[bnext,Abk,Aa6]at hq;rcases hq with hq | rfl
          · have:=h.pl q hq;omega
          · omega
        · intro q hq;simp only[bnext,Abk,Aa6]at hq;rcases hq with hq | rfl
          · exact h.dp q hq
          · omega
        · have ht:=h.total;simp only[bnext];omega
theorem Ir{ps:List Pt}(hL:Cl ps):∀(i:Nat) (s:BS),i≤ps.length→CW ps i = .ok s→BOk i s
  | 0,s,_,h=>by
    cases h;have:=UZ (n:=ps.length) (by have:=hL.1;omega);exact⟨rfl,rfl,rfl,by simp,by simp only[Abp];omega,by simp,by simp,by simp⟩
  | i+1,s,hi,h=>by
    have h' :(match CW ps i with | .error e=> .error e | .ok s=>ED ps i s)=Except.ok s:=h;cases hb:CW ps i with
    | error e=>rw[hb]at h';cases h'
    | ok s0=>
      rw[hb]at h';exact(Ir hL i s0 (by omega) hb).next hL (by omega) h'
def Cm(s:BS)(at_:Nat):Bs:=(A8 s.ids).flatMap A3++(AJ s.ids).flatMap (fun id=>id++A3 ((Bm s id).getD 0))++A3 at_
def AU(ps:List Pt):Bs × Nat:=
  match CW ps ps.length with
  | .error e=>([],e)
  | .ok s=>(s.b++Cm s s.b.length++Sha.sum (s.b++Cm s s.b.length),0)
theorem Km(l:List Nat):(l.flatMap A3).length=4*l.length:=by
  induction l with
  | nil=>rfl
  | cons a r ih=>rw[AbW,AaY,ih,Gt,Abp];omega
theorem Nc(f:Bs→Nat)(l:List Bs)(h:∀x∈l,x.length=32):(l.flatMap fun id=>id++A3 (f id)).length=36*l.length:=by
  induction l with
  | nil=>rfl
  | cons a r ih=>
    rw[AbW,AaY,AaY,Gt,h a (by simp),ih (fun x hx=>h x (by simp[hx])),Abp];omega
theorem GN{i:Nat}{s:BS}(h:BOk i s)(a:Nat):(Cm s a).length=1028+36*i:=by
  unfold Cm;rw[AaY,AaY,Km,BQ,Nc (fun id=>(Bm s id).getD 0) _ (fun x hx=>h.len x ((sortB_perm _).subset hx)),Gs,h.ids,Gt];omega
theorem W7:KeyLaw AaU 33:=deep_law_laid (by kernel_rfl) (m:=3) (by decide) (of_decide_eq_true (by kernel_rfl)) (by kernel_rfl) (by kernel_rfl)
theorem Ce:KL AaU 33 (fun v=>∃l,keyOf AaU 33 v=some l):=Aad W7
theorem Cf:∀id:List UInt8,id.length=32→∃l,keyOf AaU 33 (rk id)=some l:=fun _ h=>
 Ly (n:=32) (e:=5) Tryz.underlying33 AdJ (by kernel_rfl) (by kernel_rfl) (by kernel_rfl) (of_decide_eq_true (by kernel_rfl)) h
theorem G2:∀u:AaS,(zeroValue 3).run AaU u = .ok (NI 0) u:=fun _=>by kernel_rfl
theorem FY(w:AaS)(hG:Laid w)(v:AaR)(l:Bs)(h:RBs w v [l])(hl:l.length≤1099511627776):
  Calls AaU 45 #[v] w fun e w' =>e = .returned (AB (Sha.sum l))∧Ext w w' :=by
 have:=O6 w hG v [l] h (by simp;omega) (by simp)
 simpa using this
theorem Nd(w:AaS)(v:AaR)(l:Bs)(hr:RB w v l)(s:Bs)(hl:l.length+s.length+16≤140737488355328):
  Calls AaU 144 #[v,St s] w fun e w' =>∃v',e = .returned v' ∧NewB 5 w w' v' (l++Bk s):=by
 have:=Ok w v l hr ⟨s.toArray⟩ (by simpa [Agk] using hl)
 simpa [Bk,Agk,Abr] using this
theorem Ek{ps:List Pt}{i e:Nat}(hi:i<ps.length)(h:CW ps (i+1) = .error e):AU ps=([],e):=by
 have:=E8 h (ps.length-(i+1));rw[show i+1+(ps.length-(i+1))=ps.length by omega]at this;unfold AU;rw[this]
theorem RQ{ps:List Pt}{s:BS}(h:CW ps ps.length = .ok s):AU ps=(s.b++Cm s s.b.length++Sha.sum (s.b++Cm s s.b.length),0):=by
 unfold AU;rw[h]
theorem Kn{α:Type}(l:List α)(i:Nat)(d:α)(h:i<l.length):l.take (i+1)=l.take i++ [l.getD i d]:=by rw[Abu h,AaW,Aa2 h];rfl
theorem Ko:(Tryz.prog.info? 156).map (·.size)=some 2:=by kernel_rfl
theorem Fu:Tryz.prog.underlying 154=some (.slice 156):=by kernel_rfl
theorem RR:Plain AaU 143:=fun _ _=>by kernel_rfl
theorem Kp:∀w' :AaS,(sizeOf 156).run AaU w' = .ok 2 w' :=fun _=>by kernel_rfl
theorem RS:∃fs,Tryz.prog.underlying 156=some (.struct fs):=Fo (by kernel_rfl)
theorem RT{d:Option Tmp}{ty:AaZ}{pos:String}{af:Array AbP}{gd:Option (Nat × Bool)}(σ:Aa5→AaR)(w:AaS):(execOp σ ⟨d, .alloc 156,ty,pos,af,gd⟩).run AaU w = .ok (.value (PQ w.heap.size 0)) (w.alloc (.cells ([(Aa0 none 0 0),NI 0]).toArray 156)):=by kernel_rfl
theorem Cc:A2 AaU 156 0 0:=fun b o w=>by simp[go_sem]
theorem BN:A2 AaU 156 1 1:=fun b o w=>by simp[go_sem]
theorem F8(ao:Option Addr)(n c:Nat)(w:AaS):(Abz 38 1 #[(0, .slice ao n c)]).run AaU w = .ok (.slice (some ⟨w.heap.size,0,none⟩) 1 1) (w.alloc (.cells #[.slice ao n c] 27)):=by kernel_rfl
theorem JG:Plain AaU 45:=fun _ _=>by kernel_rfl
theorem D5:Tryz.prog.underlying 233=some (.map 33 3):=by kernel_rfl
theorem Nf:∀(cs:Array AaR),cs.size=32→∀w:AaS,(Abz 42 1 #[(0, .agg cs)]).run AaU w = .ok (.slice (some ⟨w.heap.size,0,none⟩) 1 1) (w.alloc (.cells cs 33))
 | ⟨[c0,c1,c2,c3,c4,c5,c6,c7,c8,c9,c10,c11,c12,c13,c14,c15,c16,c17,c18,c19,c20,c21,c22,c23,c24,c25,c26,c27,c28,c29,c30,c31]⟩,_,w=>Th c0 c1 c2 c3 c4 c5 c6 c7 c8 c9 c10 c11 c12 c13 c14 c15 c16 c17 c18 c19 c20 c21 c22 c23 c24 c25 c26 c27 c28 c29 c30 c31 w
theorem O7:Tryz.prog.underlying 9=some (.string):=by kernel_rfl
theorem LI:Plain AaU 144:=fun _ _=>by kernel_rfl
theorem RU:Plain AaU 145:=fun _ _=>by kernel_rfl
theorem RV:Plain AaU 132:=fun _ _=>by kernel_rfl
theorem It:Plain AaU 146:=fun _ _=>by kernel_rfl
theorem To:Plain AaU 55:=fun _ _=>by kernel_rfl
theorem RW(w:AaS)(hG:Laid w)(v:AaR)(ps:List Pt)(hr:RG 2 partC w v ps)(hps:K5 w ps)(hL:Cl ps):
  Calls AaU 91 #[v] w fun e w' =>∃v',e = .returned (.tuple #[v',NI (AU ps).2])∧w'.ownsRow w.heap.size 5 1 v' (AU ps).1.length (AaT (AU ps).1)∧Ext w w' :=by
 have hw2:=hG.two;have hL1:=hL.1;refine gG (args:= [v]) Tryz.func91 rfl 165 rfl rfl ?_;have hE:=Ext.refl w;refine gS (X1 Fu (XU hr rfl) (gS (XQ RR rfl ((Ro _ (ps.length) (by omega)).mono ?_))));rintro e w6 ⟨v3,rfl,bf,fj⟩;refine⟨_,rfl,?_⟩;refine gS (YD rk NI (fun id:List UInt8=>id.length=32) fun n8 w9 i7 b4 c9 i8=> ?_);have hE:=hE.trans fj;have da:=hE.size;have fk:OB v3 n8:=A7 bf (by omega);have i9:n8<w9.heap.size:=by omega
 have hids0:OG w.heap.size 33 32 AaT w9 (Aa0 none 0 0) ([]:List Bs):=OG.nil _ _ _ _ _;have fl:Aa1 (Aa0 none 0 0)≠some n8:=fun h=>by cases h
 have fm:Ah (Aa0 none 0 0) v3:=fun k h=>by cases h
 have fn:Ah v3 (Aa0 none 0 0):=fun k _ h=>by cases h
 have hE:=hE.trans c9;refine gS (X1 Fu (XU (hr.keep hE) rfl) (gS (Aau 8 LA W6 rfl rfl (by omega) (by omega) fun ab fo fp db ch ja=> ?_)));have dc:=hE.size;have jb:=Ar b4.lt fp;have bf:=Stab.own _ _ _ _ _ _ _ _ bf c9;have fq:OB v3 ab:=A7 bf (by omega);have fr:Aa1 (Aa0 none 0 0)≠some ab:=A7 hids0.2 (by omega);have dd:=db;clear db;have jc:ab<fo.heap.size:=by omega
 have hE:=hE.trans ch;have bf:=Stab.own _ _ _ _ _ _ _ _ bf ch;have b4:=b4.keep ch;have hids0:=hids0.keep ch;refine gS (X1 Fu (XU (hr.keep hE) rfl) (gL (fun(ρ:Ad) (wz:AaS)=>∃i:Nat,∃s:BS,∃vb:AaR,∃vi:AaR,ρ 0=(v:AaR)∧ρ 5=(.map (some n8):AaR)∧ρ 7=(.slice (some ⟨ab,0,none⟩) ps.length ps.length:AaR)∧ρ 28=(v:AaR)∧ρ 29=(NI ps.length:AaR)∧ρ 30=(NI i:AaR)∧ρ 8=(NI s.total:AaR)∧ρ 4=(vb:AaR)∧ρ 6=(vi:AaR)∧Ext w wz∧wz.ownsRow w.heap.size 5 1 vb (s.b:List UInt8).length (AaT (s.b))∧OG w.heap.size 33 32 (AaT) wz vi (s.ids)∧MapF rk NI (fun id:List UInt8=>id.length=32) wz n8 (Bm s)∧wz.heap[ab]? =some (.cells ((s.depths++Aa4 (ps.length-i) 0).map fun x=>NI x).toArray 3 (0,0))∧(CW ps i = .ok s)∧(i≤ps.length)∧(OB vb n8)∧(Ah vb vi)∧(OB vb ab)∧(OB vi n8)∧(Ah vi vb)∧(OB vi ab)∧True) (fun ρ _=>ps.length-(intOf (ρ 30)).toNat) ⟨0,⟨80 :: Abd ps.length,[],[],[],0⟩,v3,(Aa0 none 0 0),rfl,rfl,rfl,rfl,rfl,rfl,rfl,rfl,rfl,hE,Dh bf (rfl),Bz hids0 (rfl),B4 b4 (rfl),AV dd (rfl),rfl,Abs _,fk,fn,fq,fl,fm,fr,trivial⟩ ?_));clear bf;clear b4;clear hids0;clear dd;clear hE;rintro de df ⟨i,s,vb,vi,T0,T5,T7,aq,ar,ad,T8,T4,T6,hE,hr_vb,hr_vi,hb11l,hb38l,hs,hi,hap_vb_n8,hap_vb_vi,hap_vb_n24,hap_vi_n8,hap_vi_vb,hap_vi_n24,-⟩;have q30:=ad;have hB:=Ir hL i s hi hs;have hBi:=hB.ids;have hBp:=hB.places;have hBd:=hB.depths;have hBb:=hB.b;have hBt:=hB.total;obtain⟨dl,hdl⟩:∃dl,dl=s.depths++Aa4 (ps.length-i) 0:=⟨_,rfl⟩;have hb38l:df.heap[ab]? =some (.cells (dl.map fun x=>NI x).toArray 3 (0,0)):=AV hb38l (by rw[hdl]);have hdll:dl.length=ps.length:=by rw[hdl,AaY,Abc];omega
 have hdg:∀m,m<i→dl.getD m 0=s.depths.getD m 0:=fun m hm=>by rw[hdl,AaW,AbN (by omega),←AaW]
 refine gS (XK (a:=(i:Nat)) (b:=(ps.length:Nat)) ad ar (AL _ _ _ _) ?_);refine cD rfl (fun ct=> ?_) fun ct=> ?_
 ·have hil:i<ps.length:=ct;obtain⟨p,hp⟩:∃p,p=ps.getD i Az:=⟨_,rfl⟩;have hpm:p∈ps:=by rw[hp];exact AO Az hil
  have hpl:=hL.2 p hpm;have hpb:=(hps p hpm).2;have hpr:=(hps p hpm).1;have hst:=EJ hs;unfold ED at hst;rw[←hp]at hst;have fs:(partC (ps.getD (i) Az)).length=2:=(RG.elem (hr.keep hE) Az (by omega));refine gS (X4 Fu Kp (by decide) Az (XU (hr.keep hE) aq) ad (by omega) fun jd dh=>(gS (X9 (Yb dh rfl) (RS).choose_spec rfl (by rw[fs];exact Ko) (gS (Yk.alloc RT fun am ft di dj b5 je=> ?_)))));have o:=Ext.refl df;have jf:=hE.size;have jg:=Ar hb11l.lt di;have jh:=Ar (bl hb38l) di;have ci:OB vb am:=A7 hr_vb (by omega);have dk:OB vi am:=A7 hr_vi.2 (by omega);have f:=dj;clear dj;have ji:am<ft.heap.size:=by omega
  refine gS (XN (vr (PQ am 0) rfl) (vr (.agg (partC (ps.getD (i) Az)).toArray) rfl) f (by rfl) (by exact Ko) ((partC_one (RB.one (hps _ (AO Az ct)).1))) fun dm dn b6 jj=> ?_);have hb11l:=hb11l.keep b5;have hb11l:=MapF.other hb11l b6 (Am (by omega));clear f;have f:=dn;clear dn;have jk:=bl f;clear dh;have f:dm.heap[am]? =some (.cells ([p.v, .int .i64 (p.base:Int)]).toArray 156 (0,0)):=AV f (show partC (ps.getD i Az)= [p.v, .int .i64 (p.base:Int)] by rw[←hp];rfl);by_cases hA:p.base < -1
  ·have o:=o.trans b5;have o:=Ab o b6 (AaV (AaX _) (by omega));have hE:=hE.trans o;refine gS (Yk.fieldAt Cc rfl (gS (XJ F5 rfl rfl (cellAt f rfl) (gS (XS F5 (XP (hpr.keep hE) rfl) (gS (XK (a:=((p.bytes:List UInt8).length:Nat)) (b:=(262144:Nat)) rfl rfl (Bj _ _ _ _) ?_)))))));refine cD rfl (fun az=> ?_) fun az=> ?_
   ·exact absurd az (by omega)
   refine gS (Yk.fieldAt BN rfl (gS (XJ Tc rfl rfl (cellAt f rfl) (gS (XK rfl rfl (FH _ .i64 (p.base:Int) (-1:Int)) (kT (by omega) (gS (XR rfl rfl (cT rfl (By rfl (vr (Aa0 none 0 0) rfl) (vr (NI 1) rfl) ?_))))))))));rw[if_pos (by omega)]at hst;rw[Ek (by omega) hst];exact⟨_,rfl,AbO _ _ _ 1,hE⟩
  by_cases hBq:(i:Int)≤p.base
  ·have o:=o.trans b5;have o:=Ab o b6 (AaV (AaX _) (by omega));have hE:=hE.trans o;refine gS (Yk.fieldAt Cc rfl (gS (XJ F5 rfl rfl (cellAt f rfl) (gS (XS F5 (XP (hpr.keep hE) rfl) (gS (XK (a:=((p.bytes:List UInt8).length:Nat)) (b:=(262144:Nat)) rfl rfl (Bj _ _ _ _) ?_)))))));refine cD rfl (fun az=> ?_) fun az=> ?_
   ·exact absurd az (by omega)
   refine gS (Yk.fieldAt BN rfl (gS (XJ Tc rfl rfl (cellAt f rfl) (gS (XK rfl rfl (FH _ .i64 (p.base:Int) (-1:Int)) (kF (by omega) (gS (Yk.fieldAt BN rfl (gS (XJ Tc rfl rfl (cellAt f rfl) (gS (XK rfl ad (Mx _ .i64 (p.base:Int) ((i:Nat):Int)) (kT (by omega) (gS (XV rfl rfl (cT rfl (By rfl (vr (Aa0 none 0 0) rfl) (vr (NI 1) rfl) ?_)))))))))))))))));rw[if_pos (by omega)]at hst;rw[Ek (by omega) hst];exact⟨_,rfl,AbO _ _ _ 1,hE⟩
  by_cases hC0:p.base<0
  ·have o:=o.trans b5;have o:=Ab o b6 (AaV (AaX _) (by omega));have hE:=hE.trans o;refine gS (Yk.fieldAt Cc rfl (gS (XJ F5 rfl rfl (cellAt f rfl) (gS (XS F5 (XP (hpr.keep hE) rfl) (gS (XK (a:=((p.bytes:List UInt8).length:Nat)) (b:=(262144:Nat)) rfl rfl (Bj _ _ _ _) ?_)))))));refine cD rfl (fun az=> ?_) fun az=> ?_
   ·exact absurd az (by omega)
   refine gS (Yk.fieldAt BN rfl (gS (XJ Tc rfl rfl (cellAt f rfl) (gS (XK rfl rfl (FH _ .i64 (p.base:Int) (-1:Int)) (kF (by omega) (gS (Yk.fieldAt BN rfl (gS (XJ Tc rfl rfl (cellAt f rfl) (gS (XK rfl ad (Mx _ .i64 (p.base:Int) ((i:Nat):Int)) (kF (by omega) (gS (XV rfl rfl (cF rfl (gS (Yk.fieldAt Cc rfl (gS (XJ F5 rfl rfl (cellAt f rfl) (gS (Yu F8 (XP (hpr.keep hE) (vr p.v rfl)) fun fu jl fv dq=> ?_))))))))))))))))))))));have hE:=hE.trans dq;refine gS (XQ JG rfl ((FY _ (hG.keep hE) fu (p.bytes) fv (by omega)).mono ?_));rintro e jm ⟨rfl,dr⟩;refine⟨_,rfl,?_⟩;refine gS (Yk.alloc Tf fun b7 fw cu ds bg jn=> ?_);have hE:=hE.trans dr;have hZ1:=dq.trans dr;have o:=o.trans hZ1;have cv:=hE.size;have hb11l:=hb11l.keep hZ1;have jo:=Ar hb11l.lt cu;have jp:=o.size;have hb38l:=eb o hb38l;have jq:=Ar (bl hb38l) cu;have f:=eb hZ1 f;have jr:=Ar (bl f) cu;have hr_vb:=Stab.own _ _ _ _ _ _ _ _ hr_vb o;have dt:OB vb b7:=A7 hr_vb (by omega);have hr_vi:=hr_vi.keep o;have du:OB vi b7:=A7 hr_vi.2 (by omega);have an:=ds;clear ds;have js:b7<fw.heap.size:=by omega
   refine gS (XN (vr (PQ b7 0) rfl) (vr (AB (Sha.sum (p.bytes))) rfl) an (by exact Bv (Sha.sum_length _) Abc) (by exact Ac (Sha.sum_length _)) (Af _) fun fx dv bh jt=> ?_);have hb11l:=hb11l.keep bg;have hb11l:=MapF.other hb11l bh (Am (by omega));clear an;have an:=dv;clear dv;have ju:=bl an;rw[if_neg (by omega)]at hst;by_cases hin:Sha.sum p.bytes∈s.ids
   ·rw[if_pos hin]at hst;obtain⟨q,hq,-⟩:=DS s.ids s.places (Sha.sum p.bytes) (by omega) hin;refine gS (XO rfl an UY rfl (by exact Ac (Sha.sum_length _)) (gS (Yr (ek:=rk) (ev:=NI) (D:=(fun id:List UInt8=>id.length=32)) Ce Cf (fun _ _=>B9) D5 (z:=NI 0) G2 T5 rfl hb11l (Sha.sum_length _) (show Bm s _=some q from hq) (gS (Yk.extract (vs:= [NI q, .bool (true)]) rfl rfl (gS (Yk.extract (vs:= [NI q, .bool (true)]) rfl rfl (cT rfl (By rfl (vr (Aa0 none 0 0) rfl) (vr (NI 11) rfl) ?_)))))))));rw[Ek (by omega) hst];have hE:=hE.trans bg;have hE:=Ab hE bh (AaV cv (by omega));exact⟨_,rfl,AbO _ _ _ 1,hE⟩
   rw[if_neg hin]at hst;have hq:=CP s.ids s.places (Sha.sum p.bytes) hin;have f:=eb bg f;have f:=kb bh f (by omega);refine gS (XO rfl an UY rfl (by exact Ac (Sha.sum_length _)) (gS (Yw (ek:=rk) (ev:=NI) (D:=(fun id:List UInt8=>id.length=32)) Ce Cf (fun _ _=>B9) D5 (z:=NI 0) G2 T5 rfl hb11l (Sha.sum_length _) (show Bm s _=none from hq) (gS (Yk.extract (vs:= [NI 0, .bool (false)]) rfl rfl (gS (Yk.extract (vs:= [NI 0, .bool (false)]) rfl rfl (cF rfl (gS (Yk.fieldAt BN rfl (gS (XJ Tc rfl rfl (cellAt f rfl) (gS (XK rfl rfl (Mx _ .i64 (p.base:Int) ((0:Nat):Int)) (kF (by omega) ?_)))))))))))))));obtain⟨d2,hd2⟩:∃d2,d2=s.depths++Dj p s :: Aa4 (ps.length-i-1) 0:=⟨_,rfl⟩;have hb38l:=eb bg hb38l;have hb38l:=kb bh hb38l (by omega);have hb38l:fx.heap[ab]? =some (.cells (d2.map fun x=>NI x).toArray 3 (0,0)):=AV hb38l (congrArg (Adw fun x=>NI x) (by rw[hd2,hdl,show ps.length-i=(ps.length-i-1)+1 by omega];unfold Dj;rw[if_pos hC0];rfl));have hdv:d2.getD i 0=Dj p s:=by rw[hd2,AaW,AbH (by omega),hBd,AcD];simp
   have hd2l:d2.length=ps.length:=by rw[hd2,AaY,Abp,Abc];omega
   refine cF rfl (gS (YU (i:=i) LA G1 T7 ad (by omega) (gS (XJ Tc rfl rfl (cellAt hb38l (F7 (i:=i) (by omega))) (gS (XK (a:=((d2).getD (i) 0:Nat)) (b:=(50:Nat)) rfl rfl (Bj _ _ _ _) ?_))))));refine cD rfl (fun a0=> ?_) fun a0=> ?_
   ·refine By rfl (vr (Aa0 none 0 0) rfl) (vr (NI 17) rfl) ?_;rw[hdv]at a0;rw[if_pos a0]at hst;rw[Ek (by omega) hst];have hE:=hE.trans bg;have hE:=Ab hE bh (AaV cv (by omega));exact⟨_,rfl,AbO _ _ _ 1,hE⟩
   rw[hdv]at a0;rw[if_neg a0]at hst;have hst3:=hst;have hr_vb:=Stab.own _ _ _ _ _ _ _ _ hr_vb bg;have hr_vb:=BI hr_vb bh dt;refine gS (XO rfl an UY rfl (by exact Ac (Sha.sum_length _)) (gS (XS F5 (XP (X3 hr_vb) T4) (gS (YA (ek:=rk) (ev:=NI) (D:=(fun id:List UInt8=>id.length=32)) (c:=(s.b:List UInt8).length) Ce Cf D5 T5 (vr (AB (Sha.sum (p.bytes))) rfl) (vr (NI ((s.b:List UInt8).length)) rfl) hb11l (Sha.sum_length _) fun fy a4 bw jv=> ?_)))));clear hb11l;have jw:n8<fy.heap.size:=a4.lt;have an:=kb bw an (by omega);refine gS (XO rfl an UY rfl (by exact Ac (Sha.sum_length _)) (gS (Yo (a:=(Sha.sum (p.bytes))) (enc:=AaT) (vr (AB (Sha.sum (p.bytes))) rfl) (by rw[Aa8];exact(Sha.sum_length _)) Nf fun fz f0 dw bo=> ?_)));have hE:=hE.trans bg;have hE:=Ab hE bh (AaV cv (by omega));have hE:=Ab hE bw (AaV da (by omega));have hE:=hE.trans bo;have hr_vi:=hr_vi.keep bg;have hr_vi:=OG.kept hr_vi bh du;have hr_vi:=OG.kept hr_vi bw hap_vi_n8;have hr_vi:=hr_vi.keep bo;refine gS (X2 _ _ w.heap.size _ 32 M4 pk6_ig33.choose_spec.1 pk6_ig33.choose_spec.2 M4 (s.ids) ([(Sha.sum (p.bytes))]) (OG.of hr_vi T6) (XU dw (vr fz rfl)) (fun _ _=>Af _) (by simp only[Abp,Abw];omega) (by simp only[Abp,Abw];omega) hE.size fun a8 u cj a1=> ?_);have a1:Grew f0 u vi a8:= .eqv T6 a1;have a4:=a4.keep bo;have f1:OB a8 n8:=Ao a1 hap_vi_n8 a4.lt;have hr_vb:=BI hr_vb bw hap_vb_n8;have hr_vb:=Stab.own _ _ _ _ _ _ _ _ hr_vb bo;have f2:Ah a8 vb:=AG a1 hap_vi_vb hr_vb;have dx:Ah vb a8:=fun k h1 h2=>f2 k h2 h1;have hb38l:=kb bw hb38l (by omega);have hb38l:=eb bo hb38l;have f3:OB a8 ab:=Ao a1 hap_vi_n24 (bl hb38l);have f:=kb bw f (by omega);have f:=eb bo f;have an:=eb bo an;have hE:=Av hE a1 hr_vi.2 (AaX _);have hr_vb:=Dr hr_vb a1 hap_vi_vb;have hb38l:=Aq hb38l a1 hap_vi_n24;have f:=Aq f a1 dk;have an:=Aq an a1 du;have a4:=MapF.grew a4 a1 hap_vi_n8;clear dw;clear hr_vi;refine gS (Yk.fieldAt Cc rfl (gS (XJ F5 rfl rfl (cellAt f rfl) (gS (XS F5 (XP (hpr.keep hE) rfl) (gS (XL (xv:=NI s.total) (yv:=NI ((p.bytes:List UInt8).length)) T8 rfl rfl (Ai _ _ _ (by omega)) (gS (Yk.fieldAt BN rfl (gS (XJ Tc rfl rfl (cellAt f rfl) (gS (XK rfl rfl (FH _ .i64 (p.base:Int) ((0:Nat):Int)) (kT (by omega) (cT rfl (gR ?_))))))))))))))));have f4:∀k,Aa1 vb=some k→w.heap.size≤k:=fun k hk=>(hr_vb.lt k hk).1;have hsz_:w.heap.size≤u.heap.size:=hE.size;refine Ei (Aa1 vb) [2] [0] (fun m=>if m=2 then [0,1]else []) (fun m=>if m=2 then [0,1,2,6,7]else []) [fun x w' =>EU w.heap.size u.heap.size 5 (Aa1 vb) (s.b) x w',fun x w' =>RB w' x (([0]:List UInt8)),fun x w' =>EU w.heap.size u.heap.size 5 (Aa1 vb) ((s.b:List UInt8)++(([0]:List UInt8):List UInt8)) x w',Is (PQ am 0),Is (p.v),Is (St (p.bytes)),fun x w' =>EU w.heap.size u.heap.size 5 (Aa1 vb) (((s.b:List UInt8)++(([0]:List UInt8):List UInt8):List UInt8)++Bk (p.bytes:List UInt8)) x w',fun x w' =>EU w.heap.size u.heap.size 5 (Aa1 vb) (((s.b:List UInt8)++(([0]:List UInt8):List UInt8):List UInt8)++Bk (p.bytes:List UInt8)) x w'] (by kernel_rfl) [92,93,94,95,96,97,98,4] (by kernel_rfl) (by kernel_rfl) (by kernel_rfl) (by kernel_rfl) (by kernel_rfl) rfl ⟨(fun _ _ _ h k=>⟨Stab.own _ _ _ _ _ _ _ _ h.1 k,h.2⟩),(fun _ _ _ h k=>RB.keep h k),(fun _ _ _ h k=>⟨Stab.own _ _ _ _ _ _ _ _ h.1 k,h.2⟩),XT _,XT _,XT _,(fun _ _ _ h k=>⟨Stab.own _ _ _ _ _ _ _ _ h.1 k,h.2⟩),(fun _ _ _ h k=>⟨Stab.own _ _ _ _ _ _ _ _ h.1 k,h.2⟩),trivial⟩ ⟨⟨.inl rfl, .inl rfl, .inl rfl, .inr (XT _), .inr (XT _), .inr (XT _), .inl rfl, .inl rfl,trivial⟩,trivial⟩ ?f5 ?hQ4025
   case f5=>
    refine⟨?_,?_,?_,?_,?_,?_,?_,?_,trivial⟩
    ·refine Aj rfl fun σ w1 hC h=> ?_;have hX:Ext u w1:=hC;have hC:BX u.heap.size (Aa1 vb) u w1:=Yi hX (AaX _);have e4:=(AI (h 4 (by decide))).trans T4;exact Yk.move e4 ⟨Ext.refl _,Stab.own _ _ _ _ _ _ _ _ hr_vb hX,fun k hk=> .inl hk⟩
    ·refine Aj rfl fun σ w1 hC h=> ?_;have hC:BX u.heap.size (Aa1 vb) u w1:=hC;exact ZN (e:=5) ([0]:List UInt8) (by decide) (fun _ _=>by kernel_rfl) fun v w2 hN=>⟨hN.ext,hN.rb⟩
    ·refine Aj rfl fun σ w1 hC h=> ?_;have hC:BX u.heap.size (Aa1 vb) u w1:=hC;have cx:(fun x w' =>EU w.heap.size u.heap.size 5 (Aa1 vb) (s.b) x w') (σ 92) w1:=h 92 (by decide);have f6:(fun x w' =>RB w' x (([0]:List UInt8))) (σ 93) w1:=h 93 (by decide);exact Ya _ _ w.heap.size (.int .u8 0) F5 MA rfl F5 (s.b) (([0]:List UInt8)) cx.1 f6 (by simp only[Abp,Abw];omega) (AaV hsz_ hC.size) fun v w2 ho hg=>⟨Yj hg.by_ hC.size cx.2,ho,fun k hk=>(hg.fresh k hk).elim (cx.2 k) (fun x=> .inr (AaV hC.size x))⟩
    ·refine Aj rfl fun σ w1 hC h=> ?_;have hC:BX u.heap.size (Aa1 vb) u w1:=hC;have b8:σ 10=PQ am 0:=(AI (h 10 (by decide))).trans rfl;exact Yk.fieldAt Cc b8 ⟨Ext.refl _,rfl⟩
    ·refine Aj rfl fun σ w1 hC h=> ?_;have hC:BX u.heap.size (Aa1 vb) u w1:=hC;have f7:=AI (h 95 (by decide));exact XJ F5 rfl f7 (cellAt (BX.blk hC f ci) (show _=some (p.v:AaR)from rfl)) ⟨Ext.refl _,rfl⟩
    ·refine Aj rfl fun σ w1 hC h=> ?_;have hC:BX u.heap.size (Aa1 vb) u w1:=hC;have f8:=AI (h 96 (by decide));exact Yh F5 u5 O7 (XP (hpr.keep (Dz hE hC (by omega) (fun k hk=>by have:=f4 k hk;omega))) f8) ⟨Ext.refl _,rfl⟩
    ·refine Aj rfl fun σ w1 hC h=> ?_;have hC:BX u.heap.size (Aa1 vb) u w1:=hC;have f9:(fun x w' =>EU w.heap.size u.heap.size 5 (Aa1 vb) ((s.b:List UInt8)++(([0]:List UInt8):List UInt8)) x w') (σ 94) w1:=h 94 (by decide);have ga:=AI (h 97 (by decide));refine XM LI rfl ga ((Nd _ (σ 94) ((s.b:List UInt8)++(([0]:List UInt8):List UInt8)) (X3 f9.1) (p.bytes) (by simp only[AaY,Abp,Abw];omega)).mono ?_);rintro e w2 ⟨v,rfl,hN⟩;exact⟨_,rfl,hN.ext,BH hN.own (AaV hsz_ hC.size),fun k hk=> .inr (AaV hC.size (hN.own.lt k hk).1)⟩
    ·refine Aj rfl fun σ w1 hC h=> ?_;have hC:BX u.heap.size (Aa1 vb) u w1:=hC;have gb:(fun x w' =>EU w.heap.size u.heap.size 5 (Aa1 vb) (((s.b:List UInt8)++(([0]:List UInt8):List UInt8):List UInt8)++Bk (p.bytes:List UInt8)) x w') (σ 98) w1:=h 98 (by decide);exact Yk.assign rfl ⟨Ext.refl _,gb⟩
   intro dy dz gc he hf;obtain⟨-,-,-,-,-,-,-,k4,-⟩:=hf;obtain⟨T0,T5,T6,T7,T8,T9,ge,gf,gg,aq,ar,ad,gh,gi,gj,gk,-⟩:=he.hold [(0,_),(5,_),(6,a8),(7,_),(8,NI ((s.total)+((p.bytes:List UInt8).length))),(9,_),(10,PQ am 0),(11,PQ b7 0),(13, .bool (false)),(28,_),(29,_),(30,_),(47, .bool (false)),(58, .bool (false)),(61, .bool (false)),(91, .bool (true))] ⟨T0,T5,rfl,T7,rfl,ad,rfl,rfl,rfl,aq,ar,ad,rfl,rfl,rfl,rfl,trivial⟩ rfl;clear he;have k4:(fun x w' =>EU w.heap.size u.heap.size 5 (Aa1 vb) (((s.b:List UInt8)++(([0]:List UInt8):List UInt8):List UInt8)++Bk (p.bytes:List UInt8)) x w') (dy 4) dz:=k4;obtain⟨bx,T4⟩:∃v,dy 4=v:=⟨_,rfl⟩;rw[T4]at k4;have a9:Grew u dz vb bx:=⟨gc.grown,k4.2⟩;have gl:=k4.1;clear k4;have gm:OB bx n8:=Ao a9 hap_vb_n8 a4.lt;have gn:OB bx ab:=Ao a9 hap_vb_n24 (bl hb38l);have d0:Ah bx a8:=AG a9 dx cj.2;have go:Ah a8 bx:=fun k h1 h2=>d0 k h2 h1;have hE:=Av hE a9 hr_vb (AaX _);have hb38l:=Aq hb38l a9 hap_vb_n24;have f:=Aq f a9 ci;have an:=Aq an a9 dt;have a4:=MapF.grew a4 a9 hap_vb_n8;have cj:=Bb cj a9 dx;clear hr_vb;refine gX ?_;have hbn:(bnext ps p s).b=s.b++ [0]++Bk p.bytes:=by unfold bnext;simp only;rw[if_pos hC0]
   refine gS (XL (xv:=NI i) (yv:=NI 1) ad rfl rfl (Ai _ _ _ (by omega)) ?_);have hdep:d2=(bnext ps p s).depths++Aa4 (ps.length-(i+1)) 0:=by rw[hd2];simp only[bnext,Abr,Ad9,Nat.sub_sub]
   refine gK (Aby ⟨i+1,bnext ps p s,bx,a8,T0,T5,T7,aq,ar,rfl,T8,T4,T6,hE,Dh gl (by rw[hbn]),Bz cj (rfl),B4 a4 ((Iq hB hin).symm),AV hb38l (congrArg (Adw fun x=>NI x) hdep),hst3,by omega,gm,d0,gn,f1,go,f3,trivial⟩ ?_);show ps.length-(intOf (NI ((i)+(1)))).toNat<ps.length-(intOf (de 30)).toNat;rw[q30];simp only[intOf,Aba];omega
  have o:=o.trans b5;have o:=Ab o b6 (AaV (AaX _) (by omega));have hE:=hE.trans o;obtain⟨m,hm⟩:∃m:Nat,p.base=(m:Int):=⟨p.base.toNat,by omega⟩;have hmi:m<i:=by omega
  have f:dm.heap[am]? =some (.cells ([p.v,NI m]).toArray 156 (0,0)):=AV f (by rw[hm]);refine gS (Yk.fieldAt Cc rfl (gS (XJ F5 rfl rfl (cellAt f rfl) (gS (XS F5 (XP (hpr.keep hE) rfl) (gS (XK (a:=((p.bytes:List UInt8).length:Nat)) (b:=(262144:Nat)) rfl rfl (Bj _ _ _ _) ?_)))))));refine cD rfl (fun az=> ?_) fun az=> ?_
  ·exact absurd az (by omega)
  refine gS (Yk.fieldAt BN rfl (gS (XJ Tc rfl rfl (cellAt f rfl) (gS (XK rfl rfl (FH _ .i64 ((m:Nat):Int) (-1:Int)) (kF (by omega) (gS (Yk.fieldAt BN rfl (gS (XJ Tc rfl rfl (cellAt f rfl) (gS (XK (a:=(m:Nat)) (b:=(i:Nat)) rfl ad (EQ _ _ _ _) (kF (by omega) (gS (XV rfl rfl (cF rfl (gS (Yk.fieldAt Cc rfl (gS (XJ F5 rfl rfl (cellAt f rfl) (gS (Yu F8 (XP (hpr.keep hE) (vr p.v rfl)) fun gp jx gq d1=> ?_))))))))))))))))))))));have hE:=hE.trans d1;refine gS (XQ JG rfl ((FY _ (hG.keep hE) gp (p.bytes) gq (by omega)).mono ?_));rintro e jy ⟨rfl,d3⟩;refine⟨_,rfl,?_⟩;refine gS (Yk.alloc Tf fun bp gr cy d4 bi jz=> ?_);have hE:=hE.trans d3;have hZ2:=d1.trans d3;have o:=o.trans hZ2;have cz:=hE.size;have hb11l:=hb11l.keep hZ2;have j0:=Ar hb11l.lt cy;have j1:=o.size;have hb38l:=eb o hb38l;have j2:=Ar (bl hb38l) cy;have f:=eb hZ2 f;have j3:=Ar (bl f) cy;have hr_vb:=Stab.own _ _ _ _ _ _ _ _ hr_vb o;have c0:OB vb bp:=A7 hr_vb (by omega);have hr_vi:=hr_vi.keep o;have d5:OB vi bp:=A7 hr_vi.2 (by omega);have t:=d4;clear d4;have j4:bp<gr.heap.size:=by omega
  refine gS (XN (vr (PQ bp 0) rfl) (vr (AB (Sha.sum (p.bytes))) rfl) t (by exact Bv (Sha.sum_length _) Abc) (by exact Ac (Sha.sum_length _)) (Af _) fun j5 d6 bj j6=> ?_);have hb11l:=hb11l.keep bi;have hb11l:=MapF.other hb11l bj (Am (by omega));clear t;have t:=d6;clear d6;have j7:=bl t;rw[if_neg (by omega)]at hst;by_cases hin:Sha.sum p.bytes∈s.ids
  ·rw[if_pos hin]at hst;obtain⟨q,hq,-⟩:=DS s.ids s.places (Sha.sum p.bytes) (by omega) hin;refine gS (XO rfl t UY rfl (by exact Ac (Sha.sum_length _)) (gS (Yr (ek:=rk) (ev:=NI) (D:=(fun id:List UInt8=>id.length=32)) Ce Cf (fun _ _=>B9) D5 (z:=NI 0) G2 T5 rfl hb11l (Sha.sum_length _) (show Bm s _=some q from hq) (gS (Yk.extract (vs:= [NI q, .bool (true)]) rfl rfl (gS (Yk.extract (vs:= [NI q, .bool (true)]) rfl rfl (cT rfl (By rfl (vr (Aa0 none 0 0) rfl) (vr (NI 11) rfl) ?_)))))))));rw[Ek (by omega) hst];have hE:=hE.trans bi;have hE:=Ab hE bj (AaV cz (by omega));exact⟨_,rfl,AbO _ _ _ 1,hE⟩
  rw[if_neg hin]at hst;have hq:=CP s.ids s.places (Sha.sum p.bytes) hin;have hb38l:=eb bi hb38l;have hb38l:=kb bj hb38l (by omega);have f:=eb bi f;have f:=kb bj f (by omega);refine gS (XO rfl t UY rfl (by exact Ac (Sha.sum_length _)) (gS (Yw (ek:=rk) (ev:=NI) (D:=(fun id:List UInt8=>id.length=32)) Ce Cf (fun _ _=>B9) D5 (z:=NI 0) G2 T5 rfl hb11l (Sha.sum_length _) (show Bm s _=none from hq) (gS (Yk.extract (vs:= [NI 0, .bool (false)]) rfl rfl (gS (Yk.extract (vs:= [NI 0, .bool (false)]) rfl rfl (cF rfl (gS (Yk.fieldAt BN rfl (gS (XJ Tc rfl rfl (cellAt f rfl) (gS (XK (a:=(m:Nat)) (b:=(0:Nat)) rfl rfl (EQ _ _ _ _) (kT (Abs _) (cT rfl (gS (Yk.fieldAt BN rfl (gS (XJ Tc rfl rfl (cellAt f rfl) (gS (YU (i:=m) LA G1 T7 rfl (by omega) (gS (XJ Tc rfl rfl (cellAt hb38l (F7 (i:=m) (by omega))) (gS (XL (xv:=NI ((dl).getD (m) 0)) (yv:=NI 1) rfl rfl rfl (Ai _ _ _ (by have:=hB.dp _ (AO 0 (l:=s.depths) (i:=m) (by omega));rw[hdg m hmi];omega)) (gS (YU (i:=i) LA G1 T7 ad (by omega) (gS (Y6 (i:=i) (v:=((dl).getD (m) 0)+(1)) rfl rfl hb38l (by omega) M5 fun gs d7 bq j8=> ?_))))))))))))))))))))))))))))));have hb11l:=MapF.other hb11l bq (Am (by omega));clear hb38l;have hb38l:=d7;clear d7;have j9:=bl hb38l;obtain⟨d2,hd2⟩:∃d2,d2=s.depths++Dj p s :: Aa4 (ps.length-i-1) 0:=⟨_,rfl⟩;have hb38l:gs.heap[ab]? =some (.cells (d2.map fun x=>NI x).toArray 3 (0,0)):=AV hb38l (congrArg (Adw fun x=>NI x) (by rw[hd2,hdg m hmi,hdl,Acg _ _ (by omega),hBd,AcD,show ps.length-i=(ps.length-i-1)+1 by omega];unfold Dj;rw[if_neg hC0,hm,Aba];rfl));have hdv:d2.getD i 0=Dj p s:=by rw[hd2,AaW,AbH (by omega),hBd,AcD];simp
  have hd2l:d2.length=ps.length:=by rw[hd2,AaY,Abp,Abc];omega
  refine gS (YU (i:=i) LA G1 T7 ad (by omega) (gS (XJ Tc rfl rfl (cellAt hb38l (F7 (i:=i) (by omega))) (gS (XK (a:=((d2).getD (i) 0:Nat)) (b:=(50:Nat)) rfl rfl (Bj _ _ _ _) ?_)))));refine cD rfl (fun a0=> ?_) fun a0=> ?_
  ·refine By rfl (vr (Aa0 none 0 0) rfl) (vr (NI 17) rfl) ?_;rw[hdv]at a0;rw[if_pos a0]at hst;rw[Ek (by omega) hst];have hE:=hE.trans bi;have hE:=Ab hE bj (AaV cz (by omega));have hE:=Ab hE bq (AaV dc (by omega));exact⟨_,rfl,AbO _ _ _ 1,hE⟩
  rw[hdv]at a0;rw[if_neg a0]at hst;have hst3:=hst;have hr_vb:=Stab.own _ _ _ _ _ _ _ _ hr_vb bi;have hr_vb:=BI hr_vb bj c0;have hr_vb:=BI hr_vb bq hap_vb_n24;have t:=kb bq t (by omega);refine gS (XO rfl t UY rfl (by exact Ac (Sha.sum_length _)) (gS (XS F5 (XP (X3 hr_vb) T4) (gS (YA (ek:=rk) (ev:=NI) (D:=(fun id:List UInt8=>id.length=32)) (c:=(s.b:List UInt8).length) Ce Cf D5 T5 (vr (AB (Sha.sum (p.bytes))) rfl) (vr (NI ((s.b:List UInt8).length)) rfl) hb11l (Sha.sum_length _) fun gt ac bz ka=> ?_)))));clear hb11l;have kc:n8<gt.heap.size:=ac.lt;have t:=kb bz t (by omega);refine gS (XO rfl t UY rfl (by exact Ac (Sha.sum_length _)) (gS (Yo (a:=(Sha.sum (p.bytes))) (enc:=AaT) (vr (AB (Sha.sum (p.bytes))) rfl) (by rw[Aa8];exact(Sha.sum_length _)) Nf fun gu gv d8 br=> ?_)));have hE:=hE.trans bi;have hE:=Ab hE bj (AaV cz (by omega));have hE:=Ab hE bq (AaV dc (by omega));have hE:=Ab hE bz (AaV da (by omega));have hE:=hE.trans br;have hr_vi:=hr_vi.keep bi;have hr_vi:=OG.kept hr_vi bj d5;have hr_vi:=OG.kept hr_vi bq hap_vi_n24;have hr_vi:=OG.kept hr_vi bz hap_vi_n8;have hr_vi:=hr_vi.keep br;refine gS (X2 _ _ w.heap.size _ 32 M4 pk6_ig33.choose_spec.1 pk6_ig33.choose_spec.2 M4 (s.ids) ([(Sha.sum (p.bytes))]) (OG.of hr_vi T6) (XU d8 (vr gu rfl)) (fun _ _=>Af _) (by simp only[Abp,Abw];omega) (by simp only[Abp,Abw];omega) hE.size fun ax d9 ae a2=> ?_);have a2:Grew gv d9 vi ax:= .eqv T6 a2;have ac:=ac.keep br;have gw:OB ax n8:=Ao a2 hap_vi_n8 ac.lt;have hr_vb:=BI hr_vb bz hap_vb_n8;have hr_vb:=Stab.own _ _ _ _ _ _ _ _ hr_vb br;have gx:Ah ax vb:=AG a2 hap_vi_vb hr_vb;have ea:Ah vb ax:=fun k h1 h2=>gx k h2 h1;have hb38l:=kb bz hb38l (by omega);have hb38l:=eb br hb38l;have gy:OB ax ab:=Ao a2 hap_vi_n24 (bl hb38l);have f:=kb bq f (by omega);have f:=kb bz f (by omega);have f:=eb br f;have t:=eb br t;have hE:=Av hE a2 hr_vi.2 (AaX _);have hr_vb:=Dr hr_vb a2 hap_vi_vb;have f:=Aq f a2 dk;have t:=Aq t a2 d5;have hb38l:=Aq hb38l a2 hap_vi_n24;have ac:=MapF.grew ac a2 hap_vi_n8;clear d8;clear hr_vi;refine gS (Yk.fieldAt Cc rfl (gS (XJ F5 rfl rfl (cellAt f rfl) (gS (XS F5 (XP (hpr.keep hE) rfl) (gS (XL (xv:=NI s.total) (yv:=NI ((p.bytes:List UInt8).length)) T8 rfl rfl (Ai _ _ _ (by omega)) (gS (Yk.fieldAt BN rfl (gS (XJ Tc rfl rfl (cellAt f rfl) (gS (XK (a:=(m:Nat)) (b:=(0:Nat)) rfl rfl (AL _ _ _ _) (kF (by omega) ?_))))))))))))));have hm32:(s.ids.getD m []).length=32:=hB.len _ (AO [] (by omega));have hpq:=(hps _ (AO Az (l:=ps) (i:=m) (by omega))).1;have hql:=hL.2 _ (AO Az (l:=ps) (i:=m) (by omega));have hmk:=Il (ps.getD m Az).bytes p.bytes (by omega) (by omega);refine cF rfl (gS (Yk.fieldAt BN rfl (gS (XJ Tc rfl rfl (cellAt f rfl) ?_))));have c1:(AaT (((s.ids)++ [(Sha.sum (p.bytes))]).getD (m) ([]:List UInt8))).length=32:=(RG.elem (XW ae) ([]:List UInt8) (by rw[AaY];omega));refine gS (X4 M4 Rs (by decide) ([]:List UInt8) (XU (XW ae) rfl) rfl (by rw[AaY];omega) fun kd ec=>(gS (X9 (Yb ec rfl) UY rfl (by rw[c1];exact Rb) (gS (Yk.alloc Tf fun ba gz ck ed c2 ke=> ?_)))));have ay:=Ext.refl d9;have kf:=hE.size;have kg:=Ar (bl f) ck;have kh:=Ar (bl t) ck;have ki:=Ar (bl hb38l) ck;have kj:=Ar ac.lt ck;have ee:OB vb ba:=A7 hr_vb (by omega);have g0:OB ax ba:=A7 ae.2 (by omega);have ah:=ed;clear ed;have kk:ba<gz.heap.size:=by omega
  refine gS (XN (vr (PQ ba 0) rfl) (vr (AB (((s.ids)++ [(Sha.sum (p.bytes))]).getD (m) ([]:List UInt8))) rfl) ah (by exact Bv (AC (c1)) Abc) (by exact Ac (AC (c1))) (Af _) fun g1 ef c3 kl=> ?_);have ac:=ac.keep c2;have ac:=MapF.other ac c3 (Am (by omega));clear ah;have ah:=ef;clear ef;have km:=bl ah;clear ec;have ah:g1.heap[ba]? =some (.cells (AaT (s.ids.getD m [])).toArray 33 (0,0)):=AV ah (congrArg AaT (by rw[AaW,AbN (by omega),←AaW]));refine CC [0,3,1,2,4,5] [1,2,4,5] [3] fun kn cl=>(yp (Yt UY PG rfl zz) (yC (YR (b:=1) Rm (vr (B8 (1)) rfl) fun cm g2 a5=> ?_)));have ay:=ay.trans c2;have ay:=Ab ay c3 (AaV (AaX _) (by omega));have ay:=ay.trans cl;have hE:=hE.trans ay;have ko:=hE.size;have kp:=ay.size;have f:=eb ay f;have t:=eb ay t;have hb38l:=eb ay hb38l;have ac:=ac.keep cl;have ah:=eb cl ah;have hr_vb:=Stab.own _ _ _ _ _ _ _ _ hr_vb ay;have eg:Ah vb cm:=Eh hr_vb a5.own;have ae:=ae.keep c2;have ae:=OG.kept ae c3 g0;have ae:=ae.keep cl;have bb:=a5.own;have hE:=hE.trans a5.ext;have hr_vb:=Stab.own _ _ _ _ _ _ _ _ hr_vb a5.ext;refine yC (Ya _ _ w.heap.size (.int .u8 0) F5 MA rfl F5 (s.b) ([(1:UInt8)]) (CV hr_vb T4) (XP (X3 bb) (vr cm rfl)) (by simp only[Abp,Abw];omega) hE.size fun a6 eh c4 ai=> ?_);have ai:Grew g2 eh vb a6:= .eqv T4 ai;have ac:=ac.keep a5.ext;have ei:OB a6 n8:=Ao ai hap_vb_n8 ac.lt;have hb38l:=eb a5.ext hb38l;have ej:OB a6 ab:=Ao ai hap_vb_n24 (bl hb38l);have f:=eb a5.ext f;have el:OB a6 am:=Ao ai ci (bl f);have t:=eb a5.ext t;have em:OB a6 bp:=Ao ai c0 (bl t);have ae:=ae.keep a5.ext;have en:Ah a6 ax:=AG ai ea ae.2;have ah:=eb a5.ext ah;have eo:OB a6 ba:=Ao ai ee (bl ah);have ep:Ah a6 cm:=AG ai eg bb;have hE:=Av hE ai hr_vb (AaX _);have f:=Aq f ai ci;have t:=Aq t ai c0;have hb38l:=Aq hb38l ai hap_vb_n24;have ac:=MapF.grew ac ai hap_vb_n8;have ae:=Bb ae ai ea;have ah:=Aq ah ai ee;have bb:=Dr bb ai eg;clear hr_vb;refine yC (Ya _ _ w.heap.size (.int .u8 0) F5 MA rfl F5 (s.b++ [(1:UInt8)]) (s.ids.getD m []) (CV c4 (vr a6 rfl)) (XP (YF ah hm32 (by decide)) (vr (.slice (some ⟨ba,0,none⟩) 32 32) rfl)) (by simp only[AaY,Abp,Abw,hm32];omega) hE.size fun r g cn aj=> ?_);have aj:Grew eh g a6 r:=aj;have eq:OB r n8:=Ao aj ei ac.lt;have er:OB r ab:=Ao aj ej (bl hb38l);have c5:OB r am:=Ao aj el (bl f);have g3:OB r bp:=Ao aj em (bl t);have es:Ah r ax:=AG aj en ae.2;have g4:OB r ba:=Ao aj eo (bl ah);have g5:Ah r cm:=AG aj ep bb;have hE:=Av hE aj c4 (AaX _);have f:=Aq f aj el;have t:=Aq t aj em;have hb38l:=Aq hb38l aj ej;have ac:=MapF.grew ac aj ei;have ae:=Bb ae aj en;have ah:=Aq ah aj eo;have bb:=Dr bb aj ep;clear c4;refine yC (Yk.assign rfl (gR ?_));have c6:∀k,Aa1 r=some k→w.heap.size≤k:=fun k hk=>(cn.lt k hk).1;have hsz_:w.heap.size≤g.heap.size:=hE.size;refine Ei (Aa1 r) [] [0] (fun m=> []) (fun m=> []) [fun x w' =>EU w.heap.size g.heap.size 5 (Aa1 r) (s.b++ [(1:UInt8)]++s.ids.getD m []) x w',Is (v),Is (PQ am 1),Is (NI m),fun x w' =>PR (partC (ps.getD (m) Az)) x w',fun x w' =>PR (((partC (ps.getD (m) Az)).drop 0).take 1) x w',Is ((ps.getD (m) Az).v),Is (PQ am 0),Is (p.v),fun x w' =>RB w' x (BU ((ps.getD m Az).bytes) (p.bytes)),Is (St (BU ((ps.getD m Az).bytes) (p.bytes))),fun x w' =>EU w.heap.size g.heap.size 5 (Aa1 r) ((s.b++ [(1:UInt8)]++s.ids.getD m []:List UInt8)++Bk (BU ((ps.getD m Az).bytes) (p.bytes):List UInt8)) x w',fun x w' =>EU w.heap.size g.heap.size 5 (Aa1 r) ((s.b++ [(1:UInt8)]++s.ids.getD m []:List UInt8)++Bk (BU ((ps.getD m Az).bytes) (p.bytes):List UInt8)) x w'] (by kernel_rfl) [109,110,111,112,113,114,115,116,117,118,119,120,4] (by kernel_rfl) (by kernel_rfl) (by kernel_rfl) (by kernel_rfl) (by kernel_rfl) rfl ⟨(fun _ _ _ h k=>⟨Stab.own _ _ _ _ _ _ _ _ h.1 k,h.2⟩),XT _,XT _,XT _,(fun _ _ _ h k=>PR.keep h k),(fun _ _ _ h k=>PR.keep h k),XT _,XT _,XT _,(fun _ _ _ h k=>RB.keep h k),XT _,(fun _ _ _ h k=>⟨Stab.own _ _ _ _ _ _ _ _ h.1 k,h.2⟩),(fun _ _ _ h k=>⟨Stab.own _ _ _ _ _ _ _ _ h.1 k,h.2⟩),trivial⟩ trivial ?g6 ?hQ5028
  case g6=>
   refine⟨?_,?_,?_,?_,?_,?_,?_,?_,?_,?_,?_,?_,?_,trivial⟩
   ·refine Aj rfl fun σ w1 hC h=> ?_;have hX:Ext g w1:=hC;have hC:BX g.heap.size (Aa1 r) g w1:=Yi hX (AaX _);have e4:σ 4=r:=(AI (h 4 (by decide))).trans rfl;exact Yk.move e4 ⟨Ext.refl _,Stab.own _ _ _ _ _ _ _ _ cn hX,fun k hk=> .inl hk⟩
   ·refine Aj rfl fun σ w1 hC h=> ?_;have hC:BX g.heap.size (Aa1 r) g w1:=hC;have e0:=(AI (h 0 (by decide))).trans T0;exact Yk.move e0 ⟨Ext.refl _,rfl⟩
   ·refine Aj rfl fun σ w1 hC h=> ?_;have hC:BX g.heap.size (Aa1 r) g w1:=hC;have b8:σ 10=PQ am 0:=(AI (h 10 (by decide))).trans rfl;exact Yk.fieldAt BN b8 ⟨Ext.refl _,rfl⟩
   ·refine Aj rfl fun σ w1 hC h=> ?_;have hC:BX g.heap.size (Aa1 r) g w1:=hC;have g8:=AI (h 111 (by decide));exact XJ Tc rfl g8 (cellAt (BX.blk hC f c5) (show _=some (NI m:AaR)from rfl)) ⟨Ext.refl _,rfl⟩
   ·refine Aj rfl fun σ w1 hC h=> ?_;have hC:BX g.heap.size (Aa1 r) g w1:=hC;have g9:=AI (h 110 (by decide));have ha:=AI (h 112 (by decide));exact X4 Fu Kp (by decide) Az (XU (hr.keep (Dz hE hC (by omega) (fun k hk=>by have:=c6 k hk;omega))) g9) ha (by omega) fun v h=>⟨Ext.refl _,h⟩
   ·refine Aj rfl fun σ w1 hC h=> ?_;have hC:BX g.heap.size (Aa1 r) g w1:=hC;have hb:(fun x w' =>PR (partC (ps.getD (m) Az)) x w') (σ 113) w1:=h 113 (by decide);exact ZW (n:=1) Cc hb fun v h=>⟨Ext.refl _,h⟩
   ·refine Aj rfl fun σ w1 hC h=> ?_;have hC:BX g.heap.size (Aa1 r) g w1:=hC;have hc:(fun x w' =>PR (((partC (ps.getD (m) Az)).drop 0).take 1) x w') (σ 114) w1:=h 114 (by decide);exact X0 F5 rfl (PR.cell hc (show _=some ((ps.getD (m) Az).v:AaR)from rfl)) ⟨Ext.refl _,rfl⟩
   ·refine Aj rfl fun σ w1 hC h=> ?_;have hC:BX g.heap.size (Aa1 r) g w1:=hC;have b8:σ 10=PQ am 0:=(AI (h 10 (by decide))).trans rfl;exact Yk.fieldAt Cc b8 ⟨Ext.refl _,rfl⟩
   ·refine Aj rfl fun σ w1 hC h=> ?_;have hC:BX g.heap.size (Aa1 r) g w1:=hC;have hd:=AI (h 116 (by decide));exact XJ F5 rfl hd (cellAt (BX.blk hC f c5) (show _=some (p.v:AaR)from rfl)) ⟨Ext.refl _,rfl⟩
   ·refine Aj rfl fun σ w1 hC h=> ?_;have hC:BX g.heap.size (Aa1 r) g w1:=hC;have hh:=AI (h 115 (by decide));have hj:=AI (h 117 (by decide));refine XM RU hh hj ((Tk _ ((ps.getD (m) Az).v) (p.v) ((ps.getD m Az).bytes) (p.bytes) (hpq.keep (Dz hE hC (by omega) (fun k hk=>by have:=c6 k hk;omega))) (hpr.keep (Dz hE hC (by omega) (fun k hk=>by have:=c6 k hk;omega))) (by omega) (by omega)).mono ?_);rintro e w2 ⟨_,rfl,hx,ho⟩;exact⟨_,rfl,hx,X3 ho⟩
   ·refine Aj rfl fun σ w1 hC h=> ?_;have hC:BX g.heap.size (Aa1 r) g w1:=hC;have hl:(fun x w' =>RB w' x (BU ((ps.getD m Az).bytes) (p.bytes))) (σ 118) w1:=h 118 (by decide);exact Yh F5 u5 O7 hl ⟨Ext.refl _,rfl⟩
   ·refine Aj rfl fun σ w1 hC h=> ?_;have hC:BX g.heap.size (Aa1 r) g w1:=hC;have hn:(fun x w' =>EU w.heap.size g.heap.size 5 (Aa1 r) (s.b++ [(1:UInt8)]++s.ids.getD m []) x w') (σ 109) w1:=h 109 (by decide);have ht:=AI (h 119 (by decide));refine XM LI rfl ht ((Nd _ (σ 109) (s.b++ [(1:UInt8)]++s.ids.getD m []) (X3 hn.1) (BU ((ps.getD m Az).bytes) (p.bytes)) (by simp only[AaY,Abp,Abw,hm32];omega)).mono ?_);rintro e w2 ⟨v,rfl,hN⟩;exact⟨_,rfl,hN.ext,BH hN.own (AaV hsz_ hC.size),fun k hk=> .inr (AaV hC.size (hN.own.lt k hk).1)⟩
   ·refine Aj rfl fun σ w1 hC h=> ?_;have hC:BX g.heap.size (Aa1 r) g w1:=hC;have hu:(fun x w' =>EU w.heap.size g.heap.size 5 (Aa1 r) ((s.b++ [(1:UInt8)]++s.ids.getD m []:List UInt8)++Bk (BU ((ps.getD m Az).bytes) (p.bytes):List UInt8)) x w') (σ 120) w1:=h 120 (by decide);exact Yk.assign rfl ⟨Ext.refl _,hu⟩
  intro et eu hv he hf;obtain⟨-,-,-,-,-,-,-,-,-,-,-,-,k4,-⟩:=hf;obtain⟨T0,T5,T6,T7,T8,T9,ge,gf,gg,kq,aq,ar,ad,gh,gi,gj,gk,-⟩:=he.hold [(0,_),(5,_),(6,ax),(7,_),(8,NI ((s.total)+((p.bytes:List UInt8).length))),(9,_),(10,PQ am 0),(11,PQ bp 0),(13, .bool (false)),(14,PQ ba 0),(28,_),(29,_),(30,_),(47, .bool (false)),(58, .bool (false)),(61, .bool (true)),(91, .bool (false))] ⟨T0,T5,rfl,T7,rfl,ad,rfl,rfl,rfl,rfl,aq,ar,ad,rfl,rfl,rfl,rfl,trivial⟩ rfl;clear he;have k4:(fun x w' =>EU w.heap.size g.heap.size 5 (Aa1 r) ((s.b++ [(1:UInt8)]++s.ids.getD m []:List UInt8)++Bk (BU ((ps.getD m Az).bytes) (p.bytes):List UInt8)) x w') (et 4) eu:=k4;obtain⟨b0,T4⟩:∃v,et 4=v:=⟨_,rfl⟩;rw[T4]at k4;have a3:Grew g eu r b0:=⟨hv.grown,k4.2⟩;have hw:=k4.1;clear k4;have hy:OB b0 n8:=Ao a3 eq ac.lt;have hz:OB b0 ab:=Ao a3 er (bl hb38l);have ew:Ah b0 ax:=AG a3 es ae.2;have h0:Ah ax b0:=fun k h1 h2=>ew k h2 h1;have hE:=Av hE a3 cn (AaX _);have f:=Aq f a3 c5;have t:=Aq t a3 g3;have hb38l:=Aq hb38l a3 er;have ac:=MapF.grew ac a3 eq;have ae:=Bb ae a3 es;have ah:=Aq ah a3 g4;have bb:=Dr bb a3 g5;clear cn;refine gX ?_;have hbn:(bnext ps p s).b=s.b++ [1]++s.ids.getD m []++Bk (BU (ps.getD m Az).bytes p.bytes):=by unfold bnext;simp only;rw[if_neg hC0,hm,Aba]
  refine gS (XL (xv:=NI i) (yv:=NI 1) ad rfl rfl (Ai _ _ _ (by omega)) ?_);have hdep:d2=(bnext ps p s).depths++Aa4 (ps.length-(i+1)) 0:=by rw[hd2];simp only[bnext,Abr,Ad9,Nat.sub_sub]
  refine gK (Aby ⟨i+1,bnext ps p s,b0,ax,T0,T5,T7,aq,ar,rfl,T8,T4,T6,hE,Dh hw (by rw[hbn]),Bz ae (rfl),B4 ac ((Iq hB hin).symm),AV hb38l (congrArg (Adw fun x=>NI x) hdep),hst3,by omega,hy,ew,hz,gw,h0,gy,trivial⟩ ?_);show ps.length-(intOf (NI ((i)+(1)))).toNat<ps.length-(intOf (de 30)).toNat;rw[q30];simp only[intOf,Aba];omega
 have hie:i=ps.length:=by omega
 have hfl:=BQ s.ids;have hsl:=Gs s.ids;refine gS (XS F5 (XP (X3 hr_vb) T4) (gS (XQ RV T6 ((O0 _ vi (s.ids) (XW hr_vi)).mono ?_))));rintro e kr ⟨rfl,b9⟩;refine⟨_,rfl,?_⟩;have hE:=hE.trans b9;have hr_vb:=Stab.own _ _ _ _ _ _ _ _ hr_vb b9;have hr_vi:=hr_vi.keep b9;have hb11l:=hb11l.keep b9;have hb38l:=eb b9 hb38l;refine gL (fun(ρ:Ad) (wz:AaS)=>∃c:Nat,∃vc:AaR,ρ 0=(v:AaR)∧ρ 5=(.map (some n8):AaR)∧ρ 6=(vi:AaR)∧ρ 7=(.slice (some ⟨ab,0,none⟩) ps.length ps.length:AaR)∧ρ 8=(NI s.total:AaR)∧ρ 15=(NI ((s.b:List UInt8).length):AaR)∧ρ 28=(v:AaR)∧ρ 29=(NI ps.length:AaR)∧ρ 30=(NI i:AaR)∧ρ 125=(.agg ((A8 (s.ids)).map fun x=>NI x).toArray:AaR)∧ρ 126=(NI c:AaR)∧ρ 4=(vc:AaR)∧Ext w wz∧OG w.heap.size 33 32 (AaT) wz vi (s.ids)∧MapF rk NI (fun id:List UInt8=>id.length=32) wz n8 (Bm s)∧wz.heap[ab]? =some (.cells (dl.map fun x=>NI x).toArray 3 (0,0))∧wz.ownsRow w.heap.size 5 1 vc (s.b++((A8 s.ids).take c).flatMap A3:List UInt8).length (AaT (s.b++((A8 s.ids).take c).flatMap A3))∧(c≤256)∧(OB vc n8)∧(Ah vc vi)∧(OB vc ab)∧True) (fun ρ _=>256-(intOf (ρ 126)).toNat) ⟨0,vb,T0,T5,T6,T7,T8,rfl,aq,ar,ad,rfl,rfl,T4,hE,hr_vi,hb11l,hb38l,Dh hr_vb (by simp),by omega,hap_vb_n8,hap_vb_vi,hap_vb_n24,trivial⟩ ?_;clear hr_vb;clear hE hr_vi hb11l hb38l;rintro h3 h4 ⟨c,vc,T0,T5,T6,T7,T8,ca,aq,ar,ad,cb,bs,T4,hE,hr_vi,hb11l,hb38l,hr_vc,hcl,hap_vc_n8,hap_vc_vi,hap_vc_n24,-⟩;have q126:=bs;have hbl:(s.b++((A8 s.ids).take c).flatMap A3).length≤40000:=by rw[AaY,Km,Abg];omega
 have hfc:=IZ s.ids c;refine gS (XK (a:=(c:Nat)) (b:=(256:Nat)) bs rfl (AL _ _ _ _) ?_);refine cD rfl (fun h5=> ?_) fun h5=> ?_
 ·refine gS (ZP (l:=A8 (s.ids)) (i:=c) DY Tc rfl G1 cb bs (by omega) (by rw[hfl]) (gS (XM It T4 rfl ((JB w _ hE vc (s.b++((A8 s.ids).take c).flatMap A3) ((A8 (s.ids)).getD (c) 0) (by have:=IZ s.ids c;omega) (by omega) hr_vc).mono ?_))));rintro e ks ⟨co,rfl,h6,bt⟩;refine⟨_,rfl,?_⟩;have h7:OB co n8:=Ao bt hap_vc_n8 hb11l.lt;have h8:Ah co vi:=AG bt hap_vc_vi hr_vi.2;have h9:OB co ab:=Ao bt hap_vc_n24 (bl hb38l);have hE:=Av hE bt hr_vc (AaX _);have hr_vi:=Bb hr_vi bt hap_vc_vi;have hb11l:=MapF.grew hb11l bt hap_vc_n8;have hb38l:=Aq hb38l bt hap_vc_n24;clear hr_vc;refine gS (XL (xv:=NI c) (yv:=NI 1) bs rfl rfl (Ai _ _ _ (by omega)) (gK (Aby ⟨c+1,co,T0,T5,T6,T7,T8,ca,aq,ar,ad,cb,rfl,rfl,hE,hr_vi,hb11l,hb38l,Dh h6 (by rw[Kn (A8 s.ids) c 0 (by rw[hfl];omega),AdL,AbW,List.flatMap_nil,AcK,Abr]),by omega,h7,h8,h9,trivial⟩ ?_)));show 256-(intOf (NI ((c)+(1)))).toNat<256-(intOf (h3 126)).toNat;rw[q126];simp only[intOf,Aba];omega
 refine gS (XQ To T6 ((M7 _ vi (s.ids) (by omega) (XW hr_vi)).mono ?_));rintro e kt ⟨bk,rfl,y,cc⟩;refine⟨_,rfl,?_⟩;have ku:=hE.size;have ia:Ah vc bk:=Eh hr_vc y.2;have hE:=hE.trans cc;have hr_vi:=hr_vi.keep cc;have hb11l:=hb11l.keep cc;have hb38l:=eb cc hb38l;have hr_vc:=Stab.own _ _ _ _ _ _ _ _ hr_vc cc;refine gS (X1 M4 (XU (XW y) rfl) (gL (fun(ρ:Ad) (wz:AaS)=>∃j:Nat,∃ve:AaR,ρ 0=(v:AaR)∧ρ 5=(.map (some n8):AaR)∧ρ 6=(vi:AaR)∧ρ 7=(.slice (some ⟨ab,0,none⟩) ps.length ps.length:AaR)∧ρ 8=(NI s.total:AaR)∧ρ 15=(NI ((s.b:List UInt8).length):AaR)∧ρ 28=(v:AaR)∧ρ 29=(NI ps.length:AaR)∧ρ 30=(NI i:AaR)∧ρ 125=(.agg ((A8 (s.ids)).map fun x=>NI x).toArray:AaR)∧ρ 126=(NI c:AaR)∧ρ 134=(bk:AaR)∧ρ 135=(NI (((AJ (s.ids))).length):AaR)∧ρ 136=(NI j:AaR)∧ρ 4=(ve:AaR)∧Ext w wz∧OG w.heap.size 33 32 (AaT) wz vi (s.ids)∧MapF rk NI (fun id:List UInt8=>id.length=32) wz n8 (Bm s)∧wz.heap[ab]? =some (.cells (dl.map fun x=>NI x).toArray 3 (0,0))∧OG h4.heap.size 33 32 AaT wz bk (AJ (s.ids))∧wz.ownsRow w.heap.size 5 1 ve (s.b++(A8 s.ids).flatMap A3++((AJ s.ids).take j).flatMap (fun id=>id++A3 ((Bm s id).getD 0)):List UInt8).length (AaT (s.b++(A8 s.ids).flatMap A3++((AJ s.ids).take j).flatMap (fun id=>id++A3 ((Bm s id).getD 0))))∧(j≤s.ids.length)∧(OB ve n8)∧(Ah ve vi)∧(OB ve ab)∧(Ah ve bk)∧True) (fun ρ _=>s.ids.length-(intOf (ρ 136)).toNat) ⟨0,vc,T0,T5,T6,T7,T8,ca,aq,ar,ad,cb,bs,rfl,rfl,rfl,T4,hE,hr_vi,hb11l,hb38l,y,Dh hr_vc (by rw[show c=256 by omega,AbK (by rw[hfl];omega)];simp),by omega,hap_vc_n8,hap_vc_vi,hap_vc_n24,ia,trivial⟩ ?_));clear hr_vc;clear hE hr_vi hb11l hb38l y;rintro ib ic ⟨j,ve,T0,T5,T6,T7,T8,ca,aq,ar,ad,cb,bs,ex,ey,cp,T4,hE,hr_vi,hb11l,hb38l,y,hr_ve,hjl,hap_ve_n8,hap_ve_vi,hap_ve_n24,hap_ve_v351,-⟩;have q136:=cp;have hbl2:(s.b++(A8 s.ids).flatMap A3++((AJ s.ids).take j).flatMap (fun id=>id++A3 ((Bm s id).getD 0))).length≤60000:=by rw[AaY,AaY,Km,hfl,Nc (fun id=>(Bm s id).getD 0) _ (fun x hx=>hB.len x ((sortB_perm _).subset (Agt hx))),Abg];omega
 refine gS (XK (a:=(j:Nat)) (b:=(((AJ (s.ids))).length:Nat)) cp ey (AL _ _ _ _) ?_);refine cD rfl (fun ie=> ?_) fun ie=> ?_
 ·have ez:((AJ s.ids).getD j []).length=32:=hB.len _ ((sortB_perm _).subset (AO [] (by omega)));obtain⟨q2,hq2,hqm⟩:∃q,Bm s ((AJ s.ids).getD j [])=some q∧q∈s.places:=DS s.ids s.places _ (by omega) ((sortB_perm _).subset (AO [] (by omega)));have hq2l:=hB.pl q2 hqm;have b1:(AaT (((AJ (s.ids))).getD (j) ([]:List UInt8))).length=32:=(RG.elem (XW y) ([]:List UInt8) (by omega));refine gS (X4 M4 Rs (by decide) ([]:List UInt8) (XU (XW y) ex) cp (by omega) fun kv e1=>(gS (X9 (Yb e1 rfl) UY rfl (by rw[b1];exact Rb) (gS (Yk.alloc Tf fun bm ig e2 e3 cq kw=> ?_)))));have bc:=Ext.refl ic;have kx:=hE.size;have ky:=Ar hb11l.lt e2;have kz:=Ar (bl hb38l) e2;have e5:OB ve bm:=A7 hr_ve (by omega);have ih:OB vi bm:=A7 hr_vi.2 (by omega);have ii:OB bk bm:=A7 y.2 (by omega);have ao:=e3;clear e3;have k0:bm<ig.heap.size:=by omega
  refine gS (XN (vr (PQ bm 0) rfl) (vr (AB (((AJ (s.ids))).getD (j) ([]:List UInt8))) rfl) ao (by exact Bv (AC (b1)) Abc) (by exact Ac (AC (b1))) (Af _) fun k1 e6 cr k2=> ?_);have hb11l:=hb11l.keep cq;have hb11l:=MapF.other hb11l cr (Am (by omega));clear ao;have ao:=e6;clear e6;have k3:=bl ao;clear e1;refine DV [0,1,3,4,5,2,6,7] [2,6,7] [] [4,5] fun ij cd=> ?_;have bc:=bc.trans cq;have bc:=Ab bc cr (AaV (AaX _) (by omega));have bc:=bc.trans cd;have hE:=hE.trans bc;have hr_ve:=Stab.own _ _ _ _ _ _ _ _ hr_ve bc;have hb11l:=hb11l.keep cd;have ao:=eb cd ao;refine m2 (A:=fun wz=>wz.heap[bm]? =some (.cells (AaT (((AJ (s.ids))).getD (j) ([]:List UInt8))).toArray 33 (0,0))) ao (B:=fun wz=>MapF rk NI (fun id:List UInt8=>id.length=32) wz n8 (Bm s)) hb11l ?_;refine ys (Yt UY PG rfl zz) (yf (fun _ ⟨ao,_,_⟩=>XO rfl ao UY rfl (by exact Ac (AC (b1))) zz) (yf (fun _ ⟨_,hb11l,_⟩=>YG (ek:=rk) (ev:=NI) (D:=(fun id:List UInt8=>id.length=32)) Ce Cf (fun _ _=>B9) D5 (z:=NI 0) G2 T5 rfl hb11l (AC (b1)) hq2 zz) (yI (Ya _ _ w.heap.size (.int .u8 0) F5 MA rfl F5 (s.b++(A8 s.ids).flatMap A3++((AJ s.ids).take j).flatMap (fun id=>id++A3 ((Bm s id).getD 0))) (((AJ (s.ids))).getD (j) ([]:List UInt8)) (CV hr_ve T4) (XP (YF ao (AC (b1)) (by decide)) (vr (.slice (some ⟨bm,0,none⟩) 32 32) rfl)) (by rw[ez];omega) hE.size fun bu ik c7 av=> ?_))));have av:Grew ij ik ve bu:= .eqv T4 av;have e7:OB bu n8:=Ao av hap_ve_n8 hb11l.lt;have hr_vi:=hr_vi.keep cq;have hr_vi:=OG.kept hr_vi cr ih;have hr_vi:=hr_vi.keep cd;have e8:Ah bu vi:=AG av hap_ve_vi hr_vi.2;have hb38l:=eb bc hb38l;have e9:OB bu ab:=Ao av hap_ve_n24 (bl hb38l);have y:=y.keep cq;have y:=OG.kept y cr ii;have y:=y.keep cd;have fa:Ah bu bk:=AG av hap_ve_v351 y.2;have il:OB bu bm:=Ao av e5 (bl ao);have hE:=Av hE av hr_ve (AaX _);have hr_vi:=Bb hr_vi av hap_ve_vi;have hb11l:=MapF.grew hb11l av hap_ve_n8;have hb38l:=Aq hb38l av hap_ve_n24;have y:=Bb y av hap_ve_v351;have ao:=Aq ao av e5;clear hr_ve;refine⟨⟨ao,hb11l,trivial⟩,?_⟩;refine yD rfl (XM It rfl rfl ((JB w _ hE bu (s.b++(A8 s.ids).flatMap A3++((AJ s.ids).take j).flatMap (fun id=>id++A3 ((Bm s id).getD 0))++((AJ (s.ids))).getD (j) ([]:List UInt8)) (q2) (by omega) (by rw[AaY,ez];omega) c7).mono ?_));rintro e k5 ⟨ce,rfl,im,a7⟩;refine⟨_,rfl,?_⟩;have io:OB ce n8:=Ao a7 e7 hb11l.lt;have ip:Ah ce vi:=AG a7 e8 hr_vi.2;have iq:OB ce ab:=Ao a7 e9 (bl hb38l);have ir:Ah ce bk:=AG a7 fa y.2;have hE:=Av hE a7 c7 (AaX _);have hr_vi:=Bb hr_vi a7 e8;have hb11l:=MapF.grew hb11l a7 e7;have hb38l:=Aq hb38l a7 e9;have y:=Bb y a7 fa;have ao:=Aq ao a7 il;clear c7;refine yD rfl (Yk.assign rfl (gS (XL (xv:=NI j) (yv:=NI 1) cp rfl rfl (Ai _ _ _ (by omega)) (gK (Aby ⟨j+1,ce,T0,T5,T6,T7,T8,ca,aq,ar,ad,cb,bs,ex,ey,rfl,rfl,hE,hr_vi,hb11l,hb38l,y,Dh im (by rw[Kn (AJ s.ids) j [] (by rw[hsl];omega),AdL,AbW,List.flatMap_nil,AcK];simp only[hq2,AbR,Abr]),by omega,io,ip,iq,ir,trivial⟩ ?_)))));show s.ids.length-(intOf (NI ((j)+(1)))).toNat<s.ids.length-(intOf (ib 136)).toNat;rw[q136];simp only[intOf,Aba];omega
 refine gS (XM It T4 ca ((JB w _ hE ve (s.b++(A8 s.ids).flatMap A3++((AJ s.ids).take j).flatMap (fun id=>id++A3 ((Bm s id).getD 0))) ((s.b:List UInt8).length) (by omega) (by omega) hr_ve).mono ?_));rintro e iu ⟨bd,rfl,aw,be⟩;refine⟨_,rfl,?_⟩;have iv:OB bd n8:=Ao be hap_ve_n8 hb11l.lt;have iw:Ah bd vi:=AG be hap_ve_vi hr_vi.2;have ix:OB bd ab:=Ao be hap_ve_n24 (bl hb38l);have iy:Ah bd bk:=AG be hap_ve_v351 y.2;have hE:=Av hE be hr_ve (AaX _);have hr_vi:=Bb hr_vi be hap_ve_vi;have hb11l:=MapF.grew hb11l be hap_ve_n8;have hb38l:=Aq hb38l be hap_ve_n24;have y:=Bb y be hap_ve_v351;clear hr_ve;obtain⟨C,hCd⟩:∃C,C=s.b++Cm s s.b.length:=⟨_,rfl⟩;have aw:iu.ownsRow w.heap.size 5 1 bd (C:List UInt8).length (AaT (C)):=(by rw[hCd,AbK (by rw[hsl];omega)];unfold Cm;simp only[Abr]:(s.b++(A8 s.ids).flatMap A3++((AJ s.ids).take j).flatMap (fun id=>id++A3 ((Bm s id).getD 0)):List UInt8)++A3 ((s.b:List UInt8).length)=C)▸aw;have hCl:C.length≤60000:=by rw[hCd,AaY,GN hB];omega
 refine gS (Yu F8 (XP (X3 aw) (vr bd rfl)) fun iz k6 i0 fb=> ?_);have hE:=hE.trans fb;refine gS (XQ JG rfl ((FY _ (hG.keep hE) iz (C) i0 (by omega)).mono ?_));rintro e i1 ⟨rfl,fc⟩;refine⟨_,rfl,?_⟩;refine gS (Yk.alloc Tf fun cs i2 fd fe cf k7=> ?_);have b2:=Ext.refl i1;have hE:=hE.trans fc;have i3:=hE.size;have hZ3:=fb.trans fc;have hb11l:=hb11l.keep hZ3;have k8:=Ar hb11l.lt fd;have hb38l:=eb hZ3 hb38l;have k9:=Ar (bl hb38l) fd;have aw:=Stab.own _ _ _ _ _ _ _ _ aw hZ3;have ff:OB bd cs:=A7 aw (by omega);have bv:=fe;clear fe;have la:cs<i2.heap.size:=by omega
 refine gS (XN (vr (PQ cs 0) rfl) (vr (AB (Sha.sum (C))) rfl) bv (by exact Bv (Sha.sum_length _) Abc) (by exact Ac (Sha.sum_length _)) (Af _) fun i4 fg cg lb=> ?_);have hb11l:=hb11l.keep cf;have hb11l:=MapF.other hb11l cg (Am (by omega));clear bv;have bv:=fg;clear fg;have lc:=bl bv;have hE:=hE.trans cf;have hE:=Ab hE cg (AaV i3 (by omega));have aw:=Stab.own _ _ _ _ _ _ _ _ aw cf;have aw:=BI aw cg ff;refine gS (Yt UY PG rfl (gS (Ya _ _ w.heap.size (.int .u8 0) F5 MA rfl F5 (C) (Sha.sum (C)) (CV aw (vr bd rfl)) (XP (YF bv (Sha.sum_length _) (by decide)) (vr (.slice (some ⟨cs,0,none⟩) 32 32) rfl)) (by rw[Sha.sum_length];omega) hE.size fun fh i5 fi bn=> ?_)));have bn:Grew i4 i5 bd fh:=bn;have b2:=b2.trans cf;have b2:=Ab b2 cg (AaV (AaX _) (by omega));have hr_vi:=hr_vi.keep (hZ3.trans b2);have hb38l:=eb cf hb38l;have hb38l:=kb cg hb38l (by omega);have y:=y.keep (hZ3.trans b2);have hE:=Av hE bn aw (AaX _);have hr_vi:=Bb hr_vi bn iw;have hb11l:=MapF.grew hb11l bn iv;have hb38l:=Aq hb38l bn ix;have y:=Bb y bn iy;have bv:=Aq bv bn ff;clear aw;refine gS (XS F5 (XP (X3 fi) rfl) (gS (XK (a:=((C++Sha.sum (C):List UInt8).length:Nat)) (b:=(1048576:Nat)) rfl rfl (Bj _ _ _ _) (kF (by simp only[AaY,Sha.sum_length];omega) (gS (XK (a:=(s.total:Nat)) (b:=(4194304:Nat)) T8 rfl (Bj _ _ _ _) (kF (by omega) (gS (XV rfl rfl (cF rfl (By rfl (vr fh rfl) (vr (NI 0) rfl) ?_)))))))))));rw[RQ (show CW ps ps.length = .ok s from by rw[←hie];exact hs)];refine⟨_,rfl,?_,hE⟩;have hfin:=BH fi (show w.heap.size≤w.heap.size by first | exact AaX _ | omega);rw[hCd]at hfin;exact hfin

def BV(b:Bs)(a fin:Nat):Option (Bs × Nat):=
  match A1 0 ((b.take fin).drop a)with
  | none=>none
  | some x=>if 1048576<x.1 then none else if(b.take fin).length<a+x.2+x.1 then none else some (((b.take fin).drop (a+x.2)).take x.1,a+x.2+x.1)
structure Ent where
  pos:Nat
  based:Bool
  base:Bs
  bytes:Bs
abbrev Ag:=Ent × AaR
def dEnt:Ag:=(⟨0,false,Aa4 32 0,[]⟩, .slice none 0 0)
def entC(x:Ag):List AaR:=NI x.1.pos :: .bool x.1.based :: (AaT x.1.base++ [x.2])
def EntsOk(w:AaS)(xs:List Ag):Prop:=∀x∈xs,RB w x.2 x.1.bytes∧x.1.base.length=32
theorem EntsOk.keep{w w' :AaS}{xs:List Ag}(h:EntsOk w xs)(k:Ext w w'):EntsOk w' xs:=fun x hx=>⟨(h x hx).1.keep k,(h x hx).2⟩
def NewV(n:Nat)(v:AaR):Prop:=∀k,v.ownBlock=some k→n≤k
theorem NewV.nil(n:Nat):NewV n (.slice none 0 0):=fun k h=>by cases h
def NewM{α:Type}(n:Nat)(M:Bs→Option (α × AaR)):Prop:=∀id x,M id=some x→NewV n x.2
theorem NewM.none{α:Type}(n:Nat):NewM (α:=α) n (fun _=> .none):=fun _ _ h=>by cases h
theorem NewM.put{α:Type}{n:Nat}{M:Bs→Option (α × AaR)}(h:NewM n M)(id:Bs){x:α × AaR}(hx:NewV n x.2):NewM n (updM M id (some x)):=fun a c hc=>by
  unfold updM at hc;split at hc
  · cases hc;exact hx
  · exact h a c hc
theorem NewM.get{n:Nat}{M:Bs→Option Ag}(h:NewM n M)(k:Bs):NewV n ((M k).getD dEnt).2:=by
  cases e:M k with
  | none=>exact NewV.nil n
  | some c=>exact h k c e
theorem Ng{α:Type}{l:List α}{y:α}{P:α→Prop}(h:∀x∈l,P x)(hy:P y):∀x∈l++ [y],P x:=fun x hx=>by
  rcases Abk.1 hx with hx | hx
  · exact h x hx
  · rw[Aa6.1 hx];exact hy
theorem entC_len{x:Ag}(h:x.1.base.length=32):(entC x).length=35:=by simp[entC,AaT,h]
theorem Nh{x:Ag}(h:x.1.base.length=32):(entC x)[34]? =some x.2:=by
  unfold entC;rw[Acr,Acr,AbH (by rw[Aa8,h];omega),Aa8,h];rfl
theorem El{w:AaS}{g:Nat}{x:Ag}{t:AaZ}{fr:Nat × Nat}(hb:w.heap[g]? =some (.cells (entC x).toArray t fr)):w.rangeAt g 2 (AaT x.1.base):=fun j u hu=>by
  refine cellAt hb ?_;unfold entC;rw[show 2+j=j+1+1 by omega,Acr,Acr,AbN (Abn.1 hu).1];exact hu
theorem Bw{x:Ag}(h:x.2.oneCell' =true):∀u∈entC x,u.oneCell' =true:=by
  intro u hu;simp only[entC,AbF,Abk,AcN,or_false]at hu;rcases hu with rfl | rfl | hu | rfl
  · rfl
  · rfl
  · exact Af _ u hu
  · exact h
def entOne(b:Bs)(fin pos:Nat):Option (Ent × Nat):=
  if pos<fin∧(b.getD pos 0).toNat≤1 then
    if b.getD pos 0=1 then
      if fin-(pos+1)<32 then none
      else(BV b (pos+33) fin).map fun x=>(⟨pos,true,((b.take fin).drop (pos+1)).take 32,x.1⟩,x.2)
    else(BV b (pos+1) fin).map fun x=>(⟨pos,false,Aa4 32 0,x.1⟩,x.2)
  else none
def C9(b:Bs)(fin first:Nat):Nat→Option (List Ent × Nat)
  | 0=>some ([],first)
  | i+1=>(C9 b fin first i).bind fun x=>(entOne b fin x.2).map fun y=>(x.1++ [y.1],y.2)
theorem DE{b:Bs}{fin first i:Nat}(h:C9 b fin first i=none):∀k,C9 b fin first (i+k)=none
  | 0=>h
  | k+1=>by
    show(C9 b fin first (i+k)).bind _=none;rw[DE h k];rfl
theorem Hs{b:Bs}{fin first i:Nat}{es:List Ent}{p:Nat}(h:C9 b fin first i=some (es,p)):C9 b fin first (i+1)=(entOne b fin p).map fun y=>(es++ [y.1],y.2):=by
  show(C9 b fin first i).bind _=_;rw[h];rfl
def Ct(b:Bs)(n first fin:Nat):Option (List Ent):=(C9 b fin first n).bind fun x=>if x.2=fin then some x.1 else none
theorem Ni{b:Bs}{a fin:Nat}{s:Bs}{n:Nat}(h:BV b a fin=some (s,n))(ha:a≤fin)(hf:fin≤b.length):n≤fin∧a≤n:=by
  unfold BV at h;split at h
  · cases h
  · split at h
    · cases h
    · split at h
      · cases h
      · rename_i h1
        cases h;rw[Abg]at h1;omega
theorem FO:Plain AaU 210:=fun _ _=>by kernel_rfl
theorem FP:Plain AaU 129:=fun _ _=>by kernel_rfl
theorem Nj(w:AaS)(v:AaR)(b:Bs)(hr:RB w v b)(a fin:Nat)(ha:a≤fin)(hf:fin≤b.length):
  Calls AaU 172 #[v,NI a,NI fin] w fun r w' =>(∃x,r = .returned x∧∃s n,BV b a fin=some (s,n)∧x = .tuple #[St s,NI n]∧Ext w w')∨∃ch,r = .panicked ch∧BV b a fin=none∧ch= [CO 6]∧Ext w w' :=by
 refine gG (args:= [v,NI a,NI fin]) Tryz.func172 rfl 25 rfl rfl ?_;have hE:=Ext.refl w;have htk:(b.take fin).length=fin:=by rw[Abg];omega
 rcases hd:A1 0 ((b.take fin).drop a)with _ | ⟨xn,xk⟩
 ·have hP:BV b a fin=none:=by unfold BV;rw[hd]
  refine gS (Yv (xs:=b) (n:=fin) F5 PG rfl (hr.keep hE) rfl (by omega) fun c f ha5=>(gS (X8 FO rfl rfl rfl ?_)));refine((show Calls _ _ _ _ (fun e w2=>e = .returned (.tuple #[St (([]:List UInt8)),NI 0,NI 6])∧Ext _ w2)from(FM _ c (b.take (fin)) f a (by omega) 1048576).mono fun e w2 ⟨h1,h2⟩=>by subst h2;subst h1;refine⟨?_,Ext.refl _⟩;unfold B1;rw[hd];simp only;rfl)).mono ?_;rintro e w7 ⟨rfl,g⟩;refine⟨_,rfl,?_⟩;refine gS (Yk.extract (vs:= [St (([]:List UInt8)),NI 0,NI 6]) rfl rfl (gS (Yk.extract (vs:= [St (([]:List UInt8)),NI 0,NI 6]) rfl rfl (gS (Yk.extract (vs:= [St (([]:List UInt8)),NI 0,NI 6]) rfl rfl (gS (XK (a:=(6:Nat)) (b:=(0:Nat)) rfl rfl (AA _ _ _ _) (gP (XZ FP rfl rfl ?_)))))))));refine Ap (AS _ (decide ((6:Nat)=(0))) 6) ?_ ?_;rotate_left
  ·rintro ch ac ⟨rfl,hb,hx⟩;refine As ?_;have hno:=of_decide_eq_false hb;have hE:=hE.trans g;exact .inr ⟨_,rfl,hP,rfl,hE.trans hx⟩
  rintro v_ ad ⟨rfl,h,ae⟩;have af:=of_decide_eq_true h;refine By rfl (vr (St (([]:List UInt8))) rfl) (vr (NI 0) rfl) ?_;omega
 by_cases hm:1048576<xn
 ·have hP:BV b a fin=none:=by unfold BV;rw[hd];simp only;rw[if_pos hm]
  refine gS (Yv (xs:=b) (n:=fin) F5 PG rfl (hr.keep hE) rfl (by omega) fun i j ha19=>(gS (X8 FO rfl rfl rfl ?_)));refine((show Calls _ _ _ _ (fun e w2=>e = .returned (.tuple #[St (([]:List UInt8)),NI 0,NI 2])∧Ext _ w2)from(FM _ i (b.take (fin)) j a (by omega) 1048576).mono fun e w2 ⟨h1,h2⟩=>by subst h2;subst h1;refine⟨?_,Ext.refl _⟩;unfold B1;rw[hd];simp only;rw[if_pos (by omega)];rfl)).mono ?_;rintro e ag ⟨rfl,k⟩;refine⟨_,rfl,?_⟩;refine gS (Yk.extract (vs:= [St (([]:List UInt8)),NI 0,NI 2]) rfl rfl (gS (Yk.extract (vs:= [St (([]:List UInt8)),NI 0,NI 2]) rfl rfl (gS (Yk.extract (vs:= [St (([]:List UInt8)),NI 0,NI 2]) rfl rfl (gS (XK (a:=(2:Nat)) (b:=(0:Nat)) rfl rfl (AA _ _ _ _) (gP (XZ FP rfl rfl ?_)))))))));refine Ap (AS _ (decide ((2:Nat)=(0))) 6) ?_ ?_;rotate_left
  ·rintro ch ah ⟨rfl,hb,hx⟩;refine As ?_;have hno:=of_decide_eq_false hb;have hE:=hE.trans k;exact .inr ⟨_,rfl,hP,rfl,hE.trans hx⟩
  rintro v_ ai ⟨rfl,l,aj⟩;have ak:=of_decide_eq_true l;refine By rfl (vr (St (([]:List UInt8))) rfl) (vr (NI 0) rfl) ?_;omega
 by_cases hl:(b.take fin).length<a+xk+xn
 ·have hP:BV b a fin=none:=by unfold BV;rw[hd];simp only;rw[if_neg hm,if_pos hl]
  refine gS (Yv (xs:=b) (n:=fin) F5 PG rfl (hr.keep hE) rfl (by omega) fun m o ha33=>(gS (X8 FO rfl rfl rfl ?_)));refine((show Calls _ _ _ _ (fun e w2=>e = .returned (.tuple #[St (([]:List UInt8)),NI 0,NI 6])∧Ext _ w2)from(FM _ m (b.take (fin)) o a (by omega) 1048576).mono fun e w2 ⟨h1,h2⟩=>by subst h2;subst h1;refine⟨?_,Ext.refl _⟩;unfold B1;rw[hd];simp only;rw[if_neg (by omega),if_pos hl];rfl)).mono ?_;rintro e al ⟨rfl,p⟩;refine⟨_,rfl,?_⟩;refine gS (Yk.extract (vs:= [St (([]:List UInt8)),NI 0,NI 6]) rfl rfl (gS (Yk.extract (vs:= [St (([]:List UInt8)),NI 0,NI 6]) rfl rfl (gS (Yk.extract (vs:= [St (([]:List UInt8)),NI 0,NI 6]) rfl rfl (gS (XK (a:=(6:Nat)) (b:=(0:Nat)) rfl rfl (AA _ _ _ _) (gP (XZ FP rfl rfl ?_)))))))));refine Ap (AS _ (decide ((6:Nat)=(0))) 6) ?_ ?_;rotate_left
  ·rintro ch am ⟨rfl,hb,hx⟩;refine As ?_;have hno:=of_decide_eq_false hb;have hE:=hE.trans p;exact .inr ⟨_,rfl,hP,rfl,hE.trans hx⟩
  rintro v_ an ⟨rfl,q,ao⟩;have ap:=of_decide_eq_true q;refine By rfl (vr (St (([]:List UInt8))) rfl) (vr (NI 0) rfl) ?_;omega
 have hP:BV b a fin=some (((b.take fin).drop (a+xk)).take xn,a+xk+xn):=by unfold BV;rw[hd];simp only;rw[if_neg hm,if_neg hl]
 refine gS (Yv (xs:=b) (n:=fin) F5 PG rfl (hr.keep hE) rfl (by omega) fun t u ha47=>(gS (X8 FO rfl rfl rfl ?_)));refine((show Calls _ _ _ _ (fun e w2=>e = .returned (.tuple #[St (((b.take fin).drop (a+xk)).take xn),NI (a+xk+xn),NI 0])∧Ext _ w2)from(FM _ t (b.take (fin)) u a (by omega) 1048576).mono fun e w2 ⟨h1,h2⟩=>by subst h2;subst h1;refine⟨?_,Ext.refl _⟩;unfold B1;rw[hd];simp only;rw[if_neg (by omega),if_neg hl];rfl)).mono ?_;rintro e aq ⟨rfl,y⟩;refine⟨_,rfl,?_⟩;refine gS (Yk.extract (vs:= [St (((b.take fin).drop (a+xk)).take xn),NI (a+xk+xn),NI 0]) rfl rfl (gS (Yk.extract (vs:= [St (((b.take fin).drop (a+xk)).take xn),NI (a+xk+xn),NI 0]) rfl rfl (gS (Yk.extract (vs:= [St (((b.take fin).drop (a+xk)).take xn),NI (a+xk+xn),NI 0]) rfl rfl (gS (XK (a:=(0:Nat)) (b:=(0:Nat)) rfl rfl (AA _ _ _ _) (gP (XZ FP rfl rfl ?_)))))))));refine Ap (AS _ (decide ((0:Nat)=(0))) 6) ?_ ?_;rotate_left
 ·rintro ch ar ⟨rfl,hb,hx⟩;refine As ?_;have hno:=of_decide_eq_false hb;exact absurd rfl hno
 rintro v_ au ⟨rfl,z,aa⟩;have av:=of_decide_eq_true z;refine By rfl (vr (St (((b.take fin).drop (a+xk)).take xn)) rfl) (vr (NI (a+xk+xn)) rfl) ?_;have hZ1:=y.trans aa;have hE:=hE.trans hZ1;exact .inl ⟨_,rfl,_,_,hP,rfl,hE⟩
def EntsIn(w:AaS)(va:AaR)(xs:List Ag):Prop:=∀x∈xs,RB w x.2 x.1.bytes∧x.1.base.length=32∧∀k,x.2.ownBlock=some k→k<w.heap.size∧va.ownBlock≠some k
theorem EntsIn.keep{w w' :AaS}{va:AaR}{xs:List Ag}(h:EntsIn w va xs)(k:Ext w w'):EntsIn w' va xs:=fun x hx=>
  ⟨(h x hx).1.keep k,(h x hx).2.1,fun j hj=>⟨AbL ((h x hx).2.2 j hj).1 k.size,((h x hx).2.2 j hj).2⟩⟩
theorem EntsIn.nil(w:AaS)(va:AaR):EntsIn w va []:=fun x hx=>by cases hx
theorem Y8{w:AaS}{va:AaR}{xs:List Ag}(h:EntsIn w va xs){x:Ag}(h1:RB w x.2 x.1.bytes)(h2:x.1.base.length=32)(h3:∀k,x.2.ownBlock=some k→k<w.heap.size∧va.ownBlock≠some k):EntsIn w va (xs++ [x]):=fun y hy=>by
  rcases Abk.1 hy with hy | hy
  · exact h y hy
  · rw[Aa6.1 hy];exact⟨h1,h2,h3⟩
theorem Ht{w w' :AaS}{v v' x:AaR}{m:List UInt8}(h:RB w x m)(hx:∀k,x.ownBlock=some k→v.ownBlock≠some k)(gr:Grew w w' v v'):RB w' x m:=by
  refine h.kept gr.by_ ?_;cases hv:x.ownBlock with
  | none=>exact .inl rfl
  | some g=>exact .inr (fun e=>hx g hv (by rw[←e]))
theorem EntsIn.grew{w w' :AaS}{va va' :AaR}{xs:List Ag}(h:EntsIn w va xs)(g:Grew w w' va va'):EntsIn w' va' xs:=fun x hx=>
  ⟨Ht (h x hx).1 (fun k hk=>((h x hx).2.2 k hk).2) g,(h x hx).2.1,fun j hj=>⟨AbL ((h x hx).2.2 j hj).1 g.by_.size,fun e=>(g.fresh j e).elim (fun q=>((h x hx).2.2 j hj).2 q) (fun q=>by have:=((h x hx).2.2 j hj).1;omega)⟩⟩
theorem EntsIn.ok{w:AaS}{va:AaR}{xs:List Ag}(h:EntsIn w va xs):EntsOk w xs:=fun x hx=>⟨(h x hx).1,(h x hx).2.1⟩
section
variable {P : Abo} {K : AaR → AaS → Prop} {ρ : Ad} {w : AaS} {d : Option Tmp} {ty : AaZ} {pos : String} {af : Array AbP} {gd : Option (Nat × Bool)}
theorem Zh{t e s:AaZ}{u:TypeDesc}(hs:P.underlying s=some u)(ht:P.underlying t=some (.slice e))(he:P.underlying e=some (.int .u8)){x:Aa5}{l:List UInt8}(hx:Aa ρ x=St l)(hl:l.length≤9223372036854775807) 
    (hk:∀v w',RB w' v l→Ext w w' →(∀k,v.ownBlock=some k→w.heap.size≤k∧k<w'.heap.size)→K v w'):Yk P K ((execOp (Aa ρ) ⟨d, .convert s t x,ty,pos,af,gd⟩).run P w):=by
  have hr:=Lib.run_convert_string_bytes (P:=P) w s t e ⟨l.toArray⟩ hs ht he;have hsz:(⟨l.toArray⟩:ByteArray).size=l.length:=by simp[Agk]
  rw[hsz]at hr;refine Yk.value (v:= .slice (some ⟨w.heap.size,0,none⟩) l.length (grownCap w l.length 0 e)) (w' :=Lib.bytesWorld w e ⟨l.toArray⟩) ?_ (hk _ _ ?_ (Lib.bytesWorld_below w e _) ?_)
  · unfold execOp;simp only[hx,hr,Aa7,Abb,Aa3]
  · refine⟨by rw[Aa8,Agb],_,_,rfl,grownCap_ge w _ _ _,grownCap_le_maxLen w _ _ _ (by simpa [maxLen] using hl),(fun h=>by cases h),fun a ha j u hu=> ?_⟩;cases ha;have hj:j<l.length:=by have:=(Abn.1 hu).1;rwa [Aa8]at this
    have hc:=Lib.bytesWorld_cell w e ⟨l.toArray⟩ j (by rw[hsz];exact hj);rw[show(⟨w.heap.size,0,none⟩:Addr).add j=⟨w.heap.size,j,none⟩ by simp[AcU];exact fun h=>h.symm];rw[hc,←hu,IW hj]
  · intro k hk;cases hk;rw[Lib.bytesWorld_size];exact⟨AaX _,AeW _⟩
theorem JH(p:Nat)(q:Bool)(B s:Bs)(v:AaR):entC (⟨p,q,B,s⟩,v)= [NI p, .bool q]++AaT B++ [v]:=rfl
theorem Z0{t' :AaZ}{x y:Aa5}{g p:Nat}{q:Bool}{B B' s:Bs}{v:AaR}{t:AaZ}(hx:Aa ρ x = .pointer (some ⟨g,2,none⟩))(hy:Aa ρ y = .agg (AaT B').toArray)(hg:w.heap[g]? =some (.cells (entC (⟨p,q,B,s⟩,v)).toArray t (0,0)))(hB:B.length=32)(hB' :B'.length=32)(hi:(P.info? t').map (·.size)=some 32) 
    (hk:∀w',w'.heap[g]? =some (.cells (entC (⟨p,q,B',s⟩,v)).toArray t (0,0))→w.grownBy w' (some g)→w'.heap.size=w.heap.size→K undef w'):Yk P K ((execOp (Aa ρ) ⟨d, .store t' x y,ty,pos,af,gd⟩).run P w):=
  ZI (a:= [NI p, .bool q]) (m:=AaT B) (z:= [v]) hx hy (by rw[←JH];exact hg) rfl (by rw[Aa8,Aa8,hB,hB']) (by rw[Aa8,hB'];exact hi) (Af _) hk
theorem RX(p:Nat)(q:Bool)(B s:Bs)(v v' :AaR)(hB:B.length=32):(entC (⟨p,q,B,s⟩,v)).set 34 v' =entC (⟨p,q,B,s⟩,v'):=by
  rw[JH,JH,Acg _ _ (by simp[AaT,hB])]
  congr 1
  simp[AaT,hB]
theorem Zr{t' :AaZ}{x y:Aa5}{g p:Nat}{q:Bool}{B s s' :Bs}{v v' :AaR}{t:AaZ}(hx:Aa ρ x = .pointer (some ⟨g,34,none⟩))(hy:Aa ρ y=v')(hg:w.heap[g]? =some (.cells (entC (⟨p,q,B,s⟩,v)).toArray t (0,0)))(hB:B.length=32)(hi:(P.info? t').map (·.size)=some 1)(hr:RB w v' s') 
    (hk:∀w',w'.heap[g]? =some (.cells (entC (⟨p,q,B,s'⟩,v')).toArray t (0,0))→w.grownBy w' (some g)→w'.heap.size=w.heap.size→K undef w'):Yk P K ((execOp (Aa ρ) ⟨d, .store t' x y,ty,pos,af,gd⟩).run P w):=
  XY (i:=34) hx hy hg (by rw[entC_len (x:=(⟨p,q,B,s⟩,v)) hB];decide) hi hr.one.1 hr.one.2 fun w' h1 h2 h3=>hk w' (by rw[RX p q B s v v' hB]at h1;exact h1) h2 h3
end
theorem Bc{P:Abo}{t:AaZ}{x:Ag}(hi:(P.info? t).map (·.size)=some 35)(h:x.1.base.length=32):(P.info? t).map (·.size)=some (entC x).toArray.size:=by rw[Abe,entC_len h];exact hi
theorem Bo{x y:Ag}(h:x.1.base.length=32)(h' :y.1.base.length=32):(entC x).toArray.size=(entC y).toArray.size:=by rw[Abe,Abe,entC_len h,entC_len h']
theorem RY{b:Bs}{fin pos:Nat}(h:pos<fin∧(b.getD pos 0).toNat≤1):entOne b fin pos =
    if b.getD pos 0=1 then
      if fin-(pos+1)<32 then none
      else(BV b (pos+33) fin).map fun x=>(⟨pos,true,((b.take fin).drop (pos+1)).take 32,x.1⟩,x.2)
    else(BV b (pos+1) fin).map fun x=>(⟨pos,false,Aa4 32 0,x.1⟩,x.2):=if_pos h
theorem Gw{b:Bs}{a fin:Nat}{s:Bs}{n:Nat}(h:BV b a fin=some (s,n))(hf:fin≤b.length):s.length≤b.length:=by
  unfold BV at h;split at h
  · cases h
  · split at h
    · cases h
    · split at h
      · cases h
      · cases h;rw[Abg,Abf,Abg];omega
theorem Kq{b:Bs}{fin pos:Nat}{e:Ent}{n:Nat}(h:entOne b fin pos=some (e,n))(hf:fin≤b.length):n≤fin∧pos<n:=by
  unfold entOne at h;split at h
  · rename_i hc
    split at h
    · split at h
      · cases h
      · cases ht:BV b (pos+33) fin with
        | none=>rw[ht]at h;cases h
        | some x=>rw[ht]at h;cases h;have:=Ni ht (by omega) hf;omega
    · cases ht:BV b (pos+1) fin with
      | none=>rw[ht]at h;cases h
      | some x=>rw[ht]at h;cases h;have:=Ni ht (by omega) hf;omega
  · cases h
end Go.Proofs.YtfpekahfdalfkaaGreatDoor
