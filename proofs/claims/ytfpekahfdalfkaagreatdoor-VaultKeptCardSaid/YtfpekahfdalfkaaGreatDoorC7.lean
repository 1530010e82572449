/- Part 7 of what stands behind these statements: laws and walks of the functions that are reached. Conditions: those that each theorem names. -/
import Derived.Test.YtfpekahfdalfkaaGreatDoorC6
set_option linter.unusedVariables false
set_option linter.unusedSimpArgs false
namespace Go.Proofs.YtfpekahfdalfkaaGreatDoor
open _root_.Option.some renaming inj->AfJ
open _root_.Nat renaming zero_le->AfC,le_refl->Ae8,lt_of_le_of_lt->AhK,le_trans->Ae7,add_assoc->Ahu,sub_self->AgR,add_comm->Ai0,lt_of_lt_of_le->AfZ,not_lt_zero->Age,min_eq_left->Ahd,min_le_left->AiT
open _root_.Prod renaming fst->AfB
open _root_.List renaming getD_eq_getElem?_getD->Ae6,getElem?_map->Agw,getElem?_eq_getElem->Afb,length_append->Ae9,drop_eq_getElem_cons->Agq,take_append_drop->AgL,findSome?_cons->AiR,take_succ_eq_append_getElem->Afv,length_map->Afu,take_length->Af8,length_replicate->Afp,take_of_length_le->AfU,drop_append->Ajp,append_assoc->AfH,drop_left->Ahb,take_left->Ahx,replicate->Afk,getElem?_append_right->AfR,length_singleton->Afs,getElem?_append_left->AfW,length_cons->AfA,map_append->AgC,mem_singleton->Afh,pairwise_append->AgD,mem_append->Afy,zip_cons_cons->Ahi,lookup_cons->AgH,mem_of_getElem?->Agi,map_cons->AfG,getElem_of_mem->Agz,pairwise_iff_getElem->Agx,flatMap_cons->Af3,drop_succ_cons->Ah8,length_take->Afi,getElem_take->Aiu,getElem?_take->Ahf,getElem?_zip_eq_some->AiV,cons_append->Af4,length->Aip,mem_cons_self->AfX,mem_cons->AfT,mem_cons_of_mem->AfY,not_mem_nil->AgX,getElem_map->AiG,map_map->Ah4,mem_map->AfO,length_drop->Afn,drop_append_of_le_length->AgE,take_append_of_le_length->AgS,eq_nil_of_length_eq_zero->AfN,length_nil->AfK,length_filter_le->AgM,takeWhile_sublist->Air,dropWhile_sublist->Ais,getElem_mapIdx->Alk
open _root_.Go renaming World->Ae3,Value->Ae2,TypeId->Afa
open _root_.Option renaming getD_some->Af2,map_some->Agm
open _root_.Decidable renaming not_not->AhX,byContradiction->Akb
open _root_.Go.Proofs.Tryz renaming prog->Ae5
open _root_.Go.Lib renaming byteCells->Ae4,uvarint->Afq,compareBytes->Aft
open _root_.And renaming intro->AfF
open _root_.Int renaming toNat_natCast->Afg,tmod->AgZ,emod->AgO
open _root_.Go.Value renaming slice->Afc,ownBlock->Afd,bool->AfE
open _root_.List.Pairwise renaming nil->Ahc,of_map->AhD,map->Ajf,sublist->AkQ
open _root_.Exists renaming elim->AgN
open _root_.Go.Instr renaming buildSlice->AfM,build->Ag3
open Go.RowKit
set_option maxRecDepth 100000
def dPkL:Bs × AT:=([],[],fun _=>none)
def GoodL(L:AQ):Prop:=∀e∈L,∃b,BJ b = .ok e.2/\e.1=Au b
theorem Sx(D:Ad):GoodL (openV D):=fun e he=>by
 unfold openV at he;obtain⟨s,hs,h⟩:=List.mem_filterMap.1 he;cases hv:Gh D s with
 | none=>rw[DH,hv]at h;cases h
 | some p=>
  have a:e=(s,p):=by rw[DH,hv]at h;exact(AfJ h).symm
  subst a;unfold Gh at hv;split at hv
  ·rename_i p1 ho
   split at hv
   ·rename_i q
    cases hv;exact⟨_,ho,q.symm⟩
   ·cases hv
  ·cases hv
theorem GoodL.at_{L:AQ}(h:GoodL L){i:Nat}(hi:i<L.length)(id:Bs):(CH (some (L.getD i dPkL).2) id).1.1.length<=4194304:=by
 obtain⟨b,hb,-⟩:=h _ (getD_mem dPkL hi);have g:=Sk hb;show(match (L.getD i dPkL).2.2 id with | none=>_ | some x=>_:(Bs × Nat)× Nat).1.1.length<=_;cases e:(L.getD i dPkL).2.2 id with
 | none=>exact AfC _
 | some x=>exact(g.any id x e).2.1
theorem Pj{L:AQ}{i:Nat}(hi:i<L.length):(L.map AfB).getD (i) ([]:AlJ)=(L.getD i dPkL).1:=by
 rw[Ae6,Ae6,Agw,Afb hi];rfl
theorem Mp(b:Bs):(Au b).length=66:=by
 unfold Au;rw[Ae9,C5,Sha.sum_length];rfl
theorem GoodL.nm{L:AQ}(h:GoodL L){i:Nat}(hi:i<L.length):((L.map AfB).getD (i) ([]:AlJ)).length<=80:=by
 rw[Pj hi];obtain⟨b,-,hb⟩:=h _ (getD_mem dPkL hi);rw[hb,Mp];decide
theorem YZ{L:AQ}{ptr:Bs->Nat}(hs:SortS (L.map AfB)){i:Nat}(hi:i<L.length):pkG L ptr ((L.map AfB).getD (i) ([]:AlJ))=some (ptr ((L.map AfB).getD (i) ([]:AlJ))):=by
 rw[Pj hi];exact ZT hs hi
theorem PksAt.idx{Q:Nat->Prop}{w:Ae3}{L:AQ}{ptr:Bs->Nat}(h:PksAt Q w L ptr){i:Nat}(hi:i<L.length):PackP Q w (pN (ptr ((L.map AfB).getD (i) ([]:AlJ)))) (L.getD i dPkL).2:=by
 rw[Pj hi];exact h _ (getD_mem dPkL hi)
theorem Km(L M:AQ)(id:Bs)(h:AA L id=none):AA (L++M) id=AA M id:=by
 unfold AA at h ⊢;rw[List.findSome?_append,h];rfl
theorem NO{L:AQ}{i:Nat}(hi:i<L.length)(id:Bs)(h:AA (L.take i) id=none):AA L id=AA (L.getD i dPkL :: L.drop (i+1)) id:=by
 have e:L=L.take i++(L.getD i dPkL :: L.drop (i+1)):=by
  rw[Ae6,Afb hi,Af2,<-Agq hi,AgL]
 rw[show AA L id=AA (L.take i++(L.getD i dPkL :: L.drop (i+1))) id from congrArg (AA · id) e];exact Km _ _ id h
theorem UR{p:AT}{id:Bs}(h:¬(CH (some p) id).2=0):p.2 id=none:=by
 cases e:p.2 id with
 | none=>rfl
 | some x=>exact absurd (show(match p.2 id with | none=>_ | some x=>_:(Bs × Nat)× Nat).2=0 by rw[e]) h
theorem US{p:AT}{id:Bs}(h:(CH (some p) id).2=0):∃x,p.2 id=some x/\(CH (some p) id).1=x:=by
 cases e:p.2 id with
 | none=>
  have:(CH (some p) id).2=12:=show(match p.2 id with | none=>_ | some x=>_:(Bs × Nat)× Nat).2=12 by rw[e]
  rw[this]at h;cases h
 | some x=>exact⟨x,rfl,show(match p.2 id with | none=>_ | some x=>_:(Bs × Nat)× Nat).1=x by rw[e]⟩
theorem ZW{L:AQ}{i:Nat}{id:Bs}(h:AA (L.take i) id=none)(hi:i<L.length)(hg:(CH (some (L.getD i dPkL).2) id).2=0):AA L id=some (CH (some (L.getD i dPkL).2) id).1.1:=by
 obtain⟨x,h1,h2⟩:=US hg;rw[NO hi id h,h2];unfold AA;rw[AiR,h1];rfl
theorem Y0{L:AQ}{i:Nat}{id:Bs}(h:AA (L.take i) id=none)(hi:i<L.length)(hg:¬(CH (some (L.getD i dPkL).2) id).2=0):AA (L.take (i+1)) id=none:=by
 rw[Afv hi,Km _ _ id h];have e:=UR hg;rw[Ae6,Afb hi,Af2]at e;unfold AA;rw[AiR,e];rfl
theorem QP{D:Ad}{L:AQ}{id:Bs}(h:(AA L id).isSome=true):getV D L id=((AA L id).getD [],0):=by
 unfold getV;cases e:AA L id with
 | none=>rw[e]at h;cases h
 | some b=>rfl
theorem Pk{D:Ad}{L:AQ}{id:Bs}(h:(AA L id).isSome=false):getV D L id=getL D id:=by
 unfold getV;cases e:AA L id with
 | none=>rfl
 | some b=>rw[e]at h;cases h
theorem JZ{D:Ad}{b:AlJ}{r:Ad × AlJ × AlJ × Nat}(h:BZ D b=r):r.2.1.length=32:=by
 have hf:∀x:Ad × Nat,(D4 x (Sha.sum b)).2.1.length=32:=fun x=>by
  unfold D4;split
  ·rfl
  ·exact Sha.sum_length b
 subst h;unfold BZ;split
 ·exact hf _
 split
 ·rfl
 split
 ·exact hf _
 split
 ·exact Sha.sum_length b
 ·exact hf _
theorem Y1{D:Ad}{L:AQ}{b:Bs}(h:b.length<=300)(hc:(AA L (Sha.sum b)).isSome=true)(hn:(AA L (Sha.sum b)).getD []≠b):DP D L b=(D,Sha.sum b,(AA L (Sha.sum b)).getD [],7):=by
 unfold DP;rw[if_neg (by omega)];cases e:AA L (Sha.sum b)with
 | none=>rw[e]at hc;cases hc
 | some x=>rw[e]at hn;exact if_neg hn
theorem Y2{D:Ad}{L:AQ}{b:Bs}(h:b.length<=300)(hc:(AA L (Sha.sum b)).isSome=true)(hn:¬(AA L (Sha.sum b)).getD []≠b):DP D L b=(D,Sha.sum b,[],0):=by
 unfold DP;rw[if_neg (by omega)];cases e:AA L (Sha.sum b)with
 | none=>rw[e]at hc;cases hc
 | some x=>rw[e]at hn;exact if_pos (AhX.1 hn)
theorem WG{D:Ad}{L:AQ}{b:Bs}(h:b.length<=300)(hc:(AA L (Sha.sum b)).isSome=false):DP D L b=BZ D b:=by
 unfold DP;rw[if_neg (by omega)];cases e:AA L (Sha.sum b)with
 | none=>rfl
 | some x=>rw[e]at hc;cases hc
theorem LQ:AZ Ae5 86 1 1:=fun b o w=>by simp[go_sem]
theorem KR:Tryz.prog.underlying 84=some (.map 9 89):=by kernel_rfl
theorem WH:Plain Ae5 84:=fun _ _=>by kernel_rfl
theorem WI:Plain Ae5 85:=fun _ _=>by kernel_rfl
theorem Pm:Tryz.prog.underlying 28=some (.pointer 86):=by kernel_rfl
theorem Pn:Plain Ae5 46:=fun _ _=>by kernel_rfl
theorem LR:AZ Ae5 86 0 0:=fun b o w=>by simp[go_sem]
theorem WJ:Plain Ae5 15:=fun _ _=>by kernel_rfl
theorem WK:Plain Ae5 47:=fun _ _=>by kernel_rfl
set_option maxHeartbeats 1600000
theorem Nh(w:Ae3)(n:Nat)(Q:Nat->Prop)(gv gd bm:Nat)(L:AQ)(ptr:Bs->Nat)(hV:VtAt n Q w gv gd bm L ptr)(hgL:GoodL L)(hLn:L.length<=100000)(id:AlJ)(hid:id.length=32):
  Calls Ae5 46 #[PQ gv 0,AB id] w fun e w' =>∃v,e = .returned (.tuple #[v, .bool (AA L id).isSome])/\w'.ownsRow w.heap.size 5 1 v ((AA L id).getD []).length (Ae4 ((AA L id).getD []))/\Ext w w' :=by
 have hvb:=hV.blk;have hvm:=hV.map;have hpk:=hV.pk;have hsrt:=hV.sort;have hV0:=hV;refine gG (args:= [PQ gv 0,AB id]) Tryz.func46 rfl 36 rfl rfl ?_;have hE:=Ad4 w;refine gS (Ael (vr (AB id) rfl) fun l m t u o al=> ?_);have am:=Av hvm.lt t;have c:=u;clear u;have an:l<m.heap.size:=by omega
 have ao:=Av (bl hvb) t;have hvb:=eb o hvb;refine gS (Ad7 rfl (gS (Ad6 LQ rfl (gS (Aax KR rfl rfl (cellAt hvb rfl) ?_)))));have hvm:=hvm.keep o;have hm1:=hvm;refine gS (AaE WH rfl ((UQ _ _).mono ?_));rintro e x ⟨rfl,hwk⟩;refine⟨_,rfl,?_⟩;have hxk:Ext m x:=by rw[hwk];exact(Below.refl _ _).alloc (Ae8 _) _
 refine gS (AaE Wa rfl ((Qb m x hwk hm1 hsrt pkG_iff (by rw[Afu];omega)).mono ?_));rintro e ap ⟨y,rfl,ag,aa⟩;refine⟨_,rfl,?_⟩;have hE:=hE.trans (o.trans hxk);have aq:=hE.size;have f:=AaR ag;have hZ1:=hxk.trans aa;have hvb:=eb hZ1 hvb;have hvm:=hvm.keep hZ1;have c:=eb hZ1 c;have hE:=hE.trans aa;refine gS (AaW OY (AaD f rfl) (gL (fun(ρ:Ae) (wz:Ae3)=>∃i:Nat,ρ 0=(PQ gv 0:Ae2)/\ρ 1=(AB id:Ae2)/\ρ 3=(PQ l 0:Ae2)/\ρ 15=(y:Ae2)/\ρ 16=(NI (((L.map AfB)).length):Ae2)/\ρ 17=(NI i:Ae2)/\wz.heap[gv]? =some (.cells ([PQ gd 0, .map (some bm)]).toArray 86 (0,0))/\MapF St pN Nm wz bm (pkG L ptr)/\Ext w wz/\wz.heap[l]? =some (.cells (Ae4 id).toArray 33 (0,0))/\RG 1 (CQ) wz y (L.map AfB)/\(i<=L.length)/\(AA (L.take i) id=none)/\True) (fun ρ _=>L.length-(intOf (ρ 17)).toNat) ⟨0,rfl,rfl,rfl,rfl,rfl,rfl,hvb,hvm,hE,c,f,AfC _,rfl,trivial⟩ ?_));clear hvb hvm hE c f;rintro ah ar ⟨i,T0,T1,T3,ad,ae,k,hvb,hvm,hE,c,f,hil,hno,-⟩;have q17:=k;refine gS (Aay (a:=(i:Nat)) (b:=(((L.map AfB)).length:Nat)) k ae (AE _ _ _ _) ?_);refine cD rfl (fun p=> ?_) fun p=> ?_
 ·have hlt:i<(L.map AfB).length:=p;have hli:i<L.length:=by rw[Afu]at hlt;exact hlt
  have hgd:=hgL.at_ hli id;have au:(CQ (((L.map AfB)).getD (i) ([]:AlJ))).length=1:=(Aec f ([]:AlJ) (hlt));refine gS (AaZ OY VZ (by decide) ([]:AlJ) (AaD f ad) k (hlt) fun av af=>(gS (AaY QD rfl (Aef (Aa6 af rfl) rfl) ?_)));clear af;refine Co [0,1,2,3,4,5,6,7,8,9,10,11,12] [7] [] fun aj j=> ?_;have hvb:=eb j hvb;have hvm:=hvm.keep j;have c:=eb j c;refine ys (Ad7 T0 zz) (ys (Ad6 LQ rfl zz) (ys (Aax KR rfl rfl (cellAt hvb rfl) zz) (ys (AbC (ek:=St) (ev:=pN) (D:=Nm) Fd Eb (fun _ _=>C4) KR (z:= .pointer none) Sr rfl rfl hvm (hgL.nm hli) (YZ hsrt hli) zz) (ys (AaC T3 c XM rfl (by exact Ac hid) zz) ?_))));have hE:=hE.trans j;have hsz_:=(hE).size;refine yC (AaA WI rfl rfl ((VR _ (pN (ptr ((L.map AfB).getD (i) ([]:AlJ)))) (some (L.getD i dPkL).2) (PksAt.idx (hpk.keep hE) hli).opt id hid (AhK hgd (by decide))).mono ?_));rintro e aw ⟨q,rfl,ak,g⟩;refine⟨_,rfl,?_⟩;have r:=Ad4 aj;have ax:=hE.size;refine ys (Ad5 (vs:= [q,NI ((CH (some (L.getD i dPkL).2) id).2)]) rfl rfl zz) (ys (Ad5 (vs:= [q,NI ((CH (some (L.getD i dPkL).2) id).2)]) rfl rfl zz) (gS (Aay (a:=((CH (some (L.getD i dPkL).2) id).2:Nat)) (b:=(0:Nat)) rfl rfl (AH _ _ _ _) ?_)));refine cD rfl (fun s=> ?_) fun s=> ?_
  ·have hpP:=ZW hno hli s;refine BI rfl (vr q rfl) (vr (.bool (true)) rfl) ?_;have hE:=hE.trans g;exact⟨_,by rw[hpP];rfl,by rw[hpP];exact BM ak (by omega),hE⟩
  have f:=f.keep j;have hvb:=eb g hvb;have hvm:=hvm.keep g;have hE:=hE.trans g;have c:=eb g c;have r:=r.trans g;refine gS (Aaz (xv:=NI i) (yv:=NI 1) k rfl rfl (Ah _ _ _ (by omega)) (gK (AfF ⟨i+1,T0,T1,T3,ad,ae,rfl,hvb,hvm,hE,c,(f.keep r),by omega,Y0 hno hli s,trivial⟩ ?_)));show L.length-(intOf (NI ((i)+(1)))).toNat<L.length-(intOf (ah 17)).toNat;rw[q17];simp only[intOf,Afg];omega
 have hie:i=L.length:=by have h:=p;rw[Afu]at h;omega
 have hpP:AA L id=none:=by rw[hie,Af8]at hno;exact hno
 refine BI rfl (vr (Afc none 0 0) rfl) (vr (.bool (false)) rfl) ?_;exact⟨_,by rw[hpP];rfl,by rw[hpP];exact World.ownsRow_nil _ _ _ 1,hE⟩
theorem Mq(wb w:Ae3)(g:Nat)(H:Dk)(D:Ad)(hD:DkG wb w g H D)(hG:Laid wb)(hL:De D)(n:Nat)(gv bm:Nat)(L:AQ)(ptr:Bs->Nat)(hV:VtAt n (Cl H D) w gv g bm L ptr)(hgL:GoodL L)(hLn:L.length<=100000)(id:AlJ)(hid:id.length=32):
  Calls Ae5 15 #[PQ gv 0,AB id] w fun e w' =>∃v,e = .returned (.tuple #[v,NI (getV D L id).2])/\RB w' v (getV D L id).1/\Ext w w' /\NewI w.heap.size w' v:=by
 have hvb:=hV.blk;have hvm:=hV.map;have hpk:=hV.pk;have hsrt:=hV.sort;have hV0:=hV;refine gG (args:= [PQ gv 0,AB id]) Tryz.func15 rfl 26 rfl rfl ?_;have hE:=Ad4 w;refine gS (Ael (vr (AB id) rfl) fun p j l m f x=> ?_);have y:=Av hvm.lt l;have b:=m;clear m;have z:p<j.heap.size:=by omega
 refine gS (Aa8 Pm rfl (cF rfl (gS (AaC rfl b XM rfl (by exact Ac hid) ?_))));have hE:=hE.trans f;have hszp_:=(hE).size;refine gS (AaA Pn rfl rfl ((Nh _ n (Cl H D) gv g bm L ptr (hV0.keep hE) hgL hLn id hid).mono ?_));rintro e aa ⟨c,rfl,h,o⟩;refine⟨_,rfl,?_⟩;have ab:=Av (bl hvb) l;have hvb:=eb f hvb;have hvm:=hvm.keep f;have hpnew:∀k,Afd c=some k->j.heap.size<=k:=fun k hk=>(h.lt k hk).1;have hpn:=(Acd h).low hszp_;have q:=Aa5 h;refine gS (Ad5 (vs:= [c, .bool ((AA L id).isSome)]) rfl rfl (gS (Ad5 (vs:= [c, .bool ((AA L id).isSome)]) rfl rfl ?_)));refine cB ((AA L id).isSome) rfl (fun a=> ?_) fun a=> ?_
 ·refine BI rfl (vr c rfl) (vr (NI 0) rfl) ?_;have hE:=hE.trans o;exact⟨_,by rw[QP a],by rw[QP a];exact q,hE,hpn⟩
 refine Co [0,1,2,3,4,5,6,7,8,9] [5] [] fun ac r=> ?_;have hZ1:=o.trans r;have hvb:=eb hZ1 hvb;have b:=eb hZ1 b;refine ys (Ad7 rfl zz) (ys (Ad6 LR rfl zz) (ys (Aax VY rfl rfl (cellAt hvb rfl) zz) (ys (AaC rfl b XM rfl (by exact Ac hid) zz) ?_)));have hE:=hE.trans hZ1;have hszl_:=(hE).size;refine yC (AaA Wq rfl rfl ((QK wb _ g H D (hD.keep hE) hG hL id hid).mono ?_));rintro e ad ⟨i,rfl,s,t,u⟩;refine⟨_,rfl,?_⟩;have hvn:=NewI.low u hszl_;refine ys (Ad5 (vs:= [i,NI ((getL D id).2)]) rfl rfl zz) (ys (Ad5 (vs:= [i,NI ((getL D id).2)]) rfl rfl zz) (BI rfl (vr i rfl) (vr (NI ((getL D id).2)) rfl) ?_));have hE:=hE.trans t;exact⟨_,by rw[Pk a],by rw[Pk a];exact s,hE,hvn⟩
theorem Y3(wb w:Ae3)(g:Nat)(H:Dk)(D:Ad)(hD:DkG wb w g H D)(hG:Laid wb)(hL:De D)(n:Nat)(gv bm:Nat)(L:AQ)(ptr:Bs->Nat)(hV:VtAt n (Cl H D) w gv g bm L ptr)(hgL:GoodL L)(hLn:L.length<=100000)(id:AlJ)(hid:id.length=32):
  Calls Ae5 17 #[PQ gv 0,AB id] w fun e w' =>e = .returned (.bool (decide ((getV D L id).2=0)))/\Ext w w' :=by
 have hvb:=hV.blk;have hvm:=hV.map;have hpk:=hV.pk;have hsrt:=hV.sort;have hV0:=hV;refine gG (args:= [PQ gv 0,AB id]) Tryz.func17 rfl 15 rfl rfl ?_;have hE:=Ad4 w;refine gS (Ael (vr (AB id) rfl) fun h i j c k o=> ?_);have p:=Av hvm.lt j;have l:=c;clear c;have q:h<i.heap.size:=by omega
 have hE:=hE.trans k;refine gS (AaC rfl l XM rfl (by exact Ac hid) (gS (AaA WJ rfl rfl ((Mq wb _ g H D (hD.keep hE) hG hL n gv bm L ptr (hV0.keep hE) hgL hLn id hid).mono ?_))));rintro e r ⟨f,rfl,s,m,-⟩;refine⟨_,rfl,?_⟩;refine gS (Ad5 (vs:= [f,NI ((getV D L id).2)]) rfl rfl (gS (Ad5 (vs:= [f,NI ((getV D L id).2)]) rfl rfl (gS (Aay (a:=((getV D L id).2:Nat)) (b:=(0:Nat)) rfl rfl (AH _ _ _ _) (A8 rfl (vr (.bool (decide (((getV D L id).2:Nat)=(0)))) rfl) ?_))))));have hE:=hE.trans m;exact⟨rfl,hE⟩
theorem Y4(wb w:Ae3)(g:Nat)(H:Dk)(D:Ad)(hD:DkG wb w g H D)(hG:Laid wb)(hL:De D)(n:Nat)(gv bm:Nat)(L:AQ)(ptr:Bs->Nat)(hV:VtAt n (Cl H D) w gv g bm L ptr)(hgL:GoodL L)(hLn:L.length<=100000)(vb:Ae2)(b:AlJ)(hr:RB w vb b)(hoff:b= []\/∀i,vb.ownBlock=some i->¬B7 H D.files.length i)(hbl:b.length<=300)(m:Nat)(hB:DBd m D)(hm:m<=99000):
  Calls Ae5 14 #[PQ gv 0,vb] w fun e w' =>∃H' vo,e = .returned (.tuple #[AB ((DP D L b).2.1),vo,NI (DP D L b).2.2.2])/\RB w' vo (DP D L b).2.2.1/\DkW wb w g H D w' H' (DP D L b).1/\∀k,Afd vo=some k->w.heap.size<=k:=by
 have hvb:=hV.blk;have hvm:=hV.map;have hpk:=hV.pk;have hsrt:=hV.sort;have hV0:=hV;refine Qq (args:= [PQ gv 0,vb]) Tryz.func14 rfl 50 rfl rfl ?_;have hE:=Ad4 w;refine gS (Ad9 VA fun f w3 z aa ab au=> ?_);have av:=Av hvm.lt z;have c:=aa;clear aa;have aw:f<w3.heap.size:=by omega
 have hwb:=hD.ext.size;have hE:=hE.trans ab;refine gS (Aa8 Pm rfl (cF rfl (gS (AaT GR (AaF (hr.keep hE) rfl) (gS (Aay (a:=(b.length:Nat)) (b:=(262144:Nat)) rfl rfl (Bj _ _ _ _) (kF (by omega) (cF rfl (gS (Abf GV (AaF (hr.keep hE) (vr vb rfl)) fun am ax ac s=> ?_))))))))));have hE:=hE.trans s;refine gS (AaE KB rfl ((Dq _ (hG.keep ((hD.keep hE)).ext) am b ac (by omega)).mono ?_));rintro e ay ⟨rfl,t⟩;refine⟨_,rfl,?_⟩;have c:=eb (s.trans t) c;refine gS (AaB (vr (PQ f 0) rfl) (vr (AB (Sha.sum b)) rfl) c (by exact Bp (Sha.sum_length _) Afp) (by exact Ac (Sha.sum_length _)) (Ag _) fun an ad u az=> ?_);have hZ1:=(ab.trans s).trans t;have hvm:=hvm.keep hZ1;have hvm:=Ad8 hvm u (Ak (by omega));clear ac;clear c;have c:=ad;clear ad;have a0:=bl c;refine gS (AaC rfl c XM rfl (by exact Ac (Sha.sum_length _)) ?_);have hE:=hE.trans t;have hE:=Ab hE u (Ae7 (Ae8 _) (by omega));have hszp_:=(hE).size;refine gS (AaA Pn rfl rfl ((Nh _ n (Cl H D) gv g bm L ptr (hV0.keep hE) hgL hLn (Sha.sum b) (Sha.sum_length _)).mono ?_));rintro e ao ⟨j,rfl,r,h⟩;refine⟨_,rfl,?_⟩;have a1:=Av (bl hvb) z;have hvb:=eb hZ1 hvb;have hvb:=kb u hvb (by omega);have ap:OB j f:=DA r (bl c);have hpnew:∀k,Afd j=some k->an.heap.size<=k:=fun k hk=>(r.lt k hk).1;have hpn:=(Acd r).low hszp_;have o:=Aa5 r;refine gS (Ad5 (vs:= [j, .bool ((AA L (Sha.sum b)).isSome)]) rfl rfl (gS (Ad5 (vs:= [j, .bool ((AA L (Sha.sum b)).isSome)]) rfl rfl ?_)));rcases Bool.eq_false_or_eq_true (AA L (Sha.sum b)).isSome with hc | hc
 ·have hE:=hE.trans h;refine gY rfl (vr (.bool (true)) ((show _=AfE (AA L (Sha.sum b)).isSome from rfl).trans (congrArg AfE hc))) (gY rfl (vr (.bool (true)) ((show _=AfE (AA L (Sha.sum b)).isSome from rfl).trans (congrArg AfE hc))) (gS (Abb GR u5 QD (AaF o rfl) (gY rfl (vr (.bool (true)) ((show _=AfE (AA L (Sha.sum b)).isSome from rfl).trans (congrArg AfE hc))) (gY rfl (vr (.bool (true)) ((show _=AfE (AA L (Sha.sum b)).isSome from rfl).trans (congrArg AfE hc))) (gS (Abb GR u5 QD (AaF (hr.keep hE) rfl) (gY rfl (vr (.bool (true)) ((show _=AfE (AA L (Sha.sum b)).isSome from rfl).trans (congrArg AfE hc))) (gS (Abw (l:=((AA L (Sha.sum b)).getD [])) (m:=b) (.inr rfl) rfl rfl (decide (((AA L (Sha.sum b)).getD [])≠b)) rfl (gS (AaS (vr (.bool (true)) ((show _=AfE (AA L (Sha.sum b)).isSome from rfl).trans (congrArg AfE hc))) rfl ?_))))))))))));refine cD rfl (fun v=> ?_) fun v=> ?_
  ·have c:=eb h c;refine gS (AaC rfl c XM rfl (by exact Ac (Sha.sum_length _)) (gS (AaB (vr (PQ f 0) rfl) (vr (AB (Sha.sum b)) rfl) c (by exact Bp (Sha.sum_length _) (Sha.sum_length _)) (by exact Ac (Sha.sum_length _)) (Ag _) fun a2 ae x a3=> ?_)));have hvm:=hvm.keep h;have hvm:=Ad8 hvm x (Ak (by omega));clear hpn;clear c;have c:=ae;clear ae;have a4:=bl c;refine I5 rfl (Aee rfl c XM rfl (by exact Ac (Sha.sum_length _))) (vr j rfl) (vr (NI 7) rfl) ?_;have hV:DP D L b=(D,Sha.sum b,((AA L (Sha.sum b)).getD []),7):=Y1 hbl hc v;have hE:=Ab hE x (Ae7 (Ae8 _) (by omega));have o:=AeE o x (.inr ap);exact⟨H,_,by rw[hV],by rw[hV];exact o,by rw[hV];exact AbA hD hE,fun k hk=>by have:=hpnew k hk;omega⟩
  have c:=eb h c;refine cT (vr (.bool (true)) ((show _=AfE (AA L (Sha.sum b)).isSome from rfl).trans (congrArg AfE hc))) (gS (AaC rfl c XM rfl (by exact Ac (Sha.sum_length _)) (gS (AaB (vr (PQ f 0) rfl) (vr (AB (Sha.sum b)) rfl) c (by exact Bp (Sha.sum_length _) (Sha.sum_length _)) (by exact Ac (Sha.sum_length _)) (Ag _) fun a5 af ag a6=> ?_))));have hvm:=hvm.keep h;have hvm:=Ad8 hvm ag (Ak (by omega));clear hpn;clear c;have c:=af;clear af;have a7:=bl c;refine I5 rfl (Aee rfl c XM rfl (by exact Ac (Sha.sum_length _))) (vr (Afc none 0 0) rfl) (vr (NI 0) rfl) ?_;have hV:DP D L b=(D,Sha.sum b,[],0):=Y2 hbl hc v;have hE:=Ab hE ag (Ae7 (Ae8 _) (by omega));exact⟨H,_,by rw[hV],by rw[hV];exact Aeq _,by rw[hV];exact AbA hD hE,fun k hk=>by cases hk⟩
 have hvb:=eb h hvb;refine gN rfl rfl (vr (.bool (false)) ((show _=AfE (AA L (Sha.sum b)).isSome from rfl).trans (congrArg AfE hc))) rfl (gN rfl rfl (vr (.bool (false)) ((show _=AfE (AA L (Sha.sum b)).isSome from rfl).trans (congrArg AfE hc))) rfl (gN rfl rfl (vr (.bool (false)) ((show _=AfE (AA L (Sha.sum b)).isSome from rfl).trans (congrArg AfE hc))) rfl (gN rfl rfl (vr (.bool (false)) ((show _=AfE (AA L (Sha.sum b)).isSome from rfl).trans (congrArg AfE hc))) rfl (gN rfl rfl (vr (.bool (false)) ((show _=AfE (AA L (Sha.sum b)).isSome from rfl).trans (congrArg AfE hc))) rfl (gS (AaX (vr (.bool (false)) ((show _=AfE (AA L (Sha.sum b)).isSome from rfl).trans (congrArg AfE hc))) rfl (cF rfl (cF (vr (.bool (false)) ((show _=AfE (AA L (Sha.sum b)).isSome from rfl).trans (congrArg AfE hc))) (gS (Ad7 rfl (gS (Ad6 LR rfl (gS (Aax VY rfl rfl (cellAt hvb rfl) ?_))))))))))))));have hE:=hE.trans h;have hWc:DkW wb w g H D ao H D:=AbA hD hE;have c:=eb h c;have hl4_:=bl c;have hszc_:=(hE).size;refine gS (AaA WK rfl rfl ((YQ wb _ g H D hWc.g hG vb b (hr.keep hE) hoff hbl m hB hm).mono ?_));rintro e ah ⟨H55,p,rfl,y,hW58,ai⟩;refine⟨_,rfl,?_⟩;have hWn:=hWc.trans hW58;have hnw_:=ai;have hvb:ah.heap[gv]? =some (.cells ([PQ g 0, .map (some bm)]).toArray 86 (0,0)):=Aeo hWc.g hW58.chg hvb (by decide) (by decide) (by decide) (by decide);have c:ah.heap[f]? =some (.cells (Ae4 (Sha.sum b)).toArray 33 (0,0)):=Aeo hWc.g hW58.chg c (by decide) (by decide) (by decide) (by decide);clear hvm;clear hE;clear hpn;clear o;have hW:=hWn;have aq:OB p f:=fun q=>by have:=ai _ q;omega
 refine gS (Ad5 (vs:= [AB ((BZ D b).2.1),p,NI ((BZ D b).2.2.2)]) rfl rfl (gS (Ad5 (vs:= [AB ((BZ D b).2.1),p,NI ((BZ D b).2.2.2)]) rfl rfl (gS (Ad5 (vs:= [AB ((BZ D b).2.1),p,NI ((BZ D b).2.2.2)]) rfl rfl (gS (AaB (vr (PQ f 0) rfl) (vr (AB ((BZ D b).2.1)) rfl) c (by exact Bp (JZ rfl) (Sha.sum_length _)) (by exact Ac (JZ rfl)) (Ag _) fun ar aj ak a8=> ?_)))))));have hW:DkW wb w g H (D) ar H55 ((BZ D b).1):=Aew hW ak c (by omega) (by decide) (by decide) (by decide) (by decide) (by decide) (by decide) hwb;clear c;have c:=aj;clear aj;have a9:=bl c;refine I5 rfl (Aee rfl c XM rfl (by exact Ac (JZ rfl))) (vr p rfl) (vr (NI ((BZ D b).2.2.2)) rfl) ?_;have hV:DP D L b=BZ D b:=WG hbl hc;have y:=AeE y ak (.inr aq);exact⟨H55,_,by rw[hV],by rw[hV];exact y,by rw[hV];exact hW,fun k hk=>by have:=hnw_ k hk;omega⟩
theorem FX{α:Type}(A X:List α)(n:Nat)(h:A.length<=n):(A++X).take n=A++X.take (n-A.length):=by
 rw[List.take_append,AfU h]
theorem IB{α:Type}(A X:List α)(n:Nat):(A++X).drop (A.length+n)=X.drop n:=by
 rw[Ajp,List.drop_of_length_le (by omega),List.nil_append,show A.length+n-A.length=n by omega]
theorem UT(s:Bs):(Bw s).length=(Afq s.length).length+s.length:=by simp[Bw]
theorem Ni(A s X:Bs)(fin:Nat)(hs:s.length<=1048576)(h1:A.length+(Bw s).length<=fin):BQ (A++(Bw s++X)) A.length fin=some (s,A.length+(Bw s).length):=by
 have hl:=UT s;have ht:(A++(Bw s++X)).take fin=A++(Afq s.length++(s++X.take (fin-A.length-(Bw s).length))):=by
  rw[FX _ _ _ (by omega),FX _ _ _ (by omega)];simp only[Bw,AfH]
 unfold BQ;rw[ht,Ahb,Ew _ (by omega)]
 dsimp only
 rw[if_neg (by omega),if_neg (by simp only[Ae9];omega)]
 congr 1
 rw[IB,Ahb,Ahx];rw[hl,Ahu]
def entB(ps:List Pt)(i:Nat)(s:BS):Ent:=
 if(ps.getD i AD).base<0 then⟨s.b.length,false,Afk 32 0,(ps.getD i AD).bytes⟩
 else⟨s.b.length,true,s.ids.getD (ps.getD i AD).base.toNat [],Cc (ps.getD (ps.getD i AD).base.toNat AD).bytes (ps.getD i AD).bytes⟩
def ED(ps:List Pt)(i:Nat)(s:BS):Bs:=
 if(ps.getD i AD).base<0 then [0]++Bw (ps.getD i AD).bytes
 else [1]++s.ids.getD (ps.getD i AD).base.toNat []++Bw (Cc (ps.getD (ps.getD i AD).base.toNat AD).bytes (ps.getD i AD).bytes)
theorem QS(ps:List Pt)(i:Nat)(s:BS):(bnext ps (ps.getD i AD) s).b=s.b++ED ps i s:=by
 unfold bnext ED
 dsimp only
 split <;> simp only[AfH]
theorem Sz{ps:List Pt}(hL:CB ps){i:Nat}(hi:i<ps.length){s:BS}(h:BOk i s)(hb:(ps.getD i AD).base<i)(X:Bs)(fin:Nat)(hf:s.b.length+(ED ps i s).length<=fin):
  entOne (s.b++(ED ps i s++X)) fin s.b.length=some (entB ps i s,s.b.length+(ED ps i s).length):=by
 have hp:=hL.2 _ (getD_mem AD hi);by_cases hbase:(ps.getD i AD).base<0
 ·have hc:ED ps i s= [0]++Bw (ps.getD i AD).bytes:=if_pos hbase;have he:entB ps i s=⟨s.b.length,false,Afk 32 0,(ps.getD i AD).bytes⟩:=if_pos hbase;rw[hc]at hf ⊢;rw[he];have hg:(s.b++([0]++Bw (ps.getD i AD).bytes++X)).getD s.b.length 0=0:=by
   rw[Ae6,AfR (Ae8 _),AgR];rfl
  have ht:=Ni (s.b++ [0]) (ps.getD i AD).bytes X fin (by omega) (by simp only[Ae9]at hf ⊢;omega);have e:s.b++ [0]++(Bw (ps.getD i AD).bytes++X)=s.b++([0]++Bw (ps.getD i AD).bytes++X):=by simp only[AfH]
  rw[e,Ae9,Afs]at ht;unfold entOne;rw[hg,if_pos ⟨by simp only[Ae9,Afs]at hf;omega,by decide⟩,if_neg (by decide),ht,Agm];simp only[Ae9,Afs,Ahu]
 ·have hc:ED ps i s= [1]++s.ids.getD (ps.getD i AD).base.toNat []++Bw (Cc (ps.getD (ps.getD i AD).base.toNat AD).bytes (ps.getD i AD).bytes):=if_neg hbase;have he:entB ps i s=⟨s.b.length,true,s.ids.getD (ps.getD i AD).base.toNat [],Cc (ps.getD (ps.getD i AD).base.toNat AD).bytes (ps.getD i AD).bytes⟩:=if_neg hbase;have a:(ps.getD i AD).base.toNat<s.ids.length:=by rw[h.ids];omega
  have h32:=h.len _ (getD_mem [] a);have hq:=hL.2 _ (getD_mem AD (l:=ps) (i:=(ps.getD i AD).base.toNat) (by rw[h.ids]at a;omega));have hm:=Je (ps.getD (ps.getD i AD).base.toNat AD).bytes (ps.getD i AD).bytes (by omega) (by omega);rw[hc]at hf ⊢;rw[he]
  generalize Cc (ps.getD (ps.getD i AD).base.toNat AD).bytes (ps.getD i AD).bytes=m at hm hf ⊢
  generalize s.ids.getD (ps.getD i AD).base.toNat []=id at h32 hf ⊢
  have hg:(s.b++([1]++id++Bw m++X)).getD s.b.length 0=1:=by
   rw[Ae6,AfR (Ae8 _),AgR];rfl
  have ht:=Ni (s.b++ [1]++id) m X fin (by omega) (by simp only[Ae9]at hf ⊢;omega);have e:s.b++ [1]++id++(Bw m++X)=s.b++([1]++id++Bw m++X):=by simp only[AfH]
  rw[e,Ae9,Ae9,Afs,h32]at ht;have hd:((s.b++([1]++id++Bw m++X)).take fin).drop (s.b.length+1)=id++(Bw m++X.take (fin-s.b.length-1-id.length-(Bw m).length)):=by
   simp only[Ae9,Afs]at hf;have c:s.b++([1]++id++Bw m++X)=s.b++([1]++(id++(Bw m++X))):=by simp only[AfH]
   rw[c,FX _ _ _ (by omega),FX [1] _ _ (by simp only[Afs];omega),FX id _ _ (by simp only[Afs];omega),FX (Bw m) _ _ (by simp only[Afs];omega),IB];rfl
  unfold entOne;rw[hg,if_pos ⟨by simp only[Ae9,Afs]at hf;omega,by decide⟩,if_pos rfl,if_neg (by simp only[Ae9,Afs]at hf;omega),ht,Agm,hd,<-h32,Ahx];simp only[Ae9,Afs,Ahu]
structure BInv (ps : List Pt) (i : Nat) (s : BS) (es : List Ent) : Prop where
 ok:BOk i s
 len:es.length=i
 ids:s.ids=(ps.take i).map fun p=>Sha.sum p.bytes
 nodup:s.ids.Nodup
 pos:es.map Ent.pos=s.places
 asc:s.places.Pairwise (· < ·)
 top:∀p∈s.places,p<s.b.length
 ent:∀X fin,s.b.length<=fin->CF (s.b++X) fin (1+(Afq ps.length).length) i=some (es,s.b.length)
 flat:∀j,j<i->(ps.getD j AD).base<0->(es.getD j dEnt.1).based=false/\(es.getD j dEnt.1).bytes=(ps.getD j AD).bytes/\s.depths.getD j 0=0
 upon:∀j,j<i->¬(ps.getD j AD).base<0->(ps.getD j AD).base.toNat<j/\(es.getD j dEnt.1).based=true/\(es.getD j dEnt.1).base=s.ids.getD (ps.getD j AD).base.toNat []/\(es.getD j dEnt.1).bytes=Cc (ps.getD (ps.getD j AD).base.toNat AD).bytes (ps.getD j AD).bytes/\s.depths.getD j 0=s.depths.getD (ps.getD j AD).base.toNat 0+1
theorem FL{α:Type}(l m:List α)(d:α){i:Nat}(h:i<l.length):(l++m).getD i d=l.getD i d:=by
 rw[Ae6,Ae6,AfW h]
theorem Hr{α:Type}(l:List α)(x d:α){i:Nat}(h:l.length=i):(l++ [x]).getD i d=x:=by
 rw[Ae6,AfR (by omega),h,AgR];rfl
theorem Mr{ps:List Pt}(hL:CB ps):∀(i:Nat) (s:BS),i<=ps.length->C7 ps i = .ok s->∃es,BInv ps i s es
 | 0,s,hi,h=>by
  have hk:=Jk hL 0 s hi h;cases h;refine⟨[],hk,rfl,rfl,List.nodup_nil,rfl,Ahc,(fun p hp=>by cases hp),fun X fin hf=> ?_,(fun j hj=>by omega),(fun j hj=>by omega)⟩;show some ([],_)=some ([],_);rw[AfA,Ai0]
 | i+1,s,hi,h=>by
  have hk:=Jk hL (i+1) s hi h;cases hb:C7 ps i with
  | error e=>rw[FU hb 1]at h;cases h
  | ok s0=>
   rw[Fc hb]at h;obtain⟨es,I⟩:=Mr hL i s0 (by omega) hb;unfold E6 at h;split at h
   ·cases h
   ·split at h
    ·cases h
    ·split at h
     ·cases h
     ·rename_i h1 h2 h3
      cases h;have hbase:(ps.getD i AD).base<i:=by omega
      have hl:s0.ids.length=i:=I.ok.ids;have hd:s0.depths.length=i:=I.ok.depths;have hbn:=QS ps i s0;have hcl:1<=(ED ps i s0).length:=by unfold ED;split <;> simp only[Ae9,Afs] <;> omega
      refine⟨es++ [entB ps i s0],hk,by rw[Ae9,I.len];rfl,?_,?_,?_,?_,?_,?_,?_,?_⟩
      ·show s0.ids++ [_]=_;rw[I.ids,Afv (by omega),AgC,List.map_singleton];rw[Ae6,Afb (show i<ps.length by omega)];rfl
      ·show(s0.ids++ [_]).Nodup;rw[List.nodup_append];refine⟨I.nodup,by simp,fun a ha b hb e=> ?_⟩;rw[Afh.1 hb]at e;exact h2 (e▸ha)
      ·show _=s0.places++ [_];rw[AgC,I.pos]
       congr 1
       unfold entB;split <;> rfl
      ·show(s0.places++ [_]).Pairwise _;rw[AgD];exact⟨I.asc,by simp,fun a ha b hb=>by rw[Afh.1 hb];exact I.top a ha⟩
      ·intro p hp;rw[hbn,Ae9];rcases Afy.1 (show p∈s0.places++ [_]from hp)with hp | hp
       ·have:=I.top p hp;omega
       ·rw[Afh.1 hp];omega
      ·intro X fin hf;rw[hbn,Ae9]at hf ⊢;rw[AfH,Fz (I.ent (ED ps i s0++X) fin (by omega)),Sz hL (by omega) I.ok hbase X fin hf];rfl
      ·intro j hj hjb;by_cases e:j=i
       ·subst e;rw[Hr _ _ _ I.len];have he:entB ps j s0=⟨s0.b.length,false,Afk 32 0,(ps.getD j AD).bytes⟩:=if_pos hjb;rw[he];refine⟨rfl,rfl,?_⟩;show(s0.depths++ [_]).getD j 0=0;rw[Hr _ _ _ hd];exact if_pos hjb
       ·rw[FL _ _ _ (by rw[I.len];omega)];have:=I.flat j (by omega) hjb;refine⟨this.1,this.2.1,?_⟩;show(s0.depths++ [_]).getD j 0=0;rw[FL _ _ _ (by omega)];exact this.2.2
      ·intro j hj hjb;have f:∀k,k<i->(bnext ps (ps.getD i AD) s0).ids.getD k []=s0.ids.getD k []:=fun k hk=>FL _ _ _ (by omega);have c:∀k,k<i->(bnext ps (ps.getD i AD) s0).depths.getD k 0=s0.depths.getD k 0:=fun k hk=>FL _ _ _ (by omega);by_cases e:j=i
       ·subst e;rw[Hr _ _ _ I.len];have he:entB ps j s0=⟨s0.b.length,true,s0.ids.getD (ps.getD j AD).base.toNat [],Cc (ps.getD (ps.getD j AD).base.toNat AD).bytes (ps.getD j AD).bytes⟩:=if_neg hjb;rw[he];have hlt:(ps.getD j AD).base.toNat<j:=by omega
        refine⟨hlt,rfl,(f _ hlt).symm,rfl,?_⟩;rw[c _ hlt];show(s0.depths++ [_]).getD j 0=_;rw[Hr _ _ _ hd];exact if_neg hjb
       ·rw[FL _ _ _ (by rw[I.len];omega)];have:=I.upon j (by omega) hjb;have hlt:=this.1;refine⟨hlt,this.2.1,?_,this.2.2.2.1,?_⟩
        ·rw[f _ (by omega)];exact this.2.2.1
        ·rw[c _ (by omega),c _ (by omega)];exact this.2.2.2.2
theorem Gq{α β:Type}[BEq α][LawfulBEq α]:∀(l:List α) (m:List β) (j:Nat) (x:α) (y:β),l.Nodup->l[j]? =some x->m[j]? =some y->(l.zip m).lookup x=some y
 | [],_,_,_,_,_,h,_=>by simp at h
 | _ :: _,[],_,_,_,_,_,h=>by simp at h
 | a :: l,b :: m,0,x,y,_,h1,h2=>by
  simp only[List.getElem?_cons_zero,Option.some.injEq]at h1 h2;rw[h1,h2,Ahi,AgH];simp
 | a :: l,b :: m,j+1,x,y,hn,h1,h2=>by
  simp only[List.getElem?_cons_succ]at h1 h2;have hn' :=List.nodup_cons.1 hn;have:(x==a)=false:=by
   simp only[beq_eq_false_iff_ne];intro e;exact hn'.1 (e▸Agi h1)
  rw[Ahi,AgH,this];exact Gq l m j x y hn'.2 h1 h2
theorem H8{α β γ:Type}[BEq α](f:β->γ)(x:α):∀(l:List α) (m:List β),(l.zip (m.map f)).lookup x=((l.zip m).lookup x).map f
 | [],_=>by simp
 | _ :: _,[]=>by simp
 | a :: l,b :: m=>by
  rw[AfG,Ahi,Ahi,AgH,AgH,H8 f x l m];split <;> rfl
def IC(s:BS)(es:List Ent)(id:Bs):Option Ent:=(s.ids.zip es).lookup id
theorem EE{α:Type}{l:List α}{i:Nat}(d:α)(h:i<l.length):l[i]? =some (l.getD i d):=by
 rw[Ae6,Afb h];rfl
section
variable {ps : List Pt} {n : Nat} {s : BS} {es : List Ent}
theorem BInv.at_(I:BInv ps n s es){j:Nat}(hj:j<n):IC s es (s.ids.getD j [])=some (es.getD j dEnt.1):=
 Gq _ _ j _ _ I.nodup (EE [] (by rw[I.ok.ids];exact hj)) (EE _ (by rw[I.len];exact hj))
theorem BInv.place(I:BInv ps n s es)(id:Bs):Bz s id=(IC s es id).map Ent.pos:=by
 unfold Bz IC;rw[<-I.pos,H8]
theorem BInv.ix(I:BInv ps n s es){id:Bs}(h:id∈s.ids):∃j,j<n/\s.ids.getD j []=id:=by
 obtain⟨j,hj,e⟩:=Agz h;refine⟨j,by rw[I.ok.ids]at hj;exact hj,?_⟩;rw[Ae6,Afb hj];exact e
theorem BInv.miss(I:BInv ps n s es){id:Bs}(h:id∉s.ids):IC s es id=none:=C8 _ _ _ h
theorem BInv.posj(I:BInv ps n s es){j:Nat}(hj:j<n):s.places.getD j 0=(es.getD j dEnt.1).pos:=by
 rw[<-I.pos,Ae6,Agw,EE dEnt.1 (by rw[I.len];exact hj)];rfl
theorem BInv.lt(I:BInv ps n s es){i j:Nat}(hi:i<j)(hj:j<n):(es.getD i dEnt.1).pos<(es.getD j dEnt.1).pos:=by
 rw[<-I.posj (by omega),<-I.posj hj];have h1:i<s.places.length:=by rw[I.ok.places];omega
 have h2:j<s.places.length:=by rw[I.ok.places];omega
 have:=Agx.1 I.asc i j h1 h2 hi;rw[Ae6,Afb h1,Ae6,Afb h2];exact this
theorem BInv.inj(I:BInv ps n s es){i j:Nat}(hi:i<n)(hj:j<n)(h:(es.getD i dEnt.1).pos=(es.getD j dEnt.1).pos):i=j:=by
 rcases Nat.lt_trichotomy i j with h1 | h1 | h1
 ·have:=I.lt h1 hj;omega
 ·exact h1
 ·have:=I.lt h1 hi;omega
theorem BInv.placeGo(I:BInv ps n s es):∀(i j:Nat),j<i->i<=n->Ek Ent.pos dEnt.1 es i (es.getD j dEnt.1).pos=some (es.getD j dEnt.1)
 | 0,_,h,_=>by omega
 | i+1,j,h,hi=>by
  show updM (Go.Proofs.YtfpekahfdalfkaaGreatDoor.Ek Ent.pos dEnt.1 es i) _ _ _=_;unfold updM;by_cases e:j=i
  ·subst e;rw[if_pos rfl]
  ·rw[if_neg (fun q=>e (I.inj (by omega) (by omega) q))];exact I.placeGo i j (by omega) (by omega)
end
def KS(s:BS)(id:Bs):Bs:=id++Ba ((Bz s id).getD 0)
def Df(s:BS):Bs:=(AR s.ids).flatMap (KS s)
theorem JB{α:Type}(g:α->Bs)(k:Nat):∀(l:List α) (i:Nat),(∀x∈l,(g x).length=k)->(l.flatMap g).drop (k*i)=(l.drop i).flatMap g
 | [],i,_=>by simp
 | a :: l,0,_=>by simp
 | a :: l,i+1,h=>by
  rw[Af3,Ah8,show k*(i+1)=(g a).length+k*i by rw[h a (by simp),Nat.mul_succ,Ai0],IB];exact JB g k l i fun x hx=>h x (by simp[hx])
theorem Nj{α:Type}{l:List α}{i:Nat}(d:α)(h:i<l.length):l.drop i=l.getD i d :: l.drop (i+1):=by
 rw[Agq h,Ae6,Afb h];rfl
section
variable {ps : List Pt} {n : Nat} {s : BS} {es : List Ent}
theorem BInv.sortlen(I:BInv ps n s es):(AR s.ids).length=n:=by rw[Gb,I.ok.ids]
theorem BInv.sortnd(I:BInv ps n s es):(AR s.ids).Nodup:=(sortB_perm s.ids).nodup_iff.2 I.nodup
theorem FY{l:List Bs}{x:Bs}:x∈AR l↔x∈l:=(sortB_perm l).mem_iff
theorem BInv.row(I:BInv ps n s es){i:Nat}(hi:i<n):(Df s).drop (36*i)=KS s ((AR s.ids).getD i [])++((AR s.ids).drop (i+1)).flatMap (KS s):=by
 unfold Df;rw[JB (KS s) 36 _ i (fun x hx=>by unfold KS;rw[Ae9,He,I.ok.len x (FY.1 hx)]),Nj [] (by rw[I.sortlen];exact hi),Af3]
theorem BInv.sorted_mem(I:BInv ps n s es){i:Nat}(hi:i<n):(AR s.ids).getD i []∈s.ids:=FY.1 (getD_mem [] (by rw[I.sortlen];exact hi))
theorem BInv.rowId(I:BInv ps n s es){i:Nat}(hi:i<n):B3 (Df s) i=(AR s.ids).getD i []:=by
 unfold Go.Proofs.YtfpekahfdalfkaaGreatDoor.B3;have h32:=I.ok.len _ (I.sorted_mem hi);rw[I.row hi];unfold KS;rw[AfH,<-h32,Ahx]
theorem BInv.rowAt(hL:CB ps)(hn:n<=ps.length)(I:BInv ps n s es){i:Nat}(hi:i<n):E7 (Df s) i=(Bz s ((AR s.ids).getD i [])).getD 0:=by
 unfold Go.Proofs.YtfpekahfdalfkaaGreatDoor.E7;have hm:=I.sorted_mem hi;have h32:=I.ok.len _ hm;rw[I.row hi];unfold KS;rw[AfH,<-h32,Ahb];refine If _ ?_ _;obtain⟨j,hj,e⟩:=I.ix hm;rw[<-e,I.place,I.at_ hj,Agm,Af2,<-I.posj hj];have h1:=I.ok.pl _ (getD_mem 0 (l:=s.places) (i:=j) (by rw[I.ok.places];exact hj));have:=hL.1;omega
theorem BInv.fresh(I:BInv ps n s es){i:Nat}(hi:i<n):(AR s.ids).getD i []∉(AR s.ids).take i:=by
 intro h;obtain⟨j,hj,e⟩:=Agz h;rw[Afi,I.sortlen]at hj;have hlen:=I.sortlen;have:=Agx.1 I.sortnd j i (by omega) (by omega) (by omega)
 apply this
 rw[Aiu]at e;rw[e,Ae6,Afb (by omega)];rfl
theorem BInv.index(hL:CB ps)(hn:n<=ps.length)(I:BInv ps n s es):∀i,i<=n->∃S,DX Ent.pos dEnt.1 (Df s) es i=some S/\S.ids=(AR s.ids).take i/\(∀id∈s.ids,id∉(AR s.ids).take i->S.G ((Bz s id).getD 0)=IC s es id)/\∀id,S.M id=if id∈(AR s.ids).take i then IC s es id else none
 | 0,_=>by
  refine⟨_,rfl,rfl,fun id hid _=> ?_,fun id=>by simp⟩;obtain⟨j,hj,rfl⟩:=I.ix hid;rw[I.place,I.at_ hj,Agm,Af2,I.len];exact I.placeGo n j hj (Ae8 _)
 | i+1,hi=>by
  obtain⟨S,h1,h2,h3,h4⟩:=I.index hL hn i (by omega);have hlen:=I.sortlen;have hx:=I.sorted_mem (show i<n by omega);have hf:=I.fresh (show i<n by omega);obtain⟨j,hj,e⟩:=I.ix hx;have hc:IC s es ((AR s.ids).getD i [])=some (es.getD j dEnt.1):=by rw[<-e];exact I.at_ hj
  have ht:(AR s.ids).take (i+1)=(AR s.ids).take i++ [(AR s.ids).getD i []]:=by
   rw[Afv (by omega),Ae6,Afb (show i<(AR s.ids).length by omega)];rfl
  have hG:S.G (Go.Proofs.YtfpekahfdalfkaaGreatDoor.E7 (Df s) i)=some (es.getD j dEnt.1):=by
   rw[I.rowAt hL hn (by omega),h3 _ hx hf,hc]
  have ho:i=0\/Aft (S.ids.getD (i-1) []) (Go.Proofs.YtfpekahfdalfkaaGreatDoor.B3 (Df s) i)<0:=by
   rcases Nat.eq_zero_or_pos i with h0 | h0
   ·exact .inl h0
   ·refine .inr ?_;rw[I.rowId (by omega),h2];have g1:((AR s.ids).take i).getD (i-1) []=(AR s.ids)[i-1]'(by omega):=by
     rw[Ae6,Ahf,if_pos (by omega),Afb (by omega)];rfl
    have g2:(AR s.ids).getD i []=(AR s.ids)[i]'(by omega):=by
     rw[Ae6,Afb (by omega)];rfl
    rw[g1,g2];have a1:=Agx.1 (Hd s.ids) (i-1) i (by omega) (by omega) (by omega);have a2:=Agx.1 I.sortnd (i-1) i (by omega) (by omega) (by omega);have a3:Aft ((AR s.ids)[i-1]'(by omega)) ((AR s.ids)[i]'(by omega))≠0:=fun q=>a2 (FR q);omega
  refine⟨Ef Ent.pos (Df s) i S (es.getD j dEnt.1),?_,?_,?_,?_⟩
  ·rw[Ge h1];unfold DD;rw[hG];exact if_pos ho
  ·show S.ids++ [_]=_;rw[h2,I.rowId (by omega),ht]
  ·intro id hid hni;rw[ht]at hni;simp only[Afy,Afh,not_or]at hni;obtain⟨k,hk,rfl⟩:=I.ix hid;have hne:(Bz s (s.ids.getD k [])).getD 0≠(es.getD j dEnt.1).pos:=by
    rw[I.place,I.at_ hk,Agm,Af2];intro q;have:=I.inj hk hj q;subst this;exact hni.2 e
   show updM S.G _ none _=_;unfold updM;rw[if_neg hne];exact h3 _ hid hni.1
  ·intro id;show updM S.M _ _ _=_;unfold updM;rw[I.rowId (by omega),ht,h4];by_cases q:id=(AR s.ids).getD i []
   ·rw[if_pos q,if_pos (by rw[q];simp),q,hc]
   ·rw[if_neg q];by_cases q2:id∈(AR s.ids).take i
    ·rw[if_pos q2,if_pos (by simp[q2])]
    ·rw[if_neg q2,if_neg (by simp only[Afy,Afh,not_or];exact⟨q2,q⟩)]
def KT(s:BS)(es:List Ent)(k:Bs):Ent:=(IC s es k).getD dEnt.1
theorem BInv.E(I:BInv ps n s es){j:Nat}(hj:j<n):KT s es (s.ids.getD j [])=es.getD j dEnt.1:=by unfold KT;rw[I.at_ hj];rfl
theorem BInv.depth(I:BInv ps n s es):∀(m j:Nat),j<n->s.depths.getD j 0<=m->Bc (KT s es) m (es.getD j dEnt.1)=some (s.depths.getD j 0)
 | m,j,hj,hm=>by
  by_cases hb:(ps.getD j AD).base<0
  ·have:=I.flat j hj hb;rw[Ez this.1,this.2.2]
  ·obtain⟨h1,h2,h3,h4,h5⟩:=I.upon j hj hb;cases m with
   | zero=>omega
   | succ m=>
    rw[DY h2,h3,I.E (by omega),I.depth m _ (by omega) (by omega),h5];rfl
theorem BInv.chain(hL:CB ps)(hn:n<=ps.length)(I:BInv ps n s es):∀(m j:Nat),j<n->s.depths.getD j 0=m->BV (KT s es) (m+1) (s.ids.getD j [])=some ((ps.getD j AD).bytes,m)
 | m,j,hj,hm=>by
  have hp:=hL.2 _ (getD_mem AD (l:=ps) (i:=j) (by omega));by_cases hb:(ps.getD j AD).base<0
  ·obtain⟨h1,h2,h3⟩:=I.flat j hj hb;rw[G1 (by rw[I.E hj];exact h1),I.E hj,h2,if_pos (by omega)];rw[h3]at hm;rw[hm]
  ·obtain⟨h1,h2,h3,h4,h5⟩:=I.upon j hj hb;have hq:=hL.2 _ (getD_mem AD (l:=ps) (i:=(ps.getD j AD).base.toNat) (by omega));cases m with
   | zero=>omega
   | succ m=>
    rw[Gm (by rw[I.E hj];exact h2),I.E hj,h3,I.chain hL hn m _ (by omega) (by omega),h4];show(if _ then(if _ then some (_,m+1)else none)else none)=_
    dsimp only
    rw[RD _ _ (by omega) (by omega),if_pos rfl,if_pos (by dsimp only;omega)]
def Po(ps:List Pt)(s:BS)(id:Bs):Option (Bs × Nat):=(s.ids.zip ((ps.map Pt.bytes).zip s.depths)).lookup id
theorem BInv.obj(hL:CB ps)(hn:n=ps.length)(I:BInv ps n s es){j:Nat}(hj:j<n):Po ps s (s.ids.getD j [])=some ((ps.getD j AD).bytes,s.depths.getD j 0):=
 Gq _ _ j _ _ I.nodup (EE [] (by rw[I.ok.ids];exact hj)) (by
  rw[AiV]
  dsimp only
  exact⟨by rw[Agw,EE AD (by omega)];rfl,EE 0 (by rw[I.ok.depths];exact hj)⟩)
theorem BInv.sum(hn:n<=ps.length)(I:BInv ps n s es){j:Nat}(hj:j<n):Sha.sum (ps.getD j AD).bytes=s.ids.getD j []:=by
 have:s.ids[j]? =some (Sha.sum (ps.getD j AD).bytes):=by
  rw[I.ids,Agw,Ahf,if_pos hj,EE AD (by omega)];rfl
 rw[show s.ids.getD j []=(s.ids[j]?).getD []from Ae6,this];rfl
theorem BInv.objs(hL:CB ps)(hn:n=ps.length)(I:BInv ps n s es):∀i,i<=n->∃o,DS (KT s es) (AR s.ids) i = .ok o/\o.total<=200*i/\∀id,o.O id=if id∈(AR s.ids).take i then Po ps s id else none
 | 0,_=>⟨_,rfl,Ae8 _,fun id=>by simp⟩
 | i+1,hi=>by
  obtain⟨o,h1,h2,h3⟩:=I.objs hL hn i (by omega);have hlen:=I.sortlen;have hx:=I.sorted_mem (show i<n by omega);obtain⟨j,hj,e⟩:=I.ix hx;have hp:=hL.2 _ (getD_mem AD (l:=ps) (i:=j) (by omega));have h60:=hL.1;have hd:=I.ok.dp _ (getD_mem 0 (l:=s.depths) (i:=j) (by rw[I.ok.depths];exact hj));have ht:(AR s.ids).take (i+1)=(AR s.ids).take i++ [(AR s.ids).getD i []]:=by
   rw[Afv (by omega),Ae6,Afb (show i<(AR s.ids).length by omega)];rfl
  have g:Dw (KT s es) ((AR s.ids).getD i []) o = .ok ⟨o.total+(ps.getD j AD).bytes.length,updM o.O ((AR s.ids).getD i []) (some ((ps.getD j AD).bytes,s.depths.getD j 0))⟩:=by
   rw[<-e,FB (by rw[I.E hj];exact I.depth 50 j hj hd) (I.chain hL (by omega) _ j hj rfl),if_pos (I.sum (by omega) hj),if_pos (by omega)]
  refine⟨_,by rw[FC h1];exact g,by dsimp only;omega,fun id=> ?_⟩
  dsimp only
  unfold updM;rw[ht,h3];by_cases q:id=(AR s.ids).getD i []
  ·rw[if_pos q,if_pos (by rw[q];simp),q,<-e,I.obj hL hn hj]
  ·rw[if_neg q];by_cases q2:id∈(AR s.ids).take i
   ·rw[if_pos q2,if_pos (by simp[q2])]
   ·rw[if_neg q2,if_neg (by simp only[Afy,Afh,not_or];exact⟨q2,q⟩)]
theorem countP_perm{l m:List Bs}(h:l.Perm m)(p:Bs->Bool):l.countP p=m.countP p:=h.countP_eq p
theorem fanL_sort(l:List Bs):Bf (AR l)=Bf l:=by
 unfold Bf
 congr 1
 funext c
 exact countP_perm (sortB_perm l) _
theorem flat4_drop(l:List Nat)(X:Bs)(i:Nat)(hi:i<l.length)(hv:∀x∈l,x<2^32):DN ((l.flatMap Ba++X).drop (4*i))=l.getD i 0:=by
 have hl:=Ln l;rw[Ajp,JB Ba 4 l i (fun _ _=>rfl),Nj 0 hi,Af3,AfH];exact If _ (hv _ (getD_mem 0 hi)) _
theorem ID(hL:CB ps)(h:C7 ps ps.length = .ok s):BJ (A0 ps).1 = .ok (AR s.ids,Po ps s):=by
 obtain⟨es,I⟩:=Mr hL ps.length s (Ae8 _) h;have h60:=hL.1;have hB:=I.ok.b;have hbl:=HC I.ok s.b.length;have hsl:∀x,(Sha.sum x).length=32:=Sha.sum_length;have f:(A0 ps).1=s.b++CC s s.b.length++Sha.sum (s.b++CC s s.b.length):=by unfold A0;rw[h]
 have hlen:(A0 ps).1.length=s.b.length+(1028+36*ps.length)+32:=by rw[f,Ae9,Ae9,hbl,hsl]
 have hbeh:CC s s.b.length=(Bf s.ids).flatMap Ba++Df s++Ba s.b.length:=rfl;have hfan:((Bf s.ids).flatMap Ba).length=1024:=by rw[Ln,B4]
 have hrows:(Df s).length=36*ps.length:=by
  have:=Ov (fun id=>(Bz s id).getD 0) (AR s.ids) (fun x hx=>I.ok.len x (FY.1 hx));rw[I.sortlen]at this;exact this
 have huv:=XN (n:=ps.length) (by omega)
 generalize hC:(A0 ps).1=c at f hlen ⊢
 unfold BJ;rw[if_neg (by omega),if_neg (by omega),if_pos (by
  rw[f,Ae9,hsl,Nat.add_sub_cancel,Ahx,Ahb])]
 -- the head
 obtain⟨r,hr⟩:∃r,s.b=80 :: Afq ps.length++r:=by
  have:∀i t,C7 ps i = .ok t->∃r,t.b=80 :: Afq ps.length++r:=by
   intro i
   induction i with
   | zero=>intro t ht;cases ht;exact⟨[],by simp⟩
   | succ i ih=>
    intro t ht;cases hb:C7 ps i with
    | error e=>rw[FU hb 1]at ht;cases ht
    | ok t0=>
     obtain⟨r,hr⟩:=ih t0 hb;rw[Fc hb]at ht;unfold E6 at ht;split at ht
     ·cases ht
     ·split at ht
      ·cases ht
      ·split at ht
       ·cases ht
       ·cases ht;exact⟨r++ED ps i t0,by rw[QS,hr,AfH]⟩
  exact this _ _ h
 have hd1:c.drop 1=Afq ps.length++(r++CC s s.b.length++Sha.sum (s.b++CC s s.b.length)):=by
  rw[f,hr];simp only[Af4,AfH,Ah8,List.drop_zero]
 have h80:c.getD 0 0=80:=by rw[f,hr];rfl
 have hat:DN (c.drop (c.length-36))=s.b.length:=by
  have g:c=(s.b++(Bf s.ids).flatMap Ba++Df s)++(Ba s.b.length++Sha.sum (s.b++CC s s.b.length)):=by rw[f,hbeh];simp only[AfH]
  have l:c.length-36=(s.b++(Bf s.ids).flatMap Ba++Df s).length:=by rw[hlen];simp only[Ae9,hfan,hrows];omega
  rw[l,g,Ahb];exact If _ (by omega) _
 have hfirst:1+(Afq ps.length).length<=s.b.length:=by rw[hr];simp only[Af4,AfA,Ae9];omega
 have hent:Cj c ps.length (1+(Afq ps.length).length) s.b.length=some es:=by
  unfold Cj;rw[f,AfH,I.ent _ _ (Ae8 _)];show(if s.b.length=s.b.length then some es else none)=_;rw[if_pos rfl]
 obtain⟨S,g1,g2,g3,g4⟩:=I.index hL (Ae8 _) ps.length (Ae8 _);have htake:(AR s.ids).take ps.length=AR s.ids:=AfU (by rw[I.sortlen];exact Ae8 _);rw[htake]at g2 g4;have hM:S.M=IC s es:=by
  funext id
  rw[g4];split
  ·rfl
  ·rename_i q
   exact(I.miss (fun q2=>q (FY.2 q2))).symm
 have hE:Ly S.M=KT s es:=by rw[hM];rfl
 obtain⟨o,o1,o2,o3⟩:=I.objs hL rfl ps.length (Ae8 _);have hO:o.O=Po ps s:=by
  funext id
  rw[o3,htake];split
  ·rfl
  ·rename_i q
   exact(C8 _ _ _ (fun q2=>q (FY.2 q2))).symm
 have ht:(c.drop (s.b.length+1024)).take (c.length-36-(s.b.length+1024))=Df s:=by
  have g:c=(s.b++(Bf s.ids).flatMap Ba)++(Df s++(Ba s.b.length++Sha.sum (s.b++CC s s.b.length))):=by rw[f,hbeh];simp only[AfH]
  have l:s.b.length+1024=(s.b++(Bf s.ids).flatMap Ba).length:=by rw[Ae9,hfan]
  rw[g,l,Ahb,show ∀a:Nat,a-(s.b++(Bf s.ids).flatMap Ba).length=a-(s.b.length+1024)from fun a=>by rw[l],<-g,hlen,show s.b.length+(1028+36*ps.length)+32-36-(s.b.length+1024)=(Df s).length by rw[hrows];omega,Ahx]
 unfold CG;rw[hd1,Ew _ (by omega)]
 dsimp only
 rw[hat];unfold Iq;rw[if_pos ⟨h80,hfirst,by omega,by omega⟩,if_pos (by omega)];unfold Hm;rw[hent];show Hl c s.b.length es=_;unfold Hl;rw[ht,I.len,g1];show HX c s.b.length es S=_;unfold HX;rw[if_pos (fanB_of fun i hi=>by
  rw[g2,fanL_sort,f,hbeh];have g:s.b++((Bf s.ids).flatMap Ba++Df s++Ba s.b.length)++Sha.sum (s.b++((Bf s.ids).flatMap Ba++Df s++Ba s.b.length))=s.b++((Bf s.ids).flatMap Ba++(Df s++(Ba s.b.length++Sha.sum (s.b++((Bf s.ids).flatMap Ba++Df s++Ba s.b.length))))):=by simp only[AfH]
  rw[g,IB];refine flat4_drop _ _ i (by rw[B4];exact hi) fun x hx=> ?_;obtain⟨k,hk,rfl⟩:=Agz hx;have:=JT s.ids k;rw[Ae6,Afb hk,I.ok.ids]at this;have:(Bf s.ids)[k]<=ps.length:=this;omega),if_pos (by
  refine List.all_eq_true.2 fun e he=> ?_;obtain⟨j,hj,rfl⟩:=Agz he;rw[I.len]at hj;have ej:es[j]=es.getD j dEnt.1:=by rw[Ae6,Afb];rfl
  rw[ej,hM];by_cases hb:(ps.getD j AD).base<0
  ·rw[(I.flat j hj hb).1];rfl
  ·obtain⟨k1,k2,k3,-⟩:=I.upon j hj hb;rw[k2,k3,I.at_ (by omega)];rfl)]
 rw[hE,g2,OJ (o:=o) (by rw[I.sortlen];exact o1),hO]
end
def EQ(p:Pt):Bs × Int:=(p.bytes,p.base)
theorem Ms{ps qs:List Pt}(h:qs.map EQ=ps.map EQ)(i:Nat):(qs.getD i AD).bytes=(ps.getD i AD).bytes/\(qs.getD i AD).base=(ps.getD i AD).base:=by
 have h1:(qs.map EQ)[i]? =(ps.map EQ)[i]? :=by rw[h]
 rw[Agw,Agw]at h1;rw[Ae6,Ae6];cases ha:qs[i]? <;> cases hb:ps[i]? <;> rw[ha,hb]at h1
 ·exact⟨rfl,rfl⟩
 ·cases h1
 ·cases h1
 ·injection h1 with h1
  exact⟨congrArg AfB h1,congrArg Prod.snd h1⟩
theorem J0{ps qs:List Pt}(h:qs.map EQ=ps.map EQ):qs.length=ps.length:=by simpa using congrArg Aip h
theorem Nk{ps qs:List Pt}(h:qs.map EQ=ps.map EQ):∀i,C7 qs i=C7 ps i
 | 0=>by unfold C7;rw[J0 h]
 | i+1=>by
  have ih:=Nk h i;have hi:=Ms h i;cases hb:C7 ps i with
  | error e=>rw[FU hb 1,FU (ih.trans hb) 1]
  | ok s=>
   rw[Fc hb,Fc (ih.trans hb)];have hd:DC (qs.getD i AD) s=DC (ps.getD i AD) s:=by unfold DC;rw[hi.2]
   have hn:bnext qs (qs.getD i AD) s=bnext ps (ps.getD i AD) s:=by
    unfold bnext;rw[hd,hi.1,hi.2,(Ms h (ps.getD i AD).base.toNat).1]
   unfold E6;rw[hi.1,hi.2,hd,hn]
theorem Pp{ps qs:List Pt}(h:qs.map EQ=ps.map EQ):A0 qs=A0 ps:=by
 unfold A0;rw[J0 h,Nk h]
theorem Qc{ps qs:List Pt}(h:qs.map EQ=ps.map EQ)(hL:CB ps):CB qs:=by
 refine⟨by rw[J0 h];exact hL.1,fun p hp=> ?_⟩;obtain⟨i,hi,rfl⟩:=Agz hp;have h1:=(Ms h i).1;rw[Ae6,Afb hi]at h1;have h2:=hL.2 _ (getD_mem AD (l:=ps) (i:=i) (by rw[<-J0 h];exact hi));have h3:(qs[i]).bytes=(ps.getD i AD).bytes:=h1;rw[h3];exact h2
theorem Mt(w:Ae3)(hG:Laid w)(v:Ae2)(ps qs:List Pt)(hr:RG 2 partC w v qs)(hps:Ma w qs)(hq:qs.map EQ=ps.map EQ)(hL:CB ps):
  Calls Ae5 91 #[v] w fun e w' =>∃v',e = .returned (.tuple #[v',NI (A0 ps).2])/\w'.ownsRow w.heap.size 5 1 v' (A0 ps).1.length (Ae4 (A0 ps).1)/\Ext w w' :=by
 have h:=TG w hG v qs hr hps (Qc hq hL);rw[Pp hq]at h;exact h
def PartsIn(w:Ae3)(va:Ae2)(qs:List Pt):Prop:=∀x∈qs,RB w x.v x.bytes/\(-9223372036854775808<=x.base/\x.base<=9223372036854775807)/\∀k,x.v.ownBlock=some k->k<w.heap.size/\va.ownBlock≠some k
theorem PartsIn.keep{w w' :Ae3}{va:Ae2}{qs:List Pt}(h:PartsIn w va qs)(k:Ext w w'):PartsIn w' va qs:=fun x hx=>
 ⟨(h x hx).1.keep k,(h x hx).2.1,fun j hj=>⟨AfZ ((h x hx).2.2 j hj).1 k.size,((h x hx).2.2 j hj).2⟩⟩
theorem PartsIn.nil(w:Ae3)(va:Ae2):PartsIn w va []:=fun x hx=>by cases hx
theorem AcN{w:Ae3}{va:Ae2}{qs:List Pt}(h:PartsIn w va qs){x:Pt}(h1:RB w x.v x.bytes)(h2: -9223372036854775808<=x.base/\x.base<=9223372036854775807)(h3:∀k,x.v.ownBlock=some k->k<w.heap.size/\va.ownBlock≠some k):PartsIn w va (qs++ [x]):=fun y hy=>by
 rcases Afy.1 hy with hy | hy
 ·exact h y hy
 ·rw[Afh.1 hy];exact⟨h1,h2,h3⟩
theorem PartsIn.grew{w w' :Ae3}{va va' :Ae2}{qs:List Pt}(h:PartsIn w va qs)(g:Grew w w' va va'):PartsIn w' va' qs:=fun x hx=>
 ⟨Il (h x hx).1 (fun k hk=>((h x hx).2.2 k hk).2) g,(h x hx).2.1,fun j hj=>⟨AfZ ((h x hx).2.2 j hj).1 g.by_.size,fun e=>(g.fresh j e).elim (fun q=>((h x hx).2.2 j hj).2 q) (fun q=>by have:=((h x hx).2.2 j hj).1;omega)⟩⟩
theorem PartsIn.ok{w:Ae3}{va:Ae2}{qs:List Pt}(h:PartsIn w va qs):Ma w qs:=fun x hx=>⟨(h x hx).1,(h x hx).2.1⟩
theorem Y5{ps:List Pt}{i e:Nat}{s:BS}(h:E6 ps i s = .error e):e≠0:=by
 unfold E6 at h;split at h
 ·cases h;decide
 ·split at h
  ·cases h;decide
  ·split at h
   ·cases h;decide
   ·cases h
theorem XU{ps:List Pt}:∀ {i e:Nat},C7 ps i = .error e->e≠0
 | 0,e,h=>by cases h
 | i+1,e,h=>by
  cases hb:C7 ps i with
  | error a=>rw[FU hb 1]at h;cases h;exact XU hb
  | ok s=>rw[Fc hb]at h;exact Y5 h
theorem Pq{ps:List Pt}{e:Nat}(h:C7 ps ps.length = .error e):A0 ps=([],e):=by unfold A0;rw[h]
theorem Nl{ps:List Pt}{s:BS}(h:C7 ps ps.length = .ok s):(A0 ps).2=0:=by unfold A0;rw[h]
structure AllIn (w : Ae3) (R : List Ae2) (us : List Ae2) (bs : List Bs) : Prop where
 len:us.length=bs.length
 rb:∀i,i<bs.length->RB w (us.getD i undef) (bs.getD i [])
 lt:∀i,i<bs.length->∀k,(us.getD i undef).ownBlock=some k->k<w.heap.size
 off:∀i,i<bs.length->∀k,(us.getD i undef).ownBlock=some k->∀v∈R,v.ownBlock≠some k
theorem AllIn.keep{w w' :Ae3}{R us:List Ae2}{bs:List Bs}(h:AllIn w R us bs)(k:Ext w w'):AllIn w' R us bs:=
 ⟨h.len,fun i hi=>(h.rb i hi).keep k,fun i hi j hj=>AfZ (h.lt i hi j hj) k.size,h.off⟩
theorem AllIn.nil(w:Ae3)(R:List Ae2):AllIn w R [] []:=⟨rfl,fun i hi=>absurd hi (Age _),fun i hi=>absurd hi (Age _),fun i hi=>absurd hi (Age _)⟩
theorem getD_snocV{α:Type}{l:List α}{d x:α}{i:Nat}(hi:i<l.length+1):(l++ [x]).getD i d=if i<l.length then l.getD i d else x:=by
 by_cases h:i<l.length
 ·rw[if_pos h];simp only[Ae6,AfW h]
 ·have:i=l.length:=by omega
  subst this;rw[if_neg h];simp
theorem Acp{w:Ae3}{R us:List Ae2}{bs:List Bs}(h:AllIn w R us bs){v:Ae2}{x:Bs}(hr:RB w v x)(hl:∀k,v.ownBlock=some k->k<w.heap.size/\∀u∈R,u.ownBlock≠some k):AllIn w R (us++ [v]) (bs++ [x]):=by
 have e:=h.len;have key:∀i,i<(bs++ [x]).length->((us++ [v]).getD i undef=us.getD i undef/\(bs++ [x]).getD i []=bs.getD i []/\i<bs.length)\/((us++ [v]).getD i undef=v/\(bs++ [x]).getD i []=x):=fun i hi=>by
  rw[Ae9,Afs]at hi;rw[getD_snocV (by rw[e];exact hi),getD_snocV hi,e];by_cases q:i<bs.length
  ·rw[if_pos q,if_pos q];exact .inl ⟨rfl,rfl,q⟩
  ·rw[if_neg q,if_neg q];exact .inr ⟨rfl,rfl⟩
 refine⟨by simp[e],fun i hi=> ?_,fun i hi=> ?_,fun i hi=> ?_⟩
 ·rcases key i hi with ⟨h1,h2,h3⟩ | ⟨h1,h2⟩
  ·rw[h1,h2];exact h.rb i h3
  ·rw[h1,h2];exact hr
 ·rcases key i hi with ⟨h1,h2,h3⟩ | ⟨h1,h2⟩
  ·rw[h1];exact h.lt i h3
  ·rw[h1];exact fun k hk=>(hl k hk).1
 ·rcases key i hi with ⟨h1,h2,h3⟩ | ⟨h1,h2⟩
  ·rw[h1];exact h.off i h3
  ·rw[h1];exact fun k hk=>(hl k hk).2
theorem AllIn.grew{w w' :Ae3}{R us:List Ae2}{bs:List Bs}{v v' :Ae2}(h:AllIn w (v :: R) us bs)(g:Grew w w' v v'):AllIn w' (v' :: R) us bs:=
 ⟨h.len,fun i hi=>Il (h.rb i hi) (fun k hk=>h.off i hi k hk v AfX) g,fun i hi k hk=>AfZ (h.lt i hi k hk) g.by_.size,fun i hi k hk u hu=>by
  rcases AfT.1 hu with rfl | hu
  ·exact fun e=>(g.fresh k e).elim (fun q=>h.off i hi k hk v AfX q) fun q=>by have:=h.lt i hi k hk;omega
  ·exact h.off i hi k hk u (AfY _ hu)⟩
abbrev AeL:=@AllIn.grew
theorem AllIn.sub{w:Ae3}{R S us:List Ae2}{bs:List Bs}(h:AllIn w R us bs)(hs:∀v∈S,v∈R\/v.ownBlock=none):AllIn w S us bs:=
 ⟨h.len,h.rb,h.lt,fun i hi k hk v hv=>(hs v hv).elim (fun q=>h.off i hi k hk v q) fun q e=>by rw[q]at e;cases e⟩
theorem AllIn.swap{w:Ae3}{u v:Ae2}{us:List Ae2}{bs:List Bs}(h:AllIn w [u,v] us bs):AllIn w [v,u] us bs:=
 h.sub fun x hx=> .inl (by simp only[AfT,AgX,or_false]at hx ⊢;exact hx.symm)
def BE(D:Ad)(L:AQ)(ids:List Bs):List Bs:=ids.map fun id=>(getV D L id).1
def szV(D:Ad)(L:AQ)(ids:List Bs):List Int:=(BE D L ids).map fun b=>((b.length:Nat):Int)
def BR(D:Ad)(L:AQ)(ids:List Bs)(ch:List Int):EP:=planGo ch (szV D L ids) (szV D L ids).length
def AP(D:Ad)(L:AQ)(ids:List Bs)(ch:List Int):List Pt:=((BE D L ids).zip (BR D L ids ch).bases).map fun x=>⟨.slice none 0 0,x.1,x.2⟩
def Es(D:Ad)(L:AQ)(ids:List Bs):Prop:=∃id∈ids,(getV D L id).2≠0
instance (D:Ad) (L:AQ) (ids:List Bs):Decidable (Es D L ids):=List.decidableBEx _ _
def AK(D:Ad)(L:AQ)(ids:List Bs)(ch:List Int):List Bs × Nat:=
 if Es D L ids then([],12)else if ids= []then([],0)else if(A0 (AP D L ids ch)).2=0 then([(A0 (AP D L ids ch)).1],0)else([],(A0 (AP D L ids ch)).2)
theorem KU(ch:List Int){sz:List Int}(h:∀z∈sz,0<=z/\z<=200):∀i,i<=60->(planGo ch sz i).at_=0/\(planGo ch sz i).total<=200*i/\(planGo ch sz i).depths.length=i/\(∀p∈(planGo ch sz i).packs,p=0)/\∀b∈(planGo ch sz i).bases,-1<=b/\b<=60
 | 0,_=>⟨rfl,AfC _,rfl,(fun _ h=>by cases h),fun _ h=>by cases h⟩
 | i+1,hi=>by
  obtain⟨h1,h2,h3,h4,h5⟩:=KU ch h i (by omega);have ht:turnPk (planGo ch sz i)=planGo ch sz i:=QN (by omega) (by omega);have hz:G7 (sz.getD i 0)<=200:=by
   have:sz.getD i 0<=200:=by
    rw[Ae6];cases e:sz[i]? with
    | none=>simp
    | some x=>exact(h x (Agi e)).2
   unfold G7;omega
  rw[JA,ht];have hb:=KO ch i (planGo ch sz i).depths.length;unfold DG JX;split
  ·refine⟨h1,by show _+_<=_;omega,by simp[h3],fun p hp=> ?_,fun b a=> ?_⟩
   ·rcases Afy.1 hp with hp | hp
    ·exact h4 p hp
    ·rw[Afh.1 hp,h1];rfl
   ·rcases Afy.1 a with a | a
    ·exact h5 b a
    ·rw[Afh.1 a];omega
  ·refine⟨h1,by show _+_<=_;omega,by simp[h3],fun p hp=> ?_,fun b a=> ?_⟩
   ·rcases Afy.1 hp with hp | hp
    ·exact h4 p hp
    ·rw[Afh.1 hp,h1];rfl
   ·rcases Afy.1 a with a | a
    ·exact h5 b a
    ·rw[Afh.1 a];omega
def goneV(D:Ad)(M:AQ):List Bs:=(Az D [112,45]).filter (fun s=>(M.lookup s).isNone)++Az D [111,45]
def lastV(D:Ad)(L M:AQ):Ad × AQ × List Bs × Nat:=
 if(dropsD D (goneV D M)).2≠0 then((dropsD D (goneV D M)).1,L,[],(dropsD D (goneV D M)).2)else((dropsD D (goneV D M)).1,M,[],0)
def EZ(L:AQ)(b:Bs)(p:AT)(x:Ad × Bool × Nat):Ad × AQ × List Bs × Nat:=
 if x.2.2=8 then
  (if(dropsD x.1 (if x.2.1=true then [Au b]else [])).2≠0 then((dropsD x.1 (if x.2.1=true then [Au b]else [])).1,L,[],(dropsD x.1 (if x.2.1=true then [Au b]else [])).2)
  else((dropsD x.1 (if x.2.1=true then [Au b]else [])).1,L,[],8))
 else if x.2.2=7 then(x.1,L,[b,(Ar x.1 (Au b)).1],7)
 else if x.2.2≠0 then(x.1,L,[],x.2.2)
 else lastV x.1 L [(Au b,p)]
def LS(D:Ad)(L:AQ)(b:Bs):Ad × AQ × List Bs × Nat:=match BJ b with
 | .ok p=>EZ L b p (AJ D b)
 | .error _=>(D,L,[],0)
def BG(D:Ad)(L:AQ)(o:List Bs)(ch:List Int):Ad × AQ × List Bs × Nat:=
 if(AK D L o ch).2≠0 then(D,L,[],(AK D L o ch).2)else match (AK D L o ch).1 with
  | []=>lastV D L []
  | b :: _=>LS D L b
theorem SA{D:Ad}{L:AQ}{o:List Bs}{ch:List Int}(hL:CB (AP D L o ch))(h0:(AK D L o ch).2=0):(AK D L o ch).1= []\/∃p,(AK D L o ch).1= [(A0 (AP D L o ch)).1]/\BJ (A0 (AP D L o ch)).1 = .ok p:=by
 unfold AK at h0 ⊢;split
 ·exact .inl rfl
 ·split
  ·exact .inl rfl
  ·split
   ·rename_i q
    cases e:C7 (AP D L o ch) (AP D L o ch).length with
    | error x=>
     rw[Pq e]at q;exact absurd q (XU e)
    | ok s=>exact .inr ⟨_,rfl,ID hL e⟩
   ·exact .inl rfl
theorem WL{D:Ad}{L:AQ}{o:List Bs}{ch:List Int}(h:(AK D L o ch).2≠0):BG D L o ch=(D,L,[],(AK D L o ch).2):=if_pos h
theorem Hs{D:Ad}{L:AQ}{o:List Bs}{ch:List Int}(h:¬(AK D L o ch).2≠0)(h1:(AK D L o ch).1= []):BG D L o ch=lastV D L []:=by
 unfold BG;rw[if_neg h,h1]
theorem IE{D:Ad}{L:AQ}{o:List Bs}{ch:List Int}{b:Bs}{p:AT}(h:¬(AK D L o ch).2≠0)(h1:(AK D L o ch).1= [b])(h2:BJ b = .ok p):BG D L o ch=EZ L b p (AJ D b):=by
 unfold BG;rw[if_neg h,h1];show LS D L b=_;unfold LS;rw[h2]
theorem LT{α:Type}{l:List α}{i:Nat}(d:α)(h:i<l.length):l.take (i+1)=l.take i++ [l.getD i d]:=by
 rw[Afv h,Ae6,Afb h];rfl
theorem EO{α:Type}{l:List α}{i:Nat}(d:α)(h:i<l.length):l.getD i d=l[i]:=by
 rw[Ae6,Afb h,Af2]
theorem JC(ch:List Int){sz:List Int}(h:∀z∈sz,0<=z/\z<=200){i:Nat}(hi:i<60):planGo ch sz (i+1)=DG ch i (sz.getD i 0) (planGo ch sz i)/\(planGo ch sz i).depths.length=i:=by
 obtain⟨h1,h2,h3,-,-⟩:=KU ch h i (by omega);rw[JA,QN (by omega) (by omega)];exact⟨rfl,h3⟩
theorem LU(ch:List Int)(i:Nat)(z:Int)(s:EP):∃b d:Int,(DG ch i z s).bases=s.bases++ [b]/\(DG ch i z s).depths=s.depths++ [d] /\ -1<=b/\b<s.depths.length/\d<=50/\d=(if 0<=b then s.depths.getD b.toNat 0+1 else 0):=by
 have hb:=KO ch i s.depths.length;unfold DG JX;split
 ·exact⟨-1,0,rfl,rfl,by omega,by omega,by omega,(if_neg (by decide)).symm⟩
 ·rename_i q
  exact⟨_,_,rfl,rfl,hb.1,hb.2,by omega,rfl⟩
theorem Nn(ch:List Int){sz:List Int}(hz:∀z∈sz,0<=z/\z<=200){i:Nat}:∀ {n:Nat},n<=60->i<n->(planGo ch sz n).bases.getD i 0=(planGo ch sz (i+1)).bases.getD i 0
 | 0,_,h=>absurd h (Age _)
 | n+1,hn,h=>by
  by_cases q:i=n
  ·rw[q]
  ·obtain⟨p1,-⟩:=JC ch hz (i:=n) (by omega);obtain⟨b,d,q1,-⟩:=LU ch n (sz.getD n 0) (planGo ch sz n);have hl:=(EN ch sz n).lb;rw[<-Nn ch hz (n:=n) (by omega) (by omega),p1,q1,Ae6,AfW (by omega),<-Ae6]
theorem KV{ps:List Pt}{ch sz:List Int}{ids:List Bs}(hz:∀z∈sz,0<=z/\z<=200)(h60:ids.length<=60)(hb:∀i,i<ids.length->(ps.getD i AD).base=(planGo ch sz ids.length).bases.getD i 0)(hs:∀i,i<ids.length->Sha.sum (ps.getD i AD).bytes=ids.getD i [])(hn:ids.Nodup):
  ∀i,i<=ids.length->∃s,C7 ps i = .ok s/\s.depths.map (fun d=>((d:Nat):Int))=(planGo ch sz i).depths/\s.ids=ids.take i
 | 0,_=>⟨_,rfl,rfl,rfl⟩
 | i+1,hi=>by
  obtain⟨s,e,hd,hids⟩:=KV hz h60 hb hs hn i (by omega);obtain⟨b,d,q1,q2,q3,q4,q5,q6⟩:=LU ch i (sz.getD i 0) (planGo ch sz i);obtain⟨p1,p2⟩:=JC ch hz (i:=i) (by omega);rw[p2]at q4;have hbase:(ps.getD i AD).base=b:=by
   have hl:=(EN ch sz i).lb;rw[hb i (by omega),Nn ch hz h60 (by omega),p1,q1,Ae6,AfR (by omega),hl,AgR];rfl
  have hlen:s.depths.length=i:=by
   have:=congrArg Aip hd;rw[Afu,p2]at this;exact this
  have hdep:((DC (ps.getD i AD) s:Nat):Int)=d:=by
   unfold DC;rw[hbase,q6];by_cases q:b<0
   ·rw[if_pos q,if_neg (by omega)];rfl
   ·rw[if_neg q,if_pos (by omega),<-hd];have hlt:b.toNat<s.depths.length:=by omega
    have a:b.toNat<(s.depths.map fun d=>((d:Nat):Int)).length:=by rw[Afu];exact hlt
    rw[EO _ hlt,EO _ a,AiG];rfl
  have hni:Sha.sum (ps.getD i AD).bytes∉s.ids:=by
   rw[hs i (by omega),hids];intro hm;obtain⟨k,hk,he⟩:=Agz hm;rw[Afi]at hk;rw[Aiu,EO _ (show i<ids.length by omega)]at he;exact Agx.1 (List.nodup_iff_pairwise_ne.1 hn) k i (by omega) (by omega) (by omega) he
  refine⟨bnext ps (ps.getD i AD) s,?_,?_,?_⟩
  ·rw[Fc e];unfold E6;rw[if_neg (by rw[hbase];omega),if_neg hni,if_neg (by omega)]
  ·show(s.depths++ [DC _ s]).map _=_;rw[AgC,hd,p1,q2,List.map_singleton,hdep]
  ·show s.ids++ [Sha.sum _]=_;rw[hids,hs i (by omega),LT ([]:Bs) (show i<ids.length by omega)]
section
variable {D : Ad} {L : AQ} {o : List Bs} {ch : List Int}
def GF(D:Ad)(L:AQ)(o:List Bs):Prop:=∀id∈o,(getV D L id).2=0/\(getV D L id).1.length<=200/\Sha.sum (getV D L id).1=id
theorem szK(h:GF D L o):∀z∈szV D L o,0<=z/\z<=200:=fun z hz=>by
 unfold szV BE at hz;rw[Ah4]at hz;obtain⟨id,hid,rfl⟩:=AfO.1 hz;have:=(h id hid).2.1;show(0:Int)<=(((getV D L id).1.length:Nat):Int)/\(((getV D L id).1.length:Nat):Int)<=200;omega
theorem Gi(h60:o.length<=60){i:Nat}(hi:i<o.length):((AP D L o ch).getD i AD).base=(planGo ch (szV D L o) o.length).bases.getD i 0/\((AP D L o ch).getD i AD).bytes=(getV D L (o.getD i [])).1:=by
 have hl:(szV D L o).length=o.length:=by unfold szV BE;rw[Afu,Afu]
 have h2:i<(BR D L o ch).bases.length:=by unfold BR;rw[(EN ch (szV D L o) _).lb,hl];exact hi
 have h1:i<(BE D L o).length:=by unfold BE;rw[Afu];exact hi
 have e:(AP D L o ch).getD i AD=⟨.slice none 0 0,(BE D L o)[i],(BR D L o ch).bases[i]⟩:=by
  unfold AP;rw[Ae6,Agw,(AiV (z:=((BE D L o)[i],(BR D L o ch).bases[i]))).2 ⟨Afb h1,Afb h2⟩];rfl
 rw[e];refine⟨?_,?_⟩
 ·show(BR D L o ch).bases[i]=_;rw[<-EO 0 h2];unfold BR;rw[hl]
 ·have a:(BE D L o)[i]=(getV D L o[i]).1:=AiG ..;show(BE D L o)[i]=_;rw[a,EO _ hi]
theorem partsK_len:(AP D L o ch).length=o.length:=by
 have hl:(szV D L o).length=o.length:=by unfold szV BE;rw[Afu,Afu]
 have h2:(BR D L o ch).bases.length=o.length:=by unfold BR;rw[(EN ch (szV D L o) _).lb,hl]
 unfold AP;rw[Afu,List.length_zip,h2];unfold BE;rw[Afu,Nat.min_self]
theorem FM(h:GF D L o)(h60:o.length<=60):CB (AP D L o ch):=by
 refine⟨by rw[partsK_len];exact h60,fun p hp=> ?_⟩;unfold AP at hp;obtain⟨x,hx,rfl⟩:=AfO.1 hp;have h1:=(List.of_mem_zip hx).1;unfold BE at h1;obtain⟨id,hid,h2⟩:=AfO.1 h1;show x.1.length<=200;rw[<-h2];exact(h id hid).2.1
theorem GG(h:GF D L o):¬Es D L o:=fun⟨id,hid,q⟩=>q (h id hid).1
theorem No{ps:List Pt}(hL:CB ps){s:BS}(h:C7 ps ps.length = .ok s):(A0 ps).1.length<=40000:=by
 have hk:=Jk hL ps.length s (Ae8 _) h;have h1:=hk.b;have h2:=HC hk s.b.length;have h3:=hL.1;have e:(A0 ps).1=s.b++CC s s.b.length++Sha.sum (s.b++CC s s.b.length):=by unfold A0;rw[h]
 rw[e,Ae9,Ae9,Sha.sum_length,h2];omega
theorem Np(h:GF D L o)(h60:o.length<=60)(hn:o.Nodup)(hne:o≠ []):∃b p,AK D L o ch=([b],0)/\BJ b = .ok p/\b.length<=40000/\(∀id,id∈p.1↔id∈o)/\(∀id∈o,∃d,p.2 id=some ((getV D L id).1,d))/\∀id,id∉o->p.2 id=none:=by
 have hsz:=szK h;obtain⟨s,e,-,hids⟩:=KV (ps:=AP D L o ch) (ch:=ch) hsz h60 (fun i hi=>(Gi h60 hi).1) (fun i hi=>by rw[(Gi h60 hi).2];exact(h _ (getD_mem _ hi)).2.2) hn o.length (Ae8 _);rw[Af8]at hids;have hL:=FM (ch:=ch) h h60;have a:C7 (AP D L o ch) (AP D L o ch).length = .ok s:=by rw[partsK_len];exact e
 have hop:=ID hL a;obtain⟨es,I⟩:=Mr hL (AP D L o ch).length s (Ae8 _) a;refine⟨(A0 (AP D L o ch)).1,(AR s.ids,Po (AP D L o ch) s),?_,hop,No hL a,fun id=>by rw[<-hids];exact FY,fun id hid=> ?_,fun id hid=> ?_⟩
 ·unfold AK;rw[if_neg (GG h),if_neg hne,if_pos (Nl a)]
 ·obtain⟨j,hj,ej⟩:=Agz hid;have hjp:j<(AP D L o ch).length:=by rw[partsK_len];exact hj
  have h1:=I.obj hL rfl hjp;have c:s.ids.getD j []=id:=by rw[hids,EO _ hj,ej]
  rw[c,(Gi h60 hj).2,EO _ hj,ej]at h1;exact⟨_,h1⟩
 ·rw[<-hids]at hid;exact C8 _ _ _ hid
end
theorem HF:∀(l r:AlJ) (k:Nat) (x:Nat × Nat),AX k l=some x->AX k (l++r)=some x
 | [],r,k,x,h=>by simp[AX]at h
 | c :: l,r,k,x,h=>by
  rw[Af4];unfold AX at h ⊢;split at h
  ·rename_i q
   rw[if_pos q];split at h
   ·cases h
   ·rename_i q2
    rw[if_neg q2];cases e:AX (k+1) l with
    | none=>rw[e]at h;cases h
    | some y=>rw[e]at h;rw[HF l r (k+1) y e];exact h
  ·rename_i q
   rw[if_neg q];exact h
theorem LV{b c:Bs}{a f g n:Nat}{s:Bs}{Z:Bs}(hX:c.take g=b.take f++Z)(h:BQ b a f=some (s,n)):BQ c a g=some (s,n):=by
 unfold BQ at h ⊢;rw[hX];cases e:AX 0 ((b.take f).drop a)with
 | none=>rw[e]at h;cases h
 | some x=>
  rw[e]at h;have hp:=Gw _ _ _ e;have ha:a<=(b.take f).length:=by
   have:=hp.2.1;rw[Afn]at this;omega
  rw[AgE ha,HF _ Z 0 x e];simp only at h ⊢;split at h
  ·cases h
  ·rename_i h1
   rw[if_neg h1];split at h
   ·cases h
   ·rename_i h2
    rw[if_neg (by rw[Ae9];omega),<-h]
    congr 2
    rw[AgE (by omega),AgS (by rw[Afn];omega)]
theorem Nq{b:Bs}{f i:Nat}(h:i<f):(b.take f).getD i 0=b.getD i 0:=by
 rw[Ae6,List.getElem?_take_of_lt h,<-Ae6]
theorem Qd{b c:Bs}{f g pos:Nat}{Z:Bs}(hf:f<=b.length)(hg:g<=c.length)(hX:c.take g=b.take f++Z){y:Ent × Nat}(h:entOne b f pos=some y):entOne c g pos=some y:=by
 have hfg:f<=g:=by
  have:=congrArg Aip hX;rw[Ae9,Afi,Afi]at this;omega
 unfold entOne at h ⊢;split at h
 ·rename_i q
  have hb:c.getD pos 0=b.getD pos 0:=by
   rw[<-Nq (show pos<g by omega),hX,Ae6,AfW (by rw[Afi];omega),<-Ae6,Nq q.1]
  rw[hb,if_pos ⟨by omega,q.2⟩];split at h
  ·rename_i q1
   rw[if_pos q1];split at h
   ·cases h
   ·rename_i q2
    rw[if_neg (by omega)];cases e:BQ b (pos+33) f with
    | none=>rw[e]at h;cases h
    | some x=>
     rw[e]at h;rw[LV (s:=x.1) (n:=x.2) hX e,hX,AgE (by rw[Afi];omega),AgS (by rw[Afn,Afi];omega)];exact h
  ·rename_i q1
   rw[if_neg q1];cases e:BQ b (pos+1) f with
   | none=>rw[e]at h;cases h
   | some x=>
    rw[e]at h;rw[LV (s:=x.1) (n:=x.2) hX e];exact h
 ·cases h
theorem IF{b c:Bs}{f g first:Nat}{Z:Bs}(hf:f<=b.length)(hg:g<=c.length)(hX:c.take g=b.take f++Z):∀(i:Nat) {y:List Ent × Nat},CF b f first i=some y->CF c g first i=some y
 | 0,y,h=>h
 | i+1,y,h=>by
  cases e:CF b f first i with
  | none=>
   have h' :(CF b f first i).bind _=some y:=h;rw[e]at h';cases h'
  | some x=>
   obtain⟨es,p⟩:=x;rw[Fz e]at h;rw[Fz (IF hf hg hX i e)];cases a:entOne b f p with
   | none=>rw[a]at h;cases h
   | some z=>rw[a]at h;rw[Qd hf hg hX a];exact h
theorem LW{b:Bs}{p:AT}(h:BJ b = .ok p):∃n k f es,AX 0 (b.drop 1)=some (n,k)/\f<=b.length/\b.length=f+1024+36*n+36/\CF b f (1+k) n=some (es,f):=by
 unfold BJ at h;split at h
 ·cases h
 split at h
 ·cases h
 rename_i h36
 split at h
 ·unfold CG at h;cases e:AX 0 (b.drop 1)with
  | none=>rw[e]at h;cases h
  | some x=>
   rw[e]at h;simp only at h;unfold Iq at h;split at h
   ·rename_i q
    split at h
    ·rename_i q2
     unfold Hm at h;cases a:Cj b x.1 (1+x.2) (DN (b.drop (b.length-36)))with
     | none=>rw[a]at h;cases h
     | some es=>
      unfold Cj at a;cases c:CF b (DN (b.drop (b.length-36))) (1+x.2) x.1 with
      | none=>rw[c]at a;cases a
      | some y=>
       rw[c]at a;obtain⟨es2,p2⟩:=y;have g:(if p2=DN (b.drop (b.length-36))then some es2 else none)=some es:=a;split at g
       ·rename_i q3
        exact⟨x.1,x.2,DN (b.drop (b.length-36)),es2,rfl,by omega,by omega,by rw[q3]at c;exact c⟩
       ·cases g
    ·cases h
   ·cases h
 ·cases h
theorem Qe{a r:Bs}{p q:AT}(h:BJ a = .ok p)(h2:BJ (a++r) = .ok q):r= []:=by
 obtain⟨n,k,f,es,e,b,g,c⟩:=LW h;obtain⟨n',k',f',es',d1,d2,d3,d4⟩:=LW h2;have hd:(a++r).drop 1=a.drop 1++r:=AgE (by omega);rw[hd,HF _ r 0 _ e]at d1;cases d1;have key:f=f' :=by
  rcases Nat.le_total f f' with hle | hle
  ·have hX:(a++r).take f' =a.take f++(((a++r).take f').drop f):=by
    have:=(AgL f ((a++r).take f')).symm;rw[List.take_take,Ahd hle,AgS b]at this;exact this
   have:=IF b d2 hX n c;rw[this]at d4;cases d4;rfl
  ·have hX:a.take f=(a++r).take f' ++((a.take f).drop f'):=by
    have:=(AgL f' (a.take f)).symm;rw[List.take_take,Ahd hle]at this;rw[AgS (by omega)];exact this
   have:=IF d2 b hX n d4;rw[this]at c;cases c;rfl
 rw[Ae9]at d3;exact AfN (by omega)
theorem Ad2{wb w w' :Ae3}{g:Nat}{H:Dk}{D:Ad}(h:DkG wb w g H D)(hc:Chg (B7 H D.files.length) w w'){α:Type}{b k:Nat}{t:Afa}{enc:α->List Ae2}{v:Ae2}{l:List α}(hr:OG b t k enc w v l)(h1:t≠107)(h2:t≠133)(h3:t≠5)(h4:t≠131):OG b t k enc w' v l:=by
 refine⟨hr.1,Dl hc hr.2 fun i hi q=> ?_⟩;have ht:=EM hr.2 hi;rcases(h.st.foot q).1 with ⟨es,c,e⟩ | ⟨cs,t',fr,e,ht'⟩
 ·unfold CR at ht;rw[e]at ht;cases ht
 ·have:=BB e;rw[this]at ht;have ht:t' =t:=by simpa using ht
  subst ht;rcases ht' with q | q | q | q
  ·exact h1 q
  ·exact h2 q
  ·exact h3 q
  ·exact h4 q
theorem GK{D:Ad}{s:AlJ}{k:Nat}(hd:D.down=false)(hm:Bg s=true)(h:Ao D.now s=some k):Ar D s=((AG D k).1,0):=by
 have h0:CP D s s=0:=by
  unfold CP;rw[if_neg (by rw[hd];decide),if_pos ⟨hm,hm⟩]
 unfold Ar FD;rw[if_neg (by rw[h0];exact fun q=>q rfl),h]
structure VtK (wb w : Ae3) (n g gv : Nat) (H : Dk) (D : Ad) (w' : Ae3) (H' : Dk) (D' : Ad) (L' : AQ) : Prop where
 dk:DkG wb w' g H' D'
 v:∃bm ptr,VtAt n (Cl H' D') w' gv g bm L' ptr
 chg:Chg (fun k=>B7 H D.files.length k\/k=gv/\n<=gv) w w'
 foot:∀i,B7 H' D'.files.length i->B7 H D.files.length i\/w.heap.size<=i
theorem Chg.monoV{B C:Nat->Prop}{w w' :Ae3}(h:Chg B w w')(hB:∀k,B k->C k):Chg C w w' :=⟨h.os,h.tape,h.output,h.size,fun k hk hn=>h.blk k hk fun q=>hn (hB k q)⟩
theorem AbS{wb w w' :Ae3}{n g gv bm:Nat}{H H' :Dk}{D D' :Ad}{L:AQ}{ptr:Bs->Nat}(h:VtAt n (Cl H D) w gv g bm L ptr)(hW:DkW wb w g H D w' H' D'):VtK wb w n g gv H D w' H' D' L:=
 ⟨hW.g,⟨bm,ptr,h.step hW⟩,hW.chg.monoV fun k q=> .inl q,hW.foot⟩
theorem ZX{s:EP}(h:(decide (1024<=s.depths.length)||decide (131072<=s.total))=true):⟨s.at_+1,0,[],s.packs,s.bases⟩=turnPk s:=(if_pos h).symm
theorem ZY{s:EP}(h:(decide (1024<=s.depths.length)||decide (131072<=s.total))=false):s=turnPk s:=(if_neg (by unfold LL;rw[h];decide)).symm
theorem Y6{s:EP}{b:Int}{n:Nat}(h:b=((n:Nat):Int)):Mm s b=s.depths.getD (n) 0+1:=by
 subst h;exact if_pos (Int.natCast_nonneg _)
theorem Y7(t:Afa)(x:Int)(m:Nat)(y:Int)(hy:y=AgZ x ((m+1:Nat):Int)+m+1):Go.binOp .rem t (.int .i64 y) (NI (m+1))=pure (.int .i64 (AgO x ((m+1:Nat):Int))):=by
 have h:=LI t y ((m+1:Nat):Int) (by omega);rw[hy,Ux]at h;rw[hy];exact h
theorem Y8(x:Int)(m:Nat):0<=AgO x ((m+1:Nat):Int)/\AgO x ((m+1:Nat):Int)<=m:=by
 have h1:0<=AgO x ((m+1:Nat):Int):=Int.emod_nonneg _ (by omega);have h2:AgO x ((m+1:Nat):Int)<((m+1:Nat):Int):=Int.emod_lt_of_pos _ (by omega);omega
theorem AdX{P:Program}{K:Ae2->Ae3->Prop}{ρ:Ae}{w:Ae3}{d:Option Tmp}{ty:Afa}{pos:String}{af:Array Edge}{gd:Option (Nat × Bool)}{t1 t2:Afa}{x y:Operand}{n m:Nat}(hx:Aa ρ x=NI n)(hy:Aa ρ y=NI m)(hk:K (NI (min n m)) w):Yk P K ((execOp (Aa ρ) ⟨d, .call ⟨.builtin .min,#[x,y],#[t1,t2]⟩,ty,pos,af,gd⟩).run P w):=by
 refine Aea (v:=NI (min n m)) (w' :=w) ?_ hk;have he:(if((m:Nat):Int)<((n:Nat):Int)then((m:Nat):Int)else((n:Nat):Int))=((min n m:Nat):Int):=by split <;> omega
 have hr:=run_min_int2 (P:=P) w #[t1,t2] ty .i64 .i64 n m;rw[he]at hr;unfold execOp;simp only[resolve,invoke,builtin,Sem.run_bind,Sem.run_pure,Result.andThen_ok,List.map_toArray,AfG,List.map_nil,hx,hy,hr]
theorem va5_ig3:∃z,(Tryz.prog.info? 3).map (fun i=>(i.zero,i.size,i.bytes))=some (some z,1,8)/\z.cells.size=1:=FS (by kernel_rfl)
theorem WM(w:Ae3)(vz vc:Ae2)(sz ch:List Int)(hz:RG 1 BY w vz sz)(hc:RG 1 BY w vc ch)(hzl:sz.length<=100000)(hcl:ch.length<=1099511627776):
  Calls Ae5 9 #[vz,vc] w fun e w' =>∃va vb,e = .returned (.tuple #[va,vb])/\OG w.heap.size 3 1 BY w' va (planGo ch sz sz.length).packs/\OG w.heap.size 3 1 BY w' vb (planGo ch sz sz.length).bases/\Ext w w' :=by
 refine Qq (args:= [vz,vc]) Tryz.func9 rfl 83 rfl rfl ?_;have hE:=Ad4 w;have hw_:=hE.size;refine AgN (⟨_,rfl⟩:∃v:Ae2,(Afc none 0 0)=v) fun nv4 hnv4=> ?_;have hrow4:OG w.heap.size 3 1 BY w nv4 ([]:List Int):=hnv4▸Aem _ _ _ _ _;refine AgN (⟨_,rfl⟩:∃v:Ae2,(Afc none 0 0)=v) fun nv5 hnv5=> ?_;have hrow5:OG w.heap.size 3 1 BY w nv5 ([]:List Int):=hnv5▸Aem _ _ _ _ _;have a9:Ai nv5 nv4:=fun k h=>by rw[<-hnv5]at h;cases h
 have ba:Ai nv4 nv5:=fun k _ h=>by rw[<-hnv5]at h;cases h
 refine AgN (⟨_,rfl⟩:∃v:Ae2,(Afc none 0 0)=v) fun nv8 hnv8=> ?_;have hrow8:OG w.heap.size 3 1 BY w nv8 ([]:List Int):=hnv8▸Aem _ _ _ _ _;have bc:Ai nv8 nv4:=fun k h=>by rw[<-hnv8]at h;cases h
 have bd:Ai nv4 nv8:=fun k _ h=>by rw[<-hnv8]at h;cases h
 have be:Ai nv8 nv5:=fun k h=>by rw[<-hnv8]at h;cases h
 have bf:Ai nv5 nv8:=fun k _ h=>by rw[<-hnv8]at h;cases h
 refine gS (AaW ML (AaD (hz.keep hE) rfl) (gL (fun(ρ:Ae) (wz:Ae3)=>∃i:Nat,∃s:EP,∃r4:Ae2,∃r5:Ae2,∃r8:Ae2,ρ 0=(vz:Ae2)/\ρ 1=(vc:Ae2)/\ρ 15=(vz:Ae2)/\ρ 16=(NI sz.length:Ae2)/\ρ 17=(NI i:Ae2)/\ρ 6=(NI s.at_:Ae2)/\ρ 7=(NI s.total:Ae2)/\ρ 4=(r4:Ae2)/\ρ 5=(r5:Ae2)/\ρ 8=(r8:Ae2)/\Ext w wz/\OG w.heap.size 3 1 (BY) wz r4 (s.packs)/\OG w.heap.size 3 1 (BY) wz r5 (s.bases)/\OG w.heap.size 3 1 (BY) wz r8 (s.depths)/\(i<=sz.length)/\(s=planGo ch sz i)/\(Ai r4 r5)/\(Ai r4 r8)/\(Ai r5 r4)/\(Ai r5 r8)/\(Ai r8 r4)/\(Ai r8 r5)/\True) (fun ρ _=>sz.length-(intOf (ρ 17)).toNat) ⟨0,(planGo ch sz 0),nv4,nv5,nv8,rfl,rfl,rfl,rfl,rfl,rfl,rfl,((show _=(Afc none 0 0)from rfl).trans hnv4),((show _=(Afc none 0 0)from rfl).trans hnv5),((show _=(Afc none 0 0)from rfl).trans hnv8),hE,Bd hrow4 (rfl),Bd hrow5 (rfl),Bd hrow8 (rfl),AfC _,rfl,ba,bd,a9,bf,bc,be,trivial⟩ ?_));clear hrow4;clear hrow5;clear hrow8;clear hE;rintro bg bh ⟨i,s,r4,r5,r8,t,g,p,q,f,r,x,l,o,j,hE,hr_r4,hr_r5,hr_r8,hil,hs,hap_r4_r5,hap_r4_r8,hap_r5_r4,hap_r5_r8,hap_r8_r4,hap_r8_r5,-⟩;have q17:=f;refine gS (Aay (a:=(i:Nat)) (b:=(sz.length:Nat)) f q (AE _ _ _ _) ?_);refine cD rfl (fun aq=> ?_) fun aq=> ?_
 ·have hlt:i<sz.length:=aq;have hok:=EN ch sz i;rw[<-hs]at hok;have bi:=hok.lp;have bj:=hok.lb;have b8:=hok.ld;have b9:=hok.at_;have ca:=hok.tot;have cb:(BY (sz.getD (i) (0:Int))).length=1:=(Aec (hz.keep hE) (0:Int) (hlt));refine gS (AaZ ML HT (by decide) (0:Int) (AaD (hz.keep hE) p) f (hlt) fun cc av=>(gS (AaY Vx rfl (Aef (Aa6 av rfl) rfl) ?_)));clear av;refine gJ (fun ρ wz=>∃x8:Ae2,∃s1:EP,ρ 0=(vz:Ae2)/\ρ 1=(vc:Ae2)/\ρ 4=(r4:Ae2)/\ρ 5=(r5:Ae2)/\ρ 9=(NI i:Ae2)/\ρ 10=(.int .i64 (sz.getD (i) (0:Int):Int):Ae2)/\ρ 15=(vz:Ae2)/\ρ 16=(NI sz.length:Ae2)/\ρ 17=(NI i:Ae2)/\ρ 8=(x8:Ae2)/\ρ 6=(NI s1.at_:Ae2)/\ρ 7=(NI s1.total:Ae2)/\Ext w wz/\OG w.heap.size 3 1 (BY) wz r4 (s.packs)/\OG w.heap.size 3 1 (BY) wz r5 (s.bases)/\OG w.heap.size 3 1 BY wz x8 s1.depths/\(s1=turnPk s)/\(Ai x8 r4)/\(Ai x8 r5)/\(Ai r4 x8)/\(Ai r5 x8)/\True) 1 rfl ?_ fun hJK21=> ?_
  ·clear hE hr_r4 hr_r5;rintro cd ce ⟨x8,s1,t,g,l,o,T9,ab,p,q,f,j,r,x,hE,hr_r4,hr_r5,c,aw,ha84,ha85,ha48,ha58,-⟩;have hok1:=M6 hok;rw[<-aw]at hok1;have hj1:=hok1.2.1;have hj2:=hok1.2.2.1;have hj3:s1.at_<=i+1:=hok1.1.at_;have hj4:s1.packs=s.packs:=hok1.2.2.2.1;have hj5:s1.bases=s.bases:=hok1.2.2.2.2;have hj7:s1.packs.length=i:=by rw[hj4];exact bi
   have hj8:s1.bases.length=i:=by rw[hj5];exact bj
   have hj6:∀d∈s1.depths,0<=d/\d<=50:=hok1.1.dp;refine gS (AaW ML (AaD (AaR c) j) ?_);refine gJ (fun ρ wz=>∃bz:Int,ρ 0=(vz:Ae2)/\ρ 1=(vc:Ae2)/\ρ 4=(r4:Ae2)/\ρ 5=(r5:Ae2)/\ρ 6=(NI s1.at_:Ae2)/\ρ 7=(NI s1.total:Ae2)/\ρ 8=(x8:Ae2)/\ρ 9=(NI i:Ae2)/\ρ 10=(.int .i64 (sz.getD (i) (0:Int):Int):Ae2)/\ρ 11=(NI ((s1.depths).length):Ae2)/\ρ 15=(vz:Ae2)/\ρ 16=(NI sz.length:Ae2)/\ρ 17=(NI i:Ae2)/\ρ 12=(.int .i64 (bz:Int):Ae2)/\Ext w wz/\OG w.heap.size 3 1 (BY) wz r4 (s.packs)/\OG w.heap.size 3 1 (BY) wz r5 (s.bases)/\OG w.heap.size 3 1 BY wz x8 s1.depths/\(GE ch i s1.depths.length=bz)/\True) 1 rfl ?_ fun hJK27=> ?_
   ·clear hE hr_r4 hr_r5 c;rintro cf cg ⟨bz,t,g,l,o,r,x,j,T9,ab,ai,p,q,f,ad,hE,hr_r4,hr_r5,c,hbz,-⟩;have hbl:=KO ch i s1.depths.length;rw[hbz]at hbl;refine gJ (fun ρ wz=>∃d0:Int,ρ 0=(vz:Ae2)/\ρ 1=(vc:Ae2)/\ρ 4=(r4:Ae2)/\ρ 5=(r5:Ae2)/\ρ 6=(NI s1.at_:Ae2)/\ρ 7=(NI s1.total:Ae2)/\ρ 8=(x8:Ae2)/\ρ 9=(NI i:Ae2)/\ρ 10=(.int .i64 (sz.getD (i) (0:Int):Int):Ae2)/\ρ 11=(NI ((s1.depths).length):Ae2)/\ρ 12=(.int .i64 (bz:Int):Ae2)/\ρ 15=(vz:Ae2)/\ρ 16=(NI sz.length:Ae2)/\ρ 17=(NI i:Ae2)/\ρ 14=(.int .i64 (d0:Int):Ae2)/\Ext w wz/\OG w.heap.size 3 1 (BY) wz r4 (s.packs)/\OG w.heap.size 3 1 (BY) wz r5 (s.bases)/\OG w.heap.size 3 1 BY wz x8 s1.depths/\(Mm s1 bz=d0)/\True) 1 rfl ?_ fun hJK32=> ?_
    ·clear hE hr_r4 hr_r5 c;rintro ci cj ⟨d0,t,g,l,o,r,x,j,T9,ab,ai,ad,p,q,f,am,hE,hr_r4,hr_r5,c,hd0,-⟩;refine gJ (fun ρ wz=>∃bb:Int,∃dd:Int,ρ 0=(vz:Ae2)/\ρ 1=(vc:Ae2)/\ρ 4=(r4:Ae2)/\ρ 5=(r5:Ae2)/\ρ 6=(NI s1.at_:Ae2)/\ρ 7=(NI s1.total:Ae2)/\ρ 8=(x8:Ae2)/\ρ 9=(NI i:Ae2)/\ρ 10=(.int .i64 (sz.getD (i) (0:Int):Int):Ae2)/\ρ 11=(NI ((s1.depths).length):Ae2)/\ρ 15=(vz:Ae2)/\ρ 16=(NI sz.length:Ae2)/\ρ 17=(NI i:Ae2)/\ρ 12=(.int .i64 (bb:Int):Ae2)/\ρ 14=(.int .i64 (dd:Int):Ae2)/\Ext w wz/\OG w.heap.size 3 1 (BY) wz r4 (s.packs)/\OG w.heap.size 3 1 (BY) wz r5 (s.bases)/\OG w.heap.size 3 1 BY wz x8 s1.depths/\(DG ch i (sz.getD i 0) s1=⟨s1.at_,s1.total+G7 (sz.getD i 0),s1.depths++ [dd],s1.packs++ [(s1.at_:Int)],s1.bases++ [bb]⟩)/\True) 1 rfl ?_ fun hJK36=> ?_
     ·clear hE hr_r4 hr_r5 c;rintro ck cl ⟨bb,dd,t,g,l,o,r,x,j,T9,ab,ai,p,q,f,ad,am,hE,hr_r4,hr_r5,c,hst,-⟩;refine gS (Abh (a:=s1.at_) (enc:=BY) r rfl (fun w=>Rv _ w) fun bk bm ax an=> ?_);have hE:=hE.trans an;have hr_r4:=hr_r4.keep an;refine gS (Aa2 _ _ w.heap.size _ 8 ML va5_ig3.choose_spec.1 va5_ig3.choose_spec.2 ML (s.packs) ([s1.at_]) (Aen hr_r4 l) (AaD ax (vr bk rfl)) (fun y hy u hu=>by rw[Afh.1 hu];rfl) (by simp only[Afs];omega) (by simp only[Afs];omega) hE.size fun ac bo z af=> ?_);have af:Grew bm bo r4 ac:= .eqv l af;have hr_r5:=hr_r5.keep an;have bp:Ai ac r5:=AM af hap_r4_r5 hr_r5.2;have ay:Ai r5 ac:=fun k h1 h2=>bp k h2 h1;have c:=c.keep an;have bq:Ai ac x8:=AM af ha48 c.2;have az:Ai x8 ac:=fun k h1 h2=>bq k h2 h1;have hE:=As hE af hr_r4.2 (Ae8 _);have hr_r5:=Bi hr_r5 af hap_r4_r5;have c:=Bi c af ha48;clear ax;clear hr_r4;refine gS (Abh (a:=bb) (enc:=BY) ad rfl (fun w=>Rv _ w) fun br bs a0 ao=> ?_);have hE:=hE.trans ao;have hr_r5:=hr_r5.keep ao;refine gS (Aa2 _ _ w.heap.size _ 8 ML va5_ig3.choose_spec.1 va5_ig3.choose_spec.2 ML (s.bases) ([bb]) (Aen hr_r5 o) (AaD a0 (vr br rfl)) (fun y hy u hu=>by rw[Afh.1 hu];rfl) (by simp only[Afs];omega) (by simp only[Afs];omega) hE.size fun ae bt aj ag=> ?_);have ag:Grew bs bt r5 ae:= .eqv o ag;have c:=c.keep ao;have bu:Ai ae x8:=AM ag ha58 c.2;have a1:Ai x8 ae:=fun k h1 h2=>bu k h2 h1;have z:=z.keep ao;have a2:Ai ae ac:=AM ag ay z.2;have bv:Ai ac ae:=fun k h1 h2=>a2 k h2 h1;have hE:=As hE ag hr_r5.2 (Ae8 _);have c:=Bi c ag ha58;have z:=Bi z ag ay;clear a0;clear hr_r5;refine gS (Abh (a:=dd) (enc:=BY) am rfl (fun w=>Rv _ w) fun bw bx a3 ap=> ?_);have hE:=hE.trans ap;have c:=c.keep ap;refine gS (Aa2 _ _ w.heap.size _ 8 ML va5_ig3.choose_spec.1 va5_ig3.choose_spec.2 ML (s1.depths) ([dd]) (Aen c j) (AaD a3 (vr bw rfl)) (fun y hy u hu=>by rw[Afh.1 hu];rfl) (by simp only[Afs];omega) (by simp only[Afs];omega) hE.size fun ak b0 b1 ah=> ?_);have ah:Grew bx b0 x8 ak:= .eqv j ah;have z:=z.keep ap;have a4:Ai ak ac:=AM ah az z.2;have b2:Ai ac ak:=fun k h1 h2=>a4 k h2 h1;have aj:=aj.keep ap;have a5:Ai ak ae:=AM ah a1 aj.2;have b3:Ai ae ak:=fun k h1 h2=>a5 k h2 h1;have hE:=As hE ah c.2 (Ae8 _);have z:=Bi z ah az;have aj:=Bi aj ah a1;clear a3;clear c;refine gS (Ac1 ab rfl (gS (AdX (n:=(sz.getD i 0).toNat) (m:=131072) rfl rfl (gS (Aaz (xv:=NI s1.total) (yv:=NI (G7 (sz.getD i 0))) x rfl rfl (Ah _ _ _ (by have:=QL (sz.getD i 0);omega)) (gS (Aaz (xv:=NI i) (yv:=NI 1) f rfl rfl (Ah _ _ _ (by omega)) (gK (AfF ⟨i+1,⟨s1.at_,s1.total+G7 (sz.getD i 0),s1.depths++ [dd],s1.packs++ [(s1.at_:Int)],s1.bases++ [bb]⟩,ac,ae,ak,t,g,p,q,rfl,r,rfl,rfl,rfl,rfl,hE,Bd z ((congrArg (· ++ [(s1.at_:Int)]) hj4.symm)),Bd aj ((congrArg (· ++ [bb]) hj5.symm)),Bd b1 (rfl),by omega,by rw[JA,<-hs,<-aw,hst],bv,b2,a2,b3,a4,a5,trivial⟩ ?_)))))))));show sz.length-(intOf (NI ((i)+(1)))).toNat<sz.length-(intOf (bg 17)).toNat;rw[q17];simp only[intOf,Afg];omega
     refine gS (Aay am rfl (Ra _ .i64 (d0:Int) ((50:Nat):Int)) ?_);refine cD rfl (fun a6=> ?_) fun a6=> ?_
     ·exact hJK36 _ _ ⟨-1,((0:Nat):Int),t,g,l,o,r,x,j,T9,ab,ai,p,q,f,rfl,rfl,hE,hr_r4,hr_r5,c,Wr hbz hd0 a6,trivial⟩
     exact hJK36 _ _ ⟨bz,d0,t,g,l,o,r,x,j,T9,ab,ai,p,q,f,ad,am,hE,hr_r4,hr_r5,c,Sl hbz hd0 (by omega),trivial⟩
    refine gS (Aay ad rfl (NR _ .i64 (bz:Int) ((0:Nat):Int)) ?_);refine cD rfl (fun ar=> ?_) fun ar=> ?_
    ·refine AgN (Int.eq_ofNat_of_zero_le ar) fun bn hbn=> ?_;have hbl2:bn<s1.depths.length:=by omega
     have hnn:=QM hj6 bn;have cm:(BY ((s1.depths).getD (bn) (0:Int))).length=1:=(Aec (AaR c) (0:Int) (hbl2));refine gS (AaZ ML HT (by decide) (0:Int) (AaD (AaR c) j) (vr (NI bn) (ad.trans (congrArg (Value.int .i64) hbn))) (hbl2) fun cn a7=>(gS (AaY Vx rfl (Aef (Aa6 a7 rfl) rfl) (gS (Aaz (xv:= .int .i64 ((s1.depths).getD (bn) (0:Int))) (yv:= .int .i64 (((1:Nat):Int))) rfl rfl rfl (Jy _ ((s1.depths).getD (bn) (0:Int)) (((1:Nat):Int)) (by omega)) ?_)))));clear a7;exact hJK32 _ _ ⟨(((s1.depths).getD (bn) (0:Int))+(((1:Nat):Int))),t,g,l,o,r,x,j,T9,ab,ai,ad,p,q,f,rfl,hE,hr_r4,hr_r5,c,Y6 hbn,trivial⟩
    exact hJK32 _ _ ⟨((0:Nat):Int),t,g,l,o,r,x,j,T9,ab,ai,ad,p,q,f,rfl,hE,hr_r4,hr_r5,c,if_neg ar,trivial⟩
   refine gS (AaW ML (AaD (hc.keep hE) g) (gS (Aay (a:=(ch.length:Nat)) (b:=(0:Nat)) rfl rfl (Bj _ _ _ _) ?_)));refine cD rfl (fun al=> ?_) fun al=> ?_
   ·have hbd:=Mh (ch.getD ((i)%(ch.length)) 0) s1.depths.length;have hbe:=Y8 (ch.getD ((i)%(ch.length)) 0) s1.depths.length;refine gS (AaW ML (AaD (hc.keep hE) g) (gS (Aaz (xv:=NI i) (yv:=NI ch.length) T9 rfl rfl (HM _ _ _ (by omega)) ?_)));have co:(BY (ch.getD ((i)%(ch.length)) (0:Int))).length=1:=(Aec (hc.keep hE) (0:Int) (Nat.mod_lt _ al));refine gS (AaZ ML HT (by decide) (0:Int) (AaD (hc.keep hE) g) rfl (Nat.mod_lt _ al) fun cp a8=>(gS (AaY Vx rfl (Aef (Aa6 a8 rfl) rfl) (gS (Aaz (xv:=NI ((s1.depths).length)) (yv:=NI 1) rfl rfl rfl (Ah _ _ _ (by omega)) (gS (Aaz (xv:= .int .i64 (ch.getD ((i)%(ch.length)) (0:Int))) (yv:=NI (((s1.depths).length)+(1))) rfl rfl rfl (LI _ (ch.getD ((i)%(ch.length)) (0:Int)) _ (by omega)) ?_)))))));clear a8;refine gS (Aaz (xv:= .int .i64 ((AgZ (ch.getD ((i)%(ch.length)) 0) ((s1.depths.length+1:Nat):Int)))) (yv:= .int .i64 ((((s1.depths).length:Nat):Int))) rfl rfl rfl (Jy _ ((AgZ (ch.getD ((i)%(ch.length)) 0) ((s1.depths.length+1:Nat):Int))) ((((s1.depths).length:Nat):Int)) (by omega)) (gS (Aaz (xv:= .int .i64 ((((AgZ (ch.getD ((i)%(ch.length)) 0) ((s1.depths.length+1:Nat):Int)))+((((s1.depths).length:Nat):Int))))) (yv:= .int .i64 (((1:Nat):Int))) rfl rfl rfl (Jy _ ((((AgZ (ch.getD ((i)%(ch.length)) 0) ((s1.depths.length+1:Nat):Int)))+((((s1.depths).length:Nat):Int)))) (((1:Nat):Int)) (by omega)) (gS (Aaz (xv:=NI ((s1.depths).length)) (yv:=NI 1) rfl rfl rfl (Ah _ _ _ (by omega)) (gS (Aaz (xv:= .int .i64 ((((((AgZ (ch.getD ((i)%(ch.length)) 0) ((s1.depths.length+1:Nat):Int)))+((((s1.depths).length:Nat):Int))))+(((1:Nat):Int))))) (yv:=NI (((s1.depths).length)+(1))) rfl rfl rfl (Y7 _ (ch.getD ((i)%(ch.length)) 0) (s1.depths.length) _ rfl) (gS (Aaz (xv:= .int .i64 ((AgO (ch.getD ((i)%(ch.length)) 0) ((s1.depths.length+1:Nat):Int)))) (yv:= .int .i64 (((1:Nat):Int))) rfl rfl rfl (O4 _ ((AgO (ch.getD ((i)%(ch.length)) 0) ((s1.depths.length+1:Nat):Int))) (((1:Nat):Int)) (by omega)) ?_)))))))));exact hJK27 _ _ ⟨(((AgO (ch.getD ((i)%(ch.length)) 0) ((s1.depths.length+1:Nat):Int)))-(((1:Nat):Int))),t,g,l,o,r,x,j,T9,ab,rfl,p,q,f,rfl,hE,hr_r4,hr_r5,c,if_pos al,trivial⟩
   exact hJK27 _ _ ⟨-1,t,g,l,o,r,x,j,T9,ab,rfl,p,q,f,rfl,hE,hr_r4,hr_r5,c,if_neg al,trivial⟩
  refine gS (AaW ML (AaD (AaR hr_r8) j) (gS (Aay (a:=((s.depths).length:Nat)) (b:=(1024:Nat)) rfl rfl (E1 _ _ _ _) (gO fun _=>BH (NI s.total) rfl rfl (gF rfl) (fun hG89=>Aeb x ⟨rfl,rfl⟩) (EU (gO fun _=>BH (.bool (decide ((131072)<=(s.total)))) rfl rfl (gF rfl) (fun hG90=>Aay (a:=((s.total:Nat):Int)) (b:=((131072:Nat):Int)) (DU rfl hG90) rfl (E1 _ .i64 (s.total) (131072)) ⟨rfl,rfl⟩) (EU (gS (AbO rfl rfl (fun hA=>(DU rfl (La hA))) fun bb91 hbb92=> ?_)))))))));refine cB (bb91) rfl (fun au=> ?_) fun au=> ?_
  ·subst hbb92;refine gS (Aaz (xv:=NI s.at_) (yv:=NI 1) r rfl rfl (Ah _ _ _ (by omega)) (AgN (⟨_,rfl⟩:∃v:Ae2,(Afc none 0 0)=v) fun nx8 hnx8=> ?_));have hx8n:OG w.heap.size 3 1 BY bh nx8 ([]:List Int):=hnx8▸Aem _ _ _ _ _;have b4:Ai nx8 r4:=fun k h=>by rw[<-hnx8]at h;cases h
   have b5:Ai r4 nx8:=fun k _ h=>by rw[<-hnx8]at h;cases h
   have b6:Ai nx8 r5:=fun k h=>by rw[<-hnx8]at h;cases h
   have b7:Ai r5 nx8:=fun k _ h=>by rw[<-hnx8]at h;cases h
   exact hJK21 _ _ ⟨nx8,⟨s.at_+1,0,[],s.packs,s.bases⟩,t,g,l,o,f,rfl,p,q,f,((show _=(Afc none 0 0)from rfl).trans hnx8),rfl,rfl,hE,hr_r4,hr_r5,hx8n,ZX au,b4,b6,b5,b7,trivial⟩
  subst hbb92;exact hJK21 _ _ ⟨r8,s,t,g,l,o,f,rfl,p,q,f,j,r,x,hE,hr_r4,hr_r5,hr_r8,ZY au,hap_r8_r4,hap_r8_r5,hap_r4_r8,hap_r5_r8,trivial⟩
 refine BI rfl l o ?_;have hie:i=sz.length:=by have h:=aq;omega
 rw[hie]at hs;exact⟨_,_,rfl,hs▸hr_r4,hs▸hr_r5,hE⟩
structure AllN (n : Nat) (w : Ae3) (us : List Ae2) (bs : List Bs) : Prop where
 len:us.length=bs.length
 rb:∀i,i<bs.length->RB w (us.getD i undef) (bs.getD i [])
 new:∀i,i<bs.length->NewI n w (us.getD i undef)
theorem AllN.keep{n:Nat}{w w' :Ae3}{us:List Ae2}{bs:List Bs}(h:AllN n w us bs)(k:Ext w w'):AllN n w' us bs:=⟨h.len,fun i hi=>(h.rb i hi).keep k,fun i hi=>(h.new i hi).keep k⟩
theorem AllN.nil(n:Nat)(w:Ae3):AllN n w [] []:=⟨rfl,fun i hi=>absurd hi (Age _),fun i hi=>absurd hi (Age _)⟩
section
variable {D : Ad} {L : AQ} {ids : List Bs} {i : Nat}
theorem IG{α:Type}{l:List α}{i:Nat}(d:α)(h:i<l.length):l.take (i+1)=l.take i++ [l.getD i d]:=by
 rw[Afv h,Ae6,Afb h];rfl
theorem Nr(h:i<ids.length):BE D L (ids.take i)++ [(getV D L (ids.getD (i) ([]:AlJ))).1]=BE D L (ids.take (i+1)):=by
 unfold BE;rw[IG ([]:AlJ) h,AgC];rfl
theorem WN(h:i<ids.length):szV D L (ids.take i)++ [(((getV D L (ids.getD (i) ([]:AlJ))).1.length:Nat):Int)]=szV D L (ids.take (i+1)):=by
 unfold szV;rw[<-Nr h,AgC];rfl
theorem DI(D:Ad)(L:AQ)(ids:List Bs):(BE D L ids).length=ids.length:=Afu ..
theorem GL(D:Ad)(L:AQ)(ids:List Bs):(szV D L ids).length=ids.length:=by unfold szV;rw[Afu,DI]
theorem WO(D:Ad)(L:AQ):¬Es D L (ids.take 0):=fun⟨id,h,_⟩=>by simp at h
theorem Y9(h:i<ids.length)(hn:¬Es D L (ids.take i))(hc:¬(getV D L (ids.getD (i) ([]:AlJ))).2≠0):¬Es D L (ids.take (i+1)):=fun⟨id,h1,h2⟩=>by
 rw[IG ([]:AlJ) h]at h1;rcases Afy.1 h1 with h1 | h1
 ·exact hn ⟨id,h1,h2⟩
 ·rw[Afh.1 h1]at h2;exact hc h2
theorem miss_yes(h:i<ids.length)(hc:(getV D L (ids.getD (i) ([]:AlJ))).2≠0):Es D L ids:=⟨_,getD_mem _ h,hc⟩
theorem UU(hs:∀id∈ids,(getV D L id).2=0->(getV D L id).1.length<=200)(hn:¬Es D L ids):∀z∈szV D L ids,0<=z/\z<=200:=fun z hz=>by
 unfold szV BE at hz;rw[Ah4]at hz;obtain⟨id,hid,rfl⟩:=AfO.1 hz;have h0:(getV D L id).2=0:=Akb fun q=>hn ⟨id,hid,q⟩;have:=hs id hid h0;show(0:Int)<=(((getV D L id).1.length:Nat):Int)/\(((getV D L id).1.length:Nat):Int)<=200;omega
end
theorem Za{w w' :Ae3}{v v' x:Ae2}{m:AlJ}(h:RB w x m)(gr:Grew w w' v v')(ha:Ai v x):RB w' x m:=Il h (fun k hk e=>ha k e hk) gr
theorem Aat{l:List Int}(h:∀p∈l,p=0)(i j:Nat):l.getD i 0=l.getD j 0:=by
 have k:∀i,l.getD i 0=0:=fun i=>by
  rw[Ae6];cases e:l[i]? with
  | none=>rfl
  | some x=>exact h x (Agi e)
 rw[k,k]
theorem Zb{l:List Int}(h:∀b∈l,-1<=b/\b<=60)(i:Nat): -9223372036854775808<=l.getD (i) (0:Int)/\l.getD (i) (0:Int)<=9223372036854775807:=by
 rw[Ae6];cases e:l[i]? with
 | none=>simp
 | some x=>have:=h x (Agi e);simp only[Af2];omega
section
variable {D : Ad} {L : AQ} {ids : List Bs} {ch : List Int}
theorem GH(hbl:(BR D L ids ch).bases.length=ids.length):(AP D L ids ch).length=ids.length:=by
 unfold AP;rw[Afu,List.length_zip,DI,hbl,Nat.min_self]
theorem SB{qs:List Pt}{us:List Ae2}{j:Nat}(hbl:(BR D L ids ch).bases.length=ids.length)(hj:j<ids.length)(hq:qs.map EQ=((AP D L ids ch).take j).map EQ):(qs++ [(⟨us.getD (j) undef,(BE D L ids).getD (j) ([]:AlJ),(BR D L ids ch).bases.getD (j) (0:Int)⟩:Pt)]).map EQ=((AP D L ids ch).take (j+1)).map EQ:=by
 rw[IG AD (by rw[GH hbl];exact hj),AgC,AgC,hq];have h1:j<(BE D L ids).length:=by rw[DI];exact hj
 have h2:j<(BR D L ids ch).bases.length:=by rw[hbl];exact hj
 have e:(AP D L ids ch).getD j AD=⟨.slice none 0 0,(BE D L ids).getD (j) ([]:AlJ),(BR D L ids ch).bases.getD (j) (0:Int)⟩:=by
  unfold AP;rw[Ae6,Agw,(AiV (z:=((BE D L ids)[j],(BR D L ids ch).bases[j]))).2 ⟨Afb h1,Afb h2⟩,Ae6,Ae6,Afb h1,Afb h2];rfl
 rw[e];rfl
theorem JD(hbl:(BR D L ids ch).bases.length=ids.length)(hn:ids.length<=60)(hs:∀id∈ids,(getV D L id).2=0->(getV D L id).1.length<=200)(hm:¬Es D L ids):CB (AP D L ids ch):=by
 refine⟨by rw[GH hbl];exact hn,fun p hp=> ?_⟩;unfold AP at hp;obtain⟨x,hx,rfl⟩:=AfO.1 hp;have h1:=(List.of_mem_zip hx).1;unfold BE at h1;obtain⟨id,hid,h2⟩:=AfO.1 h1;show x.1.length<=200;rw[<-h2];exact hs id hid (Akb fun q=>hm ⟨id,hid,q⟩)
theorem WP(hm:¬Es D L ids)(hp:0<ids.length)(hc:(A0 (AP D L ids ch)).2≠0):AK D L ids ch=([],(A0 (AP D L ids ch)).2):=by
 unfold AK;rw[if_neg hm,if_neg (fun q=>by rw[q]at hp;cases hp),if_neg hc]
theorem UV{f:Nat}(hm:¬Es D L ids)(hf:f=0\/(f=ids.length/\0<ids.length/\(A0 (AP D L ids ch)).2=0))(hfe:¬f<ids.length):AK D L ids ch=((if f=0 then []else [(A0 (AP D L ids ch)).1]),0):=by
 unfold AK;rw[if_neg hm];rcases hf with h | ⟨h1,h2,h3⟩
 ·have:ids= []:=AfN (by omega);rw[if_pos this,if_pos h]
 ·rw[if_neg (fun q=>by rw[q]at h2;cases h2),if_pos h3,if_neg (by omega)]
end
theorem WQ{n:Nat}{w w0:Ae3}{R:List Ae2}{v:Ae2}{b:Bs}(h:AllIn w R [v] [b])(hN:NewI n w0 v):AllN n w ([]++ [v]) [b]:=by
 refine⟨rfl,h.rb,fun i hi k hk=> ?_⟩;have h0:i=0:=by simp at hi;omega
 subst h0;exact⟨(hN k hk).1,h.lt 0 hi k hk⟩
theorem Zc{w w2:Ae3}{v a b:Ae2}{m1 m2 c f z1 z2:Nat}{g h:Afa}{xs ys:List Ae2}(hN:NewI w.heap.size w2 v)(ha:w.ownsRow m1 g z1 a c xs)(hb:w.ownsRow m2 h z2 b f ys):∀k,v.ownBlock=some k->∀u∈ [a,b],u.ownBlock≠some k:=fun k hk u hu e=>by
 have h1:=(hN k hk).1;simp only[AfT,AgX,or_false]at hu;rcases hu with rfl | rfl
 ·have:=(ha.lt k e).2;omega
 ·have:=(hb.lt k e).2;omega
theorem Pr(ao:Option Addr)(n:Nat)(c:Nat)(w:Ae3):(AfM 38 1 #[(0, .slice ao n c)]).run Ae5 w = .ok (.slice (some ⟨w.heap.size,0,none⟩) 1 1) (w.alloc (.cells #[.slice ao n c] 27)):=by kernel_rfl
theorem va7_ig27:∃z,(Tryz.prog.info? 27).map (fun i=>(i.zero,i.size,i.bytes))=some (some z,1,24)/\z.cells.size=1:=FS (by kernel_rfl)
theorem Zd:Plain Ae5 9:=fun _ _=>by kernel_rfl
theorem Ze{v:Ae2}(h:∃ao n c,v = .slice ao n c)(z:Int)(w:Ae3):(Ag3 156 #[(0,v),(1, .int .i64 z)]).run Ae5 w = .ok (.agg ([v, .int .i64 z]:List Ae2).toArray) w:=by obtain⟨_,_,_,rfl⟩:=h;kernel_rfl
theorem UW(c0 c1:Ae2)(w:Ae3):(AfM 154 1 #[(0, .agg #[c0,c1])]).run Ae5 w = .ok (.slice (some ⟨w.heap.size,0,none⟩) 1 1) (w.alloc (.cells #[c0,c1] 156)):=by kernel_rfl
theorem UX:∀(cs:Array Ae2),cs.size=2->∀w:Ae3,(AfM 154 1 #[(0, .agg cs)]).run Ae5 w = .ok (.slice (some ⟨w.heap.size,0,none⟩) 1 1) (w.alloc (.cells cs 156))
 | ⟨[c0,c1]⟩,_,w=>UW c0 c1 w
theorem va7_ig156:∃z,(Tryz.prog.info? 156).map (fun i=>(i.zero,i.size,i.bytes))=some (some z,2,32)/\z.cells.size=2:=FS (by kernel_rfl)
theorem WR:Plain Ae5 91:=fun _ _=>by kernel_rfl
theorem WS(wb w:Ae3)(g:Nat)(H:Dk)(D:Ad)(hD:DkG wb w g H D)(hG:Laid wb)(hL:De D)(n:Nat)(gv bm:Nat)(L:AQ)(ptr:Bs->Nat)(hV:VtAt n (Cl H D) w gv g bm L ptr)(hgL:GoodL L)(hLn:L.length<=100000)(vi:Ae2)(ids:List Bs)(hid_:RG 32 Ae4 w vi ids)(hi32a:∀id∈ids,id.length=32)(bp:ids.length<=60)(hsmall:∀id∈ids,(getV D L id).2=0->(getV D L id).1.length<=200)(vc:Ae2)(ch:List Int)(hch:RG 1 BY w vc ch)(hchl:ch.length<=1099511627776):
  Calls Ae5 49 #[PQ gv 0,vi,vc] w fun e w' =>∃v us,e = .returned (.tuple #[v,NI (AK D L ids ch).2])/\OG w.heap.size 27 1 Cb w' v us/\AllN w.heap.size w' us (AK D L ids ch).1/\Ext w w' :=by
 have hvb:=hV.blk;have hvm:=hV.map;have hpk:=hV.pk;have hsrt:=hV.sort;have hV0:=hV;refine gG (args:= [PQ gv 0,vi,vc]) Tryz.func49 rfl 100 rfl rfl ?_;have hE:=Ad4 w;refine AgN (⟨_,rfl⟩:∃v:Ae2,(Afc none 0 0)=v) fun nv8 hnv8=> ?_;have hrow8:OG w.heap.size 27 1 Cb w nv8 ([]:List Ae2):=hnv8▸Aem _ _ _ _ _;have cf:OB nv8 gv:=fun e_=>by rw[<-hnv8]at e_;cases e_
 have cg:OB nv8 bm:=fun e_=>by rw[<-hnv8]at e_;cases e_
 refine AgN (⟨_,rfl⟩:∃v:Ae2,(Afc none 0 0)=v) fun nv9 hnv9=> ?_;have hrow9:OG w.heap.size 3 1 BY w nv9 ([]:List Int):=hnv9▸Aem _ _ _ _ _;have ci:Ai nv9 nv8:=fun k h=>by rw[<-hnv9]at h;cases h
 have cj:Ai nv8 nv9:=fun k _ h=>by rw[<-hnv9]at h;cases h
 have ck:OB nv9 gv:=fun e_=>by rw[<-hnv9]at e_;cases e_
 have cl:OB nv9 bm:=fun e_=>by rw[<-hnv9]at e_;cases e_
 refine gS (AaW Oi (AaD (hid_.keep hE) rfl) (gL (fun(ρ:Ae) (wz:Ae3)=>∃i:Nat,∃us:List Ae2,∃r8:Ae2,∃r9:Ae2,ρ 0=(PQ gv 0:Ae2)/\ρ 1=(vi:Ae2)/\ρ 2=(vc:Ae2)/\ρ 22=(vi:Ae2)/\ρ 23=(NI ids.length:Ae2)/\ρ 24=(NI i:Ae2)/\ρ 8=(r8:Ae2)/\ρ 9=(r9:Ae2)/\wz.heap[gv]? =some (.cells ([PQ g 0, .map (some bm)]).toArray 86 (0,0))/\MapF St pN Nm wz bm (pkG L ptr)/\Ext w wz/\AllIn wz [r8,r9] us (BE D L (ids.take i))/\OG w.heap.size 27 1 (Cb) wz r8 (us)/\OG w.heap.size 3 1 (BY) wz r9 (szV D L (ids.take i))/\(i<=ids.length)/\(¬Es D L (ids.take i))/\(OB r8 gv)/\(OB r8 bm)/\(Ai r8 r9)/\(Ai r9 r8)/\(OB r9 gv)/\(OB r9 bm)/\True) (fun ρ _=>ids.length-(intOf (ρ 24)).toNat) ⟨0,[],nv8,nv9,rfl,rfl,rfl,rfl,rfl,rfl,((show _=(Afc none 0 0)from rfl).trans hnv8),((show _=(Afc none 0 0)from rfl).trans hnv9),hvb,hvm,hE,AllIn.nil _ _,Bd hrow8 (rfl),Bd hrow9 (rfl),AfC _,WO _ _,cf,cg,cj,ci,ck,cl,trivial⟩ ?_));clear hrow8;clear hrow9;clear hvb hvm hE;rintro cm aw ⟨i,us,r8,r9,T0,T1,T2,ao,ap,ac,r,T9,hvb,hvm,hE,hAl,hr_r8,hr_r9,hil,hnm,hap_r8_gv,hap_r8_bm,hap_r8_r9,hap_r9_r8,hap_r9_gv,hap_r9_bm,-⟩;have q24:=ac;refine gS (Aay (a:=(i:Nat)) (b:=(ids.length:Nat)) ac ap (AE _ _ _ _) ?_);refine cD rfl (fun bf=> ?_) fun bf=> ?_
 ·have hlt:i<ids.length:=bf;have hi32:(ids.getD (i) ([]:AlJ)).length=32:=hi32a _ (getD_mem _ hlt);have hsl:(szV D L (ids.take i)).length=i:=by rw[GL,Afi];omega
  have hul:us.length=i:=by rw[hAl.len,DI,Afi];omega
  have a8:(Ae4 (ids.getD (i) ([]:AlJ))).length=32:=(Aec (hid_.keep hE) ([]:AlJ) (hlt));refine gS (AaZ Oi Td (by decide) ([]:AlJ) (AaD (hid_.keep hE) ao) ac (hlt) fun d6 bq=>(gS (Aa4 (Aa6 bq rfl) XM rfl (by rw[a8];exact SY) (gS (Ad9 VA fun a9 cn co br bs d7=> ?_)))));have aa:=Ad4 aw;have d8:=hE.size;have d9:=Av hvm.lt co;have cp:OB r8 a9:=A4 hr_r8.2 (by omega);have cq:OB r9 a9:=A4 hr_r9.2 (by omega);have q:=br;clear br;have ea:a9<cn.heap.size:=by omega
  refine gS (AaB (vr (PQ a9 0) rfl) (vr (AB (ids.getD (i) ([]:AlJ))) rfl) q (by exact Bp (Ay (a8)) Afp) (by exact Ac (Ay (a8))) (Ag _) fun ec bt bu ed=> ?_);have hvm:=hvm.keep bs;have hvm:=Ad8 hvm bu (Ak (by omega));clear q;have q:=bt;clear bt;have ee:=bl q;clear bq;have aa:=aa.trans bs;have aa:=Ab aa bu (Ae7 (Ae8 _) (by omega));have hE:=hE.trans aa;refine gS (AaC rfl q XM rfl (by exact Ac (Ay (a8))) (gS (AaA WJ T0 rfl ((Mq wb _ g H D (hD.keep hE) hG hL n gv bm L ptr (hV0.keep hE) hgL hLn (ids.getD (i) ([]:AlJ)) hi32).mono ?_))));rintro e ef ⟨ae,rfl,af,bv,bw⟩;refine⟨_,rfl,?_⟩;have hvb:=eb aa hvb;have hr_r8:=hr_r8.keep aa;have hr_r9:=hr_r9.keep aa;have hoff8:∀k,Afd ae=some k->∀u∈ [r8,r9],u.ownBlock≠some k:=Zc bw hr_r8.2 hr_r9.2;have hap8v:Ai r8 ae:=fun k h1 h2=>hoff8 k h2 _ AfX h1;have hvn:=bw;refine gS (Ad5 (vs:= [ae,NI ((getV D L (ids.getD (i) ([]:AlJ))).2)]) rfl rfl (gS (Ad5 (vs:= [ae,NI ((getV D L (ids.getD (i) ([]:AlJ))).2)]) rfl rfl (gS (Aay (a:=((getV D L (ids.getD (i) ([]:AlJ))).2:Nat)) (b:=(0:Nat)) rfl rfl (AV _ _ _ _) ?_)))));refine cD rfl (fun ba=> ?_) fun ba=> ?_
  ·refine BI rfl (vr (Afc none 0 0) rfl) (vr (NI 12) rfl) ?_;have hV:AK D L ids ch=([],12):=if_pos (miss_yes hlt ba);have hE:=hE.trans bv;exact⟨_,[],by rw[hV],Aem _ _ _ _ _,by rw[hV];exact AllN.nil _ _,hE⟩
  have hve:=AeA af;have hve1:=(Aeg af).2;have cr:(getV D L (ids.getD (i) ([]:AlJ))).2=0:=AhX.1 ba;have hgb:=hsmall _ (getD_mem _ hlt) cr;refine gS (Abh (a:=(ae)) (enc:=Cb) (vr ae rfl) rfl (fun w=>by obtain⟨_,_,_,rfl⟩:=hve;exact Pr _ _ _ w) fun cs ct bx bg=> ?_);have hZ1:=bv.trans bg;have aa:=aa.trans hZ1;have hvn:=hvn.keep bg;have af:=af.keep bg;have hAl:=Acp (hAl.keep aa) af (fun k hk=>⟨(hvn k hk).2,hoff8 k hk⟩);have hE:=hE.trans hZ1;have hr_r8:=hr_r8.keep hZ1;refine gS (Aa2 _ _ w.heap.size _ 24 MS va7_ig27.choose_spec.1 va7_ig27.choose_spec.2 MS (us) ([(ae)]) (Aen hr_r8 r) (AaD bx (vr cs rfl)) (fun y hy u hu=>by rw[Afh.1 hu,Afh.1 hy];exact hve1) (by simp only[Afs];omega) (by simp only[Afs];omega) hE.size fun ag cu ax s=> ?_);have hAl_:=hAl;have s:Grew ct cu r8 ag:= .eqv r s;have hvb:=eb hZ1 hvb;have cv:OB ag gv:=Ap s hap_r8_gv (bl hvb);have hvm:=hvm.keep hZ1;have cw:OB ag bm:=Ap s hap_r8_bm hvm.lt;have hr_r9:=hr_r9.keep hZ1;have cx:Ai ag r9:=AM s hap_r8_r9 hr_r9.2;have bz:Ai r9 ag:=fun k h1 h2=>cx k h2 h1;have q:=eb hZ1 q;have hvb:=Aq hvb s hap_r8_gv;have hvm:=Aeh hvm s hap_r8_bm;have hE:=As hE s hr_r8.2 (Ae8 _);have hr_r9:=Bi hr_r9 s hap_r8_r9;have q:=Aq q s cp;clear hvn;have af:=Za af s hap8v;clear bx;clear hr_r8;have hAl:=AllIn.swap (AeL hAl_ s);clear hAl_;refine gS (AaT GR (AaF af rfl) (gS (Abh (a:=((getV D L (ids.getD (i) ([]:AlJ))).1:AlJ).length) (enc:=BY) (vr (NI (((getV D L (ids.getD (i) ([]:AlJ))).1:AlJ).length)) rfl) rfl (fun w=>Rv _ w) fun cy b0 b1 au=> ?_)));have hAl:AllIn b0 [r9,ag] (us++ [ae]) (BE D L (ids.take i)++ [(getV D L (ids.getD (i) ([]:AlJ))).1]):=(hAl.keep au);have hAl:=hAl;have hE:=hE.trans au;have hr_r9:=hr_r9.keep au;refine gS (Aa2 _ _ w.heap.size _ 8 ML va5_ig3.choose_spec.1 va5_ig3.choose_spec.2 ML (szV D L (ids.take i)) ([((getV D L (ids.getD (i) ([]:AlJ))).1:AlJ).length]) (Aen hr_r9 T9) (AaD b1 (vr cy rfl)) (fun y hy u hu=>by rw[Afh.1 hu];rfl) (by simp only[Afs];omega) (by simp only[Afs];omega) hE.size fun ay cz c0 ab=> ?_);have hAl_:=hAl;have ab:Grew b0 cz r9 ay:= .eqv T9 ab;have hvb:=eb au hvb;have c1:OB ay gv:=Ap ab hap_r9_gv (bl hvb);have hvm:=hvm.keep au;have c2:OB ay bm:=Ap ab hap_r9_bm hvm.lt;have q:=eb au q;have ax:=ax.keep au;have b2:Ai ay ag:=AM ab bz ax.2;have c3:Ai ag ay:=fun k h1 h2=>b2 k h2 h1;have hvb:=Aq hvb ab hap_r9_gv;have hvm:=Aeh hvm ab hap_r9_bm;have hE:=As hE ab hr_r9.2 (Ae8 _);have q:=Aq q ab cq;clear af;have ax:=Bi ax ab bz;clear b1;clear hr_r9;have hAl:=AllIn.swap (AeL hAl_ ab);clear hAl_;refine gS (Aaz (xv:=NI i) (yv:=NI 1) ac rfl rfl (Ah _ _ _ (by omega)) (gK (AfF ⟨i+1,us++ [ae],ag,ay,T0,T1,T2,ao,ap,rfl,rfl,rfl,hvb,hvm,hE,(Nr (D:=D) (L:=L) hlt)▸hAl,Bd ax (rfl),Bd c0 ((WN hlt)),by omega,Y9 hlt hnm ba,cv,cw,c3,b2,c1,c2,trivial⟩ ?_)));show ids.length-(intOf (NI ((i)+(1)))).toNat<ids.length-(intOf (cm 24)).toNat;rw[q24];simp only[intOf,Afg];omega
 have hie:i=ids.length:=by have h:=bf;omega
 rw[hie,Af8]at hAl hnm hr_r9;have hul:us.length=ids.length:=by rw[hAl.len,DI]
 have hzr:=KU ch (UU hsmall hnm) _ (show(szV D L ids).length<=60 by rw[GL];exact bp);have hbl:(BR D L ids ch).bases.length=ids.length:=(EN ch (szV D L ids) (szV D L ids).length).lb.trans (GL D L ids);have hpl:(BR D L ids ch).packs.length=ids.length:=(EN ch (szV D L ids) (szV D L ids).length).lp.trans (GL D L ids);refine gS (AaA Zd T9 T2 ((WM _ r9 vc (szV D L ids) ch (AaR hr_r9) (hch.keep hE) (by rw[GL];omega) hchl).mono ?_));rintro e c4 ⟨t,z,rfl,c,l,az⟩;refine⟨_,rfl,?_⟩;have bh:=Ad4 aw;have eg:=hE.size;refine gS (Ad5 (vs:= [t,z]) rfl rfl (gS (Ad5 (vs:= [t,z]) rfl rfl (AgN (⟨_,rfl⟩:∃v:Ae2,(Afc none 0 0)=v) fun nv16 hnv16=> ?_))));have hrow16:OG w.heap.size 27 1 Cb c4 nv16 ([]:List Ae2):=hnv16▸Aem _ _ _ _ _;have c5:Ai nv16 r8:=fun k h=>by rw[<-hnv16]at h;cases h
 have c6:Ai nv16 r9:=fun k h=>by rw[<-hnv16]at h;cases h
 have c7:Ai nv16 t:=fun k h=>by rw[<-hnv16]at h;cases h
 have c8:Ai nv16 z:=fun k h=>by rw[<-hnv16]at h;cases h
 have c9:OB nv16 gv:=fun e_=>by rw[<-hnv16]at e_;cases e_
 have da:OB nv16 bm:=fun e_=>by rw[<-hnv16]at e_;cases e_
 have bh:=bh.trans az;have b3:=((hAl.keep bh)).sub (S:= [nv16]) (fun v hv=> .inr (by rw[Afh.1 hv,<-hnv16];rfl));have hvb:=eb az hvb;have hvm:=hvm.keep az;have hE:=hE.trans az;have hr_r8:=hr_r8.keep az;have hr_r9:=hr_r9.keep az;refine gL (fun(ρ:Ae) (wz:Ae3)=>∃f:Nat,∃ou:List Ae2,∃r16:Ae2,ρ 0=(PQ gv 0:Ae2)/\ρ 1=(vi:Ae2)/\ρ 2=(vc:Ae2)/\ρ 8=(r8:Ae2)/\ρ 9=(r9:Ae2)/\ρ 14=(t:Ae2)/\ρ 15=(z:Ae2)/\ρ 22=(vi:Ae2)/\ρ 23=(NI ids.length:Ae2)/\ρ 24=(NI i:Ae2)/\ρ 17=(NI f:Ae2)/\ρ 16=(r16:Ae2)/\wz.heap[gv]? =some (.cells ([PQ g 0, .map (some bm)]).toArray 86 (0,0))/\MapF St pN Nm wz bm (pkG L ptr)/\Ext w wz/\OG w.heap.size 27 1 (Cb) wz r8 (us)/\OG w.heap.size 3 1 (BY) wz r9 (szV D L ids)/\OG aw.heap.size 3 1 BY wz t (BR D L ids ch).packs/\OG aw.heap.size 3 1 BY wz z (BR D L ids ch).bases/\AllIn wz [r16] us (BE D L ids)/\AllN w.heap.size wz ou (if f=0 then []else [(A0 (AP D L ids ch)).1])/\OG w.heap.size 27 1 (Cb) wz r16 (ou)/\(f=0\/(f=ids.length/\0<ids.length/\(A0 (AP D L ids ch)).2=0))/\(Ai r16 r8)/\(Ai r16 r9)/\(Ai r16 t)/\(Ai r16 z)/\(OB r16 gv)/\(OB r16 bm)/\True) (fun ρ _=>ids.length-(intOf (ρ 17)).toNat) ⟨0,[],nv16,T0,T1,T2,r,T9,rfl,rfl,ao,ap,ac,rfl,((show _=(Afc none 0 0)from rfl).trans hnv16),hvb,hvm,hE,hr_r8,hr_r9,c,l,b3,AllN.nil _ _,Bd hrow16 (rfl), .inl rfl,c5,c6,c7,c8,c9,da,trivial⟩ ?_;clear hrow16;clear b3;clear hvb hvm hE hr_r8 hr_r9 c l;rintro db dc ⟨f,ou,r16,T0,T1,T2,r,T9,a0,a4,ao,ap,ac,av,a1,hvb,hvm,hE,hr_r8,hr_r9,c,l,bi,hO,hr_r16,hf,hap_r16_r8,hap_r16_r9,hap_r16_v80,hap_r16_v81,hap_r16_gv,hap_r16_bm,-⟩;have q17:=av;refine gS (AaW MS (AaD (AaR hr_r8) r) (gS (Aay (a:=(f:Nat)) (b:=(us.length:Nat)) av rfl (AE _ _ _ _) ?_)));refine cD rfl (fun bb=> ?_) fun bb=> ?_
 ·have hf0:f=0:=by rcases hf with h | h;exact h;(have:=bb;omega)
  have hpos:0<ids.length:=by have:=bb;omega
  have hou:ou= []:=by have h:=(hO).len;rw[if_pos hf0]at h;exact AfN h
  refine AgN (⟨_,rfl⟩:∃v:Ae2,(Afc none 0 0)=v) fun nv19 hnv19=> ?_;have hrow19:OG w.heap.size 156 2 partC dc nv19 ([]:List Pt):=hnv19▸Aem _ _ _ _ _;have dd:Ai nv19 r8:=fun k h=>by rw[<-hnv19]at h;cases h
  have de:Ai nv19 r9:=fun k h=>by rw[<-hnv19]at h;cases h
  have df:Ai nv19 t:=fun k h=>by rw[<-hnv19]at h;cases h
  have dh:Ai nv19 z:=fun k h=>by rw[<-hnv19]at h;cases h
  have di:Ai nv19 r16:=fun k h=>by rw[<-hnv19]at h;cases h
  have dj:OB nv19 gv:=fun e_=>by rw[<-hnv19]at e_;cases e_
  have dk:OB nv19 bm:=fun e_=>by rw[<-hnv19]at e_;cases e_
  have b4:=(bi).sub (S:= [nv19,r16]) (fun v hv=>by rcases AfT.1 hv with h | h;(exact .inr (by rw[h,<-hnv19];rfl));exact .inl h);refine gL (fun(ρ:Ae) (wz:Ae3)=>∃j:Nat,∃qs:List Pt,∃r19:Ae2,ρ 0=(PQ gv 0:Ae2)/\ρ 1=(vi:Ae2)/\ρ 2=(vc:Ae2)/\ρ 8=(r8:Ae2)/\ρ 9=(r9:Ae2)/\ρ 14=(t:Ae2)/\ρ 15=(z:Ae2)/\ρ 16=(r16:Ae2)/\ρ 17=(NI 0:Ae2)/\ρ 22=(vi:Ae2)/\ρ 23=(NI ids.length:Ae2)/\ρ 24=(NI i:Ae2)/\ρ 18=(NI j:Ae2)/\ρ 19=(r19:Ae2)/\wz.heap[gv]? =some (.cells ([PQ g 0, .map (some bm)]).toArray 86 (0,0))/\MapF St pN Nm wz bm (pkG L ptr)/\Ext w wz/\OG w.heap.size 27 1 (Cb) wz r8 (us)/\OG w.heap.size 3 1 (BY) wz r9 (szV D L ids)/\OG aw.heap.size 3 1 BY wz t (BR D L ids ch).packs/\OG aw.heap.size 3 1 BY wz z (BR D L ids ch).bases/\OG w.heap.size 27 1 (Cb) wz r16 (ou)/\PartsIn wz r19 qs/\AllIn wz [r19,r16] us (BE D L ids)/\OG w.heap.size 156 2 (partC) wz r19 (qs)/\(j<=ids.length)/\(qs.map EQ=((AP D L ids ch).take j).map EQ)/\(Ai r19 r8)/\(Ai r19 r9)/\(Ai r19 t)/\(Ai r19 z)/\(Ai r19 r16)/\(OB r19 gv)/\(OB r19 bm)/\True) (fun ρ _=>ids.length-(intOf (ρ 18)).toNat) ⟨0,[],nv19,T0,T1,T2,r,T9,a0,a4,a1,(av.trans (congrArg (fun n:Nat=>NI n) hf0)),ao,ap,ac,(av.trans (congrArg (fun n:Nat=>NI n) hf0)),((show _=(Afc none 0 0)from rfl).trans hnv19),hvb,hvm,hE,hr_r8,hr_r9,c,l,hr_r16,PartsIn.nil _ _,b4,Bd hrow19 (rfl),AfC _,rfl,dd,de,df,dh,di,dj,dk,trivial⟩ ?_;clear hO;clear hrow19;clear b4;clear hvb hvm hE hr_r8 hr_r9 c l hr_r16;rintro b5 eh ⟨j,qs,r19,T0,T1,T2,r,T9,a0,a4,a1,av,ao,ap,ac,ah,bj,hvb,hvm,hE,hr_r8,hr_r9,c,l,hr_r16,hIn,m,hr_r19,hj,hq,hap_r19_r8,hap_r19_r9,hap_r19_v80,hap_r19_v81,hap_r19_r16,hap_r19_gv,hap_r19_bm,-⟩;have q18:=ah;by_cases hjl:j<ids.length
  ·have hje:=(m).rb j (by rw[DI];exact hjl);have hjk:=(m).lt j (by rw[DI];exact hjl);have hjo:=(m).off j (by rw[DI];exact hjl);have hql:qs.length=j:=by have h:=congrArg Aip hq;simp only[Afu,Afi,GH hbl]at h;omega
   have hbb:=Zb hzr.2.2.2.2 j;refine Co [0,1,2,3,4,5,6,7,8,9,10,11,12,13,14] [] [] fun b6 a5=> ?_;have hIn:PartsIn b6 r19 qs:=(hIn.keep a5);have m:AllIn b6 [r19,r16] us (BE D L ids):=(m.keep a5);have hr_r8:=hr_r8.keep a5;refine ys (AaW MS (AaD (AaR hr_r8) r) zz) (ys (Aay (a:=(j:Nat)) (b:=(us.length:Nat)) ah rfl (AE _ _ _ _) zz) (kT (by omega) ?_));have c:=c.keep a5;have ei:(BY (((BR D L ids ch).packs).getD (j) (0:Int))).length=1:=(Aec (AaR c) (0:Int) (by omega));refine yA (AaZ ML HT (by decide) (0:Int) (AaD (AaR c) a0) ah (by omega) fun ej b7=>(ys (AaY Vx rfl (Aef (Aa6 b7 rfl) rfl) zz) ?_));have el:(BY (((BR D L ids ch).packs).getD (0) (0:Int))).length=1:=(Aec (AaR c) (0:Int) (by omega));refine yA (AaZ ML HT (by decide) (0:Int) (AaD (AaR c) a0) av (by omega) fun em b8=>(ys (AaY Vx rfl (Aef (Aa6 b8 rfl) rfl) zz) (ys (Aay rfl rfl (XH _ .i64 (((BR D L ids ch).packs).getD (j) (0:Int):Int) (((BR D L ids ch).packs).getD (0) (0:Int):Int)) zz) (kT ((Aat hzr.2.2.2.1 _ _)) (ys (AaS rfl rfl zz) ?_)))));clear b7;clear b8;refine cT rfl (Co [0,1,2,3,4,5,6,7,8,9,10,11,12] [10,11,12] [] fun b9 a6=> ?_);have hIn:PartsIn b9 r19 qs:=(hIn.keep a6);have m:AllIn b9 [r19,r16] us (BE D L ids):=(m.keep a6);have hr_r8:=hr_r8.keep a6;have en:(Cb (us.getD (j) undef)).length=1:=(Aec (AaR hr_r8) undef (by omega));refine yA (AaZ MS Tx (by decide) undef (AaD (AaR hr_r8) r) ah (by omega) fun eo bc=>(ys (AaY GR rfl (Aef (Aa6 bc rfl) rfl) zz) ?_));have hZ2:=a5.trans a6;have l:=l.keep hZ2;have ep:(BY (((BR D L ids ch).bases).getD (j) (0:Int))).length=1:=(Aec (AaR l) (0:Int) (by omega));have hje:=hje.keep hZ2;refine yA (AaZ ML HT (by decide) (0:Int) (AaD (AaR l) a4) ah (by omega) fun eq bd=>(ys (AaY Vx rfl (Aef (Aa6 bd rfl) rfl) zz) (ys (Abu (vr (us.getD (j) undef) rfl) (vr (.int .i64 (((BR D L ids ch).bases).getD (j) (0:Int):Int)) rfl) (fun w=>Ze (AeA hje) _ w) zz) (yC (Abg (a:=(⟨us.getD (j) undef,(BE D L ids).getD (j) ([]:AlJ),(BR D L ids ch).bases.getD (j) (0:Int)⟩:Pt)) (enc:=partC) (vr (.agg (partC (⟨us.getD (j) undef,(BE D L ids).getD (j) ([]:AlJ),(BR D L ids ch).bases.getD (j) (0:Int)⟩:Pt)).toArray) rfl) (rfl) UX fun dl bk ca ai=> ?_)))));have hIn:PartsIn bk r19 qs:=(hIn.keep ai);have m:AllIn bk [r19,r16] us (BE D L ids):=(m.keep ai);have bc:=Aej bc ai;have bd:=Aej bd ai;have m:=m;have hje:=hje.keep ai;have hIn:=AcN (x:=(⟨us.getD (j) undef,(BE D L ids).getD (j) ([]:AlJ),(BR D L ids ch).bases.getD (j) (0:Int)⟩:Pt)) hIn hje hbb (fun k hk=>⟨m.lt j (by rw[DI];exact hjl) k hk,hjo k hk _ AfX⟩);have hZ3:=hZ2.trans ai;have hE:=hE.trans hZ3;have hr_r19:=hr_r19.keep hZ3;refine yC (Aa2 _ _ w.heap.size _ 32 Gd va7_ig156.choose_spec.1 va7_ig156.choose_spec.2 Gd (qs) ([(⟨us.getD (j) undef,(BE D L ids).getD (j) ([]:AlJ),(BR D L ids ch).bases.getD (j) (0:Int)⟩:Pt)]) (Aen hr_r19 bj) (AaD ca (vr dl rfl)) (fun y hy=>by rw[Afh.1 hy];exact partC_one (Aeg hje)) (by simp only[Afs];omega) (by simp only[Afs];omega) hE.size fun aj dm dn o=> ?_);have hIn_:=hIn;have hA5_:=m;have o:Grew bk dm r19 aj:= .eqv bj o;have hr_r8:=hr_r8.keep ai;have dp:Ai aj r8:=AM o hap_r19_r8 hr_r8.2;have hr_r9:=hr_r9.keep hZ3;have dq:Ai aj r9:=AM o hap_r19_r9 hr_r9.2;have c:=c.keep (a6.trans ai);have dr:Ai aj t:=AM o hap_r19_v80 c.2;have l:=l.keep ai;have ds:Ai aj z:=AM o hap_r19_v81 l.2;have hr_r16:=hr_r16.keep hZ3;have dt:Ai aj r16:=AM o hap_r19_r16 hr_r16.2;have hvb:=eb hZ3 hvb;have du:OB aj gv:=Ap o hap_r19_gv (bl hvb);have hvm:=hvm.keep hZ3;have dv:OB aj bm:=Ap o hap_r19_bm hvm.lt;have hvb:=Aq hvb o hap_r19_gv;have hvm:=Aeh hvm o hap_r19_bm;have hE:=As hE o hr_r19.2 (Ae8 _);have hr_r8:=Bi hr_r8 o hap_r19_r8;have hr_r9:=Bi hr_r9 o hap_r19_r9;have c:=Bi c o hap_r19_v80;have l:=Bi l o hap_r19_v81;have hr_r16:=Bi hr_r16 o hap_r19_r16;clear hje;clear bc;clear bd;clear ca;clear hr_r19;have hIn:=PartsIn.grew hIn_ o;clear hIn_;have m:=AeL hA5_ o;clear hA5_;refine yC (Aek rfl (gS (Aaz (xv:=NI j) (yv:=NI 1) ah rfl rfl (Ah _ _ _ (by omega)) (gK (AfF ⟨j+1,qs++ [(⟨us.getD (j) undef,(BE D L ids).getD (j) ([]:AlJ),(BR D L ids ch).bases.getD (j) (0:Int)⟩:Pt)],aj,T0,T1,T2,r,T9,a0,a4,a1,av,ao,ap,ac,rfl,rfl,hvb,hvm,hE,hr_r8,hr_r9,c,l,hr_r16,hIn,m,Bd dn (rfl),by omega,SB hbl hjl hq,dp,dq,dr,ds,dt,du,dv,trivial⟩ ?_)))));show ids.length-(intOf (NI ((j)+(1)))).toNat<ids.length-(intOf (b5 18)).toNat;rw[q18];simp only[intOf,Afg];omega
  refine Co [0,1,2,3,4,5,6,7,8,9,10,11,12,13,14] [] [] fun cb ak=> ?_;have hIn:PartsIn cb r19 qs:=(hIn.keep ak);have m:AllIn cb [r19,r16] us (BE D L ids):=(m.keep ak);have hr_r8:=hr_r8.keep ak;refine ys (AaW MS (AaD (AaR hr_r8) r) zz) (ys (Aay (a:=(j:Nat)) (b:=(us.length:Nat)) ah rfl (AE _ _ _ _) zz) (kF (by omega) (ys (AaX rfl rfl zz) (cF rfl ?_))));have hje2:j=ids.length:=by omega
  have hqs:qs.map EQ=(AP D L ids ch).map EQ:=by rw[hje2,<-GH (ch:=ch) hbl,Af8]at hq;exact hq
  have hLp:CB (AP D L ids ch):=JD hbl bp hsmall hnm;have hE:=hE.trans ak;have hr_r19:=hr_r19.keep ak;refine gS (AaE WR bj ((Mt _ (hG.keep ((hD.keep hE)).ext) r19 (AP D L ids ch) qs (AaR hr_r19) (hIn).ok hqs hLp).mono ?_));rintro e cc ⟨al,rfl,bn,a7⟩;refine⟨_,rfl,?_⟩;have hvb:=eb ak hvb;have hvm:=hvm.keep ak;have hr_r16:=hr_r16.keep ak;have hvo:∀k,Afd al=some k->∀u∈ [r16],u.ownBlock≠some k:=fun k hk u hu e=>by have h1:=(bn.lt k hk).1;rw[Afh.1 hu]at e;have h2:=(hr_r16.2.lt k e).2;omega
  have hszb:=(hE).size;have hIn:PartsIn cc r19 qs:=(hIn.keep a7);have m:AllIn cc [r19,r16] us (BE D L ids):=(m.keep a7);have hvn:=(Acd bn).low hszb;have a2:=Aa5 bn;refine gS (Ad5 (vs:= [al,NI ((A0 (AP D L ids ch)).2)]) rfl rfl (gS (Ad5 (vs:= [al,NI ((A0 (AP D L ids ch)).2)]) rfl rfl (gS (Aay (a:=((A0 (AP D L ids ch)).2:Nat)) (b:=(0:Nat)) rfl rfl (AV _ _ _ _) ?_)))));refine cD rfl (fun bo=> ?_) fun bo=> ?_
  ·refine BI rfl (vr (Afc none 0 0) rfl) (vr (NI ((A0 (AP D L ids ch)).2)) rfl) ?_;have hV:AK D L ids ch=([],(A0 (AP D L ids ch)).2):=WP hnm hpos bo;have hE:=hE.trans a7;exact⟨_,[],by rw[hV],Aem _ _ _ _ _,by rw[hV];exact AllN.nil _ _,hE⟩
  have hbz:=AhX.1 bo;have hve:=AeA a2;have hve1:=(Aeg a2).2;refine gS (Abh (a:=(al)) (enc:=Cb) (vr al rfl) rfl (fun w=>by obtain⟨_,_,_,rfl⟩:=hve;exact Pr _ _ _ w) fun dw be cd a3=> ?_);have hIn:PartsIn be r19 qs:=(hIn.keep a3);have m:AllIn be [r19,r16] us (BE D L ids):=(m.keep a3);have dx:=(m).sub (S:= [r16]) (fun u hu=> .inl (AfY _ hu));have hvn:=hvn.keep a3;have a2:=a2.keep a3;have hO1:AllIn be [r16] [al] [(A0 (AP D L ids ch)).1]:=Acp (AllIn.nil _ _) a2 (fun k hk=>⟨(hvn k hk).2,hvo k hk⟩);have dy:=hvn;have hZ4:=a7.trans a3;have hE:=hE.trans hZ4;have hr_r16:=hr_r16.keep hZ4;refine gS (Aa2 _ _ w.heap.size _ 24 MS va7_ig27.choose_spec.1 va7_ig27.choose_spec.2 MS (ou) ([(al)]) (Aen hr_r16 a1) (AaD cd (vr dw rfl)) (fun y hy u hu=>by rw[Afh.1 hu,Afh.1 hy];exact hve1) (by rw[hou];simp only[AfK,Afs];omega) (by rw[hou];simp only[AfK,Afs];omega) hE.size fun aq ce dz p=> ?_);have hA6_:=dx;have hO1_:=hO1;have p:Grew be ce r16 aq:= .eqv a1 p;have hr_r8:=hr_r8.keep hZ4;have d0:Ai aq r8:=AM p hap_r16_r8 hr_r8.2;have hZ5:=(ak.trans a7).trans a3;have hr_r9:=hr_r9.keep hZ5;have d1:Ai aq r9:=AM p hap_r16_r9 hr_r9.2;have c:=c.keep hZ5;have d2:Ai aq t:=AM p hap_r16_v80 c.2;have l:=l.keep hZ5;have d3:Ai aq z:=AM p hap_r16_v81 l.2;have hvb:=eb hZ4 hvb;have d4:OB aq gv:=Ap p hap_r16_gv (bl hvb);have hvm:=hvm.keep hZ4;have d5:OB aq bm:=Ap p hap_r16_bm hvm.lt;have hr_r19:=hr_r19.keep hZ4;have hvb:=Aq hvb p hap_r16_gv;have hvm:=Aeh hvm p hap_r16_bm;have hE:=As hE p hr_r16.2 (Ae8 _);have hr_r8:=Bi hr_r8 p hap_r16_r8;have hr_r9:=Bi hr_r9 p hap_r16_r9;have c:=Bi c p hap_r16_v80;have l:=Bi l p hap_r16_v81;have hr_r19:=Bi hr_r19 p (fun k h1 h2=>hap_r19_r16 k h2 h1);clear a2;clear cd;clear hr_r16;have bi:=AeL hA6_ p;clear hA6_;have hO2:=AeL hO1_ p;clear hO1_;have hO:AllN w.heap.size ce (ou++ [al]) (if j=0 then []else [(A0 (AP D L ids ch)).1]):=by rw[hou,if_neg (by omega)];exact WQ hO2 dy
  refine gK (AfF ⟨j,ou++ [al],aq,T0,T1,T2,r,T9,a0,a4,ao,ap,ac,ah,rfl,hvb,hvm,hE,hr_r8,hr_r9,c,l,bi,hO,Bd dz (rfl), .inr ⟨hje2,hpos,hbz⟩,d0,d1,d2,d3,d4,d5,trivial⟩ ?_);show ids.length-(intOf (b5 18)).toNat<ids.length-(intOf (db 17)).toNat;rw[ah,q17];simp only[intOf,Afg];omega
 refine BI rfl a1 (vr (NI 0) rfl) ?_;have hfe:¬f<ids.length:=by have:=bb;omega
 have hV:AK D L ids ch=((if f=0 then []else [(A0 (AP D L ids ch)).1]),0):=UV hnm hf hfe;exact⟨_,_,by rw[hV],hr_r16,by rw[hV];exact hO,hE⟩
def A6(D:Ad)(L:AQ)(o:List Bs)(ch:List Int)(i:Nat):Bs:=(AK D L o ch).1.getD i []
theorem AdM{wb w w1 w2:Ae3}{g b:Nat}{H H1:Dk}{D D1:Ad}{α β:Type}{ek:α->Ae2}{ev:β->Ae2}{E:α->Prop}{G:α->Option β}(h:DkW wb w g H D w1 H1 D1)(hg:w1.grownBy w2 (some b))(hm:MapF ek ev E w1 b G)(ho:Cl H1 D1 b)(hw:w.heap.size<=b)(hwb:wb.heap.size<=w.heap.size):DkW wb w g H D w2 H1 D1:=by
 obtain⟨es,c,hb,-⟩:=hm;have hc:Chg (fun i=>i=b) w1 w2:=Abd hg fun i e=> .inl (AfJ e).symm;exact⟨⟨hc.ext h.g.ext (fun i q=>by have q:i=b:=q;omega),h.g.st.keepB hc (fun i q e=>ho (e▸q)) (fun i _ e=>by subst e;exact .inl ⟨_,_,hb⟩),h.g.hg⟩,h.chg.set hg (.inr hw),h.foot⟩
def KSt(D:Ad)(L:AQ)(o:List Bs)(ch:List Int)(H:Dk)(i:Nat)(Hi:Dk)(Di:Ad)(M:AQ)(r:Ae2):Prop:=
 (i=0/\Di=D/\Hi=H/\M= []/\r = .slice none 0 0)\/(i=(AK D L o ch).1.length/\∃p,(AK D L o ch).1= [A6 D L o ch 0]/\BJ (A6 D L o ch 0) = .ok p/\M= [(Au (A6 D L o ch 0),p)]/\Di=(AJ D (A6 D L o ch 0)).1/\(AJ D (A6 D L o ch 0)).2.2=0)
section
variable {D Di : Ad} {L M : AQ} {o : List Bs} {ch : List Int} {H Hi : Dk} {i : Nat} {r : Ae2}
theorem KSt.zero(h:KSt D L o ch H i Hi Di M r)(hi:i<(AK D L o ch).1.length):i=0/\Di=D/\Hi=H/\M= []/\r = .slice none 0 0:=h.resolve_right fun q=>by have:=q.1;omega
theorem Ht(hm:¬Es D L o->CB (AP D L o ch))(h0:¬(AK D L o ch).2≠0):(AK D L o ch).1= []\/∃p,(AK D L o ch).1= [A6 D L o ch 0]/\BJ (A6 D L o ch 0) = .ok p/\(A6 D L o ch 0).length<=40000:=by
 have h0:(AK D L o ch).2=0:=AhX.1 h0;have hmi:¬Es D L o:=fun q=>by
  unfold AK at h0;rw[if_pos q]at h0;cases h0
 have hL:=hm hmi;rcases SA hL h0 with h | ⟨p,h1,h2⟩
 ·exact .inl h
 ·have e:A6 D L o ch 0=(A0 (AP D L o ch)).1:=by unfold A6;rw[h1];rfl
  rw[e];refine .inr ⟨p,h1,h2,?_⟩;cases hb:C7 (AP D L o ch) (AP D L o ch).length with
  | error x=>
   rw[Pq hb]at h2;cases h2
  | ok s=>exact No hL hb
theorem Aau{p:AT}(h1:(AK D L o ch).1= []\/∃p,(AK D L o ch).1= [A6 D L o ch 0]/\BJ (A6 D L o ch 0) = .ok p/\(A6 D L o ch 0).length<=40000)(hi:i<(AK D L o ch).1.length)(h0:i=0):(AK D L o ch).1= [A6 D L o ch i]/\(∃p,BJ (A6 D L o ch i) = .ok p)/\(A6 D L o ch i).length<=40000:=by
 subst h0;rcases h1 with h | ⟨p,h1,h2,h3⟩
 ·rw[h]at hi;cases hi
 ·exact⟨h1,⟨p,h2⟩,h3⟩
theorem KSt.next(hs:i=0/\Di=D/\Hi=H/\M= []/\r = .slice none 0 0){H2:Dk}{r2:Ae2}{p:AT}(h1:(AK D L o ch).1= [A6 D L o ch i])(h2:BJ (A6 D L o ch i) = .ok p)(hc:(AJ Di (A6 D L o ch i)).2.2=0):KSt D L o ch H (i+1) H2 (AJ Di (A6 D L o ch i)).1 (M++ [(Au (A6 D L o ch i),p)]) r2:=by
 obtain⟨rfl,rfl,rfl,rfl,rfl⟩:=hs;exact .inr ⟨by rw[h1];rfl,p,h1,h2,rfl,rfl,hc⟩
theorem KSt.one(hs:i=0/\Di=D/\Hi=H/\M= []/\r = .slice none 0 0){p:AT}(h0:¬(AK D L o ch).2≠0)(h1:(AK D L o ch).1= [A6 D L o ch i])(h2:BJ (A6 D L o ch i) = .ok p):BG D L o ch=EZ L (A6 D L o ch i) p (AJ Di (A6 D L o ch i)):=by
 obtain⟨rfl,rfl,rfl,rfl,rfl⟩:=hs;exact IE h0 h1 h2
theorem KSt.done(h:KSt D L o ch H i Hi Di M r)(hi:¬i<(AK D L o ch).1.length)(h0:¬(AK D L o ch).2≠0):BG D L o ch=lastV Di L M:=by
 rcases h with ⟨h1,h2,h3,h4,h5⟩ | ⟨h1,p,h2,h3,h4,h5,h6⟩
 ·rw[Hs h0 (AfN (by omega)),h2,h4]
 ·rw[IE h0 h2 h3];unfold EZ;rw[h6,if_neg (by decide),if_neg (by decide),if_neg (fun q=>q rfl),h4,h5]
theorem KSt.sort(h:KSt D L o ch H i Hi Di M r):SortS (M.map AfB):=by
 rcases h with ⟨h1,h2,h3,h4,h5⟩ | ⟨h1,p,h2,h3,h4,h5,h6⟩
 ·rw[h4];exact Ahc
 ·rw[h4];exact List.pairwise_singleton _ _
end
theorem DBd.write{m:Nat}{D:Ad}(h:DBd m D){b:Bs}(hb:b.length<=60000):DBd (m+202) (AJ D b).1:=by
 have h3:∀E:Ad,DBd (m+1) E->DBd (m+202) (FI E b).1:=fun E hE=>by
  have ha:=hE.appendK (Au b) (b:=b) (k:=200) (by omega) (by omega);unfold FI;split
  ·exact ha.mono (by omega)
  ·exact(ha.sync (Au b)).mono (by omega)
 have h2:∀x:Ad × Nat,DBd (m+1) x.1->DBd (m+202) (G8 x b).1:=fun x hx=>by
  unfold G8;split
  ·exact hx.mono (by omega)
  ·exact h3 _ hx
 unfold AJ;split
 ·exact(h.sync _).mono (by omega)
 ·split
  ·exact h.mono (by omega)
  ·refine h2 _ ?_;split
   ·exact h.drop _
   ·exact h.mono (by omega)
theorem KSt.bd{D Di:Ad}{L M:AQ}{o:List Bs}{ch:List Int}{H Hi:Dk}{i m:Nat}{r:Ae2}(h:KSt D L o ch H i Hi Di M r)(hB:DBd m D)(hp:(AK D L o ch).1= []\/∃p,(AK D L o ch).1= [A6 D L o ch 0]/\BJ (A6 D L o ch 0) = .ok p/\(A6 D L o ch 0).length<=40000):DBd (m+202) Di:=by
 rcases h with ⟨h1,h2,h3,h4,h5⟩ | ⟨h1,p,h2,h3,h4,h5,h6⟩
 ·rw[h2];exact hB.mono (by omega)
 ·rw[h5];refine hB.write ?_;rcases hp with hp | ⟨q,q1,q2,q3⟩
  ·rw[hp]at h2;cases h2
  ·omega
theorem ZZ{D:Ad}{s:Bs}:(BD D s).2=0\/(BD D s).2=9\/(BD D s).2=10\/(BD D s).2=4:=by
 unfold BD;split
 ·rename_i e he
  unfold FD at he;split at he
  ·cases he;unfold CP;split
   ·exact .inr (.inl rfl)
   ·split
    ·exact .inl rfl
    ·exact .inr (.inr (.inl rfl))
  ·split at he
   ·cases he
   ·cases he;exact .inr (.inr (.inr rfl))
 ·unfold DZ;split
  ·exact .inr (.inl rfl)
  ·exact .inl rfl
theorem Qf{D:Ad}{b:Bs}(h:(AJ D b).2.1=true):(AJ D b).2.2≠8/\(AJ D b).2.2≠7:=by
 have h3:∀E:Ad,(FI E b).2.1=true->(FI E b).2.2≠8/\(FI E b).2.2≠7:=fun E hE=>by
  unfold FI at hE ⊢;split at hE
  ·cases hE
  ·rename_i q
   rw[if_neg q];show(BD _ _).2≠8/\(BD _ _).2≠7;have:=ZZ (D:=(A3 E (Au b) b).1) (s:=Au b);omega
 have h2:∀x:Ad × Nat,(G8 x b).2.1=true->(G8 x b).2.2≠8/\(G8 x b).2.2≠7:=fun x hx=>by
  unfold G8 at hx ⊢;split at hx
  ·cases hx
  ·rename_i q
   rw[if_neg q];exact h3 _ hx
 unfold AJ at h ⊢;split at h
 ·cases h
 ·rename_i q
  rw[if_neg q];split at h
  ·cases h
  ·rename_i q2
   rw[if_neg q2];exact h2 _ h
section
variable {L : AQ} {b : Bs} {p : AT} {x : Ad × Bool × Nat}
theorem Hu(h8:¬x.2.2=8)(h7:¬x.2.2=7)(h:x.2.2≠0):EZ L b p x=(x.1,L,[],x.2.2):=(if_neg h8).trans ((if_neg h7).trans (if_pos h))
theorem SC(h:x.2.2=7):EZ L b p x=(x.1,L,[b,(Ar x.1 (Au b)).1],7):=(if_neg (by omega)).trans (if_pos h)
theorem LX(hf:x.2.1=false)(h:x.2.2=8):EZ L b p x=(x.1,L,[],8):=by
 unfold EZ;rw[if_pos h,hf];exact if_neg fun q=>q rfl
end
def PlZ(i n:Nat)(w:Ae3)(v:Ae2)(us:List Ae2)(bs:List Bs):Prop:=i=0->OG n 27 1 Cb w v us/\AllN n w us bs
theorem PlZ.done{i n:Nat}{w:Ae3}{v:Ae2}{us:List Ae2}{bs:List Bs}:PlZ (i+1) n w v us bs:=fun q=>absurd q (Nat.succ_ne_zero i)
section
variable {wb w w1 w2 : Ae3} {n g gv bm bm2 : Nat} {H Hi H2 : Dk} {D Di D2 : Ad} {L M : AQ} {ptr ptr2 : Bs -> Nat}
theorem PksAt.stepW(h:PksAt (fun k=>Cl Hi Di k/\k≠gv/\k≠bm2) w1 M ptr2)(hW:DkW wb w1 g Hi Di w2 H2 D2):PksAt (fun k=>Cl H2 D2 k/\k≠gv/\k≠bm2) w2 M ptr2:=
 h.chg hW.chg fun k hk q=>⟨q.1,fun z=>(hW.foot k z).elim q.1 fun z=>by omega,q.2⟩
theorem DkW.offB(hW:DkW wb w1 g Hi Di w2 H2 D2){k:Nat}(hk:k<w1.heap.size)(h:Cl Hi Di k):Cl H2 D2 k:=fun z=>(hW.foot k z).elim h fun z=>by omega
theorem AdN(hV:VtAt n (Cl H D) w gv g bm L ptr)(hW:DkW wb w g H D w1 Hi Di)(hn:wb.heap.size<=n)(hmp:MapF St pN Nm w1 bm2 (pkG M ptr2))(hPk:PksAt (fun k=>Cl Hi Di k/\k≠gv/\k≠bm2) w1 M ptr2)(hs:SortS (M.map AfB))(a:Cl Hi Di bm2)(hne:bm2≠gv){cs:Array Ae2}{fr:Nat × Nat}(b:w1.heap[gv]? =some (.cells cs 86 fr))(hb:w2.heap[gv]? =some (.cells ([PQ g 0, .map (some bm2)]).toArray 86 (0,0)))(hg:w1.grownBy w2 (some gv)):VtK wb w n g gv H D w2 Hi Di M:=by
 have hV1:=hV.step hW;refine⟨hW.g.setT hg b (Ae7 hn hV.lo) (by decide) (by decide) (by decide) (by decide) (by decide) (by decide),⟨bm2,ptr2,hb,hmp.other hg (Ak hne.symm),hPk.set hg (fun k q=>q.2.1),hs,hV1.g0,a,hV.lo⟩,?_,hW.foot⟩;exact(hW.chg.monoV fun k q=> .inl q).set hg (.inl (.inr ⟨rfl,hV.lo⟩))
end
theorem FZ(D:Ad)(sg:Bs):(Az D sg).length<=(AF D).length:=AgM _ _
theorem DBd.list{m:Nat}{D:Ad}(h:DBd m D):(AF D).length<=m:=by
 unfold AF;split
 ·exact AfC _
 ·rw[Afu];exact h.now
theorem QT{m:Nat}{D:Ad}(h:DBd m D)(M:AQ):(goneV D M).length<=m+m:=by
 have h1:=h.list;have h2:=FZ D [112,45];have h3:=FZ D [111,45];have h4:=AgM (fun s=>(M.lookup s).isNone) (Az D [112,45]);unfold goneV;rw[Ae9];omega
theorem Ps:Plain Ae5 44:=fun _ _=>by kernel_rfl
theorem IH:Plain Ae5 90:=fun _ _=>by kernel_rfl
theorem WT:Plain Ae5 52:=fun _ _=>by kernel_rfl
theorem QU(wb w:Ae3)(g:Nat)(H:Dk)(D:Ad)(hD:DkG wb w g H D)(bs:Nat)(v:Ae2)(l:List Bs)(hl:OG bs 9 1 CQ w v l)(m:Nat)(hB:DBd m D)(hm:m+l.length<=100000):
  Calls Ae5 51 #[v, .func (.func 52) #[PQ g 0] #[]] w fun e w' =>∃H',e = .returned (NI (dropsD D l).2)/\DkW wb w g H D w' H' (dropsD D l).1/\OG bs 9 1 CQ w' v l:=by
 refine gG (args:= [v, .func (.func 52) #[PQ g 0] #[]]) Tryz.func51 rfl 21 rfl rfl ?_;have hE:=Ad4 w;refine gS (AaW OY (AaD (AaR hl) rfl) (gL (fun(ρ:Ae) (wz:Ae3)=>∃i:Nat,∃Hi:Dk,∃Di:Ad,ρ 0=(v:Ae2)/\ρ 1=(.func (.func 52) #[PQ g 0] #[]:Ae2)/\ρ 9=(NI l.length:Ae2)/\ρ 8=(v:Ae2)/\ρ 10=(NI i:Ae2)/\DkW wb w g H D wz Hi Di/\OG bs 9 1 CQ wz v l/\(i<=l.length)/\(dropsD D l=dropsD Di (l.drop i))/\(DBd (m+i) Di)/\True) (fun ρ _=>l.length-(intOf (ρ 10)).toNat) ⟨0,H,D,rfl,rfl,rfl,rfl,rfl,AbA hD hE,hl,AfC _,rfl,hB,trivial⟩ ?_));clear hl;clear hE;rintro r u ⟨i,Hi,Di,s,k,n,o,c,hW,hli,hi,hq,hBi,-⟩;have q10:=c;refine gS (Aay (a:=(i:Nat)) (b:=(l.length:Nat)) c n (AE _ _ _ _) ?_);refine cD rfl (fun f=> ?_) fun f=> ?_
 ·have hlt:i<l.length:=f;have x:(CQ (l.getD (i) ([]:AlJ))).length=1:=(Aec (AaR hli) ([]:AlJ) (hlt));refine gS (AaZ OY VZ (by decide) ([]:AlJ) (AaD (AaR hli) o) c (hlt) fun y p=>(gS (AaY QD rfl (Aef (Aa6 p rfl) rfl) ?_)));clear p;refine gS (Adx (bd:= #[PQ g 0]) (caps:= #[]) (fun _ _=>by kernel_rfl) k rfl rfl (hW.g.dropW (l.getD (i) ([]:AlJ)) (hBi.lt (by omega))) fun H2 z hW2=> ?_);have hW3:=hW.trans hW2;have q:=Ad2 hW.g hW2.chg hli (by decide) (by decide) (by decide) (by decide);refine gS (Aay (a:=((Bx Di (l.getD (i) ([]:AlJ))).2:Nat)) (b:=(0:Nat)) rfl rfl (AV _ _ _ _) ?_);refine cD rfl (fun j=> ?_) fun j=> ?_
  ·refine A8 rfl (vr (NI ((Bx Di (l.getD (i) ([]:AlJ))).2)) rfl) ?_;have hV:dropsD D l=Bx Di (l.getD (i) ([]:AlJ)):=by rw[hq,Nf hlt,FH,if_pos j]
   exact⟨H2,by rw[hV],by rw[hV];exact hW3,q⟩
  have hq3:dropsD D l=dropsD (Bx Di (l.getD (i) ([]:AlJ))).1 (l.drop (i+1)):=by rw[hq,Nf hlt,FH,if_neg j]
  have t:=hBi.drop (l.getD (i) ([]:AlJ));refine gS (Aaz (xv:=NI i) (yv:=NI 1) c rfl rfl (Ah _ _ _ (by omega)) (gK (AfF ⟨i+1,H2,(Bx Di (l.getD (i) ([]:AlJ))).1,s,k,n,o,rfl,hW3,q,by omega,hq3,t,trivial⟩ ?_)));show l.length-(intOf (NI ((i)+(1)))).toNat<l.length-(intOf (r 10)).toNat;rw[q10];simp only[intOf,Afg];omega
 refine A8 rfl (vr (NI 0) rfl) ?_;have hie:i=l.length:=by have h:=f;omega
 have hV:dropsD D l=(Di,0):=by rw[hq,hie,List.drop_length];rfl
 exact⟨Hi,by rw[hV],by rw[hV];exact hW,hli⟩
theorem UY(wb w:Ae3)(g:Nat)(H:Dk)(D:Ad)(hD:DkG wb w g H D)(hG:Laid wb)(gv bm:Nat)(hvb:w.heap[gv]? =some (.cells ([PQ g 0, .map (some bm)]).toArray 86 (0,0)))(vb:Ae2)(b:AlJ)(hr:RB w vb b)(hoff:b= []\/∀i,vb.ownBlock=some i->¬B7 H D.files.length i)(hbl:b.length<=60000)(m:Nat)(hB:DBd m D)(hm:m<=99000):
  Calls Ae5 50 #[PQ gv 0,vb] w fun e w' =>∃H',e = .returned (.tuple #[.bool (AJ D b).2.1,NI (AJ D b).2.2])/\DkW wb w g H D w' H' (AJ D b).1:=by
 refine gG (args:= [PQ gv 0,vb]) Tryz.func50 rfl 75 rfl rfl ?_;have hE:=Ad4 w;have hwb:=hD.ext.size;have hW:DkW wb w g H D w H D:=AbA hD hE;have hrl:=IA (hB.lt (by omega)) (Au b);refine gS (AaE Ps rfl ((EC _ (hG.keep (hW).g.ext) vb b (hr.keep hE) (by omega)).mono ?_));rintro e t ⟨rfl,p⟩;refine⟨_,rfl,?_⟩;have hW:DkW wb w g H (D) t H (D):=(hW.keep p);have hvb:=eb p hvb;refine gS (Ad7 rfl (gS (Ad6 LR rfl (gS (Aax VY rfl rfl (cellAt hvb rfl) (gS (AaA Wp rfl rfl (((hW).g.read (Au b) (hB.lt (by omega))).mono ?_))))))));rintro e u ⟨r,rfl,v,n⟩;refine⟨_,rfl,?_⟩;have hW:DkW wb w g H (D) u H (D):=(hW.keep n);have o:=Aa5 v;refine gS (Ad5 (vs:= [r,NI ((Ar D (Au b)).2)]) rfl rfl (gS (Ad5 (vs:= [r,NI ((Ar D (Au b)).2)]) rfl rfl ?_)));by_cases h0:(Ar D (Au b)).2=0
 ·have hE:=hE.trans (p.trans n);refine gS (Aay (a:=((Ar D (Au b)).2:Nat)) (b:=(0:Nat)) rfl rfl (AH _ _ _ _) (kT (h0) (gS (Abb GR u5 QD (AaF o rfl) (gS (Abb GR u5 QD (AaF (hr.keep hE) rfl) (gS (Abw (l:=(Ar D (Au b)).1) (m:=b) (.inl rfl) rfl rfl (decide ((Ar D (Au b)).1=b)) rfl (gS (AaS rfl rfl ?_))))))))));refine cD rfl (fun h=> ?_) fun h=> ?_
  ·have hvb:=eb n hvb;refine gS (Ad7 rfl (gS (Ad6 LR rfl (gS (Aax VY rfl rfl (cellAt hvb rfl) ?_)))));have hWc:=hW;refine gS (AaA IH rfl rfl ((hWc.g.syncW (Au b) ((hB).lt (by omega))).mono ?_));rintro e x ⟨H14,rfl,hW15⟩;refine⟨_,rfl,?_⟩;have hWn:=hWc.trans hW15;have hvb:x.heap[gv]? =some (.cells ([PQ g 0, .map (some bm)]).toArray 86 (0,0)):=Aeo hWc.g hW15.chg hvb (by decide) (by decide) (by decide) (by decide);clear hE;clear hW;clear o;have hW:=hWn;refine BI rfl (vr (.bool (false)) rfl) (vr (NI ((BD D (Au b)).2)) rfl) ?_;have hV:=Sv h0 h;exact⟨H14,by rw[hV],by rw[hV];exact hW⟩
  refine gS (Aay (a:=((Ar D (Au b)).2:Nat)) (b:=(0:Nat)) rfl rfl (AH _ _ _ _) (kT (h0) (gS (AaE Ps rfl ((EC _ (hG.keep (hW).g.ext) r (Ar D (Au b)).1 o (by omega)).mono ?_)))));rintro e y ⟨rfl,s⟩;refine⟨_,rfl,?_⟩;have hW:DkW wb w g H (D) y H (D):=(hW.keep s);refine gS (Abw (l:=Au (Ar D (Au b)).1) (m:=(Au b)) (.inl rfl) rfl rfl (decide ((Au (Ar D (Au b)).1:AlJ)=((Au b):AlJ))) rfl (gS (AaS rfl rfl ?_)));refine cD rfl (fun j=> ?_) fun j=> ?_
  ·refine BI rfl (vr (.bool (false)) rfl) (vr (NI 7) rfl) ?_;have hV:=Sw h h0 j;exact⟨H,by rw[hV],by rw[hV];exact hW⟩
  have hvb:=eb (n.trans s) hvb;refine gS (Aay (a:=((Ar D (Au b)).2:Nat)) (b:=(0:Nat)) rfl rfl (AH _ _ _ _) (kT (h0) (cT rfl (gS (Ad7 rfl (gS (Ad6 LR rfl (gS (Aax VY rfl rfl (cellAt hvb rfl) ?_)))))))));have hWc:=hW;refine gS (AaA WT rfl rfl ((hWc.g.dropW (Au b) ((hB).lt (by omega))).mono ?_));rintro e z ⟨H24,rfl,hW25⟩;refine⟨_,rfl,?_⟩;have hWn:=hWc.trans hW25;have hvb:z.heap[gv]? =some (.cells ([PQ g 0, .map (some bm)]).toArray 86 (0,0)):=Aeo hWc.g hW25.chg hvb (by decide) (by decide) (by decide) (by decide);clear hE;clear hW;clear o;have hW:=hWn;by_cases hd0:(Bx D (Au b)).2=0
  ·refine gS (Aay (a:=((Bx D (Au b)).2:Nat)) (b:=(0:Nat)) rfl rfl (AV _ _ _ _) (kF ((fun q=>q hd0)) (gS (AaX rfl rfl (cF rfl (gS (Ad7 rfl (gS (Ad6 LR rfl (gS (Aax VY rfl rfl (cellAt hvb rfl) ?_)))))))))));have hWc:=hW;refine gS (Aa9 Wm rfl rfl rfl ((hWc.g.appendW (Au b) vb b (hr.chg hWc.chg hoff) (hWc.off hr hoff) (by omega) (((hB).drop (Au b)).lt (by omega))).mono ?_));rintro e aa ⟨H31,rfl,hW32⟩;refine⟨_,rfl,?_⟩;have hWn:=hWc.trans hW32;have hvb:aa.heap[gv]? =some (.cells ([PQ g 0, .map (some bm)]).toArray 86 (0,0)):=Aeo hWc.g hW32.chg hvb (by decide) (by decide) (by decide) (by decide);clear hW;have hW:=hWn;refine gS (Aay (a:=((A3 ((Bx D (Au b)).1) (Au b) b).2:Nat)) (b:=(0:Nat)) rfl rfl (AV _ _ _ _) ?_);refine cD rfl (fun c=> ?_) fun c=> ?_
   ·refine BI rfl (vr (.bool (false)) rfl) (vr (NI ((A3 ((Bx D (Au b)).1) (Au b) b).2)) rfl) ?_;have hV:=((FJ h h0 j).trans (if_neg (fun q=>q.1 hd0))).trans (if_pos c);exact⟨H31,by rw[hV],by rw[hV];exact hW⟩
   refine gS (Ad7 rfl (gS (Ad6 LR rfl (gS (Aax VY rfl rfl (cellAt hvb rfl) ?_)))));have hWc:=hW;refine gS (AaA IH rfl rfl ((hWc.g.syncW (Au b) ((((hB).drop (Au b)).appendK (Au b) (k:=200) (by omega) (by omega)).lt (by omega))).mono ?_));rintro e ab ⟨H37,rfl,hW38⟩;refine⟨_,rfl,?_⟩;have hWn:=hWc.trans hW38;have hvb:ab.heap[gv]? =some (.cells ([PQ g 0, .map (some bm)]).toArray 86 (0,0)):=Aeo hWc.g hW38.chg hvb (by decide) (by decide) (by decide) (by decide);clear hW;have hW:=hWn;refine BI rfl (vr (.bool (true)) rfl) (vr (NI ((BD ((A3 ((Bx D (Au b)).1) (Au b) b).1) (Au b)).2)) rfl) ?_;have hV:=((FJ h h0 j).trans (if_neg (fun q=>q.1 hd0))).trans (if_neg c);exact⟨H37,by rw[hV],by rw[hV];exact hW⟩
  refine gS (Aay (a:=((Bx D (Au b)).2:Nat)) (b:=(0:Nat)) rfl rfl (AV _ _ _ _) (kT (hd0) (gS (Aay (a:=((Bx D (Au b)).2:Nat)) (b:=(4:Nat)) rfl rfl (AV _ _ _ _) (gS (AaS rfl rfl ?_))))));refine cD rfl (fun f=> ?_) fun f=> ?_
  ·refine BI rfl (vr (.bool (false)) rfl) (vr (NI ((Bx D (Au b)).2)) rfl) ?_;have hV:=(FJ h h0 j).trans (if_pos ⟨hd0,f⟩);exact⟨H24,by rw[hV],by rw[hV];exact hW⟩
  refine gS (Ad7 rfl (gS (Ad6 LR rfl (gS (Aax VY rfl rfl (cellAt hvb rfl) ?_)))));have hWc:=hW;refine gS (Aa9 Wm rfl rfl rfl ((hWc.g.appendW (Au b) vb b (hr.chg hWc.chg hoff) (hWc.off hr hoff) (by omega) (((hB).drop (Au b)).lt (by omega))).mono ?_));rintro e ac ⟨H45,rfl,hW46⟩;refine⟨_,rfl,?_⟩;have hWn:=hWc.trans hW46;have hvb:ac.heap[gv]? =some (.cells ([PQ g 0, .map (some bm)]).toArray 86 (0,0)):=Aeo hWc.g hW46.chg hvb (by decide) (by decide) (by decide) (by decide);clear hW;have hW:=hWn;refine gS (Aay (a:=((A3 ((Bx D (Au b)).1) (Au b) b).2:Nat)) (b:=(0:Nat)) rfl rfl (AV _ _ _ _) ?_);refine cD rfl (fun c=> ?_) fun c=> ?_
  ·refine BI rfl (vr (.bool (false)) rfl) (vr (NI ((A3 ((Bx D (Au b)).1) (Au b) b).2)) rfl) ?_;have hV:=((FJ h h0 j).trans (if_neg (fun q=>f q.2))).trans (if_pos c);exact⟨H45,by rw[hV],by rw[hV];exact hW⟩
  refine gS (Ad7 rfl (gS (Ad6 LR rfl (gS (Aax VY rfl rfl (cellAt hvb rfl) ?_)))));have hWc:=hW;refine gS (AaA IH rfl rfl ((hWc.g.syncW (Au b) ((((hB).drop (Au b)).appendK (Au b) (k:=200) (by omega) (by omega)).lt (by omega))).mono ?_));rintro e ad ⟨H51,rfl,hW52⟩;refine⟨_,rfl,?_⟩;have hWn:=hWc.trans hW52;have hvb:ad.heap[gv]? =some (.cells ([PQ g 0, .map (some bm)]).toArray 86 (0,0)):=Aeo hWc.g hW52.chg hvb (by decide) (by decide) (by decide) (by decide);clear hW;have hW:=hWn;refine BI rfl (vr (.bool (true)) rfl) (vr (NI ((BD ((A3 ((Bx D (Au b)).1) (Au b) b).1) (Au b)).2)) rfl) ?_;have hV:=((FJ h h0 j).trans (if_neg (fun q=>f q.2))).trans (if_neg c);exact⟨H51,by rw[hV],by rw[hV];exact hW⟩
 refine gS (Aay (a:=((Ar D (Au b)).2:Nat)) (b:=(0:Nat)) rfl rfl (AH _ _ _ _) (kF (h0) (gS (AaX rfl rfl (cF rfl (gS (Aay (a:=((Ar D (Au b)).2:Nat)) (b:=(0:Nat)) rfl rfl (AH _ _ _ _) (kF (h0) (gS (AaX rfl rfl (cF rfl (gS (Aay (a:=((Ar D (Au b)).2:Nat)) (b:=(0:Nat)) rfl rfl (AH _ _ _ _) (kF (h0) (cF rfl (gS (Aay (a:=((Ar D (Au b)).2:Nat)) (b:=(0:Nat)) rfl rfl (AV _ _ _ _) (kT (h0) (gS (Aay (a:=((Ar D (Au b)).2:Nat)) (b:=(4:Nat)) rfl rfl (AV _ _ _ _) (gS (AaS rfl rfl ?_))))))))))))))))))))));refine cD rfl (fun f=> ?_) fun f=> ?_
 ·refine BI rfl (vr (.bool (false)) rfl) (vr (NI ((Ar D (Au b)).2)) rfl) ?_;have hV:=(FK h0).trans (if_pos ⟨h0,f⟩);exact⟨H,by rw[hV],by rw[hV];exact hW⟩
 have hvb:=eb n hvb;refine gS (Ad7 rfl (gS (Ad6 LR rfl (gS (Aax VY rfl rfl (cellAt hvb rfl) ?_)))));have hWc:=hW;refine gS (Aa9 Wm rfl rfl rfl ((hWc.g.appendW (Au b) vb b (hr.chg hWc.chg hoff) (hWc.off hr hoff) (by omega) ((hB).lt (by omega))).mono ?_));rintro e ae ⟨H65,rfl,hW66⟩;refine⟨_,rfl,?_⟩;have hWn:=hWc.trans hW66;have hvb:ae.heap[gv]? =some (.cells ([PQ g 0, .map (some bm)]).toArray 86 (0,0)):=Aeo hWc.g hW66.chg hvb (by decide) (by decide) (by decide) (by decide);clear hE;clear hW;clear o;have hW:=hWn;refine gS (Aay (a:=((A3 D (Au b) b).2:Nat)) (b:=(0:Nat)) rfl rfl (AV _ _ _ _) ?_);refine cD rfl (fun c=> ?_) fun c=> ?_
 ·refine BI rfl (vr (.bool (false)) rfl) (vr (NI ((A3 D (Au b) b).2)) rfl) ?_;have hV:=((FK h0).trans (if_neg (fun q=>f q.2))).trans (if_pos c);exact⟨H65,by rw[hV],by rw[hV];exact hW⟩
 refine gS (Ad7 rfl (gS (Ad6 LR rfl (gS (Aax VY rfl rfl (cellAt hvb rfl) ?_)))));have hWc:=hW;refine gS (AaA IH rfl rfl ((hWc.g.syncW (Au b) (((hB).appendK (Au b) (k:=200) (by omega) (by omega)).lt (by omega))).mono ?_));rintro e af ⟨H71,rfl,hW72⟩;refine⟨_,rfl,?_⟩;have hWn:=hWc.trans hW72;have hvb:af.heap[gv]? =some (.cells ([PQ g 0, .map (some bm)]).toArray 86 (0,0)):=Aeo hWc.g hW72.chg hvb (by decide) (by decide) (by decide) (by decide);clear hW;have hW:=hWn;refine BI rfl (vr (.bool (true)) rfl) (vr (NI ((BD ((A3 D (Au b) b).1) (Au b)).2)) rfl) ?_;have hV:=((FK h0).trans (if_neg (fun q=>f q.2))).trans (if_neg c);exact⟨H71,by rw[hV],by rw[hV];exact hW⟩
theorem Pu:Plain Ae5 40:=fun _ _=>by kernel_rfl
theorem NP(z0:Nat)(z1:Nat)(w:Ae3):(Ag3 86 #[(0,PQ z0 0),(1, .map (some z1))]).run Ae5 w = .ok (.agg ([PQ z0 0, .map (some z1)]:List Ae2).toArray) w:=by kernel_rfl
theorem WU:Plain Ae5 41:=fun _ _=>by kernel_rfl
theorem WV:Plain Ae5 43:=fun _ _=>by kernel_rfl
theorem WW(wb w:Ae3)(g:Nat)(H:Dk)(D:Ad)(hD:DkG wb w g H D)(hG:Laid wb)(hL:De D)(hnm:(AF D).length<=100000):
  Calls Ae5 13 #[PQ g 0] w fun e w' =>(D.down=true/\e = .returned (.tuple #[.pointer none,NI 9])/\Ext w w')\/(D.down=false/\∃gv bm ptr,e = .returned (.tuple #[PQ gv 0,NI 0])/\VtAt w.heap.size (Cl H D) w' gv g bm (openV D) ptr/\Ext w w'):=by
 refine gG (args:= [PQ g 0]) Tryz.func13 rfl 53 rfl rfl ?_;have hE:=Ad4 w;have hDk:=hD;rcases hdn:D.down with _ | _
 ·refine gS (Aa8 VY rfl (cF rfl (gS (AaE Pu rfl (((show Calls _ _ _ _ (fun e w2=>e = .returned (.bool false)/\Ext _ w2)from by have h:=(hD.keep hE).down;rw[hdn]at h;exact h)).mono ?_)))));rintro e w7 ⟨rfl,a1⟩;refine⟨_,rfl,?_⟩;refine cF rfl (gS (AbB St pN Nm fun o a2 ba t ar bb=> ?_));have f:=Ad4 w7;have hE:=hE.trans a1;have a3:=hE.size;have bc:o<a2.heap.size:=by omega
  refine gS (Abu (vr (PQ g 0) rfl) (vr (.map (some o)) rfl) (fun w=>NP (g) (o) w) (gS (Ael (cs:=([PQ g 0, .map (some o)]:List Ae2).toArray) (show _=(.agg ([PQ g 0, .map (some o)]).toArray:Ae2)from rfl) fun r a4 a5 au ah bd=> ?_)));have hE:=hE.trans ar;have f:=f.trans ar;have be:=hE.size;have bf:=f.size;have bg:=Av t.lt a5;have j:=au;clear au;have bh:r<a4.heap.size:=by omega
  have hbo_:Cl H D o:=hDk.offN (by omega);have hgo_:Cl H D r:=hDk.offN (by omega);have hlg_:w.heap.size<=r:=by omega
  have hE:=hE.trans ah;have f:=f.trans ah;have bi:=hE.size;have bj:=f.size;refine gS (AaA WU rfl rfl ((KQ wb _ g H D (hD.keep hE) hL [112,45] hnm).mono ?_));rintro e bk ⟨ai,rfl,av,ac⟩;refine⟨_,rfl,?_⟩;have t:=t.keep ah;have a6:OB ai o:=DA av.2 t.lt;have p:=AaR av;have hE:=hE.trans ac;have f:=f.trans ac;have t:=t.keep ac;have j:=eb ac j;refine gS (AaW OY (AaD p rfl) (gL (fun(ρ:Ae) (wz:Ae3)=>∃i:Nat,∃L:AQ,∃ptr:Bs->Nat,ρ 0=(PQ g 0:Ae2)/\ρ 2=(.pointer none:Ae2)/\ρ 3=(NI 0:Ae2)/\ρ 4=(PQ r 0:Ae2)/\ρ 12=(.bool (false):Ae2)/\ρ 14=(.bool (false):Ae2)/\ρ 20=(ai:Ae2)/\ρ 21=(NI (((Az D [112,45])).length):Ae2)/\ρ 22=(NI i:Ae2)/\Ext w wz/\Ext w7 wz/\wz.heap[r]? =some (.cells ([PQ g 0, .map (some o)]).toArray 86 (0,0))/\RG 1 (CQ) wz ai (Az D [112,45])/\PksAt (fun k=>Cl H D k/\k≠r/\k≠o) wz L ptr/\MapF St pN Nm wz o (pkG L ptr)/\(i<=(Az D [112,45]).length)/\(L=((Az D [112,45]).take i).filterMap (DH D))/\True) (fun ρ _=>(Az D [112,45]).length-(intOf (ρ 22)).toNat) ⟨0,[],(fun _=>0),rfl,rfl,rfl,rfl,rfl,rfl,rfl,rfl,rfl,hE,f,j,p,AeY _ _ _,Ci t (rfl),AfC _,rfl,trivial⟩ ?_));clear t;clear hE j p;rintro aj bn ⟨i,L,ptr,T0,T2,T3,z,am,an,ae,af,v,hE,f,j,p,hpk,hb12l,hil,hLe,-⟩;have q22:=v;refine gS (Aay (a:=(i:Nat)) (b:=(((Az D [112,45])).length:Nat)) v af (AE _ _ _ _) ?_);refine cD rfl (fun ao=> ?_) fun ao=> ?_
  ·have hnc:(Az D [112,45]).length<=(AF D).length:=AgM _ _;have hlt:i<(Az D [112,45]).length:=ao;have hel:=Nd hDk.st.ok hlt;have hrl:=IA hL ((Az D [112,45]).getD (i) ([]:AlJ));have hni:((Az D [112,45]).getD (i) ([]:AlJ))∉L.map AfB:=YY hDk.st.ok hlt hLe;have bo:(CQ (((Az D [112,45])).getD (i) ([]:AlJ))).length=1:=(Aec p ([]:AlJ) (hlt));refine gS (AaZ OY VZ (by decide) ([]:AlJ) (AaD p ae) v (hlt) fun bp aw=>(gS (AaY QD rfl (Aef (Aa6 aw rfl) rfl) ?_)));clear aw;refine gS (AaA Wp T0 rfl (((hD.keep hE).read ((Az D [112,45]).getD (i) ([]:AlJ)) hL).mono ?_));rintro e bq ⟨aa,rfl,a7,x⟩;refine⟨_,rfl,?_⟩;have u:=Aa5 a7;refine gS (Ad5 (vs:= [aa,NI ((Ar D ((Az D [112,45]).getD (i) ([]:AlJ))).2)]) rfl rfl (gS (Ad5 (vs:= [aa,NI ((Ar D ((Az D [112,45]).getD (i) ([]:AlJ))).2)]) rfl rfl ?_)));have hE:=hE.trans x;have hsz_:=hE.size;have hDo:=(hD.keep hE);have j:=eb x j;have hlb1_:=bl j;have hb12l:=hb12l.keep x;have hlb2_:=(hb12l).lt;refine gS (AaE WV rfl ((OR _ (hG.keep ((hD.keep hE)).ext) aa (Ar D ((Az D [112,45]).getD (i) ([]:AlJ))).1 u).mono ?_));rintro e a8 ⟨_,rfl,pp,cc,rfl,hON,s⟩;refine⟨_,rfl,?_⟩;refine gS (Ad5 (vs:= [pp,NI cc]) rfl rfl (gS (Ad5 (vs:= [pp,NI cc]) rfl rfl ?_)));rcases hop:BJ (Ar D ((Az D [112,45]).getD (i) ([]:AlJ))).1 with er | pk
   rotate_left
   ·have ax:=(Ae1 hON hop).1;refine AgN (Ach hON hop) fun gp hpp=> ?_;have hPP:PackP (fun k=>Cl H D k/\k≠r/\k≠o) a8 (pN gp) pk:=Acg (hpp▸(Ae1 hON hop).2) (fun k h1 h2=>⟨hDo.offN h1,by omega,by omega⟩);by_cases hnp:((Az D [112,45]).getD (i) ([]:AlJ))=Au (Ar D ((Az D [112,45]).getD (i) ([]:AlJ))).1
    ·have hvp:Gh D ((Az D [112,45]).getD (i) ([]:AlJ))=some pk:=by unfold Gh;rw[hop];exact if_pos hnp.symm
     have hE:=hE.trans s;have u:=u.keep s;refine gS (Aay (a:=(0:Nat)) (b:=(0:Nat)) (vr (NI 0) (congrArg (fun n:Nat=>NI n) ax)) rfl (AH _ _ _ _) (kT (rfl) (gS (AaE Ps rfl ((EC _ (hG.keep ((hD.keep hE)).ext) aa (Ar D ((Az D [112,45]).getD (i) ([]:AlJ))).1 u (by omega)).mono ?_)))));rintro e ay ⟨rfl,ag⟩;refine⟨_,rfl,?_⟩;have hZ1:=s.trans ag;have j:=eb hZ1 j;refine gS (Abw (l:=Au (Ar D ((Az D [112,45]).getD (i) ([]:AlJ))).1) (m:=((Az D [112,45])).getD (i) ([]:AlJ)) (.inl rfl) rfl rfl (decide ((Au (Ar D ((Az D [112,45]).getD (i) ([]:AlJ))).1:AlJ)=(((Az D [112,45])).getD (i) ([]:AlJ):AlJ))) rfl (kT (hnp.symm) (gS (AaS rfl rfl (cT rfl (gS (Ad7 z (gS (Ad6 LQ rfl (gS (Aax KR rfl rfl (cellAt j rfl) ?_)))))))))));have hZ2:=(x.trans s).trans ag;have hpk:=hpk.keep hZ2;have hpk:PksAt (fun k=>Cl H D k/\k≠r/\k≠o) ay L ptr:=hpk;have hPP:=hPP.keep ag;have hPP:PackP (fun k=>Cl H D k/\k≠r/\k≠o) ay (pN gp) pk:=hPP;have hb12l:=hb12l.keep hZ1;refine gS (Aby (ek:=St) (ev:=pN) (D:=Nm) (c:=gp) Fd Eb KR (vr (.map (some o)) rfl) (vr (St (((Az D [112,45])).getD (i) ([]:AlJ))) rfl) (vr (PQ gp 0) hpp) hb12l (by exact hel) fun ap az y br=> ?_);have p:=p.keep hZ2;have p:=RG.kept p y (.inr a6);have hpk:PksAt (fun k=>Cl H D k/\k≠r/\k≠o) ap L ptr:=PksAt.set hpk y (fun k q=>q.2.2);clear u;have hPP:PackP (fun k=>Cl H D k/\k≠r/\k≠o) ap (pN gp) pk:=PackP.set hPP y (fun k q=>q.2.2);clear hb12l;have bs:o<ap.heap.size:=az.lt;have hpk:=Aco hpk hni hPP;have f:=f.trans hZ2;have f:=Ab f y (Ae7 (Ae8 _) (by omega));have hE:=hE.trans ag;have hE:=Ab hE y (Ae7 a3 (by omega));have j:=kb y j (by omega);refine gS (Aaz (xv:=NI i) (yv:=NI 1) v rfl rfl (Ah _ _ _ (by omega)) (gK (AfF ⟨i+1,L++ [(((Az D [112,45]).getD (i) ([]:AlJ)),pk)],updP ptr ((Az D [112,45]).getD (i) ([]:AlJ)) gp,T0,T2,T3,z,am,an,ae,af,rfl,hE,f,j,p,hpk,Ci az ((KP hni)),by omega,(YX hlt hLe hvp),trivial⟩ ?_)));show(Az D [112,45]).length-(intOf (NI ((i)+(1)))).toNat<(Az D [112,45]).length-(intOf (aj 22)).toNat;rw[q22];simp only[intOf,Afg];omega
    have hvp:Gh D ((Az D [112,45]).getD (i) ([]:AlJ))=none:=by unfold Gh;rw[hop];exact if_neg (fun q=>hnp q.symm)
    have hE:=hE.trans s;have u:=u.keep s;refine gS (Aay (a:=(0:Nat)) (b:=(0:Nat)) (vr (NI 0) (congrArg (fun n:Nat=>NI n) ax)) rfl (AH _ _ _ _) (kT (rfl) (gS (AaE Ps rfl ((EC _ (hG.keep ((hD.keep hE)).ext) aa (Ar D ((Az D [112,45]).getD (i) ([]:AlJ))).1 u (by omega)).mono ?_)))));rintro e a0 ⟨rfl,ab⟩;refine⟨_,rfl,?_⟩;have hZ3:=x.trans s;have hpk:=hpk.keep hZ3;have hpk:PksAt (fun k=>Cl H D k/\k≠r/\k≠o) a0 L ptr:=(hpk.keep ab);have hPP:PackP (fun k=>Cl H D k/\k≠r/\k≠o) a0 (pN gp) pk:=(hPP.keep ab);have hZ4:=hZ3.trans ab;have f:=f.trans hZ4;have p:=p.keep hZ4;have hZ5:=s.trans ab;have j:=eb hZ5 j;have hb12l:=hb12l.keep hZ5;have hE:=hE.trans ab;refine gS (Abw (l:=Au (Ar D ((Az D [112,45]).getD (i) ([]:AlJ))).1) (m:=((Az D [112,45])).getD (i) ([]:AlJ)) (.inl rfl) rfl rfl (decide ((Au (Ar D ((Az D [112,45]).getD (i) ([]:AlJ))).1:AlJ)=(((Az D [112,45])).getD (i) ([]:AlJ):AlJ))) rfl (kF ((fun q=>hnp q.symm)) (gS (AaS rfl rfl (cF rfl (gS (Aaz (xv:=NI i) (yv:=NI 1) v rfl rfl (Ah _ _ _ (by omega)) (gK (AfF ⟨i+1,L,ptr,T0,T2,T3,z,am,an,ae,af,rfl,hE,f,j,p,hpk,Ci hb12l (rfl),by omega,(UP hlt hLe hvp),trivial⟩ ?_)))))))));show(Az D [112,45]).length-(intOf (NI ((i)+(1)))).toNat<(Az D [112,45]).length-(intOf (aj 22)).toNat;rw[q22];simp only[intOf,Afg];omega
   have hce:=OpenNew.bad hON hop;have hvp:Gh D ((Az D [112,45]).getD (i) ([]:AlJ))=none:=by unfold Gh;rw[hop]
   have hZ6:=x.trans s;have f:=f.trans hZ6;have p:=p.keep hZ6;have hpk:=hpk.keep hZ6;have hE:=hE.trans s;have j:=eb s j;have hb12l:=hb12l.keep s;refine gS (Aay (a:=(cc:Nat)) (b:=(0:Nat)) rfl rfl (AH _ _ _ _) (kF (hce) (gS (AaX rfl rfl (cF rfl (gS (Aaz (xv:=NI i) (yv:=NI 1) v rfl rfl (Ah _ _ _ (by omega)) (gK (AfF ⟨i+1,L,ptr,T0,T2,T3,z,am,an,ae,af,rfl,hE,f,j,p,hpk,Ci hb12l (rfl),by omega,(UP hlt hLe hvp),trivial⟩ ?_)))))))));show(Az D [112,45]).length-(intOf (NI ((i)+(1)))).toNat<(Az D [112,45]).length-(intOf (aj 22)).toNat;rw[q22];simp only[intOf,Afg];omega
  refine BI rfl z (vr (NI 0) rfl) ?_;have hie:i=(Az D [112,45]).length:=by have h:=ao;omega
  rw[hie,Af8]at hLe;exact .inr ⟨rfl,_,_,ptr,rfl,⟨j,(show L=openV D from hLe)▸hb12l,(show L=openV D from hLe)▸hpk,Su hDk.st.ok,hgo_,hbo_,hlg_⟩,hE⟩
 refine gS (Aa8 VY rfl (cF rfl (gS (AaE Pu rfl (((show Calls _ _ _ _ (fun e w2=>e = .returned (.bool true)/\Ext _ w2)from by have h:=(hD.keep hE).down;rw[hdn]at h;exact h)).mono ?_)))));rintro e bt ⟨rfl,a9⟩;refine⟨_,rfl,?_⟩;refine cT rfl (BI rfl (vr (.pointer none) rfl) (vr (NI 9) rfl) ?_);have hE:=hE.trans a9;exact .inl ⟨rfl,rfl,hE⟩
theorem Z0{w w' :Ae3}{b:Nat}{v:Ae2}{l:AlJ}{α β:Type}{ek:α->Ae2}{ev:β->Ae2}{E:α->Prop}{G:α->Option β}(h:RB w v l)(hg:w.grownBy w' (some b))(hm:MapF ek ev E w b G):RB w' v l:=by
 by_cases hl:l= []
 ·subst hl;exact h.chg (B:=fun _=>True) (Abd hg fun _ _=> .inl trivial) (.inl rfl)
 ·obtain⟨es,c,hb,-⟩:=hm;refine h.chg (B:=fun k=>k=b) (Abd hg fun i e=> .inl (AfJ e).symm) (.inr fun k hk q=> ?_);subst q;obtain⟨q1,ao,cap,rfl,q2,q3,q4,q5⟩:=h;cases ao with
  | none=>cases hk
  | some a=>
   cases l with
   | nil=>exact hl rfl
   | cons x r=>
    have hc:=q5 a rfl 0 _ (show _=some (B8 x)from rfl);have e:(a.add 0).block=a.block:=by unfold Addr.add;split <;> rfl
    have hk:a.block=k:=AfJ hk;unfold World.cell? at hc;rw[e,hk,hb]at hc;cases hc
theorem WX:Plain Ae5 49:=fun _ _=>by kernel_rfl
theorem WY:Plain Ae5 50:=fun _ _=>by kernel_rfl
theorem Pv:Plain Ae5 51:=fun _ _=>by kernel_rfl
theorem Pw(ao:Option Addr)(n c:Nat)(ao' :Option Addr)(n' c' :Nat)(w:Ae3):(AfM 38 2 #[(0, .slice ao n c),(1, .slice ao' n' c')]).run Ae5 w = .ok (.slice (some ⟨w.heap.size,0,none⟩) 2 2) (w.alloc (.cells #[.slice ao n c, .slice ao' n' c'] 27)):=by kernel_rfl
theorem UZ:(Tryz.prog.info? 84).map (·.size)=some 1:=by kernel_rfl
theorem WZ(wb w:Ae3)(g:Nat)(H:Dk)(D:Ad)(hD:DkG wb w g H D)(hG:Laid wb)(hL:De D)(n:Nat)(gv bm:Nat)(L:AQ)(ptr:Bs->Nat)(hV:VtAt n (Cl H D) w gv g bm L ptr)(hgL:GoodL L)(hLn:L.length<=100000)(hnw:wb.heap.size<=n)(vi:Ae2)(ids:List Bs)(hid_:RG 32 Ae4 w vi ids)(hi32a:∀id∈ids,id.length=32)(dc:ids.length<=60)(hsmall:∀id∈ids,(getV D L id).2=0->(getV D L id).1.length<=200)(vc:Ae2)(ch:List Int)(hch:RG 1 BY w vc ch)(hchl:ch.length<=1099511627776)(m:Nat)(hB:DBd m D)(hm:m<=30000):
  Calls Ae5 16 #[PQ gv 0,vi,vc] w fun e w' =>∃H' vcl o,e = .returned (.tuple #[vcl,NI (BG D L o ch).2.2.2])/\Dr o/\(∀x,x∈o↔x∈ids)/\RBs w' vcl (BG D L o ch).2.2.1/\VtK wb w n g gv H D w' H' (BG D L o ch).1 (BG D L o ch).2.1:=by
 have hvb:=hV.blk;have hvm:=hV.map;have hpk:=hV.pk;have hsrt:=hV.sort;have hV0:=hV;refine gG (args:= [PQ gv 0,vi,vc]) Tryz.func16 rfl 136 rfl rfl ?_;have hE:=Ad4 w;refine gS (Aa8 Pm rfl (cF rfl (gS (AaE WC rfl ((H7 _ _ ids (hid_.keep hE) (by omega)).mono ?_)))));rintro e w8 ⟨v5,o,rfl,cj,hS,hM,hN,bs⟩;refine⟨_,rfl,?_⟩;have hE:=hE.trans bs;have de:=hE.size;have hszp_:=(hE).size;have hi32o:∀id∈o,id.length=32:=fun id h=>hi32a id ((hM id).1 h);have hsmo:∀id∈o,(getV D L id).2=0->(getV D L id).1.length<=200:=fun id h=>hsmall id ((hM id).1 h);refine gS (Aa9 WX rfl rfl rfl ((WS wb _ g H D (hD.keep hE) hG hL n gv bm L ptr (hV0.keep hE) hgL hLn v5 o (AaR cj) hi32o (by omega) hsmo vc ch (hch.keep hE) hchl).mono ?_));rintro e bt ⟨v9,us,rfl,hrow_,hall_,ba⟩;refine⟨_,rfl,?_⟩;have husl:=hall_.len;have hrowp:=AeR hrow_ hszp_;have husp:AllN w.heap.size bt us (AK D L o ch).1:=⟨hall_.len,hall_.rb,fun i hi=>(hall_.new i hi).low hszp_⟩;refine gS (Ad5 (vs:= [v9,NI ((AK D L o ch).2)]) rfl rfl (gS (Ad5 (vs:= [v9,NI ((AK D L o ch).2)]) rfl rfl (gS (Aay (a:=((AK D L o ch).2:Nat)) (b:=(0:Nat)) rfl rfl (AV _ _ _ _) ?_)))));refine cD rfl (fun ad=> ?_) fun ad=> ?_
 ·refine BI rfl (vr (Afc none 0 0) rfl) (vr (NI ((AK D L o ch).2)) rfl) ?_;have hV:BG D L o ch=(D,L,[],(AK D L o ch).2):=WL ad;have hE:=hE.trans ba;exact⟨_,_,o,by rw[hV],hS,hM,by rw[hV];exact AeT _,by rw[hV];exact AbS hV0 (AbA hD hE)⟩
 have hpp:=Ht (fun hm=>JD ((EN ch (szV D L o) (szV D L o).length).lb.trans (GL D L o)) (by omega) hsmo hm) ad;have hE:=hE.trans ba;have hszq_:=(hE).size;have hgvl_:=(bl hV0.blk);have hwb_:=hD.ext.size;refine gS (AbB St pN Nm fun l ck bu bv a2 df=> ?_);have bb:=Ad4 bt;have dh:=hE.size;have hZ1:=bs.trans ba;have hvm:=hvm.keep hZ1;have di:=Av hvm.lt bu;have dj:l<ck.heap.size:=by omega
 have hbml_:w.heap.size<=l:=by omega
 have hbo2:Cl H D l:=hD.offN hbml_;have hne2:l≠gv:=by omega
 have hrowp:=hrowp.keep a2;refine gS (AaW MS (AaD (AaR hrowp) rfl) ?_);have hE:=hE.trans a2;have hW0:=AbA hD hE;have hrowp0:=hrowp;have bb:=bb.trans a2;have husp0:=(husp.keep bb);have hvb:=eb hZ1 hvb;have dk:=Av (bl hvb) bu;have hvb:=eb a2 hvb;refine gL (fun(ρ:Ae) (wz:Ae3)=>∃i:Nat,∃Hi:Dk,∃Di:Ad,∃M:AQ,∃ptr2:Bs->Nat,∃r10:Ae2,ρ 0=(PQ gv 0:Ae2)/\ρ 1=(vi:Ae2)/\ρ 2=(vc:Ae2)/\ρ 8=(v9:Ae2)/\ρ 9=(.map (some l):Ae2)/\ρ 25=(.bool (false):Ae2)/\ρ 38=(v9:Ae2)/\ρ 39=(NI us.length:Ae2)/\ρ 40=(NI i:Ae2)/\ρ 10=(r10:Ae2)/\wz.heap[gv]? =some (.cells ([PQ g 0, .map (some bm)]).toArray 86 (0,0))/\DkW wb w g H D wz Hi Di/\PksAt (fun k=>Cl Hi (Di) k/\k≠gv/\k≠l) wz (M) (ptr2)/\PlZ i w.heap.size wz v9 us (AK D L o ch).1/\MapF St pN Nm wz l (pkG M ptr2)/\(i<=(AK D L o ch).1.length)/\(KSt D L o ch H i Hi Di M r10)/\(Cl Hi Di l)/\True) (fun ρ _=>(AK D L o ch).1.length-(intOf (ρ 40)).toNat) ⟨0,H,D,[],ptr,(Afc none 0 0),rfl,rfl,rfl,rfl,rfl,rfl,rfl,rfl,rfl,rfl,hvb,hW0,AeY _ _ _,(fun _=>⟨hrowp0,husp0⟩),Ci bv (rfl),AfC _, .inl ⟨rfl,rfl,rfl,rfl,rfl⟩,hbo2,trivial⟩ ?_;clear hvm;clear bv;clear hvb;rintro bw bx ⟨i,Hi,Di,M,ptr2,r10,T0,T1,T2,T8,T9,ao,ai,aj,ac,ae,hvb,hW,hPk,hun,hb22l,hil,hst,hbo,-⟩;have q40:=ac;refine gS (Aay (a:=(i:Nat)) (b:=(us.length:Nat)) ac aj (AE _ _ _ _) ?_);refine cD rfl (fun aq=> ?_) fun aq=> ?_
 ·have hlt:i<(AK D L o ch).1.length:=by rw[<-husl];exact aq
  have t:=hst.zero hlt;have hpz:=hun t.1;have hpk1:=Aau (p:=([],fun _=>none)) hpp hlt t.1;refine AgN hpk1.2.1 fun p hop=> ?_;have dl:=hpk1.2.2;have hrow1:=hpz.1;have hus1:=hpz.2;have hbr:=hus1.rb i hlt;have hbn:=hus1.new i hlt;have hni:Au (A6 D L o ch i)∉M.map AfB:=by rw[t.2.2.2.1];exact AgX
  have dm:(Cb (us.getD (i) undef)).length=1:=(Aec (AaR hrow1) undef (aq));refine gS (AaZ MS Tx (by decide) undef (AaD (AaR hrow1) ai) ac (aq) fun dn bz=>(gS (AaY GR rfl (Aef (Aa6 bz rfl) rfl) ?_)));clear bz;have hDo:=(hW).g;have hlb1_:=bl hvb;have hlb2_:=(hb22l).lt;refine gS (AaE WV rfl ((OR _ (hG.keep (hW).g.ext) (us.getD (i) undef) (A6 D L o ch i) hbr).mono ?_));rintro e b0 ⟨_,rfl,pp,cc,rfl,hON,bc⟩;refine⟨_,rfl,?_⟩;have hW:DkW wb w g H D b0 Hi (Di):=(hW.keep bc);refine gS (Ad5 (vs:= [pp,NI cc]) rfl rfl (gS (Ad5 (vs:= [pp,NI cc]) rfl rfl (AgN (Ach hON hop) fun gp hpp2=> ?_))));have hPP:PackP (fun k=>Cl Hi Di k/\k≠gv/\k≠l) b0 (pN gp) p:=Acg (hpp2▸(Ae1 hON hop).2) (fun k h1 h2=>⟨hDo.offN h1,by omega,by omega⟩);have hbr:=hbr.keep bc;refine gS (AaE Ps rfl ((EC _ (hG.keep (hW).g.ext) (us.getD (i) undef) (A6 D L o ch i) hbr (by omega)).mono ?_));rintro e a3 ⟨rfl,a4⟩;refine⟨_,rfl,?_⟩;have hW:DkW wb w g H D a3 Hi (Di):=(hW.keep a4);have hZ2:=bc.trans a4;have hPk:=hPk.keep hZ2;have hPk:PksAt (fun k=>Cl Hi (Di) k/\k≠gv/\k≠l) a3 (M) (ptr2):=hPk;have hPP:=hPP.keep a4;have hPP:PackP (fun k=>Cl Hi Di k/\k≠gv/\k≠l) a3 (pN gp) p:=hPP;have hbr:=hbr.keep a4;have hbr:RB a3 (us.getD (i) undef) (A6 D L o ch i):=hbr;have hb22l:=hb22l.keep hZ2;refine gS (Aby (ek:=St) (ev:=pN) (D:=Nm) (c:=gp) Fd Eb KR T9 (vr (St (Au (A6 D L o ch i))) rfl) (vr (PQ gp 0) hpp2) hb22l (by show(Au _).length<=80;rw[Mp];decide) fun ar b1 au dp=> ?_);have hW:DkW wb w g H D ar Hi (Di):=AdM hW au hb22l hbo hbml_ hwb_;have hPk:PksAt (fun k=>Cl Hi (Di) k/\k≠gv/\k≠l) ar (M) (ptr2):=PksAt.set hPk au (fun k q=>q.2.2);have hbr:RB ar (us.getD (i) undef) (A6 D L o ch i):=Z0 hbr au hb22l;have hPP:PackP (fun k=>Cl Hi Di k/\k≠gv/\k≠l) ar (pN gp) p:=PackP.set hPP au (fun k q=>q.2.2);clear hb22l;have dq:l<ar.heap.size:=b1.lt;have hPk:=Aco hPk hni hPP;have hWc:=hW;have hMc:=b1;have hPc:=hPk;have hrc:=hbr;have hvb:=eb hZ2 hvb;have hvb:=kb au hvb (by omega);have hvc:=hvb;have hBi:DBd m Di:=t.2.1▸hB;have hoff:∀k,Afd (us.getD (i) undef)=some k->Cl Hi Di k:=fun k hk=>by rw[t.2.1,t.2.2.1];exact hD.offN (hbn k hk).1
  refine gS (AaA WY T0 rfl ((UY wb _ g Hi Di hWc.g hG gv bm hvc (us.getD (i) undef) (A6 D L o ch i) hrc (.inr hoff) (by omega) m hBi (by omega)).mono ?_));rintro e dr ⟨H59,rfl,hW2⟩;refine⟨_,rfl,?_⟩;have hW:=hWc.trans hW2;have hvb:=Aeo hWc.g hW2.chg hvc (by decide) (by decide) (by decide) (by decide);have hmp:=MapF.chg hMc hW2.chg hbo;have hPk:=PksAt.stepW hPc hW2;have hbr:=hrc.chg hW2.chg (.inr hoff);have hbo3:=hW2.offB hMc.lt hbo;have b2:DBd (m+202) (AJ Di (A6 D L o ch i)).1:=hBi.write (by omega);refine gS (Ad5 (vs:= [.bool ((AJ Di (A6 D L o ch i)).2.1),NI ((AJ Di (A6 D L o ch i)).2.2)]) rfl rfl (gS (Ad5 (vs:= [.bool ((AJ Di (A6 D L o ch i)).2.1),NI ((AJ Di (A6 D L o ch i)).2.2)]) rfl rfl ?_)));refine cB ((AJ Di (A6 D L o ch i)).2.1) rfl (fun be=> ?_) fun be=> ?_
  ·have hwf:=Qf be;refine gS (AaE Ps rfl ((EC _ (hG.keep (hW).g.ext) (us.getD (i) undef) (A6 D L o ch i) hbr (by omega)).mono ?_));rintro e cl ⟨rfl,b3⟩;refine⟨_,rfl,?_⟩;have hW:DkW wb w g H D cl H59 ((AJ Di (A6 D L o ch i)).1):=(hW.keep b3);refine gS (Abh (a:=Au (A6 D L o ch i)) (enc:=CQ) (vr (St (Au (A6 D L o ch i))) rfl) rfl (fun w=>KH _ w) fun cm av cn b4=> ?_);have hW:DkW wb w g H D av H59 ((AJ Di (A6 D L o ch i)).1):=(hW.keep b4);have a5:=Ad4 av;refine gS (Aa2 _ _ av.heap.size _ 16 OY va1_ig9.choose_spec.1 va1_ig9.choose_spec.2 OY ([]) ([Au (A6 D L o ch i)]) (Aen (Aem _ _ _ _ _) (vr (Afc none 0 0) (ae.trans t.2.2.2.2))) (AaD cn (vr cm rfl)) (fun y hy u hu=>by rw[Afh.1 hu];rfl) (by simp only[Afs,AfK];omega) (by simp only[Afs,AfK];omega) a5.size fun b5 bf ds bg=> ?_);have bg:Grew av bf (.slice none 0 0) b5:= .eqv (ae.trans t.2.2.2.2) bg;have hZ3:=b3.trans b4;have hvb:=eb hZ3 hvb;have dt:=(bl hvb);have hmp:=hmp.keep hZ3;have du:=hmp.lt;have hx_:Ext av bf:=Ab7 (by have:=bg.by_;exact this);have hW:DkW wb w g H D bf H59 ((AJ Di (A6 D L o ch i)).1):=(hW.keep hx_);refine gS (Aay (a:=((AJ Di (A6 D L o ch i)).2.2:Nat)) (b:=(8:Nat)) rfl rfl (AH _ _ _ _) (kF (hwf.1) (cF rfl (gS (Aay (a:=((AJ Di (A6 D L o ch i)).2.2:Nat)) (b:=(7:Nat)) rfl rfl (AH _ _ _ _) (kF (hwf.2) (cF rfl (gS (Aay (a:=((AJ Di (A6 D L o ch i)).2.2:Nat)) (b:=(0:Nat)) rfl rfl (AV _ _ _ _) ?_)))))))));refine cD rfl (fun ak=> ?_) fun ak=> ?_
   ·refine BI rfl (vr (Afc none 0 0) rfl) (vr (NI ((AJ Di (A6 D L o ch i)).2.2)) rfl) ?_;have hV:BG D L o ch=((AJ Di (A6 D L o ch i)).1,L,[],(AJ Di (A6 D L o ch i)).2.2):=(KSt.one t ad hpk1.1 hop).trans (Hu hwf.1 hwf.2 ak);exact⟨_,_,o,by rw[hV],hS,hM,by rw[hV];exact AeT _,by rw[hV];exact AbS hV0 hW⟩
   have hPk:=hPk.keep hZ3;have hvb:=eb hx_ hvb;have hmp:=hmp.keep hx_;have a5:=a5.trans hx_;refine gS (Aaz (xv:=NI i) (yv:=NI 1) ac rfl rfl (Ah _ _ _ (by omega)) (gK (AfF ⟨i+1,H59,(AJ Di (A6 D L o ch i)).1,M++ [(Au (A6 D L o ch i),p)],updP ptr2 (Au (A6 D L o ch i)) gp,b5,T0,T1,T2,T8,T9,ao,ai,aj,rfl,rfl,hvb,hW,(hPk.keep a5),PlZ.done,Ci hmp ((KP hni)),by omega,KSt.next t hpk1.1 hop (AhX.1 ak),hbo3,trivial⟩ ?_)));show(AK D L o ch).1.length-(intOf (NI ((i)+(1)))).toNat<(AK D L o ch).1.length-(intOf (bw 40)).toNat;rw[q40];simp only[intOf,Afg];omega
  refine gS (Aay (a:=((AJ Di (A6 D L o ch i)).2.2:Nat)) (b:=(8:Nat)) rfl rfl (AH _ _ _ _) ?_);refine cD rfl (fun a6=> ?_) fun a6=> ?_
  ·refine gS (Ad7 T0 (gS (Ad6 LR rfl (gS (Aax VY rfl rfl (cellAt hvb rfl) (gS (AbL (vr (PQ g 0) rfl) ?_)))))));have hWd:=hW;refine gS (AaA Pv (vr (Afc none 0 0) (ae.trans t.2.2.2.2)) rfl ((QU wb _ g H59 (AJ Di (A6 D L o ch i)).1 hWd.g 0 (.slice none 0 0) [] (Aem _ _ _ _ _) (m+202) b2 (by show _+0<=_;omega)).mono ?_));rintro e co ⟨H87,rfl,hW9,-⟩;refine⟨_,rfl,?_⟩;have hW:DkW wb w g H D co H87 (AJ Di (A6 D L o ch i)).1:=hWd.trans hW9;refine gS (Aay (a:=((dropsD (AJ Di (A6 D L o ch i)).1 []).2:Nat)) (b:=(0:Nat)) rfl rfl (AV _ _ _ _) (kF (fun q=>q rfl) (cF rfl (gS (Aay (a:=((AJ Di (A6 D L o ch i)).2.2:Nat)) (b:=(7:Nat)) rfl rfl (AH _ _ _ _) (kF (by omega) (cF rfl (gS (Aay (a:=((AJ Di (A6 D L o ch i)).2.2:Nat)) (b:=(0:Nat)) rfl rfl (AV _ _ _ _) (kT (by omega) (cT rfl (BI rfl (vr (Afc none 0 0) rfl) (vr (NI ((AJ Di (A6 D L o ch i)).2.2)) rfl) ?_))))))))))));have hV:BG D L o ch=((AJ Di (A6 D L o ch i)).1,L,[],8):=(KSt.one t ad hpk1.1 hop).trans (LX be a6);exact⟨_,_,o,by rw[hV,a6],hS,hM,by rw[hV];exact AeT _,by rw[hV];exact AbS hV0 hW⟩
  refine gS (Aay (a:=((AJ Di (A6 D L o ch i)).2.2:Nat)) (b:=(7:Nat)) rfl rfl (AH _ _ _ _) ?_);refine cD rfl (fun a7=> ?_) fun a7=> ?_
  ·refine Ed [0,1,2,3,4,5,6,7,8,9,10,11] [5,6] [1,2] [3] fun b6 bh=> ?_;have hW:DkW wb w g H D b6 H59 ((AJ Di (A6 D L o ch i)).1):=(hW.keep bh);have a8:=Ad4 b6;have hvb:=eb bh hvb;have hbr:=hbr.keep bh;refine DV a8 ?_;refine yp (Ad7 T0 zz) (yp (Ad6 LR rfl zz) (yf (fun _ ⟨hZ,_⟩=>Aax VY rfl rfl (cellAt (eb hZ hvb) rfl) zz) (yE (AaE Ps rfl ((EC _ (hG.keep (hW).g.ext) (us.getD (i) undef) (A6 D L o ch i) hbr (by omega)).mono ?_)))));rintro e cp ⟨rfl,bi⟩;refine⟨_,rfl,?_⟩;have hW:DkW wb w g H D cp H59 ((AJ Di (A6 D L o ch i)).1):=(hW.keep bi);have a8:=a8.trans bi;refine⟨a8,?_⟩;refine yD rfl (AaA Wp rfl rfl (((hW).g.read (Au (A6 D L o ch i)) (b2.lt (by omega))).mono ?_));rintro e cq ⟨bj,rfl,cr,b7⟩;refine⟨_,rfl,?_⟩;have hW:DkW wb w g H D cq H59 ((AJ Di (A6 D L o ch i)).1):=(hW.keep b7);have cs:=Aa5 cr;have hZ4:=bi.trans b7;have hbr:=hbr.keep hZ4;refine ys (Ad5 (vs:= [bj,NI ((Ar (AJ Di (A6 D L o ch i)).1 (Au (A6 D L o ch i))).2)]) rfl rfl zz) (ys (Ad5 (vs:= [bj,NI ((Ar (AJ Di (A6 D L o ch i)).1 (Au (A6 D L o ch i))).2)]) rfl rfl zz) (gS (AdC Pw (AaF hbr (vr (us.getD (i) undef) rfl)) (AaF cs (vr bj rfl)) fun ct cu cv cw=> ?_)));have hW:DkW wb w g H D cu H59 ((AJ Di (A6 D L o ch i)).1):=(hW.keep cw);refine BI rfl (vr ct rfl) (vr (NI ((AJ Di (A6 D L o ch i)).2.2)) rfl) ?_;have hV:BG D L o ch=((AJ Di (A6 D L o ch i)).1,L,[(A6 D L o ch i),(Ar (AJ Di (A6 D L o ch i)).1 (Au (A6 D L o ch i))).1],7):=(KSt.one t ad hpk1.1 hop).trans (SC a7);exact⟨_,_,o,by rw[hV,a7],hS,hM,by rw[hV];exact cv,by rw[hV];exact AbS hV0 hW⟩
  refine gS (Aay (a:=((AJ Di (A6 D L o ch i)).2.2:Nat)) (b:=(0:Nat)) rfl rfl (AV _ _ _ _) ?_);refine cD rfl (fun ak=> ?_) fun ak=> ?_
  ·refine BI rfl (vr (Afc none 0 0) rfl) (vr (NI ((AJ Di (A6 D L o ch i)).2.2)) rfl) ?_;have hV:BG D L o ch=((AJ Di (A6 D L o ch i)).1,L,[],(AJ Di (A6 D L o ch i)).2.2):=(KSt.one t ad hpk1.1 hop).trans (Hu a6 a7 ak);exact⟨_,_,o,by rw[hV],hS,hM,by rw[hV];exact AeT _,by rw[hV];exact AbS hV0 hW⟩
  refine gS (Aaz (xv:=NI i) (yv:=NI 1) ac rfl rfl (Ah _ _ _ (by omega)) (gK (AfF ⟨i+1,H59,(AJ Di (A6 D L o ch i)).1,M++ [(Au (A6 D L o ch i),p)],updP ptr2 (Au (A6 D L o ch i)) gp,(Afc none 0 0),T0,T1,T2,T8,T9,ao,ai,aj,rfl,(ae.trans t.2.2.2.2),hvb,hW,hPk,PlZ.done,Ci hmp ((KP hni)),by omega,KSt.next t hpk1.1 hop (AhX.1 ak),hbo3,trivial⟩ ?_)));show(AK D L o ch).1.length-(intOf (NI ((i)+(1)))).toNat<(AK D L o ch).1.length-(intOf (bw 40)).toNat;rw[q40];simp only[intOf,Afg];omega
 have hkl:=hst.done (by rw[<-husl];exact aq) ad;have hMs:=hst.sort;have hBD:=hst.bd hB hpp;have hLi:De Di:=hBD.lt (by omega);have hnl:=hBD.list;refine gS (Ad7 T0 (gS (Ad6 LR rfl (gS (Aax VY rfl rfl (cellAt hvb rfl) ?_)))));have f:=Ad4 bx;refine gS (AaA WU rfl rfl ((KQ wb _ g Hi Di ((hW.keep f)).g hLi [112,45] (by omega)).mono ?_));rintro e af ⟨cx,rfl,cy,bk⟩;refine⟨_,rfl,?_⟩;have bn:=AaR cy;refine gS (AaW OY (AaD bn rfl) ?_);have r:=Ad4 af;have f:=f.trans bk;have b8:=f.size;refine AgN (⟨_,rfl⟩:∃v:Ae2,(Afc none 0 0)=v) fun nv20 hnv20=> ?_;have hrow20:OG af.heap.size 9 1 CQ af nv20 ([]:List AlJ):=hnv20▸Aem _ _ _ _ _;have cz:OB nv20 gv:=fun e_=>by rw[<-hnv20]at e_;cases e_
 have c0:OB nv20 l:=fun e_=>by rw[<-hnv20]at e_;cases e_
 have hvb:=eb bk hvb;have hb22l:=hb22l.keep bk;refine gL (fun(ρ:Ae) (wz:Ae3)=>∃j:Nat,∃r20:Ae2,ρ 0=(PQ gv 0:Ae2)/\ρ 1=(vi:Ae2)/\ρ 2=(vc:Ae2)/\ρ 8=(v9:Ae2)/\ρ 9=(.map (some l):Ae2)/\ρ 10=(r10:Ae2)/\ρ 25=(.bool (false):Ae2)/\ρ 38=(v9:Ae2)/\ρ 39=(NI us.length:Ae2)/\ρ 40=(NI i:Ae2)/\ρ 101=(cx:Ae2)/\ρ 102=(NI (((Az Di [112,45])).length):Ae2)/\ρ 103=(NI j:Ae2)/\ρ 20=(r20:Ae2)/\wz.heap[gv]? =some (.cells ([PQ g 0, .map (some bm)]).toArray 86 (0,0))/\MapF St pN Nm wz l (pkG M ptr2)/\Ext bx wz/\Ext af wz/\OG af.heap.size 9 1 (CQ) wz r20 (((Az Di [112,45]).take j).filter (fun s=>(M.lookup s).isNone))/\(j<=(Az Di [112,45]).length)/\(OB r20 gv)/\(OB r20 l)/\True) (fun ρ _=>(Az Di [112,45]).length-(intOf (ρ 103)).toNat) ⟨0,nv20,T0,T1,T2,T8,T9,ae,ao,ai,aj,ac,rfl,rfl,rfl,((show _=(Afc none 0 0)from rfl).trans hnv20),hvb,hb22l,f,r,Bd hrow20 (rfl),AfC _,cz,c0,trivial⟩ ?_;clear hrow20;clear hvb hb22l;rintro b9 dv ⟨j,r20,T0,T1,T2,T8,T9,ae,ao,ai,aj,ac,bo,bp,aw,ax,hvb,hb22l,f,r,hr_r20,hjl,hap_r20_gv,hap_r20_n19,-⟩;have q103:=aw;refine gS (Aay (a:=(j:Nat)) (b:=(((Az Di [112,45])).length:Nat)) aw bp (AE _ _ _ _) ?_);refine cD rfl (fun bq=> ?_) fun bq=> ?_
 ·have ay:j<(Az Di [112,45]).length:=bq;have hel:=Nd ((hW.keep f)).g.st.ok ay;have hnl2:=FZ Di [112,45];have hfl:(((Az Di [112,45]).take j).filter (fun s=>(M.lookup s).isNone)).length<=j:=Ae7 (AgM _ _) (by rw[Afi];exact AiT _ _);have dw:(CQ (((Az Di [112,45])).getD (j) ([]:AlJ))).length=1:=(Aec (bn.keep r) ([]:AlJ) (ay));refine gS (AaZ OY VZ (by decide) ([]:AlJ) (AaD (bn.keep r) bo) aw (ay) fun dx ca=>(gS (AaY QD rfl (Aef (Aa6 ca rfl) rfl) ?_)));clear ca;rcases hlk:M.lookup ((Az Di [112,45]).getD (j) ([]:AlJ))with _ | pk
  ·refine gS (Ab9 (ek:=St) (ev:=pN) (D:=Nm) Fd Eb (fun _ _=>C4) KR (z:= .pointer none) Sr T9 rfl hb22l (by exact hel) (show pkG M ptr2 ((Az Di [112,45]).getD (j) ([]:AlJ))=none from by unfold pkG;rw[hlk];rfl) (gS (Aa8 Gf rfl (cT rfl (gS (Abh (a:=((Az Di [112,45])).getD (j) ([]:AlJ)) (enc:=CQ) (vr (St (((Az Di [112,45])).getD (j) ([]:AlJ))) rfl) rfl (fun w=>KH _ w) fun c1 c2 cb az=> ?_))))));have r:=r.trans az;have hr_r20:=hr_r20.keep az;refine gS (Aa2 _ _ af.heap.size _ 16 OY va1_ig9.choose_spec.1 va1_ig9.choose_spec.2 OY (((Az Di [112,45]).take j).filter (fun s=>(M.lookup s).isNone)) ([((Az Di [112,45])).getD (j) ([]:AlJ)]) (Aen hr_r20 ax) (AaD cb (vr c1 rfl)) (fun y hy u hu=>by rw[Afh.1 hu];rfl) (by simp only[Afs,AfK];omega) (by simp only[Afs,AfK];omega) r.size fun a9 c3 c4 ag=> ?_);have ag:Grew c2 c3 r20 a9:= .eqv ax ag;have hvb:=eb az hvb;have c5:OB a9 gv:=Ap ag hap_r20_gv (bl hvb);have hb22l:=hb22l.keep az;have c6:OB a9 l:=Ap ag hap_r20_n19 hb22l.lt;have hvb:=Aq hvb ag hap_r20_gv;have hb22l:=Aeh hb22l ag hap_r20_n19;have f:=f.trans az;have f:=As f ag hr_r20.2 b8;have r:=As r ag hr_r20.2 (Ae8 _);clear cb;clear hr_r20;refine gS (Aaz (xv:=NI j) (yv:=NI 1) aw rfl rfl (Ah _ _ _ (by omega)) (gK (AfF ⟨j+1,a9,T0,T1,T2,T8,T9,ae,ao,ai,aj,ac,bo,bp,rfl,rfl,hvb,hb22l,f,r,Bd c4 ((QO ay (show(M.lookup _).isNone=true by rw[hlk];rfl))),by omega,c5,c6,trivial⟩ ?_)));show(Az Di [112,45]).length-(intOf (NI ((j)+(1)))).toNat<(Az Di [112,45]).length-(intOf (b9 103)).toNat;rw[q103];simp only[intOf,Afg];omega
  refine gS (AbC (ek:=St) (ev:=pN) (D:=Nm) Fd Eb (fun _ _=>C4) KR (z:= .pointer none) Sr T9 rfl hb22l (by exact hel) (show pkG M ptr2 ((Az Di [112,45]).getD (j) ([]:AlJ))=some (ptr2 ((Az Di [112,45]).getD (j) ([]:AlJ)))from by unfold pkG;rw[hlk];rfl) (gS (Aa8 Gf rfl (cF rfl (gS (Aaz (xv:=NI j) (yv:=NI 1) aw rfl rfl (Ah _ _ _ (by omega)) (gK (AfF ⟨j+1,r20,T0,T1,T2,T8,T9,ae,ao,ai,aj,ac,bo,bp,rfl,ax,hvb,hb22l,f,r,Bd hr_r20 ((UN ay (show(M.lookup _).isNone=false by rw[hlk];rfl))),by omega,hap_r20_gv,hap_r20_n19,trivial⟩ ?_))))))));show(Az Di [112,45]).length-(intOf (NI ((j)+(1)))).toNat<(Az Di [112,45]).length-(intOf (b9 103)).toNat;rw[q103];simp only[intOf,Afg];omega
 have hje:j=(Az Di [112,45]).length:=by have h:=bq;omega
 have hgv:((Az Di [112,45]).take j).filter (fun s=>(M.lookup s).isNone)++(Az Di [111,45])=goneV Di M:=by unfold goneV;rw[hje,Af8]
 have hgl:=QT hBD M;have hnl2:=FZ Di [112,45];have hnl3:=FZ Di [111,45];have hfl:(((Az Di [112,45]).take j).filter (fun s=>(M.lookup s).isNone)).length<=j:=Ae7 (AgM _ _) (by rw[Afi];exact AiT _ _);refine Ed [0,1,2,3,4,7,8,9,10,11,5,6,12,13] [5,6,12] [8,9,11] [10] fun dy a0=> ?_;have hvb:=eb a0 hvb;refine mb1 hvb ?_;refine ys (Ad7 T0 zz) (ys (Ad6 LR rfl zz) (ys (Aax VY rfl rfl (cellAt hvb rfl) zz) (yp (Ad7 T0 zz) (yp (Ad6 LR rfl zz) (yf (fun _ ⟨hvb,_⟩=>Aax VY rfl rfl (cellAt hvb rfl) zz) (yp (AbL (vr (PQ g 0) rfl) zz) ?_))))));have f:=f.trans a0;have r:=r.trans a0;have dz:=f.size;have d0:=r.size;refine yI (AaA WU rfl rfl ((KQ wb _ g Hi Di ((hW.keep f)).g hLi [111,45] (by omega)).mono ?_));rintro e c7 ⟨c8,rfl,c9,a1⟩;refine⟨_,rfl,?_⟩;have hb22l:=hb22l.keep a0;have cd:=AaR c9;have hr_r20:=hr_r20.keep (a0.trans a1);have hvb:=eb a1 hvb;have r:=r.trans a1;refine⟨⟨hvb,trivial⟩,?_⟩;refine yI (Aa2 _ _ af.heap.size _ 16 OY va1_ig9.choose_spec.1 va1_ig9.choose_spec.2 OY (((Az Di [112,45]).take j).filter (fun s=>(M.lookup s).isNone)) ((Az Di [111,45])) (Aen hr_r20 ax) (AaD cd (vr c8 rfl)) (fun y hy u hu=>by rw[Afh.1 hu];rfl) (by omega) (by omega) r.size fun ce da db ap=> ?_);have ap:Grew c7 da r20 ce:= .eqv ax ap;have hb22l:=hb22l.keep a1;have hvb:=Aq hvb ap hap_r20_gv;have hb22l:=Aeh hb22l ap hap_r20_n19;have f:=f.trans a1;have f:=As f ap hr_r20.2 b8;have r:=As r ap hr_r20.2 (Ae8 _);clear cd;clear hr_r20;refine⟨⟨hvb,trivial⟩,?_⟩;have hWd:=(hW.keep f);have hMc:=hb22l;have hPc:=(hPk.keep f);have hvc:=hvb;have hrg:=Bd db hgv;refine yD rfl (AaA Pv rfl rfl ((QU wb _ g Hi Di hWd.g af.heap.size ce (goneV Di M) hrg (m+202) hBD (by omega)).mono ?_));rintro e d1 ⟨H174,rfl,hW9,-⟩;refine⟨_,rfl,?_⟩;have hW:=hWd.trans hW9;have hvb:=Aeo hWd.g hW9.chg hvc (by decide) (by decide) (by decide) (by decide);have hmp:=MapF.chg hMc hW9.chg hbo;have hPk:=PksAt.stepW hPc hW9;have hbo4:=hW9.offB hMc.lt hbo;refine gS (Aay (a:=((dropsD Di (goneV Di M)).2:Nat)) (b:=(0:Nat)) rfl rfl (AV _ _ _ _) ?_);refine cD rfl (fun br=> ?_) fun br=> ?_
 ·refine BI rfl (vr (Afc none 0 0) rfl) (vr (NI ((dropsD Di (goneV Di M)).2)) rfl) ?_;have hV:BG D L o ch=((dropsD Di (goneV Di M)).1,L,[],(dropsD Di (goneV Di M)).2):=hkl.trans (if_pos br);exact⟨_,_,o,by rw[hV],hS,hM,by rw[hV];exact AeT _,by rw[hV];exact AbS hV0 hW⟩
 refine gS (Ad7 T0 (gS (Ad6 LQ rfl ?_)));have hWf:=hW;have hMf:=hmp;have hPf:=hPk;have hvf:=hvb;refine gS (Aa0 (i:=1) (v:= .map (some l)) rfl T9 hvb (Nat.le_of_ble_eq_true rfl) UZ rfl rfl fun d2 cf cg d3=> ?_);have hmp:=Ad8 hmp cg (Ak (by omega));clear hPk;clear hW;clear hvb;have hvb:=cf;clear cf;have d4:=bl hvb;refine BI rfl (vr (Afc none 0 0) rfl) (vr (NI 0) rfl) ?_;have hV:BG D L o ch=((dropsD Di (goneV Di M)).1,M,[],0):=hkl.trans (if_neg br);exact⟨_,_,o,by rw[hV],hS,hM,by rw[hV];exact AeT _,by rw[hV];exact AdN hV0 hWf hnw hMf hPf hMs hbo4 hne2 hvf hvb cg⟩
section
variable {P : Program} {K : Ae2 -> Ae3 -> Prop} {ρ : Ae} {w : Ae3} {d : Option Tmp} {ty : Afa} {pos : String} {af : Array Edge} {gd : Option (Nat × Bool)}
variable {α β : Type} {ek : α -> Ae2} {ev : β -> Ae2} {D : α -> Prop} {b : Nat} {G : α -> Option β} {t Kt E : Afa}
theorem MIt.keep{ek:α->Ae2}{ev:β->Ae2}{w w' :Ae3}{g bm:Nat}{left:List (α × β)}(h:MIt ek ev w g bm left)(k:Ext w w'):MIt ek ev w' g bm left:=by
 obtain⟨es,clock,since,seen,c0,hg,hb,r⟩:=h;exact⟨es,clock,since,seen,c0,Aer k hg,Aer k hb,r⟩
theorem MIt.grew{ek:α->Ae2}{ev:β->Ae2}{w w' :Ae3}{g bm:Nat}{left:List (α × β)}{v v' :Ae2}(h:MIt ek ev w g bm left)(gr:Grew w w' v v')(h1:v.ownBlock≠some g)(h2:v.ownBlock≠some bm):MIt ek ev w' g bm left:=by
 obtain⟨es,clock,since,seen,c0,hg,hb,r⟩:=h;exact⟨es,clock,since,seen,c0,(gr.by_.block g (Array.getElem?_eq_some_iff.1 hg).1 (fun e=>h1 e.symm)).trans hg,(gr.by_.block bm (Array.getElem?_eq_some_iff.1 hb).1 (fun e=>h2 e.symm)).trans hb,r⟩
theorem MapF.card(hi:∀a c,ek a=ek c->a=c)(h:MapF ek ev D w b G){ps:List (α × β)}(hn:(ps.map AfB).Nodup)(hG:∀a y,G a=some y↔(a,y)∈ps):∃es c,w.heap[b]? =some (.map es c)/\es.size=ps.length:=by
 obtain⟨es,c,hb,H,hS⟩:=h;have hp:(es.map fun e=>(e.key,e.val)).Perm (ps.map fun p=>(ek p.1,ev p.2)):=by
  refine(List.perm_ext_iff_of_nodup ?_ ?_).2 fun q=> ?_
  ·exact AhD (S:=(· ≠ ·)) AfB (fun a c hne e=>hne (by rw[e])) (by rw[Ah4];exact H.keys)
  ·refine Ajf _ (fun p q hne e=>hne ?_) (AhD (S:=(· ≠ ·)) (R:=fun p q:α × β=>p.1≠q.1) AfB (fun _ _ h=>h) hn);exact hi _ _ (congrArg AfB e)
  ·constructor
   ·intro hq;obtain⟨e,he,rfl⟩:=AfO.1 hq;obtain⟨a,y,-,h2,h3,h4⟩:=H.ent e he;exact AfO.2 ⟨(a,y),(hG a y).1 h4,by rw[h2,h3]⟩
   ·intro hq;obtain⟨p,hp,rfl⟩:=AfO.1 hq;have hg:=(hG p.1 p.2).2 hp;obtain⟨-,e,he,hek⟩:=H.all p.1 p.2 hg;obtain⟨a,y,-,h2,h3,h4⟩:=H.ent e he;have ha:a=p.1:=hi _ _ (h2.symm.trans hek);rw[ha,hg]at h4;cases h4;exact AfO.2 ⟨e,he,by rw[hek,h3]⟩
 have:=hp.length_eq;exact⟨_,c,hb,by simpa using this⟩
theorem AdY(ht:P.underlying t=some (.map Kt E)){x:Operand}{es:Array MapEntry}{c n:Nat}(hx:Aa ρ x = .map (some b))(hb:w.heap[b]? =some (.map es c))(hn:es.size=n)(hk:K (NI n) w):Yk P K ((execOp (Aa ρ) ⟨d, .call ⟨.builtin .len,#[x],#[t]⟩,ty,pos,af,gd⟩).run P w):=by
 subst hn;refine Aea (v:=NI es.size) (w' :=w) ?_ hk;unfold execOp;simp[resolve,invoke,builtin,Builtin.len_,hx,run_underlying ht,goInt,MapKept.run_getObj_map hb]
end
theorem KW{L:AQ}(ptr:Bs->Nat)(h:SortS (L.map AfB)):((L.map fun e=>(e.1,ptr e.1)).map AfB).Nodup:=by
 rw[Ah4];exact h.nodup
theorem Px{L:AQ}{ptr:Bs->Nat}(h:SortS (L.map AfB))(a:Bs)(y:Nat):pkG L ptr a=some y↔(a,y)∈L.map fun e=>(e.1,ptr e.1):=by
 unfold pkG;constructor
 ·intro q;obtain⟨p,hp,he⟩:=Option.map_eq_some_iff.1 q;exact AfO.2 ⟨(a,p),LM hp,by rw[he]⟩
 ·intro q;obtain⟨e,he,h2⟩:=AfO.1 q;cases h2;rw[Hq h he];rfl
theorem U0(w:Ae3)(n:Nat)(Q:Nat->Prop)(gv gd bm:Nat)(L:AQ)(ptr:Bs->Nat)(hV:VtAt n Q w gv gd bm L ptr)(hgL:GoodL L)(hLn:L.length<=100000):
  Calls Ae5 19 #[PQ gv 0] w fun e w' =>e = .returned (NI L.length)/\Ext w w' :=by
 have hvb:=hV.blk;have hvm:=hV.map;have hpk:=hV.pk;have hsrt:=hV.sort;have hV0:=hV;refine gG (args:= [PQ gv 0]) Tryz.func19 rfl 10 rfl rfl ?_;have hE:=Ad4 w;refine gS (Aa8 Pm rfl (cF rfl (gS (Ad7 rfl (gS (Ad6 LQ rfl (gS (Aax KR rfl rfl (cellAt hvb rfl) (gS (AdY KR rfl ((hvm).card (fun _ _=>C4) (KW ptr hsrt) (Px hsrt)).choose_spec.choose_spec.1 (((hvm).card (fun _ _=>C4) (KW ptr hsrt) (Px hsrt)).choose_spec.choose_spec.2.trans (Afu ..)) (A8 rfl (vr (NI L.length) rfl) ?_)))))))))));exact⟨rfl,hE⟩
def Gr(L:AQ)(s:Bs):AT:=(L.lookup s).getD ([],fun _=>none)
def Kn(D:Ad)(L:AQ)(x:Bs):Prop:=x∈Gp D\/∃e∈L,x∈e.2.1
def IdsLeft(D:Ad)(L:AQ)(left:List (Bs × Nat))(acc:List Bs):Prop:=∀x,(x∈acc\/∃p∈left,x∈(Gr L p.1).1)↔Kn D L x
theorem Py{L:AQ}{ptr:Bs->Nat}(h:SortS (L.map AfB)){a:Bs}{y:Nat}(hm:(a,y)∈L.map fun e=>(e.1,ptr e.1)):y=ptr a/\(a,Gr L a)∈L:=by
 obtain⟨e,he,h2⟩:=AfO.1 hm;cases h2;refine⟨rfl,?_⟩;unfold Gr;rw[Hq h he];exact he
theorem Z1{Q:Nat->Prop}{w:Ae3}{L:AQ}{ptr:Bs->Nat}(h:PksAt Q w L ptr){a:Bs}{p:AT}(hm:(a,p)∈L):PackP Q w (pN (ptr a)) p:=h _ hm
theorem Qg{D:Ad}{L:AQ}{ptr:Bs->Nat}{o:List Bs}(h:SortS (L.map AfB))(hM:∀x,x∈o↔x∈Gp D):IdsLeft D L (L.map fun e=>(e.1,ptr e.1)) o:=fun x=>by
 unfold Kn;rw[hM];refine or_congr Iff.rfl ⟨fun⟨p,hp,hx⟩=> ?_,fun⟨e,he,hx⟩=>⟨_,List.mem_map_of_mem he,?_⟩⟩
 ·exact⟨_,(Py (a:=p.1) (y:=p.2) h hp).2,hx⟩
 ·show x∈(Gr L e.1).1;unfold Gr;rw[Hq h he];exact hx
theorem IdsLeft.step{D:Ad}{L:AQ}{left rest:List (Bs × Nat)}{acc:List Bs}{a:Bs}{y:Nat}(h:IdsLeft D L left acc)(hp:left.Perm ((a,y) :: rest))(_hm:(a,Gr L a)∈L):IdsLeft D L rest (acc++(Gr L a).1):=fun x=>by
 rw[<-h x,Afy];constructor
 ·rintro((q | q) | ⟨p,b,q⟩)
  ·exact .inl q
  ·exact .inr ⟨(a,y),hp.mem_iff.2 AfX,q⟩
  ·exact .inr ⟨p,hp.mem_iff.2 (AfY _ b),q⟩
 ·rintro(q | ⟨p,b,q⟩)
  ·exact .inl (.inl q)
  ·rcases AfT.1 (hp.mem_iff.1 b)with e | e
   ·subst e;exact .inl (.inr q)
   ·exact .inr ⟨p,e,q⟩
theorem IdsLeft.done{D:Ad}{L:AQ}{left:List (Bs × Nat)}{acc:List Bs}(h:IdsLeft D L left acc)(h0:left= [])(x:Bs):x∈acc↔Kn D L x:=by
 rw[<-h x,h0];simp
theorem W0:Plain Ae5 53:=fun _ _=>by kernel_rfl
theorem W1:Plain Ae5 54:=fun _ _=>by kernel_rfl
theorem Zf(wb w:Ae3)(g:Nat)(H:Dk)(D:Ad)(hD:DkG wb w g H D)(hG:Laid wb)(hL:De D)(hnm:(AF D).length<=100000)(n:Nat)(gv bm:Nat)(L:AQ)(ptr:Bs->Nat)(hV:VtAt n (Cl H D) w gv g bm L ptr)(hgL:GoodL L)(hLn:L.length<=100000)(hLi:∀e∈L,e.2.1.length<=1000)(hLs:(Gp D).length+1000*L.length<=100000):
  Calls Ae5 18 #[PQ gv 0] w fun e w' =>∃v o,e = .returned v/\OG w.heap.size 33 32 (Ae4) w' v o/\Dr o/\(∀x,x∈o↔Kn D L x)/\Ext w w' :=by
 have hvb:=hV.blk;have hvm:=hV.map;have hpk:=hV.pk;have hsrt:=hV.sort;have hV0:=hV;refine gG (args:= [PQ gv 0]) Tryz.func18 rfl 28 rfl rfl ?_;have hE:=Ad4 w;refine gS (Aa8 Pm rfl (cF rfl (gS (Ad7 rfl (gS (Ad6 LR rfl (gS (Aax VY rfl rfl (cellAt hvb rfl) (gS (AaE W0 rfl ((WD wb _ g H D (hD.keep hE) hG hL hnm).mono ?_)))))))))));rintro e w8 ⟨m,o1,rfl,h,a1,hM1,a2,z⟩;refine⟨_,rfl,?_⟩;have ag:OB m gv:=DA h.2 (bl hvb);have ah:OB m bm:=DA h.2 hvm.lt;have hvb:=eb z hvb;refine gS (Ad7 rfl (gS (Ad6 LQ rfl (gS (Aax KR rfl rfl (cellAt hvb rfl) ?_)))));have hvm:=hvm.keep z;have hbml_:=(hvm).lt;have hgvl_:=bl hvb;refine gS (AcA (fun a c=>C4) KR rfl hvm (KW ptr hsrt) (Px hsrt) fun b a3 a4 ab q a5=> ?_);have hE:=hE.trans z;have ai:=hE.size;have aj:OB m b:=A4 h.2 (by omega);have hI23:=ab;clear ab;have hgi:=MIt.lt hI23;have hbmn_:bm<b:=by omega
 have hgvn_:gv<b:=by omega
 have hvb:=eb q hvb;have hvm:=hvm.keep q;have hE:=hE.trans q;have h:=h.keep q;refine gL (fun(ρ:Ae) (wz:Ae3)=>∃left:List (Bs × Nat),∃acc:List Bs,∃r3:Ae2,ρ 0=(PQ gv 0:Ae2)/\ρ 2=((Afc none 0 0):Ae2)/\ρ 7=(.bool (false):Ae2)/\ρ 17=(PQ b 0:Ae2)/\ρ 3=(r3:Ae2)/\wz.heap[gv]? =some (.cells ([PQ g 0, .map (some bm)]).toArray 86 (0,0))/\MapF St pN Nm wz bm (pkG L ptr)/\Ext w wz/\MIt St pN wz b bm left/\OG w.heap.size 33 32 (Ae4) wz r3 (acc)/\(OB r3 b)/\(∀p∈left,p∈(L.map fun e=>(e.1,ptr e.1)))/\(IdsLeft D L left acc)/\(acc.length+1000*left.length<=o1.length+1000*L.length)/\(OB r3 gv)/\(OB r3 bm)/\True) (fun ρ wz=>Abv wz b) ⟨(L.map fun e=>(e.1,ptr e.1)),o1,m,rfl,rfl,rfl,rfl,rfl,hvb,hvm,hE,hI23,Bd h (rfl),aj,fun p hp=>hp,Qg hsrt hM1,by rw[Afu];exact Ae8 _,ag,ah,trivial⟩ ?_;clear h;clear hI23;clear hvb hvm hE;rintro a6 ac ⟨left,acc,r3,T0,T2,T7,r,T3,hvb,hvm,hE,hI,hr_r3,hapg,hsub,hids,hacl,hap_r3_gv,hap_r3_bm,-⟩;by_cases s:left= []
 ·refine gS (Acf r hI s (gS (Ad5 (vs:= [.bool (false)]) rfl rfl (cF rfl ?_))));have hsz9:w.heap.size<=ac.heap.size:=hE.size;have hll:=hacl;have hlz:left.length=0:=by rw[s];rfl
  refine gS (AaE WC T3 ((H7 _ _ acc (AaR hr_r3) (by omega)).mono ?_));rintro e an ⟨ao,o,rfl,ap,hS,hM,hN,ad⟩;refine⟨_,rfl,?_⟩;have hI:MIt St pN an b bm left:=(hI.keep ad);have aq:=ap;refine A8 rfl (vr ao rfl) ?_;have hE:=hE.trans ad;exact⟨_,o,rfl,AeR aq hsz9,hS,fun x=>(hM x).trans (hids.done s x),hE⟩
 refine gS (Acn r hI s fun a34 y35 rest36 ar i hI39 au t a7=> ?_);have hm0:=AbY hI;have hmem:(a34,y35)∈(L.map fun e=>(e.1,ptr e.1)):=hsub _ (i.mem_iff.2 AfX);obtain⟨hyp,hlk⟩:=Py hsrt hmem;have hpl_:=i.length_eq;rw[AfA]at hpl_;have hvm:=Ad8 hvm t (Ak (by omega));clear hI;have hI:=hI39;clear hI39;have hgi:=MIt.lt hI;refine gS (Ad5 (vs:= [.bool (true),St (a34),PQ y35 0]) rfl rfl (cT rfl (gS (AcB r au (gS (Ad5 (vs:= [St (a34),PQ y35 0]) rfl rfl ?_))))));have hE:=Ab hE t (Ae7 ai (by omega));have hpp:PackP (fun k=>Cl H D k/\k≠gv/\k≠bm) ar (pN y35) (Gr L a34):=by rw[hyp];exact Z1 (hpk.keep hE) hlk
 have hil:(Gr L a34).1.length<=1000:=hLi _ hlk;refine gS (AaE W1 rfl ((VP _ (pN y35) (some (Gr L a34)) hpp.opt (AhK hil (by decide))).mono ?_));rintro e av ⟨ae,rfl,u,j⟩;refine⟨_,rfl,?_⟩;have a8:=hE.size;have hvb:=kb t hvb (by omega);have hr_r3:=Aei hr_r3 t hapg;have aw:Ai r3 ae:=D7 hr_r3.2 u.2;have hI8:=MIt.keep hI j;have hgi2:=MIt.lt hI8;have hE:=hE.trans j;have hr_r3:=hr_r3.keep j;refine gS (Aa2 _ _ w.heap.size _ 32 Oi pk6_ig33.choose_spec.1 pk6_ig33.choose_spec.2 Oi (acc) ((Gr L a34).1) (Aen hr_r3 T3) (AaD (AaR u) (vr ae rfl)) (fun y _=>Ag y) (by omega) (by omega) hE.size fun l af ax f=> ?_);have hIq:=hI8;have f:Grew av af r3 l:= .eqv T3 f;have hvb:=eb j hvb;have ay:OB l gv:=Ap f hap_r3_gv (bl hvb);have hvm:=hvm.keep j;have az:OB l bm:=Ap f hap_r3_bm hvm.lt;have hvb:=Aq hvb f hap_r3_gv;have hvm:=Aeh hvm f hap_r3_bm;have hE:=As hE f hr_r3.2 (Ae8 _);have u:=Bi u f aw;clear hr_r3;have hapg2:OB l b:=Ap f hapg hgi2;have hI9:=MIt.grew hIq f hapg hap_r3_bm;clear hIq;refine gK (AfF ⟨rest36,acc++(Gr L a34).1,l,T0,T2,T7,r,rfl,hvb,hvm,hE,hI9,Bd ax (rfl),hapg2,fun p hp=>hsub p (i.mem_iff.2 (AfY _ hp)),hids.step i hlk,by have:=i.length_eq;rw[AfA]at this;rw[Ae9];omega,ay,az,trivial⟩ ?_);show Abv af b<Abv ac b;rw[AbY hI9,hm0,i.length_eq];simp
structure VtS (wb : Ae3) (n g gv : Nat) (w : Ae3) (H : Dk) (D : Ad) (L : AQ) : Prop where
 dk:DkG wb w g H D
 v:∃bm ptr,VtAt n (Cl H D) w gv g bm L ptr
 good:GoodL L
 lo:wb.heap.size<=n
 len:L.length<=100000
def LY(H:Dk)(D:Ad)(gv:Nat)(k:Nat):Prop:=B7 H D.files.length k\/k=gv
section
variable {wb w w' : Ae3} {n g gv : Nat} {H H' : Dk} {D D' : Ad} {L L' : AQ}
theorem VtS.keep(h:VtS wb n g gv w H D L)(k:Ext w w'):VtS wb n g gv w' H D L:=by
 obtain⟨bm,ptr,hv⟩:=h.v;exact⟨h.dk.keep k,⟨bm,ptr,hv.keep k⟩,h.good,h.lo,h.len⟩
theorem VtS.tag(h:VtS wb n g gv w H D L):CR w gv=some (86+1):=by
 obtain⟨bm,ptr,hv⟩:=h.v;exact BB hv.blk
theorem VtS.step(h:VtS wb n g gv w H D L)(hW:DkW wb w g H D w' H' D'):VtS wb n g gv w' H' D' L/\Chg (LY H D gv) w w' :=by
 obtain⟨bm,ptr,hv⟩:=h.v;exact⟨⟨hW.g,⟨bm,ptr,hv.step hW⟩,h.good,h.lo,h.len⟩,hW.chg.monoV fun k q=> .inl q⟩
theorem VtS.kept(h:VtS wb n g gv w H D L)(hK:VtK wb w n g gv H D w' H' D' L')(hg:GoodL L')(hl:L'.length<=100000):VtS wb n g gv w' H' D' L' /\Chg (LY H D gv) w w' :=
 ⟨⟨hK.dk,hK.v,hg,h.lo,hl⟩,hK.chg.monoV fun k q=>q.imp id fun q=>q.1⟩
theorem VtS.off(h:VtS wb n g gv w H D L){k:Nat}(hk:LY H D gv k):k<w.heap.size/\wb.heap.size<=k:=by
 rcases hk with q | rfl
 ·exact⟨(h.dk.st.foot q).2.1,(h.dk.st.foot q).2.2⟩
 ·obtain⟨bm,ptr,hv⟩:=h.v;exact⟨bl hv.blk,Ae7 h.lo hv.lo⟩
theorem VtS.box(h:VtS wb n g gv w H D L)(hc:Chg (LY H D gv) w w'){b:Nat}{cs:Array Ae2}{t:Afa}{fr:Nat × Nat}(hb:w.heap[b]? =some (.cells cs t fr))(h1:t≠107)(h2:t≠133)(h3:t≠5)(h4:t≠131)(h5:t≠86):w'.heap[b]? =some (.cells cs t fr):=
 (hc.blk b (bl hb) fun q=>q.elim (h.dk.st.offT hb h1 h2 h3 h4) fun e=>by
  have ht:=h.tag;rw[<-e,BB hb]at ht;exact h5 (by simpa using ht)).trans hb
abbrev AeU:=@VtS.box
theorem AbW(h:VtS wb n g gv w H D L)(hc:Chg (LY H D gv) w w'){α:Type}{b k:Nat}{t:Afa}{enc:α->List Ae2}{v:Ae2}{l:List α}(hr:OG b t k enc w v l)(h1:t≠107)(h2:t≠133)(h3:t≠5)(h4:t≠131)(h5:t≠86):OG b t k enc w' v l:=by
 refine⟨hr.1,Dl hc hr.2 fun i hi q=> ?_⟩;have ht:=EM hr.2 hi;rcases q with q | q
 ·rcases(h.dk.st.foot q).1 with ⟨es,c,e⟩ | ⟨cs,t',fr,e,ht'⟩
  ·unfold CR at ht;rw[e]at ht;cases ht
  ·have:=BB e;rw[this]at ht;have ht:t' =t:=by simpa using ht
   subst ht;rcases ht' with q | q | q | q
   ·exact h1 q
   ·exact h2 q
   ·exact h3 q
   ·exact h4 q
 ·have hv:=h.tag;rw[<-q,ht]at hv;exact h5 (by simpa using hv)
theorem VtS.rbNew(h:VtS wb n g gv w H D L){w1:Ae3}(hc:Chg (LY H D gv) w1 w'){v:Ae2}{l:AlJ}(hr:RB w1 v l)(hN:NewI w.heap.size w1 v):RB w' v l:=
 hr.chg hc (.inr fun k hk q=>by have:=(h.off q).1;have:=(hN k hk).1;omega)
theorem VtS.offR(h:VtS wb n g gv w H D L){v:Ae2}{l:AlJ}(hr:RB wb v l):l= []\/∀i,v.ownBlock=some i->¬B7 H D.files.length i:=h.dk.off hr
end
section
variable {D : Ad} {L : AQ} {o : List Bs} {ch : List Int}
theorem SD(h:GoodL L):GoodL (BG D L o ch).2.1/\((BG D L o ch).2.1.length<=L.length\/(BG D L o ch).2.1.length<=1):=by
 have hl:∀(E:Ad) (M:AQ),GoodL M->M.length<=1->GoodL (lastV E L M).2.1/\((lastV E L M).2.1.length<=L.length\/(lastV E L M).2.1.length<=1):=fun E M hM hm=>by
  unfold lastV;split
  ·exact⟨h, .inl (Ae8 _)⟩
  ·exact⟨hM, .inr hm⟩
 unfold BG;split
 ·exact⟨h, .inl (Ae8 _)⟩
 ·split
  ·exact hl D [] (fun e he=>by cases he) (AfC _)
  ·rename_i b _ _
   unfold LS;split
   ·rename_i p hp
    unfold EZ;split
    ·have f:∀(c:Prop) [Decidable c] (a b:Ad × AQ × List Bs × Nat),a.2.1=L->b.2.1=L->(if c then a else b).2.1=L:=fun c _ a b h1 h2=>by split <;> assumption
     rw[f _ _ _ rfl rfl];exact⟨h, .inl (Ae8 _)⟩
    ·split
     ·exact⟨h, .inl (Ae8 _)⟩
     ·split
      ·exact⟨h, .inl (Ae8 _)⟩
      ·exact hl _ _ (fun e he=>by rw[Afh.1 he];exact⟨b,hp,rfl⟩) (Ae8 _)
   ·exact⟨h, .inl (Ae8 _)⟩
end
section
variable (wb w : Ae3) (n g gv : Nat) (H : Dk) (D : Ad) (L : AQ) (h : VtS wb n g gv w H D L) (hG : Laid wb) (hL : De D)
theorem Mu(wb w:Ae3)(g:Nat)(H:Dk)(D:Ad)(hD:DkG wb w g H D)(hG:Laid wb)(hL:De D)(hnm:(AF D).length<=100000)(hd:D.down=false):
  Calls Ae5 13 #[PQ g 0] w fun e w' =>∃gv,e = .returned (.tuple #[PQ gv 0,NI 0])/\VtS wb w.heap.size g gv w' H D (openV D)/\Ext w w' :=
 (WW wb w g H D hD hG hL hnm).mono fun e w' q=>by
  rcases q with ⟨q,-⟩ | ⟨-,gv,bm,ptr,he,hv,hx⟩
  ·rw[hd]at q;cases q
  ·refine⟨gv,he,⟨hD.keep hx,⟨bm,ptr,hv⟩,Sx D,hD.ext.size,?_⟩,hx⟩;exact Ae7 (List.length_filterMap_le _ _) (Ae7 (FZ D _) hnm)
include h hG
theorem U1(vb:Ae2)(b:AlJ)(hr:RB w vb b)(hoff:b= []\/∀i,vb.ownBlock=some i->¬B7 H D.files.length i)(hbl:b.length<=300)(m:Nat)(hB:DBd m D)(hm:m<=99000)(r:Ad × Bs × Bs × Nat)(hrr:DP D L b=r):
  Calls Ae5 14 #[PQ gv 0,vb] w fun e w' =>∃H' vo,e = .returned (.tuple #[.agg (Ae4 r.2.1).toArray,vo,NI r.2.2.2])/\RB w' vo r.2.2.1/\VtS wb n g gv w' H' r.1 L/\Chg (LY H D gv) w w' :=by
 subst hrr;obtain⟨bm,ptr,hv⟩:=h.v;exact(Y4 wb w g H D h.dk hG (hB.lt (by omega)) n gv bm L ptr hv h.good h.len vb b hr hoff hbl m hB hm).mono fun e w' ⟨H',vo,he,hr,hW,_⟩=>⟨H',vo,he,hr,h.step hW⟩
theorem Zg(vi:Ae2)(ids:List Bs)(hid_:RG 32 Ae4 w vi ids)(hi32a:∀id∈ids,id.length=32)(a:ids.length<=60)(hsmall:∀id∈ids,(getV D L id).2=0->(getV D L id).1.length<=200)(vc:Ae2)(ch:List Int)(hch:RG 1 BY w vc ch)(hchl:ch.length<=1099511627776)(m:Nat)(hB:DBd m D)(hm:m<=30000):
  Calls Ae5 16 #[PQ gv 0,vi,vc] w fun e w' =>∃H' vcl o,e = .returned (.tuple #[vcl,NI (BG D L o ch).2.2.2])/\Dr o/\(∀x,x∈o↔x∈ids)/\RBs w' vcl (BG D L o ch).2.2.1/\VtS wb n g gv w' H' (BG D L o ch).1 (BG D L o ch).2.1/\Chg (LY H D gv) w w' :=by
 obtain⟨bm,ptr,hv⟩:=h.v;exact(WZ wb w g H D h.dk hG (hB.lt (by omega)) n gv bm L ptr hv h.good h.len h.lo vi ids hid_ hi32a a hsmall vc ch hch hchl m hB hm).mono fun e w' ⟨H',vcl,o,he,h1,h2,h3,hK⟩=>by
  obtain⟨g1,g2⟩:=SD (D:=D) (o:=o) (ch:=ch) h.good;have:=h.len;exact⟨H',vcl,o,he,h1,h2,h3,h.kept hK g1 (by omega)⟩
theorem Mv(vi:Ae2)(ids:List Bs)(hid_:RG 32 Ae4 w vi ids)(hi32a:∀id∈ids,id.length=32)(a:ids.length<=60)(hsmall:∀id∈ids,(getV D L id).2=0->(getV D L id).1.length<=200)(vc:Ae2)(ch:List Int)(hch:RG 1 BY w vc ch)(hchl:ch.length<=1099511627776)(m:Nat)(hB:DBd m D)(hm:m<=30000)(P:Ad × AQ × List Bs × Nat->Prop)(hP:∀o,Dr o->(∀x,x∈o↔x∈ids)->P (BG D L o ch)):
  Calls Ae5 16 #[PQ gv 0,vi,vc] w fun e w' =>∃H' vcl r,e = .returned (.tuple #[vcl,NI r.2.2.2])/\P r/\RBs w' vcl r.2.2.1/\VtS wb n g gv w' H' r.1 r.2.1/\Chg (LY H D gv) w w' :=
 (Zg wb w n g gv H D L h hG vi ids hid_ hi32a a hsmall vc ch hch hchl m hB hm).mono fun e w' ⟨H',vcl,o,he,h1,h2,h3,h4⟩=>⟨H',vcl,_,he,hP o h1 h2,h3,h4⟩
include hL
theorem U2(id:AlJ)(hid:id.length=32)(r:Bs × Nat)(hrr:getV D L id=r):
  Calls Ae5 15 #[PQ gv 0, .agg (Ae4 id).toArray] w fun e w' =>∃v,e = .returned (.tuple #[v,NI r.2])/\RB w' v r.1/\Ext w w' /\NewI w.heap.size w' v:=by
 subst hrr;obtain⟨bm,ptr,hv⟩:=h.v;exact Mq wb w g H D h.dk hG hL n gv bm L ptr hv h.good h.len id hid
theorem Z2(id:AlJ)(hid:id.length=32):
  Calls Ae5 17 #[PQ gv 0, .agg (Ae4 id).toArray] w fun e w' =>e = .returned (.bool (decide ((getV D L id).2=0)))/\Ext w w' :=by
 obtain⟨bm,ptr,hv⟩:=h.v;exact Y3 wb w g H D h.dk hG hL n gv bm L ptr hv h.good h.len id hid
theorem Z3(hnm:(AF D).length<=100000)(hLi:∀e∈L,e.2.1.length<=1000)(hLs:(Gp D).length+1000*L.length<=100000):
  Calls Ae5 18 #[PQ gv 0] w fun e w' =>∃v o,e = .returned v/\OG w.heap.size 33 32 (Ae4) w' v o/\Dr o/\(∀x,x∈o↔Kn D L x)/\Ext w w' :=by
 obtain⟨bm,ptr,hv⟩:=h.v;exact Zf wb w g H D h.dk hG hL hnm n gv bm L ptr hv h.good h.len hLi hLs
omit hG hL
theorem W2:Calls Ae5 19 #[PQ gv 0] w fun e w' =>e = .returned (NI L.length)/\Ext w w' :=by
 obtain⟨bm,ptr,hv⟩:=h.v;exact U0 w n (Cl H D) gv g bm L ptr hv h.good h.len
end
def InjD(l:Br):Prop:=l.Pairwise fun a b=>a.2≠b.2
theorem InjD.wo{l:Br}(h:InjD l)(s:AlJ):InjD (H0 l s):=AkQ List.filter_sublist h
theorem InjD.ins{l:Br}(h:InjD l)(s:AlJ){k:Nat}(hk:∀e∈l,e.2≠k):InjD (G3 l s k):=by
 unfold G3 InjD;rw[AgD];refine⟨h.sublist (Air _),List.pairwise_cons.2 ⟨fun e he=>(hk e ((Ais _).subset he)).symm,h.sublist (Ais _)⟩,fun a ha b hb=> ?_⟩;rcases AfT.1 hb with rfl | hb
 ·exact hk a ((Air _).subset ha)
 ·have h2:(l.takeWhile (fun e=>Op.bytesLess e.1 s)++l.dropWhile (fun e=>Op.bytesLess e.1 s)).Pairwise fun a b=>a.2≠b.2:=by rw[List.takeWhile_append_dropWhile];exact h
  exact(AgD.1 h2).2.2 a ha b hb
theorem InjD.turn{l:Br}(h:InjD l)(a:CL)(hk:a.to.length≠0->∀e∈l,e.2=a.file->e.1=a.frm):InjD (turnD l a):=by
 unfold turnD;split
 ·exact h.wo _
 ·rename_i hn
  refine((h.wo _).wo _).ins _ fun e he q=> ?_;have h1:=Js he;have h2:=hk hn e (Js h1) q;have h3:=(List.mem_filter.1 h1).2;simp[h2]at h3
theorem InjD.num(l:Br):InjD (Dt l):=by
 unfold InjD Dt;rw[Agx];intro i j hi hj hij;rw[Alk,Alk];exact Nat.ne_of_lt hij
theorem InjD.add{D:Ad}(h:InjD D.now)(hok:DOk D)(s b:AlJ):InjD (Cg D s b).now:=by
 unfold Cg;split
 ·exact h
 ·exact h.turn _ fun _ e he q=>absurd (hok.now.num e he) (by rw[q];exact Nat.lt_irrefl _)
theorem EF{D:Ad}{s t:AlJ}(hd:D.down=false)(hs:Bg s=true)(ht:Bg t=true):CP D s t=0:=by
 unfold CP;rw[if_neg (by rw[hd];decide),if_pos ⟨hs,ht⟩]
theorem Pz{D:Ad}(ha:D.arm=0):CI D=(D,false):=by
 unfold CI;exact if_pos ha
theorem Ns{D:Ad}{s b:AlJ}(hd:D.down=false)(ha:D.arm=0)(hm:Bg s=true)(hq:usedD D+b.length<=D.quota):A3 D s b=(Cg D s b,0):=by
 unfold A3;rw[if_neg (by rw[EF hd hm hm];exact fun q=>q rfl),if_neg (by omega),Pz ha];rfl
theorem Mw{D:Ad}{s:AlJ}{k:Nat}(hd:D.down=false)(ha:D.arm=0)(hm:Bg s=true)(hk:Ao D.now s=some k):
  BD D s=({ D with files:=D.files.set k ((AG D k).1,(AG D k).1.length),kept:=D.now,acts:= [] },0):=by
 have h:FD D s s = .ok k:=by
  unfold FD;rw[if_neg (by rw[EF hd hm hm];exact fun q=>q rfl),hk]
 unfold BD;rw[h];show DZ D _=_;unfold DZ;rw[Pz ha];rfl
theorem Qh{l:List (AlJ × Nat)}{k:Nat}{x:AlJ × Nat}(h:k<l.length):(l.set k x).getD k ([],0)=x:=by
 rw[Ae6,List.getElem?_set_self h];rfl
structure Sy (D : Ad) (s : AlJ) (k n0 : Nat) (al : AlJ) : Prop where
 down:D.down=false
 arm:D.arm=0
 ok:DOk D
 may:Bg s=true
 inj:InjD D.now
 now:Ao D.now s=some k
 kept:Ao D.kept s=some k
 acts:∀a∈D.acts,a.to≠s/\a.frm≠s
 file:AG D k=(al,n0)
theorem QV(D:Ad)(s b:AlJ):(Cg D s b).arm=D.arm/\(Cg D s b).down=D.down:=by
 unfold Cg;split <;> exact⟨rfl,rfl⟩
theorem Nt{s:AlJ}{k:Nat}:∀(acs:List CL) (l:Br),(∀a∈acs,a.to≠s/\a.frm≠s)->Ao l s=some k->Ao (acs.foldl turnD l) s=some k
 | [],_,_,h=>h
 | a :: r,l,ha,h=>Nt r (turnD l a) (fun b hb=>ha b (AfY _ hb)) (by
  have h1:=ha a AfX;rw[look_turn];split
  ·rw[if_neg (fun q=>h1.2 q.symm)];exact h
  ·rw[if_neg (fun q=>h1.1 q.symm),if_neg (fun q=>h1.2 q.symm)];exact h)
structure ReadyL (D : Ad) : Prop where
 down:D.down=false
 arm:D.arm=0
 ok:DOk D
 inj:InjD D.now
theorem Sy.ready{D:Ad}{s al:AlJ}{k a:Nat}(h:Sy D s k a al):ReadyL D:=⟨h.down,h.arm,h.ok,h.inj⟩
theorem H9{b:AlJ}(h:b.length=32):Bg (nmO b)=true:=by
 unfold Bg;rw[YK h];rfl
section
variable {D : Ad} {s b : AlJ} {k : Nat}
theorem Sy.sync(h:ReadyL D)(hm:Bg s=true)(hk:Ao D.now s=some k):(BD D s).2=0/\Sy (BD D s).1 s k (AG D k).1.length (AG D k).1:=by
 have e:=Mw h.down h.arm hm hk;have hkl:=(h.ok.now.look hk).1;rw[e];exact⟨rfl,h.down,h.arm,h.ok.synced k,hm,h.inj,hk,hk,(fun a h=>by cases h),Qh hkl⟩
theorem Zh(hd:D.down=false)(ha:D.arm=0)(hm:Bg s=true)(hk:Ao D.now s=some k):Bx D s=(turnedD D ⟨s,[],k⟩,0):=by
 have h:FD D s s = .ok k:=by
  unfold FD;rw[if_neg (by rw[EF hd hm hm];exact fun q=>q rfl),hk]
 unfold Bx;rw[h];show DZ D _=_;unfold DZ;rw[Pz ha];rfl
theorem ReadyL.dropped(h:ReadyL D)(hm:Bg s=true)(hk:Ao D.now s=some k):ReadyL (turnedD D ⟨s,[],k⟩):=
 ⟨h.down,h.arm,h.ok.turned ⟨(h.ok.now.look hk).1,fun q=>absurd rfl q,(B1 hm).2⟩,InjD.turn h.inj ⟨s,[],k⟩ fun q=>absurd rfl q⟩
theorem KX(hl:Ao D.now s=none):Cg D s b = { turnedD D ⟨[],s,D.files.length⟩with files:=D.files++ [(b,0)] } :=by
 unfold Cg;rw[hl]
theorem KY(hm:Bg s=true)(hl:Ao D.now s=none):Ao (Cg D s b).now s=some D.files.length/\AG (Cg D s b) D.files.length=(b,0):=by
 have h0:=(B1 hm).1;rw[KX hl];refine⟨?_,?_⟩
 ·show Ao (turnD D.now ⟨[],s,D.files.length⟩) s=_;rw[look_turn,if_neg (show ¬s.length=0 by omega),if_pos (show s=s from rfl)]
 ·show(D.files++ [(b,0)]).getD D.files.length ([],0)=_;rw[Ae6,AfR (Ae8 _),AgR];rfl
theorem ReadyL.add(h:ReadyL D)(hm:Bg s=true)(b:AlJ):ReadyL (Cg D s b):=
 ⟨(QV D s b).2.trans h.down,(QV D s b).1.trans h.arm,h.ok.add b hm,h.inj.add h.ok s b⟩
theorem JE{a:Stp}{r:List Stp}(h:(C9 D s a).2=0):AY D s (a :: r)=AY (C9 D s a).1 s r:=by
 rw[FF,if_neg (by rw[h];exact fun q=>q rfl)]
theorem Gj(hd:D.down=false)(hm:Bg s=true)(h:Ao D.now s=none):Ar D s=([],4):=by
 unfold Ar FD;rw[if_neg (by rw[EF hd hm hm];exact fun q=>q rfl),h]
theorem U3(D:Ad)(id:AlJ):D4 (D,0) id=(D,id,[],0):=if_neg fun q=>q rfl
theorem Sy.put(h:Sy D (nmO (Sha.sum b)) k b.length b):BZ D b=({ D with kept:=D.now,acts:= [] },Sha.sum b,[],0):=by
 have hr:Ar D (nmO (Sha.sum b))=(b,0):=by rw[GK h.down h.may h.now,h.file]
 have e:=Mw h.down h.arm h.may h.now;have hkl:=(h.ok.now.look h.now).1;have hs:D.files.set k ((AG D k).1,(AG D k).1.length)=D.files:=by
  rw[h.file];refine List.ext_getElem (by simp) fun i h1 h2=> ?_;rw[List.getElem_set];split
  ·rename_i q
   subst q;have:=h.file;unfold AG at this;rw[Ae6,Afb hkl]at this;exact this.symm
  ·rfl
 rw[hs]at e;unfold BZ;rw[hr,if_neg (show ¬(0:Nat)=4 by decide),if_neg (show ¬(0:Nat)≠0 from fun q=>q rfl),if_pos rfl,JE (a:= .sync) (by show(BD D _).2=0;rw[e])];show D4 (AY (BD D _).1 _ []) _=_;rw[e];exact U3 _ _
end
end Go.Proofs.YtfpekahfdalfkaaGreatDoor
