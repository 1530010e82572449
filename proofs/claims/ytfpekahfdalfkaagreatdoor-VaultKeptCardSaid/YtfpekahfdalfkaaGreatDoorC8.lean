/- Part 8 of what stands behind these statements: laws and walks of the functions that are reached. Conditions: those that each theorem names. -/
import Derived.Test.YtfpekahfdalfkaaGreatDoorC7
set_option linter.unusedVariables false
set_option linter.unusedSimpArgs false
namespace Go.Proofs.YtfpekahfdalfkaaGreatDoor
open _root_.Bool renaming and_eq_true_iff->AjB,or_eq_false_iff->Ak2
open _root_.Nat renaming le_refl->Ae8,sub_self->AgR,le_trans->Ae7,add_mul->Ahj,mul_comm->AiY,zero_le->AfC,not_lt_zero->Age
open _root_.List renaming getD_eq_getElem?_getD->Ae6,getElem?_append_right->AfR,getElem?_append_left->AfW,not_mem_nil->AgX,mem_cons_self->AfX,nodup_cons->Ag8,mem_cons_of_mem->AfY,mem_cons->AfT,mem_map->AfO,mem_append->Afy,mem_filter->Agr,mem_singleton->Afh,findSome?_cons->AiR,length_cons->AfA,eq_nil_iff_forall_not_mem->Aim,length_replicate->Afp,flatMap_cons->Af3,length_append->Ae9,range->Af9,getElem?_map->Agw,take_append_drop->AgL,getElem?_eq_getElem->Afb,take_succ_eq_append_getElem->Afv,append_nil->AgG,take_length->Af8,length_singleton->Afs,getElem_mem->Agv,length_filterMap_le->AhE,mem_filterMap->AgJ,mem_mapIdx->Aik,take_sublist->Ajg,take_of_length_le->AfU,length_map->Afu,length_take->Afi,length_filter_le->AgM,length_nil->AfK
open _root_.Prod.mk renaming inj->AiP
open _root_.Go.Proofs.Tryz renaming prog->Ae5,underlying181->AjS
open _root_.Go renaming Value->Ae2,World->Ae3,TypeId->Afa
open _root_.Go.Instr renaming buildSlice->AfM
open _root_.Exists renaming elim->AgN
open _root_.Go.Lib renaming byteCells->Ae4,byteCells_length->Afl,compareBytes->Aft
open _root_.And renaming intro->AfF
open _root_.Int renaming toNat_natCast->Afg
open _root_.Go.Value renaming slice->Afc,bool->AfE
open Go.RowKit
theorem QW{a b:Bs}(ha:a.length=32)(hb:b.length=32)(h:nmO a=nmO b):a=b:=by
 have q1:hexOf a=hexOf b:=List.append_cancel_left h;have q2:=EY a ha;rw[q1,EY b hb]at q2;exact(congrArg Prod.fst q2).symm
theorem SE(b x:Bs):Au b≠nmO x:=fun h=>by
 have h2:=congrArg (fun l:Bs=>l.getD 0 0) h;have h3:(112:UInt8)=111:=h2;exact absurd h3 (by decide)
theorem J1(b:Bs):Bg (Au b)=true:=by
 unfold Bg;rw[Mp];rfl
theorem SF(x:Bs):Du [112,45] (nmO x)=false:=by
 unfold Du;rw[Pa (p:= [112,45]) (s:=nmO x) fun q=>by
  have h2:=congrArg (fun l:Bs=>l.getD 0 0) q.2;have h3:(111:UInt8)=112:=h2;exact absurd h3 (by decide)]
 rfl
theorem Aav(b:Bs):Du [111,45] (Au b)=false:=by
 unfold Du;rw[Pa (p:= [111,45]) (s:=Au b) fun q=>by
  have h2:=congrArg (fun l:Bs=>l.getD 0 0) q.2;have h3:(112:UInt8)=111:=h2;exact absurd h3 (by decide)]
 rfl
theorem XV{x:Bs}(hx:x.length=32):Du [111,45] (nmO x)=true:=by
 have hc:AC [111,45] (nmO x)=(hexOf x,true):=rfl;unfold Du;rw[hc,EY x hx];rfl
theorem XW(b:Bs):Du [112,45] (Au b)=true:=by
 have hc:AC [112,45] (Au b)=(hexOf (Sha.sum b),true):=rfl;unfold Du;rw[hc,EY _ (Sha.sum_length b)];rfl
theorem QX{p s:Bs}(h:(AC p s).2=true):s.take p.length=p:=by
 unfold AC at h;split at h
 ·rename_i q;exact q.2
 ·cases h
theorem W3{s:Bs}(h:Du [112,45] s=true):Du [111,45] s=false:=by
 cases q:Du [111,45] s with
 | false=>rfl
 | true=>
  unfold Du at h q;have h1:=QX (AjB.1 h).1;have h2:=QX (AjB.1 q).1;have h3:s.take 2= [112,45]:=h1;have h4:s.take 2= [111,45]:=h2;rw[h3]at h4;exact absurd h4 (by decide)
section
variable {D : Ad} {b : Bs}
structure LoD (D : Ad) : Prop where
 ready:ReadyL D
 kept:D.kept=D.now
 acts:D.acts= []
 file:∀e∈D.now,∃c,AG D e.2=(c,c.length)/\e.1=nmO (Sha.sum c)/\c.length<=200
theorem LoD.new(q:Nat):LoD (En q):=⟨⟨rfl,rfl,⟨AeX _,AeX _,(fun _ h=>by cases h),(fun _ h=>by cases h)⟩,List.Pairwise.nil⟩,rfl,rfl,fun e h=>by cases h⟩
theorem LoD.get_some(h:LoD D){id:Bs}(hid:id.length=32){k:Nat}(hk:Ao D.now (nmO id)=some k):∃c,AG D k=(c,c.length)/\Sha.sum c=id/\c.length<=200/\getL D id=(c,0):=by
 obtain⟨c,h1,h2,h3⟩:=h.file _ (Db hk);have e:Sha.sum c=id:=(QW hid (Sha.sum_length c) h2).symm;have hr:Ar D (nmO id)=(c,0):=by rw[GK h.ready.down (H9 hid) hk,h1]
 refine⟨c,h1,e,h3,?_⟩;unfold getL;rw[hr,if_neg (fun q=>q.elim (fun x=>by cases x) fun q=>q.2 e)]
theorem F0(hd:D.down=false){id:Bs}(hid:id.length=32)(hk:Ao D.now (nmO id)=none):getL D id=([],12):=by
 unfold getL;rw[Gj hd (H9 hid) hk,if_pos (.inl rfl)]
theorem LoD.get_zero(h:LoD D){id:Bs}(hid:id.length=32)(h0:(getL D id).2=0):∃k c,Ao D.now (nmO id)=some k/\AG D k=(c,c.length)/\Sha.sum c=id/\c.length<=200/\getL D id=(c,0):=by
 cases hk:Ao D.now (nmO id)with
 | none=>rw[F0 h.ready.down hid hk]at h0;cases h0
 | some k=>
  obtain⟨c,h1⟩:=h.get_some hid hk;exact⟨k,c,rfl,h1⟩
theorem Ko{s:Bs}(hd:D.down=false)(hm:Bg s=true)(hq:D.quota<usedD D+b.length):A3 D s b=({ D with refused:=D.refused+1 },8):=by
 unfold A3;rw[if_neg (by rw[EF hd hm hm];exact fun q=>q rfl),if_pos hq]
theorem LoD.same(h:LoD D):({ D with kept:=D.now,acts:= [] } :Ad)=D:=by
 have h1:=h.kept;have h2:=h.acts;cases D;simp only at h1 h2;subst h1 h2;rfl
theorem LoD.sy(h:LoD D){s:Bs}{k:Nat}(hk:Ao D.now s=some k):∃c,AG D k=(c,c.length)/\Sy D s k c.length c:=by
 obtain⟨c,h1,-⟩:=h.file _ (Db hk);exact⟨c,h1,h.ready.down,h.ready.arm,h.ready.ok,(h.ready.ok.now.look hk).2,h.ready.inj,hk,by rw[h.kept];exact hk,(fun a q=>by rw[h.acts]at q;cases q),h1⟩
def addS(D:Ad)(s b:Bs):Ad:= { turnedD D ⟨[],s,D.files.length⟩with files:=D.files++ [(b,b.length)],kept:=turnD D.now ⟨[],s,D.files.length⟩,acts:= [] }
theorem PA{l:List (AlJ × Nat)}{x y:AlJ × Nat}:(l++ [x]).set l.length y=l++ [y]:=by
 rw[List.set_append_right _ _ (Ae8 _),AgR];rfl
theorem KZ(h:ReadyL D){s:Bs}(hm:Bg s=true)(hl:Ao D.now s=none):BD (Cg D s b) s=(addS D s b,0):=by
 obtain⟨l1,l2⟩:=KY (b:=b) hm hl;have hr:=h.add hm b;rw[Mw hr.down hr.arm hm l1,l2];rw[KX hl];show(({ turnedD D ⟨[],s,D.files.length⟩with files:=(D.files++ [(b,0)]).set D.files.length (b,b.length),kept:=turnD D.now ⟨[],s,D.files.length⟩,acts:= [] } :Ad),0)=_;rw[PA];rfl
theorem JF{s:Bs}(hm:Bg s=true)(t:Bs)(ht:t≠ []):Ao (addS D s b).now t=if t=s then some D.files.length else Ao D.now t:=by
 have h0:=(B1 hm).1;show Ao (turnD D.now ⟨[],s,D.files.length⟩) t=_;rw[look_turn,if_neg (show ¬s.length=0 by omega)];show(if t=s then some D.files.length else if t= []then none else Ao D.now t)=_;rw[if_neg ht]
theorem Nu{s:Bs}:AG (addS D s b) D.files.length=(b,b.length):=by
 show(D.files++ [(b,b.length)]).getD D.files.length ([],0)=_;rw[Ae6,AfR (Ae8 _),AgR];rfl
theorem PB{s:Bs}{k:Nat}(hk:k<D.files.length):AG (addS D s b) k=AG D k:=by
 show(D.files++ [(b,b.length)]).getD k ([],0)=_;rw[Ae6,AfW hk];rfl
theorem LZ(h:ReadyL D){s:Bs}(hm:Bg s=true)(hl:Ao D.now s=none):ReadyL (addS D s b):=by
 obtain⟨l1,l2⟩:=KY (b:=b) hm hl;have:=(Sy.sync (h.add hm b) hm l1).2.ready;rw[KZ h hm hl]at this;exact this
theorem W4{s:Bs}{e:AlJ × Nat}(he:e∈(addS D s b).now):e∈D.now\/e=(s,D.files.length):=(G4 he).imp id fun q=>q.2
theorem PC(x:Bs):nmO x≠ []:=fun h=>by cases h
theorem Z4(x:Bs):Au x≠ []:=fun h=>by cases h
theorem LoD.put(h:LoD D)(hb:b.length<=200):
  (∃c,BZ D b=(D,Sha.sum b,c,7)/\getL D (Sha.sum b)=(c,0)/\c≠b) \/
  (BZ D b=({ D with refused:=D.refused+1 },Hp,[],8)/\D.quota<usedD D+b.length) \/
  (∃D',BZ D b=(D',Sha.sum b,[],0)/\LoD D' /\D'.refused=D.refused/\D'.quota=D.quota/\getL D' (Sha.sum b)=(b,0)/\∀id:Bs,id.length=32->id≠Sha.sum b->getL D' id=getL D id):=by
 have hs:=Sha.sum_length b;have hm:Bg (nmO (Sha.sum b))=true:=H9 hs;cases hk:Ao D.now (nmO (Sha.sum b))with
 | none=>
  have g:BZ D b=D4 (AY D (nmO (Sha.sum b)) [.add b, .sync]) (Sha.sum b):=by
   unfold BZ;rw[Gj h.ready.down hm hk,if_pos rfl]
  by_cases hq:D.quota<usedD D+b.length
  ·refine .inr (.inl ⟨?_,hq⟩);have f:C9 D (nmO (Sha.sum b)) (.add b)=({ D with refused:=D.refused+1 },8):=Ko h.ready.down hm hq;rw[g,FF,f,if_pos (show ¬(8:Nat)=0 by decide)];rfl
  ·have f:C9 D (nmO (Sha.sum b)) (.add b)=(Cg D (nmO (Sha.sum b)) b,0):=Ns h.ready.down h.ready.arm hm (by omega);have i:C9 (Cg D (nmO (Sha.sum b)) b) (nmO (Sha.sum b)) .sync=(addS D (nmO (Sha.sum b)) b,0):=KZ h.ready hm hk;have l:BZ D b=(addS D (nmO (Sha.sum b)) b,Sha.sum b,[],0):=by
    rw[g,JE (by rw[f]),f,JE (by rw[i]),i];exact U3 _ _
   have j:=LZ (b:=b) h.ready hm hk;have hf:∀e∈(addS D (nmO (Sha.sum b)) b).now,∃c,AG (addS D (nmO (Sha.sum b)) b) e.2=(c,c.length)/\e.1=nmO (Sha.sum c)/\c.length<=200:=fun e he=>by
    rcases W4 he with he | rfl
    ·rw[PB (h.ready.ok.now.num e he)];exact h.file e he
    ·exact⟨b,Nu,rfl,hb⟩
   have hL:LoD (addS D (nmO (Sha.sum b)) b):=⟨j,rfl,rfl,hf⟩;refine .inr (.inr ⟨_,l,hL,rfl,rfl,?_,fun id hid hne=> ?_⟩)
   ·obtain⟨c,q1,q2,q3,q4⟩:=hL.get_some hs (by rw[JF hm _ (PC _),if_pos rfl]);rw[Nu]at q1;cases q1;exact q4
   ·have hlk:Ao (addS D (nmO (Sha.sum b)) b).now (nmO id)=Ao D.now (nmO id):=by rw[JF hm _ (PC _),if_neg fun q=>hne (QW hid hs q)]
    cases a:Ao D.now (nmO id)with
    | none=>rw[F0 h.ready.down hid a,F0 j.down hid (hlk.trans a)]
    | some k=>
     obtain⟨c,q1,q2,q3,q4⟩:=h.get_some hid a;obtain⟨c',p1,p2,p3,p4⟩:=hL.get_some hid (hlk.trans a);rw[PB (h.ready.ok.now.look a).1,q1]at p1;rw[q4,p4,(AiP p1).1]
 | some k=>
  obtain⟨c,q1,q2,q3,q4⟩:=h.get_some hs hk;have hr:Ar D (nmO (Sha.sum b))=(c,0):=by rw[GK h.ready.down hm hk,q1]
  by_cases hc:c=b
  ·subst hc;refine .inr (.inr ⟨D,?_,h,rfl,rfl,q4,fun _ _ _=>rfl⟩);obtain⟨c2,p1,hsy⟩:=h.sy hk;rw[q1]at p1;cases p1;rw[hsy.put,h.same]
  ·refine .inl ⟨c,?_,q4,hc⟩;unfold BZ;rw[hr,if_neg (show ¬(0:Nat)=4 by decide),if_neg (show ¬(0:Nat)≠0 from fun q=>q rfl),if_neg hc,if_pos q2]
theorem L0:∀(l:List Bs) {D:Ad},ReadyL D->l.Nodup->(∀s∈l,∃k,Ao D.now s=some k)->∃D',dropsD D l=(D',0)/\ReadyL D' /\D'.files=D.files/\D'.quota=D.quota/\D'.refused=D.refused/\∀t,Ao D'.now t=if t∈l then none else Ao D.now t
 | [],D,h,_,_=>⟨D,rfl,h,rfl,rfl,rfl,fun t=>(if_neg AgX).symm⟩
 | s :: r,D,h,hn,hl=>by
  obtain⟨k,hk⟩:=hl s AfX;obtain⟨a,b⟩:=Ag8.1 hn;have hm:=(h.ok.now.look hk).2;have e:=Zh h.down h.arm hm hk;have hlk:∀t,Ao (turnedD D ⟨s,[],k⟩).now t=if t=s then none else Ao D.now t:=fun t=>by
   show Ao (turnD D.now ⟨s,[],k⟩) t=_;rw[look_turn,if_pos (show([]:AlJ).length=0 from rfl)]
  obtain⟨D',q1,q2,q3,q4,q5,q6⟩:=L0 r (h.dropped hm hk) b fun t ht=>by
   obtain⟨j,hj⟩:=hl t (AfY _ ht);exact⟨j,by rw[hlk,if_neg (fun(q:t=s)=>a (q▸ht))];exact hj⟩
  refine⟨D',?_,q2,q3,q4,q5,fun t=> ?_⟩
  ·rw[FH,e,if_neg (fun q=>q rfl)];exact q1
  ·rw[q6,hlk];by_cases h1:t=s
   ·rw[if_pos h1,if_pos (show t∈s :: r by rw[h1];exact AfX)];split <;> rfl
   ·rw[if_neg h1];by_cases h2:t∈r
    ·rw[if_pos h2,if_pos (AfY _ h2)]
    ·rw[if_neg h2,if_neg (fun q=>(AfT.1 q).elim h1 h2)]
theorem Mx(hd:D.down=false):AF D=D.now.map Prod.fst:=if_neg (by rw[hd];decide)
theorem DJ(h:ReadyL D){s:Bs}:s∈AF D↔∃k,Ao D.now s=some k:=by
 rw[Mx h.down];constructor
 ·intro q;obtain⟨e,he,rfl⟩:=AfO.1 q;exact⟨_,FV h.ok.now.sort he⟩
 ·rintro⟨k,hk⟩;exact AfO.2 ⟨_,Db hk,rfl⟩
theorem F2{M:AQ}{s:Bs}:s∈goneV D M↔s∈AF D/\((Du [112,45] s=true/\M.lookup s=none)\/Du [111,45] s=true):=by
 unfold goneV Az;rw[Afy,Agr,Agr,Agr,Option.isNone_iff_eq_none];constructor
 ·rintro(⟨⟨h1,h2⟩,h3⟩ | ⟨h1,h2⟩)
  ·exact⟨h1, .inl ⟨h2,h3⟩⟩
  ·exact⟨h1, .inr h2⟩
 ·rintro⟨h1,⟨h2,h3⟩ | h2⟩
  ·exact .inl ⟨⟨h1,h2⟩,h3⟩
  ·exact .inr ⟨h1,h2⟩
theorem L1(h:DOk D)(M:AQ):(goneV D M).Nodup:=by
 unfold goneV;refine List.nodup_append.2 ⟨((FG h _).nodup).filter _,(FG h _).nodup,fun a ha c hc e=> ?_⟩;subst e;have h1:=(Agr.1 (Agr.1 ha).1).2;have h2:=(Agr.1 hc).2;rw[W3 h1]at h2;cases h2
theorem JG(h:ReadyL D)(L M:AQ):∃D',lastV D L M=(D',M,[],0)/\ReadyL D' /\D'.files=D.files/\D'.quota=D.quota/\D'.refused=D.refused/\∀t,Ao D'.now t=if t∈goneV D M then none else Ao D.now t:=by
 obtain⟨D',q1,q2⟩:=L0 (goneV D M) h (L1 h.ok M) fun s hs=>(DJ h).1 (F2.1 hs).1;refine⟨D',?_,q2⟩;unfold lastV;rw[q1,if_neg (fun q=>q rfl)]
end
section
variable {D : Ad} {o : List Bs} {ch : List Int}
theorem PD(D:Ad)(id:Bs):getV D [] id=getL D id:=rfl
theorem Zi(h:LoD D)(h60:o.length<=60)(hn:o.Nodup)(hv:GF D [] o):
  (BG D [] o ch=({ D with refused:=D.refused+1 },[],[],8)/\D.quota<usedD D+40000) \/
  ∃D' M,BG D [] o ch=(D',M,[],0)/\ReadyL D' /\D'.refused=D.refused/\(∀t k,Ao D'.now t=some k->∃e∈M,t=e.1)/\M.length=(if o= []then 0 else 1)/\(∀id∈o,AA M id=some (getL D id).1)/\GoodL M:=by
 have hnam:∀t k,Ao D.now t=some k->∃x:Bs,x.length=32/\t=nmO x:=fun t k hk=>by
  obtain⟨c,h1,h2,h3⟩:=h.file _ (Db hk);exact⟨_,Sha.sum_length c,h2⟩
 by_cases hne:o= []
 ·subst hne;have hp:AK D [] [] ch=([],0):=by
   unfold AK;rw[if_neg (GG hv),if_pos rfl]
  obtain⟨D',q1,q2,q3,q4,q5,q6⟩:=JG h.ready [] [];refine .inr ⟨D',[],?_,q2,q5,fun t k hk=> ?_,rfl,(fun id hid=>by cases hid),fun e he=>by cases he⟩
  ·rw[Hs (by rw[hp];exact fun q=>q rfl) (by rw[hp])];exact q1
  ·exfalso;rw[q6]at hk;split at hk
   ·cases hk
   ·rename_i hg
    obtain⟨x,hx,rfl⟩:=hnam t k hk;exact hg (F2.2 ⟨(DJ h.ready).2 ⟨k,hk⟩, .inr (XV hx)⟩)
 ·obtain⟨b,p,hp,hop,hbl,hids,hobj,-⟩:=Np (ch:=ch) hv h60 hn hne;have h0:¬(AK D [] o ch).2≠0:=by rw[hp];exact fun q=>q rfl
  have i:=IE (L:= []) h0 (by rw[hp]) hop;have hm:=J1 b;have hl:Ao D.now (Au b)=none:=by
   cases e:Ao D.now (Au b)with
   | none=>rfl
   | some k=>
    obtain⟨x,-,q⟩:=hnam _ _ e;exact absurd q (SE b x)
  have hw:AJ D b=FI D b:=by
   rw[FK (by rw[Gj h.ready.down hm hl];exact fun q=>by cases q),Gj h.ready.down hm hl];exact if_neg fun q=>q.2 rfl
  by_cases hq:D.quota<usedD D+b.length
  ·left;have a:A3 D (Au b) b=_:=Ko h.ready.down hm hq;have f:FI D b=({ D with refused:=D.refused+1 },false,8):=by
    unfold FI;rw[a];exact if_pos (show ¬(8:Nat)=0 by decide)
   refine⟨?_,by omega⟩;rw[i,hw,f];exact LX rfl rfl
  ·right;have a:A3 D (Au b) b=_:=Ns h.ready.down h.ready.arm hm (by omega);have f:FI D b=(addS D (Au b) b,true,0):=by
    unfold FI;rw[a,if_neg (fun q=>q rfl),KZ h.ready hm hl]
   have g:=LZ (b:=b) h.ready hm hl;obtain⟨D',q1,q2,q3,q4,q5,q6⟩:=JG g [] [(Au b,p)];refine⟨D',[(Au b,p)],?_,q2,q5,fun t k hk=> ?_,by rw[if_neg hne];rfl,fun id hid=> ?_,fun e he=> ?_⟩
   ·rw[i,hw,f];exact q1
   ·rw[q6]at hk;split at hk
    ·cases hk
    ·rename_i hg
     by_cases ht:t=Au b
     ·exact⟨_,Afh.2 rfl,ht⟩
     ·exfalso;have hmem:=hk;by_cases ht0:t= []
      ·subst ht0;rw[g.ok.now.noEmpty]at hk;cases hk
      ·rw[JF hm _ ht0,if_neg ht]at hk;obtain⟨x,hx,rfl⟩:=hnam t k hk;exact hg (F2.2 ⟨(DJ g).2 ⟨k,hmem⟩, .inr (XV hx)⟩)
   ·obtain⟨d,hd⟩:=hobj id hid;show List.findSome? _ [(Au b,p)]=_;rw[AiR];have hd2:Option.map Prod.fst ((Au b,p).2.2 id)=some (getV D [] id).1:=by
     show Option.map Prod.fst (p.2 id)=_;rw[hd];rfl
    rw[hd2];rfl
   ·rw[Afh.1 he];exact⟨b,hop,rfl⟩
theorem W5{M:AQ}(h:ReadyL D)(hM:∀t k,Ao D.now t=some k->∃b,t=Au b):∃D',BG D M [] ch=(D',[],[],0)/\ReadyL D' /\D'.now= []:=by
 have hp:AK D M [] ch=([],0):=by
  unfold AK;rw[if_neg (fun⟨id,hid,_⟩=>by cases hid),if_pos rfl]
 obtain⟨D',q1,q2,q3,q4,q5,q6⟩:=JG h M [];refine⟨D',?_,q2,?_⟩
 ·rw[Hs (by rw[hp];exact fun q=>q rfl) (by rw[hp])];exact q1
 ·cases e:D'.now with
  | nil=>rfl
  | cons x r=>
   exfalso;have hk:=FV q2.ok.now.sort (e▸AfX:x∈D'.now);rw[q6]at hk;split at hk
   ·cases hk
   ·rename_i hg
    obtain⟨b,hb⟩:=hM _ _ hk;exact hg (F2.2 ⟨(DJ h).2 ⟨_,hk⟩, .inl ⟨by rw[hb];exact XW b,rfl⟩⟩)
end
set_option maxRecDepth 100000
theorem DBd.kept{m:Nat}{D:Ad}{L:AQ}{o:List Bs}{ch:List Int}(h:DBd m D)(hp:¬(AK D L o ch).2≠0->(AK D L o ch).1= []\/∃p,(AK D L o ch).1= [A6 D L o ch 0]/\BJ (A6 D L o ch 0) = .ok p/\(A6 D L o ch 0).length<=40000):DBd (3*m+606) (BG D L o ch).1:=by
 have hl:∀(k:Nat) (E:Ad) (M:AQ),DBd k E->DBd (3*k) (lastV E L M).1:=fun k E M hE=>by
  have h1:=(hE.drops (goneV E M)).mono (show k+(goneV E M).length<=3*k by have:=QT hE M;omega);unfold lastV;split <;> exact h1
 unfold BG;split
 ·exact h.mono (by omega)
 ·rename_i hc
  have hp:=hp hc;split
  ·exact(hl m D [] h).mono (by omega)
  ·rename_i b r e
   have hb:b.length<=60000:=by
    rcases hp with q | ⟨p,q1,q2,q3⟩
    ·rw[q]at e;cases e
    ·rw[q1]at e;cases e;omega
   have hw:=h.write hb;unfold LS;split
   ·rename_i p _
    unfold EZ;split
    ·have hd:=(hw.drops (if(AJ D b).2.1=true then [Au b]else [])).mono (show _<=3*m+606 by split <;> simp <;> omega);have f:∀(c:Prop) [Decidable c] (a d:Ad × AQ × List Bs × Nat),DBd (3*m+606) a.1->DBd (3*m+606) d.1->DBd (3*m+606) (if c then a else d).1:=fun c _ a d h1 h2=>by split <;> assumption
     exact f _ _ _ hd hd
    ·split
     ·exact hw.mono (by omega)
     ·split
      ·exact hw.mono (by omega)
      ·exact(hl _ _ _ hw).mono (by omega)
   ·exact h.mono (by omega)
theorem DBd.putL{m:Nat}{D:Ad}(h:DBd m D){b:Bs}(hb:b.length<=300):DBd (m+3) (BZ D b).1:=by
 have hst:∀(acs:List Stp) {n:Nat} {E:Ad},DBd n E->(∀x,Stp.add x∈acs->x=b)->DBd (n+acs.length) (AY E (nmO (Sha.sum b)) acs).1:=by
  intro acs
  induction acs with
  | nil=>intro n E hE _;exact hE
  | cons a r ih=>
   intro n E hE hx;have h1:=hE.step (nmO (Sha.sum b)) a fun x e=>by rw[hx x (e▸AfX)];exact hb
   rw[FF];split
   ·exact h1.mono (by rw[AfA];omega)
   ·have:=ih h1 fun x hm=>hx x (AfY _ hm);exact this.mono (by rw[AfA];omega)
 have hf:∀(r:Ad × Nat) (id:Bs),DBd (m+3) r.1->DBd (m+3) (D4 r id).1:=fun r id hr=>by
  unfold D4;split <;> exact hr
 have hs:∀acs:List Stp,acs.length<=3->(∀x,Stp.add x∈acs->x=b)->DBd (m+3) (D4 (AY D (nmO (Sha.sum b)) acs) (Sha.sum b)).1:=fun acs hl hx=>hf _ _ ((hst acs h hx).mono (by omega));unfold Go.Proofs.YtfpekahfdalfkaaGreatDoor.BZ;split
 ·exact hs _ (by simp) (by simp)
 split
 ·exact h.mono (by omega)
 split
 ·exact hs _ (by simp) (by simp)
 split
 ·exact h.mono (by omega)
 ·exact hs _ (by simp) (by simp)
theorem W6{a:List Bs}{x:Bs}(ha:Dr a)(h1:∀y,y∈a↔y∈ [x]):a= [x]:=by
 have hn:a.Nodup:=ha.imp fun hab e=>by rw[e,GT]at hab;omega
 have h2:a.Perm [x]:=(List.perm_ext_iff_of_nodup hn (by simp)).2 h1;exact List.perm_singleton.1 h2
theorem putV_nil(D:Ad){b:Bs}(hb:b.length<=262144):DP D [] b=BZ D b:=by
 unfold DP;rw[if_neg (by omega)];rfl
def Z5(id:Bs)(r:Ad × AQ × List Bs × Nat):Prop:=r.2.2.2=0/\DBd 2451 r.1/\AF r.1= []/\getV r.1 r.2.1 id=([],12)
def Aw2(id:Bs)(r:Ad × AQ × List Bs × Nat):Prop:=r.2.2.2=0/\DBd 615 r.1/\r.2.1.length=1/\getV r.1 r.2.1 id=([97,98,99],0)/\∀(o2:List Bs) (ch:List Int),(∀x,x∈o2↔x∈([]:List Bs))->Z5 id (BG r.1 r.2.1 o2 ch)
theorem AaM:∃(D1:Ad) (id:Bs),id.length=32/\DP (En 100000) [] [97,98,99]=(D1,id,[],0)/\DBd 3 D1/\getL D1 id=([97,98,99],0)/\∀(o:List Bs) (ch:List Int),Dr o->(∀x,x∈o↔x∈ [id])->Aw2 id (BG D1 [] o ch):=by
 have hs:=Sha.sum_length [97,98,99];have h0:=LoD.new 100000;have i:DBd 0 (En 100000):=DBd.new (by decide);rcases h0.put (b:= [97,98,99]) (by decide)with ⟨c,q1,q2,q3⟩ | ⟨q1,q2⟩ | ⟨D1,q1,q2,q3,q4,q5,q6⟩
 ·exfalso;rw[F0 rfl hs rfl]at q2;cases q2
 ·exact absurd q2 (by decide)
 have a:=i.putL (b:= [97,98,99]) (by decide);rw[q1]at a;have a:DBd 3 D1:=a;refine⟨D1,_,hs,by rw[putV_nil _ (by decide)];exact q1,a,q5,fun o ch hS hM=> ?_⟩;have ho:=W6 hS hM;subst ho;have hv:GF D1 [] [Sha.sum [97,98,99]]:=fun id hid=>by
  rw[Afh.1 hid,PD,q5];exact⟨rfl,by decide,rfl⟩
 have hu:=a.used;rcases Zi (ch:=ch) q2 (by decide) (by simp) hv with ⟨-,r2⟩ | ⟨D2,M,r1,r2,r3,r4,r5,r6,r7⟩
 ·rw[q4]at r2;have:(En 100000).quota=100000:=rfl;omega
 have hpp:¬(AK D1 [] [Sha.sum [97,98,99]] ch).2≠0->_:=fun h=>Ht (fun _=>FM hv (by decide)) h;have f:=a.kept (L:= []) (o:= [Sha.sum [97,98,99]]) (ch:=ch) hpp;rw[r1]at f;rw[r1];refine⟨rfl,f,r5,?_,fun o2 ch2 hM2=> ?_⟩
 ·have:=r6 _ (Afh.2 rfl);rw[q5]at this;show getV D2 M _=_;unfold getV;rw[this]
 have j:o2= []:=Aim.2 fun x hx=>by have:=(hM2 x).1 hx;cases this
 subst j;obtain⟨D3,s1,s2,s3⟩:=W5 (ch:=ch2) (M:=M) r2 fun t k hk=>by
  obtain⟨e,he,rfl⟩:=r4 t k hk;obtain⟨b,-,hb⟩:=r7 e he;exact⟨b,hb⟩
 have g:=f.kept (L:=M) (o:= []) (ch:=ch2) fun h=>Ht (fun _=>by
  refine⟨by rw[partsK_len];decide,fun p hp=> ?_⟩;have:AP D2 M [] ch2= []:=List.eq_nil_of_length_eq_zero partsK_len;rw[this]at hp;cases hp) h
 rw[s1]at g;show Z5 _ (BG D2 M [] ch2);rw[s1];refine⟨rfl,g,?_,?_⟩
 ·show AF D3= [];rw[Mx s2.down,s3];rfl
 ·show getL D3 _=_;exact F0 s2.down hs (by rw[s3];rfl)
theorem W7:Plain Ae5 21:=fun _ _=>by kernel_rfl
theorem W8:Plain Ae5 13:=fun _ _=>by kernel_rfl
theorem W9:Plain Ae5 14:=fun _ _=>by kernel_rfl
theorem Xa:∀(cs:Array Ae2),cs.size=32->∀w:Ae3,(AfM 42 1 #[(0, .agg cs)]).run Ae5 w = .ok (.slice (some ⟨w.heap.size,0,none⟩) 1 1) (w.alloc (.cells cs 33))
 | ⟨[c0,c1,c2,c3,c4,c5,c6,c7,c8,c9,c10,c11,c12,c13,c14,c15,c16,c17,c18,c19,c20,c21,c22,c23,c24,c25,c26,c27,c28,c29,c30,c31]⟩,_,w=>VB c0 c1 c2 c3 c4 c5 c6 c7 c8 c9 c10 c11 c12 c13 c14 c15 c16 c17 c18 c19 c20 c21 c22 c23 c24 c25 c26 c27 c28 c29 c30 c31 w
theorem PE:Plain Ae5 16:=fun _ _=>by kernel_rfl
theorem Xb:Plain Ae5 19:=fun _ _=>by kernel_rfl
theorem Xc:Plain Ae5 17:=fun _ _=>by kernel_rfl
set_option maxHeartbeats 1600000
theorem Zj(w:Ae3)(hG:Laid w):
  Calls Ae5 12 #[] w fun e w' =>e = .returned (.bool true)/\Ext w w' :=by
 refine gG (args:= []) Tryz.func12 rfl 87 rfl rfl ?_;have hE:=Ad4 w;refine AgN AaM fun D1 haw2=>(AgN haw2 fun id1 haw3=> ?_);have hid1:=haw3.1;have haw:=haw3.2;refine gS (AaE W7 rfl ((XR w _ hE 100000 (by decide)).mono ?_));rintro e g ⟨g1,H1,rfl,hD,ap⟩;refine⟨_,rfl,?_⟩;have hDc:=hD;refine gS (AaE W8 rfl ((Mu w _ g1 H1 (En 100000) hDc hG (DBd.lt (DBd.new (by decide)) (by decide):De (En 100000)) (by decide) rfl).mono ?_));rintro e w7 ⟨gv,rfl,hVS_,aq⟩;refine⟨_,rfl,?_⟩;have hV:=hVS_;refine gS (Ad5 (vs:= [PQ gv 0,NI 0]) rfl rfl (gS (Ad5 (vs:= [PQ gv 0,NI 0]) rfl rfl ?_)));have hV:VtS w g.heap.size g1 gv w7 H1 (En 100000) []:=hV;have hV0:=hV;refine gS (AcW (e:=5) ([97,98,99]:AlJ) (by decide) (fun _ _=>by kernel_rfl) fun v9 a1 u=> ?_);have j:=Ad4 w7;have hE:=hE.trans (ap.trans aq);have ar:=hE.size;have n:=u.own;have hoff0:∀i,Value.ownBlock v9=some i->¬B7 H1 (En 100000).files.length i:=fun i hi q=>by have h1:=(hV0.dk.st.foot q).2.1;have h2:=(n.lt i hi).1;omega
 refine gS (AcO GR u5 rfl n (by decide) fun a2 ad ae=> ?_);have hE:=hE.trans u.ext;have hE:=As hE ae n ar;have j:=j.trans u.ext;have j:=As j ae n (Ae8 _);clear n;have hVc:=(hV.keep j);refine gS (AaA W9 rfl rfl ((U1 w _ g.heap.size g1 gv H1 (En 100000) ([]) hVc hG v9 ([97,98,99]:AlJ) ad (.inr hoff0) (by decide) 0 (DBd.new (by decide)) (by omega) (D1,id1,[],0) haw.1).mono ?_));rintro e af ⟨H19,v,rfl,a3,hV22,hC23⟩;refine⟨_,rfl,?_⟩;have hE:Ext w af:=hV22.dk.ext;clear j;clear ad;have hV:=hV22;refine gS (Ad5 (vs:= [AB id1,v,NI 0]) rfl rfl (gS (Ad5 (vs:= [AB id1,v,NI 0]) rfl rfl (gS (Ad5 (vs:= [AB id1,v,NI 0]) rfl rfl (gS (Ad9 VA fun r au a4 ag av a5=> ?_)))))));have f:=Ad4 af;have a6:=hE.size;have c:=ag;clear ag;have a7:r<au.heap.size:=by omega
 refine gS (AaB (vr (PQ r 0) rfl) (vr (AB id1) rfl) c (by exact Bp hid1 Afp) (by exact Ac hid1) (Ag _) fun a8 ah aw a9=> ?_);clear c;have c:=ah;clear ah;have ba:=bl c;refine gS (AaC rfl c XM rfl (by exact Ac hid1) (gS (Abg (a:=id1) (enc:=Ae4) (vr (AB id1) rfl) ((by rw[Afl,hid1])) Xa fun ax bb ai aj=> ?_)));have f:=f.trans av;have f:=Ab f aw (Ae7 (Ae8 _) (by omega));have f:=f.trans aj;have hVc:=(hV.keep f);refine gS (Aa9 PE rfl rfl rfl ((Mv w _ g.heap.size g1 gv H19 (D1) ([]) hVc hG (ax) [id1] ai (fun x hx=>by rw[Afh.1 hx];exact hid1) (by show 1<=60;decide) (fun x hx q=>by rw[Afh.1 hx,PD,haw.2.2.1];decide) (.slice none 0 0) [] (AeH _ _ _) (by decide) 3 haw.2.1 (by decide) (Aw2 id1) (fun o hS hM=>haw.2.2.2 o [] hS hM)).mono ?_));rintro e ak ⟨H46,al,r2,rfl,k,-,hV47,hC48⟩;refine⟨_,rfl,?_⟩;have hE:=hE.trans f;have hE:Ext w ak:=hV47.dk.ext;have c:=eb aj c;have c:ak.heap[r]? =some (.cells (Ae4 id1).toArray 33 (0,0)):=AeU hVc hC48 c (by decide) (by decide) (by decide) (by decide) (by decide);clear ai;have hV:=hV47;refine gS (Ad5 (vs:= [al,NI r2.2.2.2]) rfl rfl (gS (Ad5 (vs:= [al,NI r2.2.2.2]) rfl rfl (gS (AaC rfl c XM rfl (by exact Ac hid1) ?_)))));have hVg:=hV;have hVc:=hV;refine gS (AaA WJ rfl rfl ((U2 w _ g.heap.size g1 gv H46 (r2.1) (r2.2.1) hVc hG (k.2.1.lt (by decide)) id1 hid1 (([97,98,99]:AlJ),0) k.2.2.2.1).mono ?_));rintro e bc ⟨am,rfl,s,an,ay⟩;refine⟨_,rfl,?_⟩;have hgotN:=ay;have hV:=hV.keep an;refine gS (Ad5 (vs:= [am,NI 0]) rfl rfl (gS (Ad5 (vs:= [am,NI 0]) rfl rfl (gS (AaE Xb rfl ((W2 w _ g.heap.size g1 gv H46 (r2.1) (r2.2.1) hV).mono ?_))))));rintro e bd ⟨rfl,t⟩;refine⟨_,rfl,?_⟩;have hgotN:=hgotN.keep t;have hgotN:=hgotN;have hV:=hV.keep t;have hVc:=hV;refine gS (Aa9 PE rfl rfl rfl ((Mv w _ g.heap.size g1 gv H46 (r2.1) (r2.2.1) hVc hG (.slice none 0 0) [] (AeH _ _ _) (fun x hx=>by cases hx) (by decide) (fun x hx=>by cases hx) (.slice none 0 0) [] (AeH _ _ _) (by decide) 615 k.2.1 (by decide) (Z5 id1) (fun o hS hM=>k.2.2.2.2 o [] hM)).mono ?_));rintro e y ⟨H61,ao,r3,rfl,p,-,hV62,hC63⟩;refine⟨_,rfl,?_⟩;have s:=s.keep t;have hgot:=hVg.rbNew hC63 s hgotN;have hZ1:=an.trans t;have hE:=hE.trans hZ1;have hE:Ext w y:=hV62.dk.ext;have c:=eb hZ1 c;have c:y.heap[r]? =some (.cells (Ae4 id1).toArray 33 (0,0)):=AeU hVc hC63 c (by decide) (by decide) (by decide) (by decide) (by decide);clear hV;clear s;clear hgotN;have hV:=hV62;refine gS (Ad5 (vs:= [ao,NI r3.2.2.2]) rfl rfl (gS (Ad5 (vs:= [ao,NI r3.2.2.2]) rfl rfl (gS (Aay (a:=(0:Nat)) (b:=(0:Nat)) rfl rfl (AH _ _ _ _) (kT (rfl) (gS (Aay (a:=(0:Nat)) (b:=(0:Nat)) rfl rfl (AH _ _ _ _) (kT (rfl) (gS (AaS rfl rfl (gS (Aay (a:=(r2.2.2.2:Nat)) (b:=(0:Nat)) rfl rfl (AH _ _ _ _) (kT (k.1) (gS (AaS rfl rfl (gS (Aay (a:=(0:Nat)) (b:=(0:Nat)) rfl rfl (AH _ _ _ _) (kT (rfl) (gS (AaS rfl rfl (gS (Aay (a:=(r3.2.2.2:Nat)) (b:=(0:Nat)) rfl rfl (AH _ _ _ _) (kT (p.1) (gS (AaS rfl rfl (gS (Abb GR u5 QD (AaF hgot rfl) (gS (Abw (l:=([97,98,99]:AlJ)) (m:=([97,98,99]:AlJ)) (.inl rfl) rfl rfl (decide (([97,98,99]:AlJ)=(([97,98,99]:AlJ):AlJ))) rfl (kT (rfl) (gS (AaS rfl rfl (gS (Aay (a:=(r2.2.1.length:Nat)) (b:=(1:Nat)) rfl rfl (AH _ _ _ _) (kT (k.2.2.1) (gS (AaS rfl rfl ?_))))))))))))))))))))))))))))))))))))));have hVl:=hV;have z:=Ad4 y;have be:=hE.size;refine gS (AaE Wz rfl ((hVl.dk.list (p.2.1.lt (by decide))).mono ?_));rintro e bf ⟨bg,rfl,az,aa⟩;refine⟨_,rfl,?_⟩;have c:=eb aa c;have z:=z.trans aa;refine gS (AaW OY (AaD (AaR az) rfl) (gS (Aay (a:=(((AF r3.1)).length:Nat)) (b:=(0:Nat)) rfl rfl (AH _ _ _ _) (kT ((by rw[p.2.2.1];rfl)) (gS (AaS rfl rfl (gS (AaC rfl c XM rfl (by exact Ac hid1) (gS (AaA Xc rfl rfl (((show Calls _ _ _ _ (fun e w2=>e = .returned (.bool false)/\Ext _ w2)from by have h:=Z2 w _ g.heap.size g1 gv H61 (r3.1) (r3.2.1) (hV.keep z) hG (p.2.1.lt (by decide)) id1 hid1;rw[p.2.2.2]at h;exact h)).mono ?_)))))))))));rintro e bh ⟨rfl,a0⟩;refine⟨_,rfl,?_⟩;refine gS (Abl rfl (gS (AaS rfl rfl (A8 rfl (vr (.bool (true)) rfl) ?_))));have hE:=hE.trans (aa.trans a0);exact⟨rfl,hE⟩
open Go.ChangeShapes Go.WideShapes Go.ChangeAt Go.RowKit
theorem QY:Tryz.prog.globalNamed "variorum/sha.first" = some 0:=by kernel_rfl
theorem Xd:(Tryz.prog.globals[0]?).map (·.type)=some 182:=by kernel_rfl
theorem Xe:Tryz.prog.cellsOf 182=8:=by kernel_rfl
def zs_first:List Int:= [1779033703,3144134277,1013904242,2773480762,1359893119,2600822924,528734635,1541459225]
theorem Qi:(zs_first.map fun z=>Value.int .u32 z).toArray=cellsU Sha.first:=by kernel_rfl
theorem QZ:Tryz.prog.globalNamed "variorum/sha.words" = some 1:=by kernel_rfl
theorem Xf:(Tryz.prog.globals[1]?).map (·.type)=some 183:=by kernel_rfl
theorem Xg:Tryz.prog.cellsOf 183=64:=by kernel_rfl
def zs_words:List Int:= [1116352408,1899447441,3049323471,3921009573,961987163,1508970993,2453635748,2870763221,3624381080,310598401,607225278,1426881987,1925078388,2162078206,2614888103,3248222580,3835390401,4022224774,264347078,604807628,770255983,1249150122,1555081692,1996064986,2554220882,2821834349,2952996808,3210313671,3336571891,3584528711,113926993,338241895,666307205,773529912,1294757372,1396182291,1695183700,1986661051,2177026350,2456956037,2730485921,2820302411,3259730800,3345764771,3516065817,3600352804,4094571909,275423344,430227734,506948616,659060556,883997877,958139571,1322822218,1537002063,1747873779,1955562222,2024104815,2227730452,2361852424,2428436474,2756734187,3204031479,3329325298]
theorem Qj:(zs_words.map fun z=>Value.int .u32 z).toArray=cellsU Sha.words:=by kernel_rfl
theorem Z6:Tryz.prog.cellsOf 181=1:=by kernel_rfl
theorem Nv{P:Program}{W:Ae3}{name:String}{g:Nat}{cs:Array Ae2}(hg:P.globalNamed name=some g)(h:W.var? P name=some cs):∃t fr,W.heap[g]? =some (.cells cs t fr):=by
 unfold World.var? at h;rw[hg]at h;simp only[Option.bind_some]at h;split at h
 ·rename_i cs' t fr he
  cases h;exact⟨t,fr,he⟩
 ·cases h
theorem Zk{W:Ae3}(h:laidMetH Ae5 [("variorum/sha.first",Rows.laid_variorum_sha_first),("variorum/sha.words",Rows.laid_variorum_sha_words)] W):Laid W:=by
 have h1:Lib.TabIs Ae5 W "variorum/sha.first" .u32 zs_first:=Lib.tabIs_of_head QY Xd Tryz.underlying182 AjS Z6 Xe h;have h2:Lib.TabIs Ae5 W "variorum/sha.words" .u32 zs_words:=Lib.tabIs_of_head (rest:= []) QZ Xf Tryz.underlying183 AjS Z6 Xg (laidMet.tail h);unfold Lib.TabIs at h1 h2;rw[Qi]at h1;rw[Qj]at h2;exact⟨Nv QY h1,Nv QZ h2⟩
noncomputable def JH(os:Os):Ae3:=
 let h0:=(World.holding Ae5 os ⟨#[],#[],[]⟩).heap
 let h1:=h0.modify 0 fun
  | .cells _ t frozen=> .cells (cellsU Sha.first) t frozen
  | o=>o
 let h2:=h1.modify 1 fun
  | .cells _ t frozen=> .cells (cellsU Sha.words) t frozen
  | o=>o
 { World.holding Ae5 os ⟨#[],#[],[]⟩with heap:=h2 }
theorem Xh(os:Os)(args:Array Ae2):laidMet Ae5 [("variorum/sha.first",Rows.laid_variorum_sha_first),("variorum/sha.words",Rows.laid_variorum_sha_words)] ((JH os).forCall (fun _ _=>0) ⟨#[],args,[]⟩).memory:=
 laidMet_of_run' 8 (by kernel_rfl) (by kernel_rfl)
open Go.ChangeShapes Go.WideShapes Go.ChangeAt Go.RowKit Go.Deep
section
variable {H : Type} (enc : Afa × Ae2 -> H) (P : Program) (W : Ae3)
def Opn{α:Type}(t:Afa)(f:α->List Ae2)(OK:α->Prop):Prop:=
 ∀fuel cs (x:DataW H × List MemPlace),DataW.trod enc P W 0 (fun _=>true) true fuel t cs=some x->∃a,cs=f a/\OK a
end
section
variable {H : Type} {enc : Afa × Ae2 -> H} {P : Program} {W : Ae3}
theorem Opn.i64{t:Afa}(ht:P.underlying t=some (.int .i64)):Opn enc P W t (fun z:Int=> [.int .i64 z]) (fun z=> -9223372036854775808<=z/\z<=9223372036854775807):=fun fuel cs x h=>by
 obtain⟨n,rfl,-,hw⟩:=DataW.trod_int ht h;exact⟨n,rfl,by simpa [Lit.wf,IntKind.min,IntKind.max,IntKind.signed,IntKind.bits] using hw⟩
theorem Opn.bool{t:Afa}(ht:P.underlying t=some .bool):Opn enc P W t (fun b:Bool=> [.bool b]) (fun _=>True):=fun fuel cs x h=>by
 obtain⟨b,rfl,-⟩:=DataW.trod_bool ht h;exact⟨b,rfl,trivial⟩
theorem Opn.bytes{t e:Afa}(ht:P.underlying t=some (.slice e))(he:P.underlying e=some (.int .u8))(hc:P.cellsOf e=1):Opn enc P W t (fun v:Ae2 × Bs=> [v.1]) (fun v=>RB W v.1 v.2):=fun fuel cs x h=>by
 obtain⟨c,l,rfl,h1,-⟩:=PI ht he hc h;exact⟨(c,l),rfl,h1⟩
theorem Nw{α:Type}{k:Nat}{f:α->List Ae2}(d:α):∀(l:List α),(∀x∈l,(f x).length=k)->∀i r,r<k->i<l.length->(l.flatMap f)[i*k+r]? =(f (l.getD i d))[r]?
 | [],_,i,r,_,hi=>by cases hi
 | a :: l,h,0,r,hr,_=>by
  rw[Af3,Nat.zero_mul,Nat.zero_add,AfW (by rw[h a (by simp)];exact hr)];rfl
 | a :: l,h,i+1,r,hr,hi=>by
  have ha:=h a (by simp);rw[Af3,AfR (by rw[ha,Ahj];omega),ha,show(i+1)*k+r-k=i*k+r by rw[Ahj];omega];exact Nw d l (fun x hx=>h x (by simp[hx])) i r hr (by simpa using hi)
theorem JI{α:Type}{k:Nat}{f:α->List Ae2}:∀(l:List α),(∀x∈l,(f x).length=k)->(l.flatMap f).length=l.length*k
 | [],_=>by simp
 | a :: l,h=>by rw[Af3,Ae9,h a (by simp),JI l (fun x hx=>h x (by simp[hx])),AfA,Ahj];omega
theorem Opn.slice{α:Type}[Inhabited α]{k:Nat}{f:α->List Ae2}{OK:α->Prop}{t e:Afa}(ht:P.underlying t=some (.slice e))(hc:P.cellsOf e=k)(hk:0<k)(hE:Opn enc P W e f OK)(hl:∀a,OK a->(f a).length=k):
  Opn enc P W t (fun v:Ae2 × List α=> [v.1]) (fun v=>RG k f W v.1 v.2/\∀a∈v.2,OK a):=fun fuel cs x h=>by
 rcases open_slice ht h with ⟨rfl,-⟩ | ⟨a,len,cap,m,n,D,Pl,rfl,-,h1,h2,h3,-,h4⟩
 ·exact⟨(_,[]),rfl,AeH _ _ _,fun a ha=>by cases ha⟩
 ·have hm:m=cap:=by simpa using h3
  obtain⟨L,hL⟩:=choose_lt (α:=α) (p:=fun i q=>W.cells? 0 (a.add (i*k)) k=some (f q)/\OK q) (fun i (hi:i<len)=>by
   obtain⟨cs',c1,c2⟩:=h4 i (by omega);obtain⟨q,rfl,hq⟩:=hE _ _ _ c2;rw[hc]at c1;exact⟨q,c1,hq⟩)
  have hall:∀x∈(Af9 len).map L,(f x).length=k/\OK x:=fun x hx=>by
   obtain⟨i,hi,rfl⟩:=AfO.1 hx;have:=hL i (by simpa using hi);exact⟨hl _ this.2,this.2⟩
  have hlen:((Af9 len).map L).length=len:=by simp
  refine⟨(.slice (some a) len cap,(Af9 len).map L),rfl,⟨fun x hx=>(hall x hx).1,by rw[JI _ (fun x hx=>(hall x hx).1)],some a,cap,by rw[hlen],by rw[hlen];exact h1,h2,(fun h=>by cases h),fun a' ha j u hu=> ?_⟩,fun x hx=>(hall x hx).2⟩;cases ha;have hj:j<len*k:=by
   have:=(List.getElem?_eq_some_iff.1 hu).1
   rwa [JI _ (fun x hx=>(hall x hx).1),hlen]at this
  have hi:j/k<len:=Nat.div_lt_of_lt_mul (by rw[AiY];exact hj);have hr:j%k<k:=Nat.mod_lt _ hk;have hjk:j/k*k+j%k=j:=by rw[AiY];exact Nat.div_add_mod j k
  rw[<-hjk,Nw default _ (fun x hx=>(hall x hx).1) _ _ hr (by rw[hlen];exact hi)]at hu;have hg:((Af9 len).map L).getD (j/k) default=L (j/k):=by
   rw[Ae6,Agw,List.getElem?_range hi];rfl
  rw[hg]at hu;obtain⟨-,-,hcell⟩:=World.cells?_some (hL _ hi).1;have:=hcell (j%k) hr;rw[Fm,hjk,hu]at this;exact this
abbrev AeZ:=@Opn.slice
theorem seg{cs m:List Ae2}{o k:Nat}(h:(cs.drop o).take k=m):cs.drop o=m++cs.drop (o+k):=by
 rw[<-h,<-List.drop_drop,AgL]
theorem FN{t ty:Afa}{i o k fuel:Nat}{cs:List Ae2}{x:DataW H × List MemPlace}{α:Type}{f:α->List Ae2}{OK:α->Prop}(ht:P.underlying t=some (.struct (P.fieldsOf t)))(h:DataW.trod enc P W 0 (fun _=>true) true fuel t cs=some x) 
  (hf:((P.fieldsOf t)[i]?).map (fun f=>(f.type,f.offset))=some (ty,o)) (hk:P.cellsOf ty=k) (hE:Opn enc P W ty f OK):∃a,cs.drop o=f a++cs.drop (o+k)/\OK a:=by
 obtain⟨xs,n,-,-,-,hl,hx⟩:=DataW.trod_struct ht h;obtain⟨g,hg,he⟩:=Option.map_eq_some_iff.1 hf;have h1:=hx i g hg;cases he;have hi:i<xs.length:=by rw[hl];exact(Array.getElem?_eq_some_iff.1 hg).1
 rw[Afb hi,hk]at h1;obtain⟨a,h2,h3⟩:=hE _ _ _ h1;exact⟨a,seg h2,h3⟩
theorem SG{t:Afa}{fuel:Nat}{cs:List Ae2}{x:DataW H × List MemPlace}(ht:P.underlying t=some (.struct (P.fieldsOf t)))(h:DataW.trod enc P W 0 (fun _=>true) true fuel t cs=some x):cs.length=P.cellsOf t:=by
 obtain⟨xs,n,-,-,hl,-,-⟩:=DataW.trod_struct ht h;exact hl
end
structure XX where
 all:List Bs
 take:List Bool
 choices:List Int
 at_:Int
 fates:List Int
structure AaN where
 all:Ae2
 take:Ae2
 choices:Ae2
 fates:Ae2
abbrev FO:=XX × AaN
def vkpC(x:FO):List Ae2:=x.2.all :: x.2.take :: x.2.choices :: .int .i64 (x.1.at_) :: x.2.fates :: []
theorem Zl(x:FO):(vkpC x).length=5:=by simp[vkpC,Afl]
theorem Q0{x:FO}(h0:x.2.all.oneCell' =true)(h1:x.2.take.oneCell' =true)(h2:x.2.choices.oneCell' =true)(h3:x.2.fates.oneCell' =true):∀u∈vkpC x,u.oneCell' =true:=by
 intro u hu;simp only[vkpC,AfT,Afy,AgX,or_false]at hu;rcases hu with rfl | rfl | rfl | rfl | rfl
 ·exact h0
 ·exact h1
 ·exact h2
 ·rfl
 ·exact h3
theorem Gk(x:FO):(vkpC x)[0]? =some (x.2.all):=by
 rfl
theorem U4(x:FO):(vkpC x)[1]? =some (x.2.take):=by
 rfl
theorem U5(x:FO):(vkpC x)[2]? =some (x.2.choices):=by
 rfl
theorem Z7(x:FO):(vkpC x)[3]? =some (.int .i64 (x.1.at_)):=by
 rfl
theorem U6(x:FO):(vkpC x)[4]? =some (x.2.fates):=by
 rfl
def Q1(b:Bool):List Ae2:= [.bool b]
structure VkpAt (w : Ae3) (x : FO) : Prop where
 all:RBs w x.2.all x.1.all
 take:RG 1 Q1 w x.2.take x.1.take
 choices:RG 1 BY w x.2.choices x.1.choices
 fates:RG 1 BY w x.2.fates x.1.fates
 at_: -9223372036854775808<=x.1.at_/\x.1.at_<=9223372036854775807
theorem VkpAt.keep{w w' :Ae3}{x:FO}(h:VkpAt w x)(k:Ext w w'):VkpAt w' x:=⟨h.all.keep k,h.take.keep k,h.choices.keep k,h.fates.keep k,h.at_⟩
theorem Q2{w:Ae3}{v:Ae2}{l:List Bs}(h:RBs w v l):v.oneCell' =true:=by
 obtain⟨vs,h1,h2,h3⟩:=h;obtain⟨q1,ao,cap,rfl,-⟩:=h2;rfl
theorem RBs.rgK{w:Ae3}{v:Ae2}{ls:List AlJ}(h:RBs w v ls):∃vs:List Ae2,vs.length=ls.length/\RG 1 Cb w v vs/\∀i,i<ls.length->RB w (vs.getD i undef) (ls.getD i []):=by
 obtain⟨vs,h1,⟨h2,ao,cap,h3,h4,h5,h6,h7⟩,h8⟩:=h;refine⟨vs,h1,⟨fun _ _=>rfl,by rw[enV_flat];omega,ao,cap,by rw[h1];exact h3,by rw[h1];exact h4,h5,fun q=>by rw[h1];exact h6 q,fun a ha j u hu=>h7 a ha j u (by rwa [enV_flat]at hu)⟩,h8⟩
def Eg(x:XX):Bool:= !(((decide (20<x.all.length)||decide (60<x.take.length))||decide (60<x.choices.length))||decide (60<x.fates.length))&&x.all.all fun b=> !decide (200<b.length)
theorem Xi{n:Nat}{b c d:Bool}(h:(((decide (20<n)||b)||c)||d)=false):n<=20:=by
 simp only[Ak2,decide_eq_false_iff_not]at h;omega
theorem L2{x:XX}(h:Eg x=true):x.all.length<=20/\x.take.length<=60/\x.choices.length<=60/\x.fates.length<=60/\∀b∈x.all,b.length<=200:=by
 unfold Eg at h;obtain⟨h1,h2⟩:=AjB.1 h;simp only[Bool.not_eq_true',Ak2,decide_eq_false_iff_not]at h1;refine⟨by omega,by omega,by omega,by omega,fun b hb=> ?_⟩;have:=List.all_eq_true.1 h2 b hb
 simpa using this
theorem U7{α:Type}{f:α->Bool}{l:List α}{i:Nat}(d:α)(h:i<l.length)(hq:(l.take i).all f=true)(hn:f (l.getD i d)=true):(l.take (i+1)).all f=true:=by
 rw[Afv h,List.all_append,hq,List.all_cons,List.all_nil];rw[Ae6,Afb h]at hn
 simpa using hn
theorem Xj{x:XX}{i:Nat}(h:i<x.all.length)(hn:200<(x.all.getD (i) ([]:AlJ)).length):Eg x=false:=by
 cases hb:Eg x
 ·rfl
 ·have:=(L2 hb).2.2.2.2 _ (getD_mem ([]:Bs) h);omega
def JJ(tk:List Bool)(i:Nat):Bool:=decide (tk.length<=i)||tk.getD (i) false
def takenGo(ids:List Bs)(tk:List Bool):Nat->List Bs
 | 0=> []
 | i+1=>takenGo ids tk i++(if JJ tk i=true then [ids.getD i []]else [])
theorem U8{ids:List Bs}{tk:List Bool}{i:Nat}(h:(decide (tk.length<=i)||tk.getD (i) false)=true):takenGo ids tk i++ [ids.getD (i) ([]:AlJ)]=takenGo ids tk (i+1):=by
 show _=takenGo ids tk i++_;rw[if_pos (show JJ tk i=true from h)]
theorem Xk{ids:List Bs}{tk:List Bool}{i:Nat}(h:(decide (tk.length<=i)||tk.getD (i) false)=false):takenGo ids tk i=takenGo ids tk (i+1):=by
 show _=takenGo ids tk i++_;rw[if_neg (show ¬JJ tk i=true by rw[show JJ tk i=false from h];decide),AgG]
theorem Fk(ids:List Bs)(tk:List Bool):∀i,(takenGo ids tk i).length<=i
 | 0=>Ae8 _
 | i+1=>by
  have:=Fk ids tk i;show(takenGo ids tk i++(if JJ tk i=true then [ids.getD i []]else [])).length<=_;rw[Ae9];split <;> simp <;> omega
theorem Nx{ids:List Bs}{tk:List Bool}{x:Bs}:∀ {i:Nat},i<=ids.length->x∈takenGo ids tk i->x∈ids
 | 0,_,h=>by cases h
 | i+1,hi,h=>by
  rcases Afy.1 (show x∈takenGo ids tk i++_ from h)with h | h
  ·exact Nx (by omega) h
  ·split at h
   ·rw[Afh.1 h];exact getD_mem [] (by omega)
   ·cases h
def clK(l:List Bs)(a b:Nat):Prop:=Sha.sum (l.getD (a) [])=Sha.sum (l.getD (b) [])/\l.getD (a) []≠l.getD (b) []
theorem XY{l:List Bs}{i k:Nat}(hm:∀b,b<k->¬clK l i b)(hnc:¬clK l i k):∀b,b<k+1->¬clK l i b:=fun b hb=>if h:b<k then hm b h else by
 have:b=k:=by omega
 subst this;exact hnc
theorem Aaw{l:List Bs}{i:Nat}(hn:∀a b,a<i->b<a->¬clK l a b)(hm:∀b,b<i->¬clK l i b):∀a b,a<i+1->b<a->¬clK l a b:=fun a b ha hb=>if h:a<i then hn a b h hb else by
 have:a=i:=by omega
 subst this;exact hm b hb
def U9(l:List Bs):Prop:=∃a b,a<l.length/\b<a/\clK l a b
theorem II:AZ Ae5 48 0 0:=fun b o w=>by simp[go_sem]
theorem SH:AZ Ae5 48 1 1:=fun b o w=>by simp[go_sem]
theorem IJ:Tryz.prog.underlying 46=some (.slice 4):=by kernel_rfl
theorem SI:AZ Ae5 48 2 2:=fun b o w=>by simp[go_sem]
theorem SJ:AZ Ae5 48 4 4:=fun b o w=>by simp[go_sem]
theorem Xl:∀w' :Ae3,(sizeOf 4).run Ae5 w' = .ok 1 w' :=fun _=>by kernel_rfl
theorem Xm:∀(cs:Array Ae2),cs.size=32->∀w:Ae3,(AfM 42 1 #[(0, .agg cs)]).run Ae5 w = .ok (.slice (some ⟨w.heap.size,0,none⟩) 1 1) (w.alloc (.cells cs 33))
 | ⟨[c0,c1,c2,c3,c4,c5,c6,c7,c8,c9,c10,c11,c12,c13,c14,c15,c16,c17,c18,c19,c20,c21,c22,c23,c24,c25,c26,c27,c28,c29,c30,c31]⟩,_,w=>VB c0 c1 c2 c3 c4 c5 c6 c7 c8 c9 c10 c11 c12 c13 c14 c15 c16 c17 c18 c19 c20 c21 c22 c23 c24 c25 c26 c27 c28 c29 c30 c31 w
theorem Va(w:Ae3)(x:FO)(hx:VkpAt w x):
  Calls Ae5 20 #[.agg (vkpC x).toArray] w fun e w' =>e = .returned (.bool (Eg x.1))/\Ext w w' :=by
 have hone:=Q0 (x:=x) (Q2 hx.all) (AeK hx.take).2 (AeK hx.choices).2 (AeK hx.fates).2;obtain⟨vs,hvl,hal,hrb⟩:=hx.all.rgK;have htk:=hx.take;have hch:=hx.choices;have hft:=hx.fates;refine Qq (args:= [.agg (vkpC x).toArray]) Tryz.func20 rfl 40 rfl rfl ?_;have hE:=Ad4 w;refine gS (Ael (vr (.agg (vkpC x).toArray) rfl) fun f p t n q u=> ?_);have c:=n;clear n;have v:f<p.heap.size:=by omega
 have hE:=hE.trans q;refine gS (Ad6 II rfl (gS (Aax MS rfl rfl (cellAt c (Gk x)) (gS (AaW MS (AaD (hal.keep hE) rfl) (gS (Aay (a:=(vs.length:Nat)) (b:=(20:Nat)) rfl rfl (Bj _ _ _ _) (gO fun _=>BH (PQ f 1) rfl rfl (gF rfl) (fun hG12=>Ad6 SH rfl ⟨rfl,rfl⟩) (EU (gO fun _=>BH (x.2.take) rfl rfl (gF rfl) (fun hG13=>Aax IJ rfl (DU rfl hG13) (cellAt c (U4 x)) ⟨rfl,rfl⟩) (EU (gO fun _=>BH (NI ((x.1.take).length)) rfl rfl (gF rfl) (fun hG14=>AaW IJ (AaD (htk.keep hE) (DU rfl hG14)) ⟨rfl,rfl⟩) (EU (gO fun _=>BH (.bool (decide ((60)<((x.1.take).length)))) rfl rfl (gF rfl) (fun hG15=>Aay (a:=(((x.1.take).length:Nat):Int)) (b:=((60:Nat):Int)) (DU rfl hG15) rfl (Bj _ .i64 ((x.1.take).length) (60)) ⟨rfl,rfl⟩) (EU (gS (AbO rfl rfl (fun hA=>(DU rfl (La hA))) fun bb16 hbb17=>(gO fun _=>BH (PQ f 2) rfl rfl (gF rfl) (fun hG18=>Ad6 SI rfl ⟨rfl,rfl⟩) (EU (gO fun _=>BH (x.2.choices) rfl rfl (gF rfl) (fun hG19=>Aax ML rfl (DU rfl hG19) (cellAt c (U5 x)) ⟨rfl,rfl⟩) (EU (gO fun _=>BH (NI ((x.1.choices).length)) rfl rfl (gF rfl) (fun hG20=>AaW ML (AaD (hch.keep hE) (DU rfl hG20)) ⟨rfl,rfl⟩) (EU (gO fun _=>BH (.bool (decide ((60)<((x.1.choices).length)))) rfl rfl (gF rfl) (fun hG21=>Aay (a:=(((x.1.choices).length:Nat):Int)) (b:=((60:Nat):Int)) (DU rfl hG21) rfl (Bj _ .i64 ((x.1.choices).length) (60)) ⟨rfl,rfl⟩) (EU (gS (AbO rfl rfl (fun hA=>(DU rfl (La hA))) fun bb22 hbb23=>(gO fun _=>BH (PQ f 4) rfl rfl (gF rfl) (fun hG24=>Ad6 SJ rfl ⟨rfl,rfl⟩) (EU (gO fun _=>BH (x.2.fates) rfl rfl (gF rfl) (fun hG25=>Aax ML rfl (DU rfl hG25) (cellAt c (U6 x)) ⟨rfl,rfl⟩) (EU ?_)))))))))))))))))))))))))))))));refine gO fun _=>BH (NI ((x.1.fates).length)) rfl rfl (gF rfl) (fun hG26=>AaW ML (AaD (hft.keep hE) (DU rfl hG26)) ⟨rfl,rfl⟩) (EU (gO fun _=>BH (.bool (decide ((60)<((x.1.fates).length)))) rfl rfl (gF rfl) (fun hG27=>Aay (a:=(((x.1.fates).length:Nat):Int)) (b:=((60:Nat):Int)) (DU rfl hG27) rfl (Bj _ .i64 ((x.1.fates).length) (60)) ⟨rfl,rfl⟩) (EU (gS (AbO rfl rfl (fun hA=>(DU rfl (La hA))) fun bb28 hbb29=> ?_)))));refine cB (bb28) rfl (fun g=> ?_) fun g=> ?_
 ·subst hbb17 hbb23 hbb29;rw[hvl]at g;have hV:Eg x.1=false:=by unfold Eg;rw[g];rfl
  refine A8 rfl (vr (.bool (false)) rfl) ?_;exact⟨by rw[hV],hE⟩
 subst hbb17 hbb23 hbb29;rw[hvl]at g;have h20:=Xi g;refine gL (fun(ρ:Ae) (wz:Ae3)=>∃i:Nat,ρ 0=(.agg (vkpC x).toArray:Ae2)/\ρ 1=(PQ f 0:Ae2)/\ρ 3=(NI i:Ae2)/\Ext w wz/\wz.heap[f]? =some (.cells (vkpC x).toArray 48 (0,0))/\(i<=x.1.all.length)/\((x.1.all.take i).all (fun b=> !decide (200<b.length))=true)/\True) (fun ρ _=>x.1.all.length-(intOf (ρ 3)).toNat) ⟨0,rfl,rfl,rfl,hE,c,AfC _,rfl,trivial⟩ ?_;clear hE c;rintro r y ⟨i,s,l,k,hE,c,hi,hq,-⟩;have q3:=k;refine gS (Ad6 II l (gS (Aax MS rfl rfl (cellAt c (Gk x)) (gS (AaW MS (AaD (hal.keep hE) rfl) (gS (Aay (a:=(i:Nat)) (b:=(vs.length:Nat)) k rfl (AE _ _ _ _) ?_)))))));refine cD rfl (fun j=> ?_) fun j=> ?_
 ·have hlt:i<x.1.all.length:=hvl▸j;have hre:=hrb i hlt;refine gS (Ad6 II l (gS (Aax MS rfl rfl (cellAt c (Gk x)) ?_)));have z:(Cb (vs.getD (i) undef)).length=1:=(Aec (hal.keep hE) undef (j));refine gS (AaZ MS Tx (by decide) undef (AaD (hal.keep hE) rfl) k (j) fun aa o=>(gS (AaY GR rfl (Aef (Aa6 o rfl) rfl) (gS (AaT GR (AaF (hre.keep hE) rfl) (gS (Aay (a:=(((x.1.all.getD (i) ([]:AlJ)):AlJ).length:Nat)) (b:=(200:Nat)) rfl rfl (Bj _ _ _ _) ?_)))))));clear o;refine cD rfl (fun m=> ?_) fun m=> ?_
  ·refine A8 rfl (vr (.bool (false)) rfl) ?_;exact⟨by rw[show Eg x.1=false from Xj hlt m],hE⟩
  refine gS (Aaz (xv:=NI i) (yv:=NI 1) k rfl rfl (Ah _ _ _ (by omega)) (gK (AfF ⟨i+1,s,l,rfl,hE,c,by omega,U7 ([]:AlJ) hlt hq (by show(!decide _)=true;rw[decide_eq_false m];rfl),trivial⟩ ?_)));show x.1.all.length-(intOf (NI ((i)+(1)))).toNat<x.1.all.length-(intOf (r 3)).toNat;rw[q3];simp only[intOf,Afg];omega
 refine A8 rfl (vr (.bool (true)) rfl) ?_;have hie:i=x.1.all.length:=by have h:=j;omega
 rw[hie,Af8]at hq;exact⟨by rw[show Eg x.1=true from by unfold Eg;rw[g,hq];rfl],hE⟩
theorem Vb(w:Ae3)(vi vt:Ae2)(ids:List Bs)(tk:List Bool)(hid_:RG 32 Ae4 w vi ids)(htk:RG 1 Q1 w vt tk)(hl:ids.length<=100000):
  Calls Ae5 24 #[vi,vt] w fun e w' =>∃v,e = .returned v/\OG w.heap.size 33 32 Ae4 w' v (takenGo ids tk ids.length)/\Ext w w' :=by
 refine Qq (args:= [vi,vt]) Tryz.func24 rfl 31 rfl rfl ?_;have hE:=Ad4 w;refine AgN (⟨_,rfl⟩:∃v:Ae2,(Afc none 0 0)=v) fun nv5 hnv5=> ?_;have hrow5:OG w.heap.size 33 32 Ae4 w nv5 ([]:List AlJ):=hnv5▸Aem _ _ _ _ _;refine gL (fun(ρ:Ae) (wz:Ae3)=>∃i:Nat,∃r5:Ae2,ρ 0=(vi:Ae2)/\ρ 1=(vt:Ae2)/\ρ 4=((Afc none 0 0):Ae2)/\ρ 6=(NI i:Ae2)/\ρ 5=(r5:Ae2)/\Ext w wz/\OG w.heap.size 33 32 (Ae4) wz r5 (takenGo ids tk i)/\(i<=ids.length)/\True) (fun ρ _=>ids.length-(intOf (ρ 6)).toNat) ⟨0,nv5,rfl,rfl,rfl,rfl,((show _=(Afc none 0 0)from rfl).trans hnv5),hE,Bd hrow5 (rfl),AfC _,trivial⟩ ?_;clear hrow5;clear hE;rintro p z ⟨i,r5,f,g,q,c,j,hE,hr_r5,hi,-⟩;have q6:=c;refine gS (AaW Oi (AaD (hid_.keep hE) f) (gS (Aay (a:=(i:Nat)) (b:=(ids.length:Nat)) c rfl (AE _ _ _ _) ?_)));refine cD rfl (fun l=> ?_) fun l=> ?_
 ·have hlt:i<ids.length:=l;have hti:=Fk ids tk i;refine gS (AaW IJ (AaD (htk.keep hE) g) (gS (Aay (a:=(i:Nat)) (b:=(tk.length:Nat)) c rfl (E1 _ _ _ _) (gO fun _=>BH (vt) rfl rfl (gF rfl) (fun hG11=>Aeb g ⟨rfl,rfl⟩) (EU (gO fun _=>BH (NI i) rfl rfl (gF rfl) (fun hG12=>Aeb c ⟨rfl,rfl⟩) (EU ?_)))))));have ae:(!(decide ((tk.length)<=(i))))=true->(Q1 (tk.getD (i) false)).length=1:=fun hG13=>(Aec (htk.keep hE) false (by first | omega | (simp only[gB,gE]at hG13;omega)));refine gO fun _=>SU (fun r=>PR (Q1 (tk.getD (i) false)) r z) rfl rfl (gF rfl) (fun hG13=>AaZ IJ Xl (by decide) false (AaD (htk.keep hE) (DU rfl hG13)) (DU rfl hG13) (by first | omega | (simp only[gB,gE]at hG13;omega)) fun _ h=>⟨h,rfl⟩) fun r s=>EU (gO fun _=>BH (.bool (tk.getD (i) false)) rfl rfl (gF rfl) (fun hG17=>AaY KD rfl (Aef (Aa6 (s hG17) rfl) rfl) ⟨rfl,rfl⟩) (EU (gS (AbO rfl rfl (fun hA=>(DU rfl (La hA))) fun bb18 hbb19=> ?_))));clear s;refine cB (bb18) rfl (fun m=> ?_) fun m=> ?_
  ·subst hbb19;have t:(Ae4 (ids.getD (i) ([]:AlJ))).length=32:=(Aec (hid_.keep hE) ([]:AlJ) (hlt));refine gS (AaZ Oi Td (by decide) ([]:AlJ) (AaD (hid_.keep hE) f) c (hlt) fun af k=>(gS (Aa4 (Aa6 k rfl) XM rfl (by rw[t];exact SY) (gS (Abg (a:=ids.getD (i) ([]:AlJ)) (enc:=Ae4) (vr (AB (ids.getD (i) ([]:AlJ))) rfl) ((by rw[Afl,(Ay (t))])) Xm fun aa ab u n=> ?_)))));have k:=Aej k n;have hE:=hE.trans n;have hr_r5:=hr_r5.keep n;refine gS (Aa2 _ _ w.heap.size _ 32 Oi pk6_ig33.choose_spec.1 pk6_ig33.choose_spec.2 Oi (takenGo ids tk i) ([ids.getD (i) ([]:AlJ)]) (Aen hr_r5 j) (AaD u (vr aa rfl)) (fun y _=>Ag y) (by simp only[Afs];omega) (by simp only[Afs];omega) hE.size fun x ac ad o=> ?_);have o:Grew ab ac r5 x:= .eqv j o;have hE:=As hE o hr_r5.2 (Ae8 _);clear k;clear u;clear hr_r5;refine gS (Aaz (xv:=NI i) (yv:=NI 1) c rfl rfl (Ah _ _ _ (by omega)) (gK (AfF ⟨i+1,x,f,g,q,rfl,rfl,hE,Bd ad ((U8 m)),by omega,trivial⟩ ?_)));show ids.length-(intOf (NI ((i)+(1)))).toNat<ids.length-(intOf (p 6)).toNat;rw[q6];simp only[intOf,Afg];omega
  subst hbb19;refine gS (Aaz (xv:=NI i) (yv:=NI 1) c rfl rfl (Ah _ _ _ (by omega)) (gK (AfF ⟨i+1,r5,f,g,q,rfl,j,hE,Bd hr_r5 ((Xk m)),by omega,trivial⟩ ?_)));show ids.length-(intOf (NI ((i)+(1)))).toNat<ids.length-(intOf (p 6)).toNat;rw[q6];simp only[intOf,Afg];omega
 refine A8 rfl j ?_;have hie:i=ids.length:=by have h:=l;omega
 rw[hie]at hr_r5;exact⟨_,rfl,hr_r5,hE⟩
theorem Vc(w:Ae3)(hG:Laid w)(v:Ae2)(vs:List Ae2)(l:List Bs)(hvl:vs.length=l.length)(hl:RG 1 Cb w v vs)(hrb:∀i,i<l.length->RB w (vs.getD i undef) (l.getD i []))(hs:∀b∈l,b.length<=200)(h20:l.length<=20)(hc:U9 l):
  Calls Ae5 22 #[v] w fun e w' =>e = .returned (.bool true)/\Ext w w' :=by
 refine gG (args:= [v]) Tryz.func22 rfl 42 rfl rfl ?_;have hE:=Ad4 w;refine gL (fun(ρ:Ae) (wz:Ae3)=>∃i:Nat,ρ 0=(v:Ae2)/\ρ 3=(NI i:Ae2)/\Ext w wz/\(i<=l.length)/\(∀a b,a<i->b<a->¬clK l a b)/\True) (fun ρ _=>l.length-(intOf (ρ 3)).toNat) ⟨0,rfl,rfl,hE,AfC _,(fun _ _ h=>absurd h (Age _)),trivial⟩ ?_;clear hE;rintro ay w5 ⟨i,c,f,hE,hi,hn,-⟩;have q3:=f;refine gS (AaW MS (AaD (hl.keep hE) c) (gS (Aay (a:=(i:Nat)) (b:=(vs.length:Nat)) f rfl (AE _ _ _ _) ?_)));refine cD rfl (fun p=> ?_) fun p=> ?_
 ·have hli:i<l.length:=hvl▸p;refine gL (fun(ρ:Ae) (wz:Ae3)=>∃k:Nat,ρ 0=(v:Ae2)/\ρ 3=(NI i:Ae2)/\ρ 4=(NI k:Ae2)/\Ext w wz/\(k<=i)/\(∀b,b<k->¬clK l i b)/\True) (fun ρ _=>i-(intOf (ρ 4)).toNat) ⟨0,c,f,rfl,hE,AfC _,(fun _ h=>absurd h (Age _)),trivial⟩ ?_;clear hE;rintro aw a9 ⟨k,c,f,j,hE,hk,hm,-⟩;have q4:=j;refine gS (Aay (a:=(k:Nat)) (b:=(i:Nat)) j f (AE _ _ _ _) ?_);refine cD rfl (fun ax=> ?_) fun ax=> ?_
  ·have hlk:k<i:=ax;have hsi:=hs _ (getD_mem ([]:AlJ) hli);have hsk:=hs _ (getD_mem ([]:AlJ) (show k<l.length by omega));have hrI:=hrb i hli;have hrK:=hrb k (by omega);by_cases q1:Sha.sum (l.getD (i) [])=Sha.sum (l.getD (k) [])
   ·by_cases q2:(l.getD (i) [])=(l.getD (k) [])
    ·refine gR ?_;refine Fa [Is (v),Is (NI i),fun x w' =>PR (Cb (vs.getD (i) undef)) x w',Is (vs.getD (i) undef),fun x w' =>RBs w' x [(l.getD (i) [])],Is (AB (Sha.sum (l.getD (i) []))),Is (v),Is (NI k),fun x w' =>PR (Cb (vs.getD (k) undef)) x w',Is (vs.getD (k) undef),fun x w' =>RBs w' x [(l.getD (k) [])],Is (AB (Sha.sum (l.getD (k) []))),Is (.bool (true)),Is (.bool (true)),Is (v),Is (NI i),fun x w' =>PR (Cb (vs.getD (i) undef)) x w',Is (vs.getD (i) undef),Is (St ((l.getD (i) []))),Is (v),Is (NI k),fun x w' =>PR (Cb (vs.getD (k) undef)) x w',Is (vs.getD (k) undef),Is (St ((l.getD (k) []))),Is (.bool (false)),Is (.bool (false))] (by kernel_rfl) [16,17,18,19,20,21,22,23,24,25,26,27,28,29,30,31,32,33,34,35,36,37,38,39,40,41] (by kernel_rfl) (by kernel_rfl) (IW ⟨(fun _ _ _ h k=>Aej h k),AaG _,(fun _ _ _ h k=>AeN h k),(XG ⟨(fun _ _ _ h k=>Aej h k),AaG _,(fun _ _ _ h k=>AeN h k),(si5 ⟨(fun _ _ _ h k=>Aej h k),(NZ ⟨(fun _ _ _ h k=>Aej h k),(NZ trivial)⟩)⟩)⟩)⟩) ?az ?hQ1007
     case az=>
      refine⟨?_,?_,?_,?_,?_,?_,?_,?_,?_,?_,?_,?_,?_,?_,?_,?_,?_,?_,?_,?_,?_,?_,?_,?_,?_,?_,trivial⟩
      ·refine Af rfl fun σ w1 hC h=> ?_;have g:=(An (h 0 (by decide))).trans c;exact Aeb g ⟨Ad4 _,rfl⟩
      ·refine Af rfl fun σ w1 hC h=> ?_;have n:=(An (h 3 (by decide))).trans f;exact Aeb n ⟨Ad4 _,rfl⟩
      ·refine Af rfl fun σ w1 hC h=> ?_;have r:=An (h 16 (by decide));have s:=An (h 17 (by decide));exact AaZ MS Tx (by decide) undef (AaD (hl.keep (hE.trans hC)) r) s (p) fun v h=>⟨Ad4 _,h⟩
      ·refine Af rfl fun σ w1 hC h=> ?_;have t:(fun x w' =>PR (Cb (vs.getD (i) undef)) x w') (σ 18) w1:=h 18 (by decide);exact AaY GR rfl (Aef t (show _=some (vs.getD (i) undef:Ae2)from rfl)) ⟨Ad4 _,rfl⟩
      ·refine Af rfl fun σ w1 hC h=> ?_;have u:=An (h 19 (by decide));exact Abf GV (AaF (hrI.keep (hE.trans hC)) u) fun v w2 h hx=>⟨hx,h⟩
      ·refine Af rfl fun σ w1 hC h=> ?_;have y:(fun x w' =>RBs w' x [(l.getD (i) [])]) (σ 20) w1:=h 20 (by decide);refine AaE KB rfl ((Dq _ (hG.keep (hE.trans hC)) _ (l.getD (i) []) y (by omega)).mono ?_);rintro e w2 ⟨rfl,hx⟩;exact⟨_,rfl,hx,rfl⟩
      ·refine Af rfl fun σ w1 hC h=> ?_;have g:=(An (h 0 (by decide))).trans c;exact Aeb g ⟨Ad4 _,rfl⟩
      ·refine Af rfl fun σ w1 hC h=> ?_;have o:=(An (h 4 (by decide))).trans j;exact Aeb o ⟨Ad4 _,rfl⟩
      ·refine Af rfl fun σ w1 hC h=> ?_;have z:=An (h 22 (by decide));have aa:=An (h 23 (by decide));exact AaZ MS Tx (by decide) undef (AaD (hl.keep (hE.trans hC)) z) aa (by omega) fun v h=>⟨Ad4 _,h⟩
      ·refine Af rfl fun σ w1 hC h=> ?_;have ab:(fun x w' =>PR (Cb (vs.getD (k) undef)) x w') (σ 24) w1:=h 24 (by decide);exact AaY GR rfl (Aef ab (show _=some (vs.getD (k) undef:Ae2)from rfl)) ⟨Ad4 _,rfl⟩
      ·refine Af rfl fun σ w1 hC h=> ?_;have ac:=An (h 25 (by decide));exact Abf GV (AaF (hrK.keep (hE.trans hC)) ac) fun v w2 h hx=>⟨hx,h⟩
      ·refine Af rfl fun σ w1 hC h=> ?_;have ad:(fun x w' =>RBs w' x [(l.getD (k) [])]) (σ 26) w1:=h 26 (by decide);refine AaE KB rfl ((Dq _ (hG.keep (hE.trans hC)) _ (l.getD (k) []) ad (by omega)).mono ?_);rintro e w2 ⟨rfl,hx⟩;exact⟨_,rfl,hx,rfl⟩
      ·refine Af rfl fun σ w1 hC h=> ?_;have ae:=An (h 21 (by decide));have af:=An (h 27 (by decide));exact AbM (l1:=(Sha.sum (l.getD (i) []))) (l2:=(Sha.sum (l.getD (k) []))) XM u5 Rg TM ae af ((Sha.sum_length _)) ((Sha.sum_length _)) ⟨Ad4 _,(congrArg AfE (decide_eq_true (q1)))⟩
      ·refine Af rfl fun σ w1 hC h=> ?_;have ag:=An (h 28 (by decide));exact Aeb ag ⟨Ad4 _,rfl⟩
      ·refine Ce 13 true 29 rfl rfl (fun _ _ h=>h) fun σ w1 hC h=> ?_;have g:=(An (h 0 (by decide))).trans c;exact Aeb g ⟨Ad4 _,rfl⟩
      ·refine Ce 13 true 29 rfl rfl (fun _ _ h=>h) fun σ w1 hC h=> ?_;have n:=(An (h 3 (by decide))).trans f;exact Aeb n ⟨Ad4 _,rfl⟩
      ·refine Ce 13 true 29 rfl rfl (fun _ _ h=>h) fun σ w1 hC h=> ?_;have aj:=An (h 30 (by decide));have ak:=An (h 31 (by decide));exact AaZ MS Tx (by decide) undef (AaD (hl.keep (hE.trans hC)) aj) ak (p) fun v h=>⟨Ad4 _,h⟩
      ·refine Ce 13 true 29 rfl rfl (fun _ _ h=>h) fun σ w1 hC h=> ?_;have al:(fun x w' =>PR (Cb (vs.getD (i) undef)) x w') (σ 32) w1:=h 32 (by decide);exact AaY GR rfl (Aef al (show _=some (vs.getD (i) undef:Ae2)from rfl)) ⟨Ad4 _,rfl⟩
      ·refine Ce 13 true 29 rfl rfl (fun _ _ h=>h) fun σ w1 hC h=> ?_;have am:=An (h 33 (by decide));exact Abb GR u5 QD (AaF (hrI.keep (hE.trans hC)) am) ⟨Ad4 _,rfl⟩
      ·refine Ce 13 true 29 rfl rfl (fun _ _ h=>h) fun σ w1 hC h=> ?_;have g:=(An (h 0 (by decide))).trans c;exact Aeb g ⟨Ad4 _,rfl⟩
      ·refine Ce 13 true 29 rfl rfl (fun _ _ h=>h) fun σ w1 hC h=> ?_;have o:=(An (h 4 (by decide))).trans j;exact Aeb o ⟨Ad4 _,rfl⟩
      ·refine Ce 13 true 29 rfl rfl (fun _ _ h=>h) fun σ w1 hC h=> ?_;have an:=An (h 35 (by decide));have ao:=An (h 36 (by decide));exact AaZ MS Tx (by decide) undef (AaD (hl.keep (hE.trans hC)) an) ao (by omega) fun v h=>⟨Ad4 _,h⟩
      ·refine Ce 13 true 29 rfl rfl (fun _ _ h=>h) fun σ w1 hC h=> ?_;have ap:(fun x w' =>PR (Cb (vs.getD (k) undef)) x w') (σ 37) w1:=h 37 (by decide);exact AaY GR rfl (Aef ap (show _=some (vs.getD (k) undef:Ae2)from rfl)) ⟨Ad4 _,rfl⟩
      ·refine Ce 13 true 29 rfl rfl (fun _ _ h=>h) fun σ w1 hC h=> ?_;have aq:=An (h 38 (by decide));exact Abb GR u5 QD (AaF (hrK.keep (hE.trans hC)) aq) ⟨Ad4 _,rfl⟩
      ·refine Ce 13 true 29 rfl rfl (fun _ _ h=>h) fun σ w1 hC h=> ?_;have ar:=An (h 34 (by decide));have au:=An (h 39 (by decide));exact Abw (l:=(l.getD (i) [])) (m:=(l.getD (k) [])) (.inr rfl) ar au (decide ((l.getD (i) [])≠((l.getD (k) []):AlJ))) rfl ⟨Ad4 _,(congrArg AfE (decide_eq_false (fun h=>h q2)))⟩
      ·refine Af rfl fun σ w1 hC h=> ?_;have ah:=An (h 29 (by decide));have av:=An (h 40 (by decide));exact AaS ah av ⟨Ad4 _,rfl⟩
     intro a0 ba a1 he hf;obtain⟨-,-,-,-,-,-,-,-,-,-,-,-,-,-,-,-,-,-,-,-,-,-,-,-,-,k41,-⟩:=hf;obtain⟨c,f,j,-⟩:=he.hold [(0,_),(3,_),(4,_)] ⟨c,f,j,trivial⟩ rfl;clear he;have ai:a0 41 = .bool (false):=k41;clear k41;refine gX ?_;have hnc:¬clK l i k:=fun q=>q.2 q2;have hE:=hE.trans a1;refine cF ai (gS (Aaz (xv:=NI k) (yv:=NI 1) j rfl rfl (Ah _ _ _ (by omega)) (gK (AfF ⟨k+1,c,f,rfl,hE,by omega,XY hm hnc,trivial⟩ ?_))));show i-(intOf (NI ((k)+(1)))).toNat<i-(intOf (aw 4)).toNat;rw[q4];simp only[intOf,Afg];omega
    refine gR ?_;refine Fa [Is (v),Is (NI i),fun x w' =>PR (Cb (vs.getD (i) undef)) x w',Is (vs.getD (i) undef),fun x w' =>RBs w' x [(l.getD (i) [])],Is (AB (Sha.sum (l.getD (i) []))),Is (v),Is (NI k),fun x w' =>PR (Cb (vs.getD (k) undef)) x w',Is (vs.getD (k) undef),fun x w' =>RBs w' x [(l.getD (k) [])],Is (AB (Sha.sum (l.getD (k) []))),Is (.bool (true)),Is (.bool (true)),Is (v),Is (NI i),fun x w' =>PR (Cb (vs.getD (i) undef)) x w',Is (vs.getD (i) undef),Is (St ((l.getD (i) []))),Is (v),Is (NI k),fun x w' =>PR (Cb (vs.getD (k) undef)) x w',Is (vs.getD (k) undef),Is (St ((l.getD (k) []))),Is (.bool (true)),Is (.bool (true))] (by kernel_rfl) [16,17,18,19,20,21,22,23,24,25,26,27,28,29,30,31,32,33,34,35,36,37,38,39,40,41] (by kernel_rfl) (by kernel_rfl) (IW ⟨(fun _ _ _ h k=>Aej h k),AaG _,(fun _ _ _ h k=>AeN h k),(XG ⟨(fun _ _ _ h k=>Aej h k),AaG _,(fun _ _ _ h k=>AeN h k),(si5 ⟨(fun _ _ _ h k=>Aej h k),(NZ ⟨(fun _ _ _ h k=>Aej h k),(NZ trivial)⟩)⟩)⟩)⟩) ?a2 ?hQ2007
    case a2=>
     refine⟨?_,?_,?_,?_,?_,?_,?_,?_,?_,?_,?_,?_,?_,?_,?_,?_,?_,?_,?_,?_,?_,?_,?_,?_,?_,?_,trivial⟩
     ·refine Af rfl fun σ w1 hC h=> ?_;have g:=(An (h 0 (by decide))).trans c;exact Aeb g ⟨Ad4 _,rfl⟩
     ·refine Af rfl fun σ w1 hC h=> ?_;have n:=(An (h 3 (by decide))).trans f;exact Aeb n ⟨Ad4 _,rfl⟩
     ·refine Af rfl fun σ w1 hC h=> ?_;have r:=An (h 16 (by decide));have s:=An (h 17 (by decide));exact AaZ MS Tx (by decide) undef (AaD (hl.keep (hE.trans hC)) r) s (p) fun v h=>⟨Ad4 _,h⟩
     ·refine Af rfl fun σ w1 hC h=> ?_;have t:(fun x w' =>PR (Cb (vs.getD (i) undef)) x w') (σ 18) w1:=h 18 (by decide);exact AaY GR rfl (Aef t (show _=some (vs.getD (i) undef:Ae2)from rfl)) ⟨Ad4 _,rfl⟩
     ·refine Af rfl fun σ w1 hC h=> ?_;have u:=An (h 19 (by decide));exact Abf GV (AaF (hrI.keep (hE.trans hC)) u) fun v w2 h hx=>⟨hx,h⟩
     ·refine Af rfl fun σ w1 hC h=> ?_;have y:(fun x w' =>RBs w' x [(l.getD (i) [])]) (σ 20) w1:=h 20 (by decide);refine AaE KB rfl ((Dq _ (hG.keep (hE.trans hC)) _ (l.getD (i) []) y (by omega)).mono ?_);rintro e w2 ⟨rfl,hx⟩;exact⟨_,rfl,hx,rfl⟩
     ·refine Af rfl fun σ w1 hC h=> ?_;have g:=(An (h 0 (by decide))).trans c;exact Aeb g ⟨Ad4 _,rfl⟩
     ·refine Af rfl fun σ w1 hC h=> ?_;have o:=(An (h 4 (by decide))).trans j;exact Aeb o ⟨Ad4 _,rfl⟩
     ·refine Af rfl fun σ w1 hC h=> ?_;have z:=An (h 22 (by decide));have aa:=An (h 23 (by decide));exact AaZ MS Tx (by decide) undef (AaD (hl.keep (hE.trans hC)) z) aa (by omega) fun v h=>⟨Ad4 _,h⟩
     ·refine Af rfl fun σ w1 hC h=> ?_;have ab:(fun x w' =>PR (Cb (vs.getD (k) undef)) x w') (σ 24) w1:=h 24 (by decide);exact AaY GR rfl (Aef ab (show _=some (vs.getD (k) undef:Ae2)from rfl)) ⟨Ad4 _,rfl⟩
     ·refine Af rfl fun σ w1 hC h=> ?_;have ac:=An (h 25 (by decide));exact Abf GV (AaF (hrK.keep (hE.trans hC)) ac) fun v w2 h hx=>⟨hx,h⟩
     ·refine Af rfl fun σ w1 hC h=> ?_;have ad:(fun x w' =>RBs w' x [(l.getD (k) [])]) (σ 26) w1:=h 26 (by decide);refine AaE KB rfl ((Dq _ (hG.keep (hE.trans hC)) _ (l.getD (k) []) ad (by omega)).mono ?_);rintro e w2 ⟨rfl,hx⟩;exact⟨_,rfl,hx,rfl⟩
     ·refine Af rfl fun σ w1 hC h=> ?_;have ae:=An (h 21 (by decide));have af:=An (h 27 (by decide));exact AbM (l1:=(Sha.sum (l.getD (i) []))) (l2:=(Sha.sum (l.getD (k) []))) XM u5 Rg TM ae af ((Sha.sum_length _)) ((Sha.sum_length _)) ⟨Ad4 _,(congrArg AfE (decide_eq_true (q1)))⟩
     ·refine Af rfl fun σ w1 hC h=> ?_;have ag:=An (h 28 (by decide));exact Aeb ag ⟨Ad4 _,rfl⟩
     ·refine Ce 13 true 29 rfl rfl (fun _ _ h=>h) fun σ w1 hC h=> ?_;have g:=(An (h 0 (by decide))).trans c;exact Aeb g ⟨Ad4 _,rfl⟩
     ·refine Ce 13 true 29 rfl rfl (fun _ _ h=>h) fun σ w1 hC h=> ?_;have n:=(An (h 3 (by decide))).trans f;exact Aeb n ⟨Ad4 _,rfl⟩
     ·refine Ce 13 true 29 rfl rfl (fun _ _ h=>h) fun σ w1 hC h=> ?_;have aj:=An (h 30 (by decide));have ak:=An (h 31 (by decide));exact AaZ MS Tx (by decide) undef (AaD (hl.keep (hE.trans hC)) aj) ak (p) fun v h=>⟨Ad4 _,h⟩
     ·refine Ce 13 true 29 rfl rfl (fun _ _ h=>h) fun σ w1 hC h=> ?_;have al:(fun x w' =>PR (Cb (vs.getD (i) undef)) x w') (σ 32) w1:=h 32 (by decide);exact AaY GR rfl (Aef al (show _=some (vs.getD (i) undef:Ae2)from rfl)) ⟨Ad4 _,rfl⟩
     ·refine Ce 13 true 29 rfl rfl (fun _ _ h=>h) fun σ w1 hC h=> ?_;have am:=An (h 33 (by decide));exact Abb GR u5 QD (AaF (hrI.keep (hE.trans hC)) am) ⟨Ad4 _,rfl⟩
     ·refine Ce 13 true 29 rfl rfl (fun _ _ h=>h) fun σ w1 hC h=> ?_;have g:=(An (h 0 (by decide))).trans c;exact Aeb g ⟨Ad4 _,rfl⟩
     ·refine Ce 13 true 29 rfl rfl (fun _ _ h=>h) fun σ w1 hC h=> ?_;have o:=(An (h 4 (by decide))).trans j;exact Aeb o ⟨Ad4 _,rfl⟩
     ·refine Ce 13 true 29 rfl rfl (fun _ _ h=>h) fun σ w1 hC h=> ?_;have an:=An (h 35 (by decide));have ao:=An (h 36 (by decide));exact AaZ MS Tx (by decide) undef (AaD (hl.keep (hE.trans hC)) an) ao (by omega) fun v h=>⟨Ad4 _,h⟩
     ·refine Ce 13 true 29 rfl rfl (fun _ _ h=>h) fun σ w1 hC h=> ?_;have ap:(fun x w' =>PR (Cb (vs.getD (k) undef)) x w') (σ 37) w1:=h 37 (by decide);exact AaY GR rfl (Aef ap (show _=some (vs.getD (k) undef:Ae2)from rfl)) ⟨Ad4 _,rfl⟩
     ·refine Ce 13 true 29 rfl rfl (fun _ _ h=>h) fun σ w1 hC h=> ?_;have aq:=An (h 38 (by decide));exact Abb GR u5 QD (AaF (hrK.keep (hE.trans hC)) aq) ⟨Ad4 _,rfl⟩
     ·refine Ce 13 true 29 rfl rfl (fun _ _ h=>h) fun σ w1 hC h=> ?_;have ar:=An (h 34 (by decide));have au:=An (h 39 (by decide));exact Abw (l:=(l.getD (i) [])) (m:=(l.getD (k) [])) (.inr rfl) ar au (decide ((l.getD (i) [])≠((l.getD (k) []):AlJ))) rfl ⟨Ad4 _,(congrArg AfE (decide_eq_true (q2)))⟩
     ·refine Af rfl fun σ w1 hC h=> ?_;have ah:=An (h 29 (by decide));have av:=An (h 40 (by decide));exact AaS ah av ⟨Ad4 _,rfl⟩
    intro a3 bb a4 he hf;obtain⟨-,-,-,-,-,-,-,-,-,-,-,-,-,-,-,-,-,-,-,-,-,-,-,-,-,k41,-⟩:=hf;obtain⟨c,f,j,-⟩:=he.hold [(0,_),(3,_),(4,_)] ⟨c,f,j,trivial⟩ rfl;clear he;have ai:a3 41 = .bool (true):=k41;clear k41;refine gX (cT ai (A8 rfl (vr (.bool (true)) rfl) ?_));have hE:=hE.trans a4;exact⟨rfl,hE⟩
   refine gR ?_;refine Fa [Is (v),Is (NI i),fun x w' =>PR (Cb (vs.getD (i) undef)) x w',Is (vs.getD (i) undef),fun x w' =>RBs w' x [(l.getD (i) [])],Is (AB (Sha.sum (l.getD (i) []))),Is (v),Is (NI k),fun x w' =>PR (Cb (vs.getD (k) undef)) x w',Is (vs.getD (k) undef),fun x w' =>RBs w' x [(l.getD (k) [])],Is (AB (Sha.sum (l.getD (k) []))),Is (.bool (false)),Is (.bool (false)),Is undef,Is undef,Is undef,Is undef,Is undef,Is undef,Is undef,Is undef,Is undef,Is undef,Is undef,Is (.bool (false))] (by kernel_rfl) [16,17,18,19,20,21,22,23,24,25,26,27,28,29,30,31,32,33,34,35,36,37,38,39,40,41] (by kernel_rfl) (by kernel_rfl) (IW ⟨(fun _ _ _ h k=>Aej h k),AaG _,(fun _ _ _ h k=>AeN h k),(XG ⟨(fun _ _ _ h k=>Aej h k),AaG _,(fun _ _ _ h k=>AeN h k),(XG (Vo trivial))⟩)⟩) ?a5 ?hQ3007
   case a5=>
    refine⟨?_,?_,?_,?_,?_,?_,?_,?_,?_,?_,?_,?_,?_,?_,?_,?_,?_,?_,?_,?_,?_,?_,?_,?_,?_,?_,trivial⟩
    ·refine Af rfl fun σ w1 hC h=> ?_;have g:=(An (h 0 (by decide))).trans c;exact Aeb g ⟨Ad4 _,rfl⟩
    ·refine Af rfl fun σ w1 hC h=> ?_;have n:=(An (h 3 (by decide))).trans f;exact Aeb n ⟨Ad4 _,rfl⟩
    ·refine Af rfl fun σ w1 hC h=> ?_;have r:=An (h 16 (by decide));have s:=An (h 17 (by decide));exact AaZ MS Tx (by decide) undef (AaD (hl.keep (hE.trans hC)) r) s (p) fun v h=>⟨Ad4 _,h⟩
    ·refine Af rfl fun σ w1 hC h=> ?_;have t:(fun x w' =>PR (Cb (vs.getD (i) undef)) x w') (σ 18) w1:=h 18 (by decide);exact AaY GR rfl (Aef t (show _=some (vs.getD (i) undef:Ae2)from rfl)) ⟨Ad4 _,rfl⟩
    ·refine Af rfl fun σ w1 hC h=> ?_;have u:=An (h 19 (by decide));exact Abf GV (AaF (hrI.keep (hE.trans hC)) u) fun v w2 h hx=>⟨hx,h⟩
    ·refine Af rfl fun σ w1 hC h=> ?_;have y:(fun x w' =>RBs w' x [(l.getD (i) [])]) (σ 20) w1:=h 20 (by decide);refine AaE KB rfl ((Dq _ (hG.keep (hE.trans hC)) _ (l.getD (i) []) y (by omega)).mono ?_);rintro e w2 ⟨rfl,hx⟩;exact⟨_,rfl,hx,rfl⟩
    ·refine Af rfl fun σ w1 hC h=> ?_;have g:=(An (h 0 (by decide))).trans c;exact Aeb g ⟨Ad4 _,rfl⟩
    ·refine Af rfl fun σ w1 hC h=> ?_;have o:=(An (h 4 (by decide))).trans j;exact Aeb o ⟨Ad4 _,rfl⟩
    ·refine Af rfl fun σ w1 hC h=> ?_;have z:=An (h 22 (by decide));have aa:=An (h 23 (by decide));exact AaZ MS Tx (by decide) undef (AaD (hl.keep (hE.trans hC)) z) aa (by omega) fun v h=>⟨Ad4 _,h⟩
    ·refine Af rfl fun σ w1 hC h=> ?_;have ab:(fun x w' =>PR (Cb (vs.getD (k) undef)) x w') (σ 24) w1:=h 24 (by decide);exact AaY GR rfl (Aef ab (show _=some (vs.getD (k) undef:Ae2)from rfl)) ⟨Ad4 _,rfl⟩
    ·refine Af rfl fun σ w1 hC h=> ?_;have ac:=An (h 25 (by decide));exact Abf GV (AaF (hrK.keep (hE.trans hC)) ac) fun v w2 h hx=>⟨hx,h⟩
    ·refine Af rfl fun σ w1 hC h=> ?_;have ad:(fun x w' =>RBs w' x [(l.getD (k) [])]) (σ 26) w1:=h 26 (by decide);refine AaE KB rfl ((Dq _ (hG.keep (hE.trans hC)) _ (l.getD (k) []) ad (by omega)).mono ?_);rintro e w2 ⟨rfl,hx⟩;exact⟨_,rfl,hx,rfl⟩
    ·refine Af rfl fun σ w1 hC h=> ?_;have ae:=An (h 21 (by decide));have af:=An (h 27 (by decide));exact AbM (l1:=(Sha.sum (l.getD (i) []))) (l2:=(Sha.sum (l.getD (k) []))) XM u5 Rg TM ae af ((Sha.sum_length _)) ((Sha.sum_length _)) ⟨Ad4 _,(congrArg AfE (decide_eq_false (q1)))⟩
    ·refine Af rfl fun σ w1 hC h=> ?_;have ag:=An (h 28 (by decide));exact Aeb ag ⟨Ad4 _,rfl⟩
    ·refine Ds 13 true 29 rfl rfl (fun x _ (h:x = .bool false)=>by rw[h];intro h;cases h) fun _=>rfl
    ·refine Ds 13 true 29 rfl rfl (fun x _ (h:x = .bool false)=>by rw[h];intro h;cases h) fun _=>rfl
    ·refine Ds 13 true 29 rfl rfl (fun x _ (h:x = .bool false)=>by rw[h];intro h;cases h) fun _=>rfl
    ·refine Ds 13 true 29 rfl rfl (fun x _ (h:x = .bool false)=>by rw[h];intro h;cases h) fun _=>rfl
    ·refine Ds 13 true 29 rfl rfl (fun x _ (h:x = .bool false)=>by rw[h];intro h;cases h) fun _=>rfl
    ·refine Ds 13 true 29 rfl rfl (fun x _ (h:x = .bool false)=>by rw[h];intro h;cases h) fun _=>rfl
    ·refine Ds 13 true 29 rfl rfl (fun x _ (h:x = .bool false)=>by rw[h];intro h;cases h) fun _=>rfl
    ·refine Ds 13 true 29 rfl rfl (fun x _ (h:x = .bool false)=>by rw[h];intro h;cases h) fun _=>rfl
    ·refine Ds 13 true 29 rfl rfl (fun x _ (h:x = .bool false)=>by rw[h];intro h;cases h) fun _=>rfl
    ·refine Ds 13 true 29 rfl rfl (fun x _ (h:x = .bool false)=>by rw[h];intro h;cases h) fun _=>rfl
    ·refine Ds 13 true 29 rfl rfl (fun x _ (h:x = .bool false)=>by rw[h];intro h;cases h) fun _=>rfl
    ·refine Af rfl fun σ w1 hC h=> ?_;have ah:=An (h 29 (by decide));exact AaX ah (vr (.bool (false)) rfl) ⟨Ad4 _,rfl⟩
   intro a6 bc a7 he hf;obtain⟨-,-,-,-,-,-,-,-,-,-,-,-,-,-,-,-,-,-,-,-,-,-,-,-,-,k41,-⟩:=hf;obtain⟨c,f,j,-⟩:=he.hold [(0,_),(3,_),(4,_)] ⟨c,f,j,trivial⟩ rfl;clear he;have ai:a6 41 = .bool (false):=k41;clear k41;refine gX ?_;have hnc:¬clK l i k:=fun q=>q1 q.1;have hE:=hE.trans a7;refine cF ai (gS (Aaz (xv:=NI k) (yv:=NI 1) j rfl rfl (Ah _ _ _ (by omega)) (gK (AfF ⟨k+1,c,f,rfl,hE,by omega,XY hm hnc,trivial⟩ ?_))));show i-(intOf (NI ((k)+(1)))).toNat<i-(intOf (aw 4)).toNat;rw[q4];simp only[intOf,Afg];omega
  have hm:∀b,b<i->¬clK l i b:=fun b h=>hm b (by omega);refine gS (Aaz (xv:=NI i) (yv:=NI 1) f rfl rfl (Ah _ _ _ (by omega)) (gK (AfF ⟨i+1,c,rfl,hE,by omega,Aaw hn hm,trivial⟩ ?_)));show l.length-(intOf (NI ((i)+(1)))).toNat<l.length-(intOf (ay 3)).toNat;rw[q3];simp only[intOf,Afg];omega
 refine A8 rfl (vr (.bool (false)) rfl) ?_;exfalso;obtain⟨a,b,h1,h2,h3⟩:=hc;exact hn a b (by omega) h2 h3
open Go.ChangeShapes Go.WideShapes Go.ChangeAt Go.Deep
theorem PF(a:Int):(BY a).length=1:=rfl
theorem Xn(a:Bool):(Q1 a).length=1:=rfl
theorem AdO{H:Type}{enc:Afa × Ae2->H}{P:Program}{W:Ae3}{t e b:Afa}(ht:P.underlying t=some (.slice e))(he:P.underlying e=some (.slice b))(he2:P.underlying b=some (.int .u8))(hc:P.cellsOf e=1)(c:P.cellsOf b=1):Opn enc P W t (fun v:Ae2 × List Bs=> [v.1]) (fun v=>RBs W v.1 v.2):=fun fuel cs x h=>by
 obtain⟨a,h1,⟨r1,r2,ao,cap,r3,r4,r5,r6,r7⟩,h3⟩:=AeZ (f:=fun v:Ae2 × Bs=> [v.1]) (OK:=fun v=>RB W v.1 v.2) ht hc (by decide) (Opn.bytes he he2 c) (fun a _=>rfl) fuel cs x h;have hf:∀l:List (Ae2 × Bs),l.flatMap (fun v:Ae2 × Bs=> [v.1])=l.map Prod.fst:=fun l=>by
  induction l with
  | nil=>rfl
  | cons a l ih=>rw[Af3,ih];rfl
 rw[hf]at r7;exact⟨(a.1,a.2.map Prod.snd),h1,a.2.map Prod.fst,by simp,⟨by simp,ao,cap,by rw[r3];simp,by simpa using r4,r5,(fun q=>by simpa using r6 q),fun q hq j u hu=>r7 q hq j u hu⟩,fun i hi=>by
  have hi' :i<a.2.length:=by simpa using hi
  have:=h3 _ (Agv hi')
  simpa [Ae6,hi'] using this⟩
theorem Qk{H:Type}{enc:Afa × Ae2->H}{W:Ae3}:Opn enc Ae5 W 48 vkpC (fun x:FO=>RBs W x.2.all x.1.all/\RG 1 Q1 W x.2.take x.1.take/\RG 1 BY W x.2.choices x.1.choices /\ -9223372036854775808<=x.1.at_/\x.1.at_<=9223372036854775807/\RG 1 BY W x.2.fates x.1.fates):=fun fuel cs x h=>by
 have ht:Tryz.prog.underlying 48=some (.struct (Tryz.prog.fieldsOf 48)):=by kernel_rfl
 obtain⟨a0,c,k0⟩:=FN (i:=0) (ty:=38) (o:=0) (k:=1) ht h (by kernel_rfl) (by kernel_rfl) (AdO (e:=27) (b:=5) (by kernel_rfl) (by kernel_rfl) (by kernel_rfl) (by kernel_rfl) (by kernel_rfl));obtain⟨a1,f,k1⟩:=FN (i:=1) (ty:=46) (o:=1) (k:=1) ht h (by kernel_rfl) (by kernel_rfl) (AeZ (by kernel_rfl) (by kernel_rfl) (by decide) (Opn.bool (t:=4) (by kernel_rfl)) (fun a _=>Xn a));obtain⟨a2,b,k2⟩:=FN (i:=2) (ty:=22) (o:=2) (k:=1) ht h (by kernel_rfl) (by kernel_rfl) (AeZ (by kernel_rfl) (by kernel_rfl) (by decide) (Opn.i64 (t:=3) (by kernel_rfl)) (fun a _=>PF a));obtain⟨a3,g,k3⟩:=FN (i:=3) (ty:=3) (o:=3) (k:=1) ht h (by kernel_rfl) (by kernel_rfl) (Opn.i64 (by kernel_rfl));obtain⟨a4,j,k4⟩:=FN (i:=4) (ty:=22) (o:=4) (k:=1) ht h (by kernel_rfl) (by kernel_rfl) (AeZ (by kernel_rfl) (by kernel_rfl) (by decide) (Opn.i64 (t:=3) (by kernel_rfl)) (fun a _=>PF a));have hl:cs.drop 5= []:=List.drop_of_length_le (Nat.le_of_eq ((SG ht h).trans (by kernel_rfl)));refine⟨(⟨a0.2,a1.2,a2.2,a3,a4.2⟩,⟨a0.1,a1.1,a2.1,a4.1⟩),?_,⟨k0,k1.1,k2.1,k3.1,k3.2,k4.1⟩⟩;rw[show cs=cs.drop 0 from rfl];rw[c];rw[show cs.drop (0+1)=_ from f];rw[show cs.drop (1+1)=_ from b];rw[show cs.drop (2+1)=_ from g];rw[show cs.drop (3+1)=_ from j];rw[show cs.drop (4+1)= []from hl];simp[vkpC]
theorem Xo{H:Type}{enc:Afa × Ae2->H}{W:Ae3}{r:Reach}{b0:Nat}{v:Ae2}{d:DataW H}{ps:List MemPlace}(hval:Value.okWide Ae5 W r b0 48 v)(hd:DataW.Trod enc Ae5 W 0 (fun _=>true) true 48 v d ps):
  ∃x:FO,v = .agg (vkpC x).toArray/\VkpAt W x/\∀p∈ps,p.block<W.heap.size:=by
 obtain⟨fuel,hf⟩:=hd;have hlt:=DataW.trod_lt fuel _ _ _ hf;obtain⟨cs,rfl,-⟩:=okWide_struct (fs:=Tryz.prog.fieldsOf 48) (by kernel_rfl) hval;obtain⟨x,h1,h2,h3,h4,h5,h5b,h6⟩:=Qk _ _ _ hf;have h1:cs.toList=vkpC x:=h1;exact⟨x,by rw[<-h1],⟨h2,h3,h4,h6,h5,h5b⟩,hlt⟩
theorem Zm{α:Type}{l:List α}{i:Nat}{a d:α}(h:i<l.length)(h1:a∉l.take i)(h2:l.getD i d≠a):a∉l.take (i+1):=by
 rw[Afv h];rw[Ae6,Afb h]at h2;simp only[Afy,Afh,not_or];exact⟨h1,fun e=>h2 e.symm⟩
theorem Vd{α:Type}{l m:List α}{i:Nat}{d:α}(h:i<l.length)(hm:i<m.length)(h1:l.take i=m.take i)(h2:l.getD i d=m.getD i d):l.take (i+1)=m.take (i+1):=by
 rw[Afv h,Afv hm,h1];rw[Ae6,Afb h,Ae6,Afb hm]at h2;rw[show l[i]=m[i]from h2]
theorem Zn{α:Type}{l m:List α}{i:Nat}{d:α}(h2:l.getD i d≠m.getD i d):l≠m:=fun e=>h2 (by rw[e])
theorem Ny(w:Ae3)(v:Ae2)(l:List Bs)(hr:RG 32 Ae4 w v l)(hll:l.length<9223372036854775807)(id:Bs)(hid:id.length=32):
  Calls Ae5 28 #[v,AB id] w fun e w' =>e = .returned (.bool (decide (id∈l)))/\Ext w w' :=by
 refine gG (args:= [v,AB id]) Tryz.func28 rfl 18 rfl rfl ?_;have hE:=Ad4 w;refine gS (Ael (vr (AB id) rfl) fun h q y k r z=> ?_);have c:=k;clear k;have aa:h<q.heap.size:=by omega
 have hE:=hE.trans r;refine gL (fun(ρ:Ae) (wz:Ae3)=>∃i:Nat,ρ 0=(v:Ae2)/\ρ 1=(AB id:Ae2)/\ρ 3=(PQ h 0:Ae2)/\ρ 5=(NI i:Ae2)/\Ext w wz/\wz.heap[h]? =some (.cells (Ae4 id).toArray 33 (0,0))/\(i<=l.length)/\(id∉l.take i)/\True) (fun ρ _=>l.length-(intOf (ρ 5)).toNat) ⟨0,rfl,rfl,rfl,rfl,hE,c,AfC _,(by simp),trivial⟩ ?_;clear hE c;rintro s ab ⟨i,g,t,j,f,hE,c,hi,hn,-⟩;have q5:=f;by_cases hlt:i<l.length
 ·have hel:(l.getD i []).length=32:=Ay (Aec hr [] hlt);by_cases q1:l.getD i []=id
  ·refine gS (AaW Oi (AaD (hr.keep hE) g) (gS (Aay (a:=(i:Nat)) (b:=(l.length:Nat)) f rfl (AE _ _ _ _) (kT (hlt) (cT rfl (Co [0,1,2,3,4,5] [] [] fun ac m=> ?_))))));have hE:=hE.trans m;have u:(Ae4 (l.getD (i) ([]:AlJ))).length=32:=(Aec (hr.keep hE) ([]:AlJ) (by omega));have c:=eb m c;refine yA (AaZ Oi Td (by decide) ([]:AlJ) (AaD (hr.keep hE) g) f (by omega) fun ad n=>(ys (Aa4 (Aa6 n rfl) XM rfl (by rw[u];exact SY) zz) (ys (AaC j c XM rfl (by exact Ac hid) zz) (ys (AbM (l1:=(l.getD (i) ([]:AlJ))) (l2:=id) XM u5 Rg TM rfl rfl (hel) (hid) zz) (kT (q1) ?_)))));clear n;refine cT rfl (A8 rfl (vr (.bool (true)) rfl) ?_);exact⟨by rw[decide_eq_true (show id∈l from q1▸getD_mem [] hlt)],hE⟩
  refine gS (AaW Oi (AaD (hr.keep hE) g) (gS (Aay (a:=(i:Nat)) (b:=(l.length:Nat)) f rfl (AE _ _ _ _) (kT (hlt) (cT rfl (Co [0,1,2,3,4,5] [] [] fun ae o=> ?_))))));have hE:=hE.trans o;have x:(Ae4 (l.getD (i) ([]:AlJ))).length=32:=(Aec (hr.keep hE) ([]:AlJ) (by omega));have c:=eb o c;refine yA (AaZ Oi Td (by decide) ([]:AlJ) (AaD (hr.keep hE) g) f (by omega) fun af p=>(ys (Aa4 (Aa6 p rfl) XM rfl (by rw[x];exact SY) zz) (ys (AaC j c XM rfl (by exact Ac hid) zz) (ys (AbM (l1:=(l.getD (i) ([]:AlJ))) (l2:=id) XM u5 Rg TM rfl rfl (hel) (hid) zz) (kF (q1) ?_)))));clear p;refine cF rfl (gS (Aaz (xv:=NI i) (yv:=NI 1) f rfl rfl (Ah _ _ _ (by omega)) (gK (AfF ⟨i+1,g,t,j,rfl,hE,c,by omega,Zm hlt hn q1,trivial⟩ ?_))));show l.length-(intOf (NI ((i)+(1)))).toNat<l.length-(intOf (s 5)).toNat;rw[q5];simp only[intOf,Afg];omega
 refine gS (AaW Oi (AaD (hr.keep hE) g) (gS (Aay (a:=(i:Nat)) (b:=(l.length:Nat)) f rfl (AE _ _ _ _) (kF (hlt) (cF rfl (A8 rfl (vr (.bool (false)) rfl) ?_))))));rw[show i=l.length by omega,Af8]at hn;exact⟨by rw[decide_eq_false hn],hE⟩
theorem Ql(w:Ae3)(v u_:Ae2)(l m:List Bs)(hr:RG 32 Ae4 w v l)(hs:RG 32 Ae4 w u_ m)(hll:l.length<9223372036854775807):
  Calls Ae5 26 #[v,u_] w fun e w' =>e = .returned (.bool (decide (l=m)))/\Ext w w' :=by
 refine gG (args:= [v,u_]) Tryz.func26 rfl 26 rfl rfl ?_;have hE:=Ad4 w;by_cases hq:l.length=m.length
 ·refine gS (AaW Oi (AaD hr rfl) (gS (AaW Oi (AaD hs rfl) (gS (Aay (a:=(l.length:Nat)) (b:=(m.length:Nat)) rfl rfl (AV _ _ _ _) (kF (fun h=>h hq) (cF rfl (gL (fun(ρ:Ae) (wz:Ae3)=>∃i:Nat,ρ 0=(v:Ae2)/\ρ 1=(u_:Ae2)/\ρ 10=(.bool (false):Ae2)/\ρ 5=(NI i:Ae2)/\RG 32 Ae4 wz v l/\RG 32 Ae4 wz u_ m/\Ext w wz/\(i<=l.length)/\(l.take i=m.take i)/\True) (fun ρ _=>l.length-(intOf (ρ 5)).toNat) ⟨0,rfl,rfl,rfl,rfl,hr,hs,hE,AfC _,(by simp),trivial⟩ ?_))))))));clear hr hs hE;rintro r z ⟨i,f,g,s,c,hr,hs,hE,hi,hn,-⟩;have q5:=c;by_cases hlt:i<l.length
  ·have hel:(l.getD i []).length=32:=Ay (Aec hr [] hlt);have hem:(m.getD i []).length=32:=Ay (Aec hs [] (by omega));by_cases q1:l.getD i []=m.getD i []
   ·refine gS (AaW Oi (AaD hr f) (gS (Aay (a:=(i:Nat)) (b:=(l.length:Nat)) c rfl (AE _ _ _ _) (kT (hlt) (cT rfl (Co [0,1,2,3,4,5,6,7,8] [] [] fun aa j=> ?_))))));have hr:=hr.keep j;have t:(Ae4 (l.getD (i) ([]:AlJ))).length=32:=(Aec hr ([]:AlJ) (by omega));refine yA (AaZ Oi Td (by decide) ([]:AlJ) (AaD hr f) c (by omega) fun ab n=>(ys (Aa4 (Aa6 n rfl) XM rfl (by rw[t];exact SY) zz) ?_));have hs:=hs.keep j;have u:(Ae4 (m.getD (i) ([]:AlJ))).length=32:=(Aec hs ([]:AlJ) (by omega));refine yA (AaZ Oi Td (by decide) ([]:AlJ) (AaD hs g) c (by omega) fun ac o=>(ys (Aa4 (Aa6 o rfl) XM rfl (by rw[u];exact SY) zz) (ys (Ab4 (l1:=(l.getD (i) ([]:AlJ))) (l2:=(m.getD (i) ([]:AlJ))) XM u5 Rg TM rfl rfl (hel) (hem) zz) (kF (fun h=>h q1) ?_))));clear n;clear o;have hE:=hE.trans j;refine cF rfl (gS (Aaz (xv:=NI i) (yv:=NI 1) c rfl rfl (Ah _ _ _ (by omega)) (gK (AfF ⟨i+1,f,g,s,rfl,hr,hs,hE,by omega,Vd hlt (by omega) hn q1,trivial⟩ ?_))));show l.length-(intOf (NI ((i)+(1)))).toNat<l.length-(intOf (r 5)).toNat;rw[q5];simp only[intOf,Afg];omega
   refine gS (AaW Oi (AaD hr f) (gS (Aay (a:=(i:Nat)) (b:=(l.length:Nat)) c rfl (AE _ _ _ _) (kT (hlt) (cT rfl (Co [0,1,2,3,4,5,6,7,8] [] [] fun ad k=> ?_))))));have hr:=hr.keep k;have x:(Ae4 (l.getD (i) ([]:AlJ))).length=32:=(Aec hr ([]:AlJ) (by omega));refine yA (AaZ Oi Td (by decide) ([]:AlJ) (AaD hr f) c (by omega) fun ae p=>(ys (Aa4 (Aa6 p rfl) XM rfl (by rw[x];exact SY) zz) ?_));have hs:=hs.keep k;have y:(Ae4 (m.getD (i) ([]:AlJ))).length=32:=(Aec hs ([]:AlJ) (by omega));refine yA (AaZ Oi Td (by decide) ([]:AlJ) (AaD hs g) c (by omega) fun af q=>(ys (Aa4 (Aa6 q rfl) XM rfl (by rw[y];exact SY) zz) (ys (Ab4 (l1:=(l.getD (i) ([]:AlJ))) (l2:=(m.getD (i) ([]:AlJ))) XM u5 Rg TM rfl rfl (hel) (hem) zz) (kT (q1) ?_))));clear p;clear q;refine cT rfl (A8 rfl (vr (.bool (false)) rfl) ?_);have hE:=hE.trans k;exact⟨by rw[decide_eq_false (Zn q1)],hE⟩
  refine gS (AaW Oi (AaD hr f) (gS (Aay (a:=(i:Nat)) (b:=(l.length:Nat)) c rfl (AE _ _ _ _) (kF (hlt) (cF rfl (A8 rfl (vr (.bool (true)) rfl) ?_))))));rw[show i=l.length by omega,Af8,show l.length=m.length by omega,Af8]at hn;exact⟨by rw[decide_eq_true hn],hE⟩
 refine gS (AaW Oi (AaD hr rfl) (gS (AaW Oi (AaD hs rfl) (gS (Aay (a:=(l.length:Nat)) (b:=(m.length:Nat)) rfl rfl (AV _ _ _ _) (kT (hq) (cT rfl (A8 rfl (vr (.bool (false)) rfl) ?_))))))));exact⟨by rw[decide_eq_false (fun e=>hq (by rw[e]))],hE⟩
section
variable {wb w w' : Ae3} {n g gv : Nat} {H : Dk} {D : Ad}
theorem Ady(h:VtS wb n g gv w H D []){α:Type}{b k:Nat}{t:Afa}{enc:α->List Ae2}{v v' :Ae2}{l:List α}(hr:OG b t k enc w v l)(gr:Grew w w' v v')(h1:t≠107)(h2:t≠133)(h3:t≠5)(h4:t≠131)(h5:t≠113)(h6:t≠9)(h7:t≠86)(hb:wb.heap.size<=b):VtS wb n g gv w' H D []:=by
 cases ho:v.ownBlock with
 | none=>exact h.keep (Ab7 (by have:=gr.by_;rw[ho]at this;exact this))
 | some c=>
  have ht:=EM hr.2 ho;have hg:=gr.by_;rw[ho]at hg;have hlt:=hr.2.lt c ho;have hcells:∃cs fr,w.heap[c]? =some (.cells cs t fr):=by
   rcases hr.2.2 with ⟨rfl,-⟩ | ⟨g2,cap,cur,rfl,f,a,-⟩
   ·cases ho
   ·obtain rfl:g2=c:=Option.some.inj ho;exact⟨_,_,a⟩
  obtain⟨cs,fr,hc⟩:=hcells;obtain⟨bm,ptr,hv⟩:=h.v;have hgv:gv≠c:=fun e=>by
   have h8:=h.tag;rw[e,ht]at h8;exact h7 (by simpa using h8)
  have hbm:bm≠c:=fun e=>by
   have h8:=hv.map.tag;rw[e,ht]at h8;cases h8
  exact⟨h.dk.setT hg hc (Ae7 hb hlt.1) h1 h2 h3 h4 h5 h6,⟨bm,ptr,(hg.block gv (bl hv.blk) (fun e=>hgv (Option.some.inj e))).trans hv.blk,hv.map.other hg (Ak hbm.symm),AeY _ _ _,hv.sort,hv.g0,hv.b0,hv.lo⟩,h.good,h.lo,h.len⟩
theorem AdP(h:VtS wb n g gv w H D []){c:Nat}{cs:Array Ae2}{t:Afa}{fr:Nat × Nat}(hg:w.grownBy w' (some c))(hc:w.heap[c]? =some (.cells cs t fr))(h1:t≠107)(h2:t≠133)(h3:t≠5)(h4:t≠131)(h5:t≠113)(h6:t≠9)(h7:t≠86)(hb:wb.heap.size<=c):VtS wb n g gv w' H D []:=by
 have ht:=BB hc;obtain⟨bm,ptr,hv⟩:=h.v;have hgv:gv≠c:=fun e=>by
  have h8:=h.tag;rw[e,ht]at h8;exact h7 (by simpa using h8)
 have hbm:bm≠c:=fun e=>by
  have h8:=hv.map.tag;rw[e,ht]at h8;cases h8
 exact⟨h.dk.setT hg hc hb h1 h2 h3 h4 h5 h6,⟨bm,ptr,(hg.block gv (bl hv.blk) (fun e=>hgv (Option.some.inj e))).trans hv.blk,hv.map.other hg (Ak hbm.symm),AeY _ _ _,hv.sort,hv.g0,hv.b0,hv.lo⟩,h.good,h.lo,h.len⟩
end
theorem Xp{D:Ad}{L:AQ}{b:Bs}{r:Ad × Bs × Bs × Nat}(h:DP D L b=r):r.2.1.length=32:=by
 subst h;unfold DP;split
 ·rfl
 ·split
  ·split <;> exact Sha.sum_length b
  ·exact JZ rfl
theorem Hv:∀ {l m:List Bs},l.Nodup->(∀x∈l,x∈m)->l.length<=m.length
 | [],_,_,_=>AfC _
 | a :: l,m,hn,h=>by
  obtain⟨h1,h2⟩:=Ag8.1 hn;have ha:=h a AfX;have:=Hv (m:=m.erase a) h2 fun x hx=>(List.mem_erase_of_ne (fun(e:x=a)=>h1 (e▸hx))).2 (h x (AfY _ hx));rw[List.length_erase_of_mem ha]at this;have h0:0<m.length:=List.length_pos_of_mem ha;rw[AfA];omega
theorem L3{l:List Bs}(h:Dr l):l.Nodup:=h.imp fun hab e=>by rw[e,GT]at hab;omega
theorem Q3{m:Nat}{D:Ad}(h:DBd m D):(Gp D).length<=m:=Ae7 (AhE _ _) h.list
theorem Xq{D:Ad}(h:ReadyL D){x:Bs}:x∈Gp D↔x.length=32/\(getL D x).2=0:=by
 constructor
 ·intro q;obtain⟨s,_,hs⟩:=AgJ.1 q;unfold CS at hs;split at hs
  ·rename_i q3
   cases hs;exact⟨A2 _,q3.2.2⟩
  ·cases hs
 ·rintro⟨hx,h0⟩;cases hk:Ao D.now (nmO x)with
  | none=>rw[F0 h.down hx hk]at h0;cases h0
  | some k=>
   refine AgJ.2 ⟨nmO x,(DJ h).2 ⟨k,hk⟩,?_⟩;have hc:AC [111,45] (nmO x)=(hexOf x,true):=rfl;unfold CS;rw[hc,EY x hx];exact if_pos ⟨rfl,rfl,h0⟩
theorem Nz{e:AlJ × Nat}:∀(acs:List CL) (l:Br),e∈acs.foldl turnD l->e∈l\/∃a∈acs,a.to.length≠0/\e=(a.to,a.file)
 | [],l,h=> .inl h
 | a :: r,l,h=>(Nz r _ h).elim (fun q=>(G4 q).imp id fun q=>⟨a,AfX,q⟩) fun⟨c,hc,q⟩=> .inr ⟨c,AfY _ hc,q⟩
section
variable {D : Ad}
theorem NA(l:List Int){i:Nat}{s:AlJ}{k:Nat}(hi:i<(AS D l).length)(he:(AS D l)[i]=(s,k))(hok:DOk D):Ao (crashD D l).now s=some i/\AG (crashD D l) i=Em D l i k:=by
 have hm:(s,i)∈Dt (AS D l):=by
  unfold Dt;rw[Aik];exact⟨i,hi,by rw[he]⟩
 refine⟨FV (hok.crash l).now.sort hm,?_⟩;show((AS D l).mapIdx fun i e=>Em D l i e.2).getD i ([],0)=_;rw[Ae6,List.getElem?_mapIdx,Afb hi,he];rfl
theorem L4{s al:AlJ}{k b:Nat}(hok:DOk D)(hm:Bg s=true)(hk:Ao D.kept s=some k)(ha:∀a∈D.acts,a.to≠s/\a.frm≠s)(hf:AG D k=(al,b))(l:List Int):∃i n,b<=n/\Ao (crashD D l).now s=some i/\Ar (crashD D l) s=(al.take n,0):=by
 have hL:Ao (AS D l) s=some k:=Nt _ _ (fun a q=>ha a ((Ajg _ _).subset q)) hk;obtain⟨i,hi,he⟩:=List.mem_iff_getElem.1 (Db hL);obtain⟨h1,h2⟩:=NA l hi he hok;refine⟨i,(Em D l i k).2,?_,h1,?_⟩
 ·unfold Em;show b<=(AG D k).2+_;rw[hf];exact Nat.le_add_right _ _
 ·rw[GK (show(crashD D l).down=false from rfl) hm h1,h2,show(Em D l i k).1=(AG D k).1.take (Em D l i k).2 from rfl,hf]
theorem IK(hok:DOk D)(l:List Int){s:AlJ}{i:Nat}(h:Ao (crashD D l).now s=some i):∃k n,((s,k)∈D.kept\/∃a∈D.acts,a.to.length≠0/\(s,k)=(a.to,a.file))/\Ar (crashD D l) s=((AG D k).1.take n,0):=by
 have hm:(s,i)∈Dt (AS D l):=Db h;unfold Dt at hm;obtain⟨j,hj,he⟩:=Aik.1 hm;have b:=(AiP he).1;have he2:(AS D l)[j]=(s,(AS D l)[j].2):=by rw[<-b]
 obtain⟨h1,h2⟩:=NA l hj he2 hok;refine⟨(AS D l)[j].2,(Em D l j (AS D l)[j].2).2,?_,?_⟩
 ·rw[<-he2];exact(Nz _ _ (Agv hj)).imp id fun⟨a,q,r⟩=>⟨a,(Ajg _ _).subset q,r⟩
 ·rw[GK (show(crashD D l).down=false from rfl) ((hok.crash l).now.look h1).2 h1,h2];rfl
end
theorem SK{p:AT}{id x:Bs}{d:Nat}(hx:p.2 id=some (x,d)):∀ {L:AQ},L≠ []->(∀e∈L,e.2=p)->AA L id=some x
 | [],h,_=>absurd rfl h
 | e :: r,_,h=>by
  unfold AA;rw[AiR,h e AfX,hx];rfl
structure SafeV (D : Ad) (b : Bs) (o : List Bs) (f : Bs -> Bs) : Prop where
 ok:DOk D
 name:∀s k,((s,k)∈D.kept\/∃a∈D.acts,a.to.length≠0/\(s,k)=(a.to,a.file))->(∃x:Bs,x.length=32/\s=nmO x)\/(s=Au b/\(AG D k).1=b)
 have_:(∃k,Ao D.kept (Au b)=some k/\(∀a∈D.acts,a.to≠Au b/\a.frm≠Au b)/\AG D k=(b,b.length))\/∀id∈o,∃k,Ao D.kept (nmO id)=some k/\(∀a∈D.acts,a.to≠nmO id/\a.frm≠nmO id)/\AG D k=(f id,(f id).length)
theorem Z8{D:Ad}{s c:Bs}{q:AT}(hr:Ar D s=(c,0))(h:Gh D s=some q):BJ c = .ok q:=by
 unfold Gh at h;rw[hr]at h;split at h
 ·rename_i p e
  split at h
  ·cases h;exact e
  ·cases h
 ·cases h
theorem Xr{D:Ad}{s:Bs}{e:Bs × AT}(h:DH D s=some e):Gh D s=some e.2:=by
 unfold DH at h;obtain⟨q,h1,h2⟩:=Option.map_eq_some_iff.1 h;rw[h1,<-h2]
section
variable {D : Ad} {b : Bs} {p : AT} {o : List Bs} {f : Bs -> Bs}
theorem SafeV.packs(h:SafeV D b o f)(hop:BJ b = .ok p)(l:List Int):∀e∈openV (crashD D l),e.2=p:=fun e he=>by
 obtain⟨s,hs,hx⟩:=AgJ.1 he;have hr:ReadyL (crashD D l):=⟨rfl,rfl,h.ok.crash l,InjD.num _⟩;obtain⟨g,c⟩:=Agr.1 hs;obtain⟨i,hi⟩:=(DJ hr).1 g;obtain⟨k,n,h1,h2⟩:=IK h.ok l hi;rcases h.name s k h1 with ⟨x,-,rfl⟩ | ⟨-,q⟩
 ·rw[SF]at c;cases c
 ·have a:=Z8 h2 (Xr hx);rw[q]at a;have j:=Qe (r:=b.drop n) a (by rw[AgL];exact hop);have m:b.take n=b:=by
   have:=AgL n b
   rwa [j,AgG]at this
  rw[m,hop]at a;cases a;rfl
theorem SafeV.get(h:SafeV D b o f)(hop:BJ b = .ok p)(hids:∀id,id∈p.1↔id∈o)(hobj:∀id∈o,∃d,p.2 id=some (f id,d))(hsum:∀id∈o,Sha.sum (f id)=id)(l:List Int):∀id∈o,getV (crashD D l) (openV (crashD D l)) id=(f id,0)/\Kn (crashD D l) (openV (crashD D l)) id:=fun id hid=>by
 have hr:ReadyL (crashD D l):=⟨rfl,rfl,h.ok.crash l,InjD.num _⟩;have h32:id.length=32:=by rw[<-hsum id hid];exact Sha.sum_length _
 have key:=h.packs hop l;obtain⟨d,hd⟩:=hobj id hid;by_cases hL:openV (crashD D l)= []
 ·rcases h.have_ with ⟨k,h1,h2,h3⟩ | h1
  ·exfalso;obtain⟨i,n,q1,q2,q3⟩:=L4 h.ok (J1 b) h1 h2 h3 l;rw[AfU q1]at q3;have hv:DH (crashD D l) (Au b)=some (Au b,p):=by
    unfold DH Gh;rw[q3];simp only[hop,if_true,Option.map_some]
   have:(Au b,p)∈openV (crashD D l):=AgJ.2 ⟨Au b,Agr.2 ⟨(DJ hr).2 ⟨i,q2⟩,XW b⟩,hv⟩;rw[hL]at this;cases this
  ·obtain⟨k,r1,r2,r3⟩:=h1 id hid;obtain⟨i,n,q1,q2,q3⟩:=L4 h.ok (H9 h32) r1 r2 r3 l;rw[AfU q1]at q3;have hg:getL (crashD D l) id=(f id,0):=by
    unfold getL;rw[q3,if_neg (fun q=>q.elim (fun x=>by cases x) fun q=>q.2 (hsum id hid))]
   rw[hL];exact⟨hg, .inl ((Xq hr).2 ⟨h32,by rw[hg]⟩)⟩
 ·constructor
  ·unfold getV;rw[SK hd hL key]
  ·obtain⟨e,he⟩:=List.exists_mem_of_ne_nil _ hL;exact .inr ⟨e,he,by rw[key e he];exact(hids id).2 hid⟩
end
theorem Ve{D:Ad}(hok:DOk D)(h:∀s k,((s,k)∈D.kept\/∃a∈D.acts,a.to.length≠0/\(s,k)=(a.to,a.file))->∃x:Bs,x.length=32/\s=nmO x)(l:List Int):openV (crashD D l)= []:=by
 refine Aim.2 fun e he=> ?_;obtain⟨s,hs,hx⟩:=AgJ.1 he;obtain⟨c,b⟩:=Agr.1 hs;obtain⟨i,hi⟩:=(DJ ⟨rfl,rfl,hok.crash l,InjD.num _⟩).1 c;obtain⟨k,n,h1,h2⟩:=IK hok l hi;obtain⟨x,-,rfl⟩:=h s k h1;rw[SF]at b;cases b
theorem SafeV.one{D:Ad}{b:Bs}{o:List Bs}{f:Bs->Bs}(h:SafeV D b o f)(l:List Int):(openV (crashD D l)).length<=1:=by
 refine Ae7 (AhE _ _) (Hv (m:= [Au b]) (FG (h.ok.crash l) _).nodup fun s hs=> ?_);obtain⟨c,a⟩:=Agr.1 hs;obtain⟨i,hi⟩:=(DJ ⟨rfl,rfl,h.ok.crash l,InjD.num _⟩).1 c;obtain⟨k,n,h1,h2⟩:=IK h.ok l hi;rcases h.name s k h1 with ⟨x,-,rfl⟩ | ⟨q,-⟩
 ·rw[SF]at a;cases a
 ·rw[q];exact Afh.2 rfl
theorem plan_ids{D:Ad}{L:AQ}{o:List Bs}{ch:List Int}{b:Bs}{p:AT}(h:GF D L o)(h60:o.length<=60)(hn:o.Nodup)(hne:o≠ [])(hp:AK D L o ch=([b],0))(hop:BJ b = .ok p):p.1.length=o.length:=by
 have hsz:=szK h;obtain⟨s,e,-,hids⟩:=KV (ps:=AP D L o ch) (ch:=ch) hsz h60 (fun i hi=>(Gi h60 hi).1) (fun i hi=>by rw[(Gi h60 hi).2];exact(h _ (getD_mem _ hi)).2.2) hn o.length (Ae8 _);rw[Af8]at hids;have a:C7 (AP D L o ch) (AP D L o ch).length = .ok s:=by rw[partsK_len];exact e
 have hop2:=ID (FM (ch:=ch) h h60) a;have c:AK D L o ch=([(A0 (AP D L o ch)).1],0):=by
  unfold AK;rw[if_neg (GG h),if_neg hne,if_pos (Nl a)]
 rw[c]at hp;have hb:(A0 (AP D L o ch)).1=b:=by
  have:=congrArg (fun x:List Bs × Nat=>x.1.getD 0 []) hp;exact this
 rw[hb,hop]at hop2;have:=congrArg (fun x:Except Nat AT=>match x with | .ok q=>q.1.length | .error _=>0) hop2;have h3:p.1.length=(AR s.ids).length:=this;rw[h3,Gb,hids]
theorem Vf(D:Ad):∃a d,(CI D).1 = { D with arm:=a,down:=d } /\ ((CI D).2≠true->D.down=false->d=false):=by
 unfold CI;split
 ·exact⟨D.arm,D.down,rfl,fun _ h=>h⟩
 ·exact⟨_,_,rfl,fun q _=>by simpa using q⟩
theorem Vg{D:Ad}(hd:D.down=false)(f:Ad->Ad):∃a d,DZ D f=({ D with arm:=a,down:=d },9)\/DZ D f=(f { D with arm:=a,down:=false },0):=by
 obtain⟨a,d,h1,h2⟩:=Vf D;refine⟨a,d,?_⟩;unfold DZ;by_cases q:(CI D).2=true
 ·rw[if_pos q,h1];exact .inl rfl
 ·rw[if_neg q,h1,h2 q hd];exact .inr rfl
theorem Q4{D:Ad}{s:Bs}{k:Nat}(hd:D.down=false)(hm:Bg s=true)(hk:Ao D.now s=some k):FD D s s = .ok k:=by
 unfold FD;rw[if_neg (by rw[EF hd hm hm];exact fun q=>q rfl),hk]
theorem Zo{D:Ad}{s:Bs}{k:Nat}(hd:D.down=false)(hm:Bg s=true)(hk:Ao D.now s=some k):∃a d,Bx D s=({ D with arm:=a,down:=d },9)\/Bx D s=(turnedD { D with arm:=a,down:=false } ⟨s,[],k⟩,0):=by
 unfold Bx;rw[Q4 hd hm hk];exact Vg hd _
theorem Zp{D:Ad}{s:Bs}{k:Nat}(hd:D.down=false)(hm:Bg s=true)(hk:Ao D.now s=some k):∃a d,BD D s=({ D with arm:=a,down:=d },9)\/BD D s=({ D with arm:=a,down:=false,files:=D.files.set k ((AG D k).1,(AG D k).1.length),kept:=D.now,acts:= [] },0):=by
 unfold BD;rw[Q4 hd hm hk];exact Vg hd _
theorem Vh{D:Ad}{s b:Bs}(hd:D.down=false)(hm:Bg s=true)(hq:usedD D+b.length<=D.quota):∃a d,A3 D s b=({ D with arm:=a,down:=d },9)\/A3 D s b=(Cg { D with arm:=a,down:=false } s b,0):=by
 obtain⟨a,d,h1,h2⟩:=Vf D;refine⟨a,d,?_⟩;unfold A3;rw[if_neg (by rw[EF hd hm hm];exact fun q=>q rfl),if_neg (by omega)];by_cases q:(CI D).2=true
 ·rw[if_pos q,h1];exact .inl rfl
 ·rw[if_neg q,h1,h2 q hd];exact .inr rfl
theorem PG:∀(l:List Bs) {D:Ad},D.down=false->DOk D->l.Nodup->(∀s∈l,∃k,Ao D.now s=some k)->((dropsD D l).2=0\/(dropsD D l).2=9)/\DOk (dropsD D l).1/\(dropsD D l).1.kept=D.kept/\(dropsD D l).1.files=D.files/\∀a∈(dropsD D l).1.acts,a∈D.acts\/(a.to= []/\a.frm∈l)
 | [],D,_,h,_,_=>⟨.inl rfl,h,rfl,rfl,fun a q=> .inl q⟩
 | s :: r,D,hd,h,hn,hl=>by
  obtain⟨k,hk⟩:=hl s AfX;obtain⟨b,f⟩:=Ag8.1 hn;have hm:=(h.now.look hk).2;rw[FH];obtain⟨a,d,e | e⟩:=Zo hd hm hk
  ·rw[e,if_pos (show ¬(9:Nat)=0 by decide)];exact⟨.inr rfl,⟨h.now,h.kept,h.acts,h.syn⟩,rfl,rfl,fun a q=> .inl q⟩
  ·rw[e,if_neg (fun q=>q rfl)];have hE:DOk ({ D with arm:=a,down:=false } :Ad):=⟨h.now,h.kept,h.acts,h.syn⟩;have hT:DOk (turnedD ({ D with arm:=a,down:=false } :Ad) ⟨s,[],k⟩):=hE.turned ⟨(h.now.look hk).1,fun q=>absurd rfl q,(B1 hm).2⟩;obtain⟨q1,q2,q3,q4,q5⟩:=PG r (D:=turnedD ({ D with arm:=a,down:=false } :Ad) ⟨s,[],k⟩) rfl hT f fun t ht=>by
    obtain⟨j,hj⟩:=hl t (AfY _ ht);refine⟨j,?_⟩;show Ao (turnD D.now ⟨s,[],k⟩) t=_;rw[look_turn,if_pos (show([]:AlJ).length=0 from rfl),if_neg (fun(q:t=s)=>b (q▸ht))];exact hj
   refine⟨q1,q2,q3,q4,fun c hc=> ?_⟩;rcases q5 c hc with q | ⟨q,q'⟩
   ·rcases Afy.1 (show c∈D.acts++ [⟨s,[],k⟩]from q)with q | q
    ·exact .inl q
    ·rw[Afh.1 q];exact .inr ⟨rfl,AfX⟩
   ·exact .inr ⟨q,AfY _ q'⟩
theorem Q5{D:Ad}(hd:D.down=false)(h:DOk D)(L M:AQ):((lastV D L M).2.2.2=0\/(lastV D L M).2.2.2=9)/\DOk (lastV D L M).1/\(lastV D L M).1.kept=D.kept/\(lastV D L M).1.files=D.files/\∀a∈(lastV D L M).1.acts,a∈D.acts\/(a.to= []/\a.frm∈goneV D M):=by
 obtain⟨q1,q2⟩:=PG (goneV D M) hd h (L1 h M) fun s hs=>by
  have h1:=(F2.1 hs).1;rw[Mx hd]at h1;obtain⟨e,he,rfl⟩:=AfO.1 h1;exact⟨_,FV h.now.sort he⟩
 unfold lastV;split
 ·exact⟨q1,q2⟩
 ·exact⟨.inl rfl,q2⟩
section
variable {D E : Ad} {b : Bs} {o : List Bs} {f : Bs -> Bs}
theorem LoD.safeA(h:LoD D)(hv:∀id∈o,id.length=32/\getL D id=(f id,0))(hE:DOk E)(hk:E.kept=D.kept)(ha:∀x∈E.acts,x.frm= []/\x.to=Au b/\(AG E x.file).1=b)(hf:∀k,k<D.files.length->AG E k=AG D k):SafeV E b o f:=by
 refine⟨hE,fun s k q=> ?_, .inr fun id hid=> ?_⟩
 ·rcases q with q | ⟨a,q1,q2,q3⟩
  ·rw[hk,h.kept]at q;obtain⟨c,h1,h2,h3⟩:=h.file _ q;exact .inl ⟨_,Sha.sum_length c,h2⟩
  ·obtain⟨r1,r2,r3⟩:=ha a q1;obtain⟨g,i⟩:=AiP q3;exact .inr ⟨g.trans r2,by rw[i];exact r3⟩
 ·obtain⟨h32,hg⟩:=hv id hid;obtain⟨k,c,h1,h2,h3,h4,h5⟩:=h.get_zero h32 (by rw[hg]);have ec:c=f id:=by rw[hg]at h5;exact(AiP h5).1.symm
  refine⟨k,by rw[hk,h.kept];exact h1,fun a q=> ?_,by rw[hf k (h.ready.ok.now.look h1).1,h2,ec]⟩;obtain⟨r1,r2,-⟩:=ha a q;exact⟨fun e=>SE b id (r2.symm.trans e),fun e=>PC id (e.symm.trans r1)⟩
theorem LoD.safeB(h:LoD D)(hE:DOk E)(hk:E.kept=turnD D.now ⟨[],Au b,D.files.length⟩)(ha:∀x∈E.acts,x.to= []/\x.frm≠Au b)(hf:E.files=D.files++ [(b,b.length)]):SafeV E b o f:=by
 have hF:AG E D.files.length=(b,b.length):=by
  unfold AG;rw[hf,Ae6,AfR (Ae8 _),AgR];rfl
 refine⟨hE,fun s k q=> ?_, .inl ⟨_,?_,fun a q=>⟨?_,(ha a q).2⟩,hF⟩⟩
 ·rcases q with q | ⟨a,q1,q2,q3⟩
  ·rw[hk]at q;rcases G4 q with q | ⟨-,q⟩
   ·obtain⟨c,h1,h2,h3⟩:=h.file _ q;exact .inl ⟨_,Sha.sum_length c,h2⟩
   ·obtain⟨g,i⟩:=AiP q;exact .inr ⟨g,by rw[show k=D.files.length from i,hF]⟩
  ·rw[(ha a q1).1]at q2;exact absurd rfl q2
 ·have h0:=(B1 (J1 b)).1;rw[hk,look_turn,if_neg (show ¬(Au b).length=0 by omega),if_pos rfl]
 ·rw[(ha a q).1];exact fun e=>Z4 b e.symm
end
section
variable {D : Ad} {o : List Bs} {ch : List Int}
theorem LoD.noP(h:LoD D)(b:Bs):Ao D.now (Au b)=none:=by
 cases e:Ao D.now (Au b)with
 | none=>rfl
 | some k=>
  obtain⟨c,-,q,-⟩:=h.file _ (Db e);exact absurd q (SE b _)
theorem SL(h:LoD D)(a:Nat)(hq:usedD D+40000<=D.quota)(h60:o.length<=60)(hn:o.Nodup)(hv:GF D [] o)(r:Ad × AQ × List Bs × Nat)(hr:BG { D with arm:=a } [] o ch=r):
  (r.2.2.2=0\/r.2.2.2=9)/\∀l,((openV (crashD r.1 l)).length<=1/\∀e∈openV (crashD r.1 l),e.2.1.length<=60)/\∀id∈o,getV (crashD r.1 l) (openV (crashD r.1 l)) id=((getL D id).1,0)/\Kn (crashD r.1 l) (openV (crashD r.1 l)) id:=by
 have hD1:DOk ({ D with arm:=a } :Ad):=⟨h.ready.ok.now,h.ready.ok.kept,h.ready.ok.acts,h.ready.ok.syn⟩;have hpl:AK { D with arm:=a } [] o ch=AK D [] o ch:=rfl;by_cases hne:o= []
 ·subst hne;have hp:AK D [] [] ch=([],0):=by
   unfold AK;rw[if_neg (GG hv),if_pos rfl]
  rw[Hs (by rw[hpl,hp];exact fun q=>q rfl) (by rw[hpl,hp])]at hr;subst hr;obtain⟨q1,q2,q3,q4,q5⟩:=Q5 (D:= { D with arm:=a }) h.ready.down hD1 [] [];refine⟨q1,fun l=> ?_⟩;rw[Ve q2 (fun s k q=> ?_) l]
  ·exact⟨⟨AfC _,fun e he=>by cases he⟩,fun id hid=>by cases hid⟩
  ·rcases q with q | ⟨x,x1,x2,-⟩
   ·rw[q3]at q;have q:(s,k)∈D.kept:=q;rw[h.kept]at q;obtain⟨c,h1,h2,h3⟩:=h.file _ q;exact⟨_,Sha.sum_length c,h2⟩
   ·rcases q5 x x1 with y | ⟨y,-⟩
    ·have y:x∈D.acts:=y;rw[h.acts]at y;cases y
    ·rw[y]at x2;exact absurd rfl x2
 ·obtain⟨b,p,hp,hop,hbl,hids,hobj,-⟩:=Np (ch:=ch) hv h60 hn hne;have hsum:∀id∈o,Sha.sum (getL D id).1=id:=fun id hid=>(hv id hid).2.2;have hg:∀id∈o,id.length=32/\getL D id=((getL D id).1,0):=fun id hid=>⟨by rw[<-hsum id hid];exact Sha.sum_length _,Prod.ext rfl (hv id hid).1⟩;have fin:∀E:Ad,SafeV E b o (fun id=>(getL D id).1)->∀l,((openV (crashD E l)).length<=1/\∀e∈openV (crashD E l),e.2.1.length<=60)/\∀id∈o,getV (crashD E l) (openV (crashD E l)) id=((getL D id).1,0)/\Kn (crashD E l) (openV (crashD E l)) id:=fun E hE l=>⟨⟨hE.one l,fun e he=>by rw[hE.packs hop l e he,plan_ids hv h60 hn hne hp hop];exact h60⟩,hE.get hop hids hobj hsum l⟩;have hm:=J1 b;have hl:=h.noP b;rw[IE (p:=p) (by rw[hpl,hp];exact fun q=>q rfl) (by rw[hpl,hp]) hop]at hr;have hw:AJ { D with arm:=a } b=FI { D with arm:=a } b:=by
   have hrd:Ar { D with arm:=a } (Au b)=([],4):=Gj (D:= { D with arm:=a }) h.ready.down hm hl;rw[FK (by rw[hrd];exact fun q=>by cases q),hrd];exact if_neg fun q=>q.2 rfl
  rw[hw]at hr;unfold FI at hr;obtain⟨a1,d1,g | g⟩:=Vh (D:= { D with arm:=a }) (s:=Au b) (b:=b) h.ready.down hm (show usedD D+b.length<=D.quota by omega)
  ·rw[g,if_pos (show ¬(9:Nat)=0 by decide),Hu (show ¬(9:Nat)=8 by decide) (show ¬(9:Nat)=7 by decide) (show(9:Nat)≠0 by decide)]at hr;subst hr;have hE:DOk ({ D with arm:=a1,down:=d1 } :Ad):=⟨h.ready.ok.now,h.ready.ok.kept,h.ready.ok.acts,h.ready.ok.syn⟩;exact⟨.inr rfl,fin _ (h.safeA hg hE rfl (fun x q=>by rw[show({ D with arm:=a1,down:=d1 } :Ad).acts= []from h.acts]at q;cases q) fun k _=>rfl)⟩
  ·rw[g,if_neg (fun q=>q rfl)]at hr;have hD2:DOk ({ D with arm:=a1,down:=false } :Ad):=⟨h.ready.ok.now,h.ready.ok.kept,h.ready.ok.acts,h.ready.ok.syn⟩;have hA:=hD2.add (s:=Au b) b hm;obtain⟨l1,l2⟩:=KY (D:= { D with arm:=a1,down:=false }) (b:=b) hm hl;have eA:Cg { D with arm:=a1,down:=false } (Au b) b = { turnedD { D with arm:=a1,down:=false } ⟨[],Au b,D.files.length⟩with files:=D.files++ [(b,0)] } :=KX hl;rw[eA]at hA l1 l2 hr;obtain⟨a2,d2,f | f⟩:=Zp (D:= { turnedD { D with arm:=a1,down:=false } ⟨[],Au b,D.files.length⟩with files:=D.files++ [(b,0)] }) rfl hm l1
   ·rw[f,Hu (show ¬(9:Nat)=8 by decide) (show ¬(9:Nat)=7 by decide) (show(9:Nat)≠0 by decide)]at hr;subst hr;have hE:DOk ({ turnedD { D with arm:=a1,down:=false } ⟨[],Au b,D.files.length⟩with files:=D.files++ [(b,0)],arm:=a2,down:=d2 } :Ad):=⟨hA.now,hA.kept,hA.acts,hA.syn⟩;refine⟨.inr rfl,fin _ (h.safeA hg hE rfl (fun x q=> ?_) fun k hk=> ?_)⟩
    ·rcases Afy.1 (show x∈D.acts++ [⟨[],Au b,D.files.length⟩]from q)with q | q
     ·rw[h.acts]at q;cases q
     ·rw[Afh.1 q];exact⟨rfl,rfl,by show((D.files++ [(b,0)]).getD D.files.length ([],0)).1=b;rw[Ae6,AfR (Ae8 _),AgR];rfl⟩
    ·show(D.files++ [(b,0)]).getD k ([],0)=D.files.getD k ([],0);rw[Ae6,AfW hk,<-Ae6]
   ·have hS:=hA.synced D.files.length;rw[l2]at f hS;rw[f]at hr;have eF:(D.files++ [(b,0)]).set D.files.length (b,b.length)=D.files++ [(b,b.length)]:=PA;have i:lastV { turnedD { D with arm:=a1,down:=false } ⟨[],Au b,D.files.length⟩with files:=(D.files++ [(b,0)]).set D.files.length (b,b.length),arm:=a2,down:=false,kept:=turnD D.now ⟨[],Au b,D.files.length⟩,acts:= [] } [] [(Au b,p)]=r:=hr;obtain⟨q1,q2,q3,q4,q5⟩:=Q5 (D:= { turnedD { D with arm:=a1,down:=false } ⟨[],Au b,D.files.length⟩with files:=(D.files++ [(b,0)]).set D.files.length (b,b.length),arm:=a2,down:=false,kept:=turnD D.now ⟨[],Au b,D.files.length⟩,acts:= [] }) rfl ⟨hS.now,hS.kept,hS.acts,hS.syn⟩ [] [(Au b,p)];rw[i]at q1 q2 q3 q4 q5;refine⟨q1,fin _ (h.safeB q2 q3 (fun x q=> ?_) (q4.trans eF))⟩;rcases q5 x q with q | ⟨q,q'⟩
    ·cases q
    ·refine⟨q,fun e=> ?_⟩;rw[e]at q';rcases(F2.1 q').2 with ⟨-,s2⟩ | s1
     ·rw[List.lookup_cons,beq_self_eq_true]at s2;cases s2
     ·rw[Aav]at s1;cases s1
end
theorem Xs{D:Ad}(h:LoD D){b c:Bs}(hb:b.length<=200)(hc:getL D (Sha.sum b)=(c,0))(hne:c≠b)(h0:(BZ D b).2.2.2=0):False:=by
 obtain⟨k,c2,p1,p2,p3,p4,p5⟩:=h.get_zero (Sha.sum_length b) (by rw[hc]);rw[hc]at p5;have hcc:c=c2:=(AiP p5).1;have hr:Ar D (nmO (Sha.sum b))=(c,0):=by rw[GK h.ready.down (H9 (Sha.sum_length b)) p1,p2,hcc]
 unfold BZ at h0;rw[hr,if_neg (show ¬(0:Nat)=4 by decide),if_neg (show ¬(0:Nat)≠0 from fun q=>q rfl),if_neg hne,if_pos (by rw[hcc];exact p3)]at h0;cases h0
structure KpS (all : List Bs) (D : Ad) (acc : List Bs) (i : Nat) : Prop where
 lo:LoD D
 bd:DBd (3*i) D
 quota:D.quota=4194304
 acc_:acc=(all.take i).map Sha.sum
 have_:∀k,k<i->getL D (Sha.sum (all.getD k []))=(all.getD k [],0)
 ids:∀x:Bs,x.length=32->(getL D x).2=0->∃k,k<i/\x=Sha.sum (all.getD k [])
theorem Adz(all:List Bs):KpS all (En 4194304) [] 0:=⟨LoD.new _,DBd.new (by decide),rfl,rfl,(fun k h=>absurd h (Age _)),fun x h1 h2=>by rw[F0 rfl h1 rfl]at h2;cases h2⟩
section
variable {all acc : List Bs} {D : Ad} {i : Nat}
theorem KpS.len(h:KpS all D acc i):acc.length<=i:=by
 rw[h.acc_,Afu,Afi];omega
theorem KpS.get(h:KpS all D acc i)(hi:i<=all.length){k:Nat}(hk:k<i):acc.length=i/\acc.getD k []=Sha.sum (all.getD k []):=by
 have hl:acc.length=i:=by rw[h.acc_,Afu,Afi];omega
 refine⟨hl,?_⟩;rw[Ae6,h.acc_,Agw,List.getElem?_take_of_lt hk,Afb (show k<all.length by omega),EO ([]:Bs) (show k<all.length by omega)];rfl
theorem KpS.acc_mem(h:KpS all D acc i)(hi:i<=all.length){y:Bs}(hy:y∈acc):∃k,k<i/\y=Sha.sum (all.getD k []):=by
 obtain⟨k,hk,e⟩:=List.getElem_of_mem hy;have hl:=h.len;have h2:=(h.get hi (show k<i by omega)).2;rw[EO _ hk,e]at h2;exact⟨k,by omega,h2⟩
theorem KpS.put(h:KpS all D acc i)(hi:i<all.length)(h20:all.length<=20)(hb:(all.getD i []).length<=200){r:Ad × Bs × Bs × Nat}(hr:DP D [] (all.getD i [])=r):(r.2.2.2=0->KpS all r.1 (acc++ [r.2.1]) (i+1))/\(¬r.2.2.2=0->r.2.2.2=7/\U9 all):=by
 rw[putV_nil _ (by omega)]at hr;have hbd:DBd (3*(i+1)) r.1:=by
  rw[<-hr];exact(h.bd.putL (by omega)).mono (by omega)
 have hu:usedD D<=3*i*(300*(3*i)):=h.bd.used;have b:3*i*(300*(3*i))<=60*(300*60):=Nat.mul_le_mul (by omega) (by omega);have hs:=Sha.sum_length (all.getD i []);rcases h.lo.put hb with ⟨c,q1,q2,q3⟩ | ⟨q1,q2⟩ | ⟨D',q1,q2,q3,q4,q5,q6⟩
 ·rw[q1]at hr;subst hr;refine⟨fun e=>(by cases e),fun _=>⟨rfl,?_⟩⟩;obtain⟨k,hk,ek⟩:=h.ids _ hs (by rw[q2]);have h3:=h.have_ k hk;rw[<-ek,q2]at h3;exact⟨i,k,hi,hk,ek,fun e=>q3 ((AiP h3).1.trans e.symm)⟩
 ·rw[h.quota]at q2;omega
 ·rw[q1]at hr;subst hr;refine⟨fun _=>⟨q2,hbd,q4.trans h.quota,?_,fun k hk=> ?_,fun x h1 h2=> ?_⟩,fun e=>absurd rfl e⟩
  ·show acc++ [Sha.sum (all.getD i [])]=_;rw[LT ([]:Bs) hi,List.map_append,<-h.acc_];rfl
  ·show getL D' (Sha.sum (all.getD k []))=_;by_cases e:Sha.sum (all.getD k [])=Sha.sum (all.getD i [])
   ·by_cases a:k=i
    ·subst a;exact q5
    ·have h3:=h.have_ k (by omega);rcases Classical.em ((getL D (Sha.sum (all.getD i []))).1=all.getD i [])with h4 | h4
     ·rw[e]at h3;rw[h3]at h4;have h4:all.getD k []=all.getD i []:=h4;rw[h4];exact q5
     ·exfalso;rw[e]at h3;obtain⟨k2,c,-,-,p3,p4,p5⟩:=h.lo.get_zero hs (by rw[h3]);exact Xs h.lo hb h3 (fun q=>h4 (by rw[h3];exact q)) (congrArg (fun x:Ad × Bs × Bs × Nat=>x.2.2.2) q1)
   ·rw[q6 _ (Sha.sum_length _) e];refine h.have_ k ?_;have:k≠i:=fun q=>e (by rw[q]);omega
  ·by_cases e:x=Sha.sum (all.getD i [])
   ·exact⟨i,by omega,e⟩
   ·rw[show getL (D',Sha.sum (all.getD i []),([]:Bs),0).1 x=getL D x from q6 x h1 e]at h2;obtain⟨k,hk,ek⟩:=h.ids x h1 h2;exact⟨k,by omega,ek⟩
def KpR(all:List Bs)(i:Nat)(ids:List Bs)(r:Ad × AQ × List Bs × Nat):Prop:=(r.2.2.2=0\/r.2.2.2=9)/\DBd 1000 r.1/\∀l,((openV (crashD r.1 l)).length<=1/\∀e∈openV (crashD r.1 l),e.2.1.length<=60)/\(∀y∈ids,Kn (crashD r.1 l) (openV (crashD r.1 l)) y)/\∀k,k<i->Sha.sum (all.getD k [])∈ids->getV (crashD r.1 l) (openV (crashD r.1 l)) (Sha.sum (all.getD k []))=(all.getD k [],0)
theorem KpS.arm(h:KpS all D acc i)(hi:i<=all.length)(h20:all.length<=20)(hall:∀b∈all,b.length<=200){a:Nat}(ha:a<=9223372036854775807){E:Ad}(hE:E = { D with arm:=a }):
  DBd 60 E/\(∀y∈acc,y.length=32/\(getV E [] y).1.length<=200)/\∀ids ch,(∀y∈ids,y∈acc)->∀o,Dr o->(∀x,x∈o↔x∈ids)->KpR all i ids (BG E [] o ch):=by
 subst hE;have hb:DBd (3*i) { D with arm:=a } :=⟨h.bd.quota,h.bd.refused,ha,h.bd.acts,h.bd.now,h.bd.files⟩;have c:=hb.mono (show 3*i<=60 by omega);have hh:∀y∈acc,y.length=32/\(getL D y).2=0/\(getL D y).1.length<=200/\Sha.sum (getL D y).1=y:=fun y hy=>by
  obtain⟨k,hk,rfl⟩:=h.acc_mem hi hy;rw[h.have_ k hk];exact⟨Sha.sum_length _,rfl,hall _ (getD_mem _ (by omega)),rfl⟩
 refine⟨c,fun y hy=>⟨(hh y hy).1,(hh y hy).2.2.1⟩,fun ids ch hsub o hS hM=> ?_⟩;have ho:∀x∈o,x∈acc:=fun x hx=>hsub x ((hM x).1 hx);have hn:=L3 hS;have hl:=Hv hn ho;have e:=h.len;have hv:GF D [] o:=fun x hx=>(hh x (ho x hx)).2;have hu:usedD D<=60*(300*60):=(h.bd.mono (show 3*i<=60 by omega)).used;have hq:usedD D+40000<=D.quota:=by rw[h.quota];omega
 obtain⟨k1,k2⟩:=SL (ch:=ch) h.lo a hq (by omega) hn hv _ rfl;refine⟨k1,(c.kept (L:= []) (o:=o) (ch:=ch) fun h0=>Ht (fun _=>FM (D:= { D with arm:=a }) hv (by omega)) h0).mono (by omega),fun l=>⟨(k2 l).1,fun y hy=>((k2 l).2 y ((hM y).2 hy)).2,fun k hk hm=> ?_⟩⟩;have:=((k2 l).2 _ ((hM _).2 hm)).1;rw[h.have_ k hk]at this;exact this
end
theorem minK_pl123:Plain Ae5 123:=fun _ _=>by kernel_rfl
theorem Vi:∀(cs:Array Ae2),cs.size=32->∀w:Ae3,(AfM 42 1 #[(0, .agg cs)]).run Ae5 w = .ok (.slice (some ⟨w.heap.size,0,none⟩) 1 1) (w.alloc (.cells cs 33))
 | ⟨[c0,c1,c2,c3,c4,c5,c6,c7,c8,c9,c10,c11,c12,c13,c14,c15,c16,c17,c18,c19,c20,c21,c22,c23,c24,c25,c26,c27,c28,c29,c30,c31]⟩,_,w=>VB c0 c1 c2 c3 c4 c5 c6 c7 c8 c9 c10 c11 c12 c13 c14 c15 c16 c17 c18 c19 c20 c21 c22 c23 c24 c25 c26 c27 c28 c29 c30 c31 w
theorem Vj:Plain Ae5 73:=fun _ _=>by kernel_rfl
theorem SM(w:Ae3)(v:Ae2)(l:List Bs)(hr:RG 32 Ae4 w v l)(hl:l.length<=100000)(hS:Dr l)(x:Bs)(hxl:x.length=32):
  Calls Ae5 123 #[v,AB x] w fun e w' =>∃p:Nat,e = .returned (.tuple #[NI p, .bool (decide (x∈l))])/\Ext w w' :=by
 refine gG (args:= [v,AB x]) Tryz.func123 rfl 38 rfl rfl ?_;have hE:=Ad4 w;refine gS (Ael (vr (AB x) rfl) fun m z ac q aa ad=> ?_);have c:=q;clear q;have ae:m<z.heap.size:=by omega
 have hE:=hE.trans aa;refine gS (AaW Oi (AaD (hr.keep hE) rfl) (gL (fun(ρ:Ae) (wz:Ae3)=>∃lo:Nat,∃hi:Nat,ρ 0=(v:Ae2)/\ρ 1=(AB x:Ae2)/\ρ 3=(PQ m 0:Ae2)/\ρ 6=(NI lo:Ae2)/\ρ 7=(NI hi:Ae2)/\Ext w wz/\wz.heap[m]? =some (.cells (Ae4 x).toArray 33 (0,0))/\(lo<=hi)/\(hi<=l.length)/\(∀j,j<lo->Aft (l.getD j []) x<0)/\(∀j,hi<=j->j<l.length->0<Aft (l.getD j []) x)/\True) (fun ρ _=>(intOf (ρ 7)).toNat-(intOf (ρ 6)).toNat) ⟨0,l.length,rfl,rfl,rfl,rfl,rfl,hE,c,AfC _,Ae8 _,fun j hj=>absurd hj (Age _),(fun j h1 h2=>by omega),trivial⟩ ?_));clear hE c;rintro g af ⟨lo,hi,n,r,o,f,i,hE,c,h1,h2,hlo,hhi,-⟩;have q7:=i;have q6:=f;refine gS (Aay (a:=(lo:Nat)) (b:=(hi:Nat)) f i (AE _ _ _ _) ?_);refine cD rfl (fun s=> ?_) fun s=> ?_
 ·have hlt:lo<hi:=s;have hmid:lo+(hi-lo)/2<l.length:=by omega
  have hyl:(l.getD (lo+(hi-lo)/2) []).length=32:=Ay ((hr.keep hE).1 _ (getD_mem [] hmid));refine gS (Aaz (xv:=NI hi) (yv:=NI lo) i f rfl (BL _ _ _ (by omega) (by omega)) (gS (Aaz (xv:=NI ((hi)-(lo))) (yv:=NI 2) rfl rfl rfl (JR _ _ _ (by omega) (by omega)) (gS (Aaz (xv:=NI lo) (yv:=NI (((hi)-(lo))/(2))) f rfl rfl (Ah _ _ _ (by omega)) (Co [0,1,2,3,4,5,6] [5] [] fun ag t=> ?_))))));have hE:=hE.trans t;have ab:(Ae4 (l.getD ((lo)+(((hi)-(lo))/(2))) ([]:AlJ))).length=32:=(Aec (hr.keep hE) ([]:AlJ) (by omega));have c:=eb t c;refine yA (AaZ Oi Td (by decide) ([]:AlJ) (AaD (hr.keep hE) n) rfl (by omega) fun ah k=>(ys (Aa4 (Aa6 k rfl) XM rfl (by rw[ab];exact SY) zz) (ys (AaC o c XM rfl (by exact Ac hxl) zz) (yC (AaA Tf rfl rfl ((F6 _ (l.getD ((lo)+(((hi)-(lo))/(2))) ([]:AlJ)) x hyl hxl).mono ?_))))));rintro e ai ⟨rfl,h⟩;refine⟨_,rfl,?_⟩;have k:=Aej k h;clear k;refine gS (Aay rfl rfl (XH _ .i64 (Aft (l.getD ((lo)+(((hi)-(lo))/(2))) ([]:AlJ)) x:Int) ((0:Nat):Int)) ?_);refine cD rfl (fun u=> ?_) fun u=> ?_
  ·refine BI rfl (vr (NI ((lo)+(((hi)-(lo))/(2)))) rfl) (vr (.bool (true)) rfl) ?_;have hmem:x∈l:=by rw[<-FR u];exact getD_mem [] hmid
   have hE:=hE.trans h;exact⟨_,by rw[decide_eq_true hmem],hE⟩
  refine gS (Aay rfl rfl (F4 _ .i64 (Aft (l.getD ((lo)+(((hi)-(lo))/(2))) ([]:AlJ)) x:Int) ((0:Nat):Int)) ?_);refine cD rfl (fun y=> ?_) fun y=> ?_
  ·have hE:=hE.trans h;have c:=eb h c;refine gS (Aaz (xv:=NI ((lo)+(((hi)-(lo))/(2)))) (yv:=NI 1) rfl rfl rfl (Ah _ _ _ (by omega)) (gK (AfF ⟨lo+(hi-lo)/2+1,hi,n,r,o,rfl,i,hE,c,by omega,by omega,Ws hS hmid y,hhi,trivial⟩ ?_)));show(intOf (g 7)).toNat-(intOf (NI (((lo)+(((hi)-(lo))/(2)))+(1)))).toNat<(intOf (g 7)).toNat-(intOf (g 6)).toNat;rw[i,q6];simp only[intOf,Afg];omega
  have hE:=hE.trans h;have c:=eb h c;refine gK (AfF ⟨lo,lo+(hi-lo)/2,n,r,o,f,rfl,hE,c,by omega,by omega,hlo,Wt hS (by omega),trivial⟩ ?_);show(intOf (NI ((lo)+(((hi)-(lo))/(2))))).toNat-(intOf (g 6)).toNat<(intOf (g 7)).toNat-(intOf (g 6)).toNat;rw[f,q7];simp only[intOf,Afg];omega
 refine BI rfl f (vr (.bool (false)) rfl) ?_;have hno:x∉l:=Wu (p:=lo) hlo (fun j hj hl=>hhi j (by omega) hl);exact⟨_,by rw[decide_eq_false hno],hE⟩
theorem Xt(w:Ae3)(v p:Ae2)(a b:List Bs)(hr:RG 32 Ae4 w v a)(aq:RG 32 Ae4 w p b)(ha:a.length<=100000)(hb:b.length<=100000)(q:Bool):
  Calls Ae5 73 #[v,p, .bool q] w fun e w' =>∃v' o,e = .returned v' /\OG w.heap.size 33 32 Ae4 w' v' o/\Dr o/\(∀x,x∈o↔x∈a/\(decide (x∈b)==q)=true)/\o.length<=a.length/\Ext w w' :=by
 refine gG (args:= [v,p, .bool (q)]) Tryz.func73 rfl 36 rfl rfl ?_;have hE:=Ad4 w;refine gS (AaE WC rfl ((H7 _ p b aq hb).mono ?_));rintro e w6 ⟨v3,B,rfl,l,hSB,hmB,hlB,ad⟩;refine⟨_,rfl,?_⟩;have l:=AaR l;have hr:=hr.keep ad;refine gS (AaE WC rfl ((H7 _ v a hr ha).mono ?_));rintro e h ⟨ar,A,rfl,j,hSA,hmA,hlA,ae⟩;refine⟨_,rfl,?_⟩;have j:=AaR j;refine gS (AaW Oi (AaD j rfl) ?_);have c:=Ad4 h;have hZ1:=ad.trans ae;have hE:=hE.trans hZ1;have af:=hE.size;have hrow0:OG h.heap.size 33 32 Ae4 h (Afc none 0 0) ([]:List Bs):=Aem _ _ _ _ _;refine gL (fun(ρ:Ae) (wz:Ae3)=>∃i:Nat,∃vo:Ae2,ρ 0=(v:Ae2)/\ρ 1=(v3:Ae2)/\ρ 2=(.bool (q):Ae2)/\ρ 6=((Afc none 0 0):Ae2)/\ρ 15=(ar:Ae2)/\ρ 16=(NI A.length:Ae2)/\ρ 17=(NI i:Ae2)/\ρ 7=(vo:Ae2)/\Ext w wz/\Ext h wz/\OG h.heap.size 33 32 (Ae4) wz vo (F7 (A.take i) B q)/\(i<=A.length)/\True) (fun ρ _=>A.length-(intOf (ρ 17)).toNat) ⟨0,(Afc none 0 0),rfl,rfl,rfl,rfl,rfl,rfl,rfl,rfl,hE,c,Bd hrow0 (rfl),AfC _,trivial⟩ ?_;clear hrow0;clear hE;rintro ag au ⟨i,vo,T0,t,u,T6,y,z,m,r,hE,c,hr_vo,hi,-⟩;have q17:=m;refine gS (Aay (a:=(i:Nat)) (b:=(A.length:Nat)) m z (AE _ _ _ _) ?_);refine cD rfl (fun aj=> ?_) fun aj=> ?_
 ·have hlt:i<A.length:=aj;have hxl:(A.getD i []).length=32:=Ay ((j.keep c).1 _ (getD_mem [] hlt));have hpl:(F7 (A.take i) B q).length<=i:=by unfold F7;exact Ae7 (AgM _ _) (by rw[Afi];omega)
  have k:(Ae4 (A.getD (i) ([]:AlJ))).length=32:=(Aec (j.keep c) ([]:AlJ) (by omega));refine gS (AaZ Oi Td (by decide) ([]:AlJ) (AaD (j.keep c) y) m (by omega) fun a4 ak=>(gS (Aa4 (Aa6 ak rfl) XM rfl (by rw[k];exact SY) (gS (Ad9 VA fun aa av a5 al aw a6=> ?_)))));have f:=Ad4 au;have a7:=hE.size;have a8:=c.size;have ax:OB vo aa:=A4 hr_vo.2 (by omega);have g:=al;clear al;have a9:aa<av.heap.size:=by omega
  refine gS (AaB (vr (PQ aa 0) rfl) (vr (AB (A.getD (i) ([]:AlJ))) rfl) g (by exact Bp (Ay (k)) Afp) (by exact Ac (Ay (k))) (Ag _) fun ba am ay bb=> ?_);clear g;have g:=am;clear am;have bc:=bl g;clear ak;have l:=l.keep ae;have f:=f.trans aw;have f:=Ab f ay (Ae7 (Ae8 _) (by omega));have c:=c.trans f;refine gS (AaC rfl g XM rfl (by exact Ac (Ay (k))) (gS (AaA minK_pl123 t rfl ((SM _ v3 B (l.keep c) (by omega) hSB (A.getD i []) hxl).mono ?_))));rintro e bd ⟨pp,rfl,s⟩;refine⟨_,rfl,?_⟩;refine gS (Ad5 (vs:= [NI pp, .bool (decide (A.getD i []∈B))]) rfl rfl (gS (Ad5 (vs:= [NI pp, .bool (decide (A.getD i []∈B))]) rfl rfl (gS (Adk KD rfl u ?_)))));refine cB (decide (A.getD i []∈B)==q) rfl (fun ab=> ?_) fun ab=> ?_
  ·have hq:=ab;have g:=eb s g;refine gS (AaC rfl g XM rfl (by exact Ac (Ay (k))) (gS (Abg (a:=(A.getD (i) ([]:AlJ))) (enc:=Ae4) (vr (AB (A.getD (i) ([]:AlJ))) rfl) (by rw[Afl];exact(Ay (k))) Vi fun az a0 an ao=> ?_)));have hZ2:=s.trans ao;have f:=f.trans hZ2;have hr_vo:=hr_vo.keep f;have c:=c.trans hZ2;refine gS (Aa2 _ _ h.heap.size _ 32 Oi pk6_ig33.choose_spec.1 pk6_ig33.choose_spec.2 Oi (F7 (A.take i) B q) ([(A.getD (i) ([]:AlJ))]) (Aen hr_vo r) (AaD an (vr az rfl)) (fun _ _=>Ag _) (by simp only[AfA,AfK];omega) (by simp only[AfA,AfK];omega) c.size fun ap a1 a2 n=> ?_);have n:Grew a0 a1 vo ap:= .eqv r n;have g:=eb ao g;have hE:=hE.trans f;have hE:=As hE n hr_vo.2 af;have c:=As c n hr_vo.2 (Ae8 _);have g:=Aq g n ax;clear an;clear hr_vo;refine gS (Aaz (xv:=NI i) (yv:=NI 1) m rfl rfl (Ah _ _ _ (by omega)) (gK (AfF ⟨i+1,ap,T0,t,u,T6,y,z,rfl,rfl,hE,c,Bd a2 (by rw[Nb hlt,if_pos hq]),by omega,trivial⟩ ?_)));show A.length-(intOf (NI ((i)+(1)))).toNat<A.length-(intOf (ag 17)).toNat;rw[q17];simp only[intOf,Afg];omega
  have hq:¬(decide (A.getD i []∈B)==q)=true:=by rw[ab];decide
  have f:=f.trans s;have hE:=hE.trans f;have hr_vo:=hr_vo.keep f;have c:=c.trans s;refine gS (Aaz (xv:=NI i) (yv:=NI 1) m rfl rfl (Ah _ _ _ (by omega)) (gK (AfF ⟨i+1,vo,T0,t,u,T6,y,z,rfl,r,hE,c,Bd hr_vo (by rw[Nb hlt,if_neg hq,AgG]),by omega,trivial⟩ ?_)));show A.length-(intOf (NI ((i)+(1)))).toNat<A.length-(intOf (ag 17)).toNat;rw[q17];simp only[intOf,Afg];omega
 refine A8 rfl r ?_;have hie:i=A.length:=by omega
 subst hie;exact⟨_,_,rfl,AeR hr_vo (by have:=af;omega),UI (by rw[Af8];exact hSA),fun x=>by unfold F7;rw[Af8,Agr,hmA,show decide (x∈B)=decide (x∈b)from decide_eq_decide.2 (hmB x)],by rw[Af8];unfold F7;exact Ae7 (AgM _ _) hlA,hE⟩
theorem Vk(w:Ae3)(v c:Ae2)(a b:List Bs)(hr:RG 32 Ae4 w v a)(f:RG 32 Ae4 w c b)(ha:a.length<=100000)(hb:b.length<=100000):
  Calls Ae5 39 #[v,c] w fun e w' =>∃v' o,e = .returned v' /\OG w.heap.size 33 32 Ae4 w' v' o/\Dr o/\(∀x,x∈o↔x∈a/\x∉b)/\o.length<=a.length/\Ext w w' :=by
 refine gG (args:= [v,c]) Tryz.func39 rfl 8 rfl rfl ?_;have hE:=Ad4 w;refine gS (Aa9 Vj rfl rfl rfl ((Xt _ v c a b hr f ha hb false).mono ?_));rintro e j ⟨g,o,rfl,h,hS,hm,hl,i⟩;refine⟨_,rfl,?_⟩;refine A8 rfl (vr g rfl) ?_;have hE:=hE.trans i;exact⟨_,o,rfl,h,hS,fun x=>by rw[hm];simp,hl,hE⟩
theorem Zq{D:Ad}{o:List Bs}(hS:Dr o)(hM:∀x,x∈o↔Kn D (openV D) x)(hB:DBd 1000 D)(h1:(openV D).length<=1/\∀e∈openV D,e.2.1.length<=60):o.length<=100000:=by
 have h2:=Q3 hB;have h3:=Hv (m:=Gp D++(openV D).flatMap fun e=>e.2.1) (L3 hS) fun x hx=>by
  rcases(hM x).1 hx with q | ⟨e,he,q⟩
  ·exact List.mem_append_left _ q
  ·exact List.mem_append_right _ (List.mem_flatMap.2 ⟨e,he,q⟩)
 rw[Ae9]at h3;have h4:((openV D).flatMap fun e=>e.2.1).length<=60:=by
  match hL:openV D with
  | []=>exact AfC _
  | [e]=>
   rw[hL]at h1;rw[Af3,List.flatMap_nil,AgG];exact h1.2 e AfX
  | e :: a :: r=>
   rw[hL]at h1;have:=h1.1;rw[AfA,AfA]at this;omega
 omega
theorem Xu:∃fs,Tryz.prog.underlying 48=some (.struct fs):=Fg (by kernel_rfl)
theorem Vl:(Tryz.prog.info? 48).map (·.size)=some 5:=by kernel_rfl
theorem Xv:StT Ae5 48 vkpC:=⟨⟨_,(Xu).choose_spec⟩,fun x=>ZM (Zl x) Vl⟩
theorem Xw:Plain Ae5 20:=fun _ _=>by kernel_rfl
theorem Xx:Plain Ae5 22:=fun _ _=>by kernel_rfl
theorem Xy:∀(cs:Array Ae2),cs.size=32->∀w:Ae3,(AfM 42 1 #[(0, .agg cs)]).run Ae5 w = .ok (.slice (some ⟨w.heap.size,0,none⟩) 1 1) (w.alloc (.cells cs 33))
 | ⟨[c0,c1,c2,c3,c4,c5,c6,c7,c8,c9,c10,c11,c12,c13,c14,c15,c16,c17,c18,c19,c20,c21,c22,c23,c24,c25,c26,c27,c28,c29,c30,c31]⟩,_,w=>VB c0 c1 c2 c3 c4 c5 c6 c7 c8 c9 c10 c11 c12 c13 c14 c15 c16 c17 c18 c19 c20 c21 c22 c23 c24 c25 c26 c27 c28 c29 c30 c31 w
theorem Xz:Plain Ae5 24:=fun _ _=>by kernel_rfl
theorem SN:AZ Ae5 48 3 3:=fun b o w=>by simp[go_sem]
theorem XA:Plain Ae5 37:=fun _ _=>by kernel_rfl
theorem XB:Plain Ae5 38:=fun _ _=>by kernel_rfl
theorem PH:Plain Ae5 28:=fun _ _=>by kernel_rfl
theorem XC:Plain Ae5 12:=fun _ _=>by kernel_rfl
theorem XD:Plain Ae5 18:=fun _ _=>by kernel_rfl
theorem XE:Plain Ae5 39:=fun _ _=>by kernel_rfl
theorem XF:Plain Ae5 26:=fun _ _=>by kernel_rfl
theorem My(w:Ae3)(hG:Laid w)(x:FO)(hx:VkpAt w x):
  Calls Ae5 8 #[.agg (vkpC x).toArray] w fun e w' =>e = .returned (.bool true)/\Ext w w' :=by
 have hone:=Q0 (x:=x) (Q2 hx.all) (AeK hx.take).2 (AeK hx.choices).2 (AeK hx.fates).2;obtain⟨vs,hvl,hal,hrb⟩:=hx.all.rgK;have htk:=hx.take;have hch:=hx.choices;have hft:=hx.fates;refine gG (args:= [.agg (vkpC x).toArray]) Tryz.func8 rfl 150 rfl rfl ?_;have hE:=Ad4 w;refine gS (Ael (vr (.agg (vkpC x).toArray) rfl) fun n w3 cw bj ca cx=> ?_);have c:=bj;clear bj;have cy:n<w3.heap.size:=by omega
 have hE:=hE.trans ca;refine gS (Adn Xv rfl c (gS (AaE Xw rfl ((Va _ x (hx.keep hE)).mono ?_))));rintro e cz ⟨rfl,a6⟩;refine⟨_,rfl,?_⟩;refine gS (Abl rfl ?_);refine cB (!(Eg x.1)) rfl (fun bk=> ?_) fun bk=> ?_
 ·refine A8 rfl (vr (.bool (true)) rfl) ?_;have hE:=hE.trans a6;exact⟨rfl,hE⟩
 have hsk:=L2 (show Eg x.1=true by simpa using bk);have hE:=hE.trans a6;refine gS (AaE W7 rfl ((XR w _ hE 4194304 (by decide)).mono ?_));rintro e ae ⟨g1,H1,rfl,hD,bm⟩;refine⟨_,rfl,?_⟩;have hDc:=hD;refine gS (AaE W8 rfl ((Mu w _ g1 H1 (En 4194304) hDc hG ((DBd.new (by decide)).lt (by omega):De (En 4194304)) (by show 0<=100000;decide) rfl).mono ?_));rintro e bn ⟨gv,rfl,hVS_,bo⟩;refine⟨_,rfl,?_⟩;have hV:=hVS_;refine gS (Ad5 (vs:= [PQ gv 0,NI 0]) rfl rfl (gS (Ad5 (vs:= [PQ gv 0,NI 0]) rfl rfl (gS (Aay (a:=(0:Nat)) (b:=(0:Nat)) rfl rfl (AV _ _ _ _) (kF (fun h=>h rfl) (cF rfl ?_)))))));have hV:VtS w ae.heap.size g1 gv bn H1 (En 4194304) []:=hV;have hE:=hE.trans (bm.trans bo);have hszv_:=(hE).size;refine AgN (⟨_,rfl⟩:∃v:Ae2,(Afc none 0 0)=v) fun nv6 hnv6=> ?_;have hrow6:OG w.heap.size 33 32 Ae4 bn nv6 ([]:List AlJ):=hnv6▸Aem _ _ _ _ _;have cb:OB nv6 n:=fun e_=>by rw[<-hnv6]at e_;cases e_
 have c:=eb ((a6.trans bm).trans bo) c;refine gL (fun(ρ:Ae) (wz:Ae3)=>∃i:Nat,∃Hi:Dk,∃Di:Ad,∃acc:List Bs,∃r6:Ae2,ρ 0=(.agg (vkpC x).toArray:Ae2)/\ρ 1=(PQ n 0:Ae2)/\ρ 3=(PQ g1 0:Ae2)/\ρ 4=(PQ gv 0:Ae2)/\ρ 5=(NI 0:Ae2)/\ρ 29=(.bool (false):Ae2)/\ρ 7=(NI i:Ae2)/\ρ 6=(r6:Ae2)/\Ext w wz/\wz.heap[n]? =some (.cells (vkpC x).toArray 48 (0,0))/\VtS w ae.heap.size g1 gv wz Hi Di []/\OG w.heap.size 33 32 (Ae4) wz r6 (acc)/\(i<=x.1.all.length)/\(KpS x.1.all Di acc i)/\(OB r6 n)/\True) (fun ρ _=>x.1.all.length-(intOf (ρ 7)).toNat) ⟨0,H1,(En 4194304),[],nv6,rfl,rfl,rfl,rfl,rfl,rfl,rfl,((show _=(Afc none 0 0)from rfl).trans hnv6),hE,c,hV,Bd hrow6 (rfl),AfC _,Adz _,cb,trivial⟩ ?_;clear hV;clear hrow6;clear hE c;rintro cc ak ⟨i,Hi,Di,acc,r6,T0,g,t,z,T5,ad,u,p,hE,c,hV,hr_r6,hi,hFu,hap_r6_n2,-⟩;have q7:=u;refine gS (Ad6 II g (gS (Aax MS rfl rfl (cellAt c (Gk x)) (gS (AaW MS (AaD (hal.keep hE) rfl) (gS (Aay (a:=(i:Nat)) (b:=(vs.length:Nat)) u rfl (AE _ _ _ _) ?_)))))));refine cD rfl (fun ap=> ?_) fun ap=> ?_
 ·have hlt:i<x.1.all.length:=hvl▸ap;have hre:=hrb i hlt;have hle:=hsk.2.2.2.2 _ (getD_mem ([]:AlJ) hlt);have hal8:=hFu.len;refine gS (Ad6 II g (gS (Aax MS rfl rfl (cellAt c (Gk x)) ?_)));have c0:(Cb (vs.getD (i) undef)).length=1:=(Aec (hal.keep hE) undef (ap));refine gS (AaZ MS Tx (by decide) undef (AaD (hal.keep hE) rfl) u (ap) fun c1 bp=>(gS (AaY GR rfl (Aef (Aa6 bp rfl) rfl) (AgN (⟨_,rfl⟩:∃r,DP Di [] (x.1.all.getD (i) ([]:AlJ))=r) fun r1 a7=> ?_))));have hFp:=hFu.put hlt hsk.1 hle a7;have hid1:=Xp a7;have hVc:=hV;refine gS (AaA W9 z rfl ((U1 w _ ae.heap.size g1 gv Hi (Di) ([]) hVc hG (vs.getD (i) undef) (x.1.all.getD (i) ([]:AlJ)) (hre.keep hE) (hVc.offR hre) (by omega) (3*i) hFu.bd (by omega) r1 a7).mono ?_));rintro e av ⟨H36,a8,rfl,c2,hV39,hC40⟩;refine⟨_,rfl,?_⟩;have hE:Ext w av:=hV39.dk.ext;have c:av.heap[n]? =some (.cells (vkpC x).toArray 48 (0,0)):=AeU hVc hC40 c (by decide) (by decide) (by decide) (by decide) (by decide);have hr_r6:OG w.heap.size 33 32 (Ae4) av r6 (acc):=AbW hVc hC40 hr_r6 (by decide) (by decide) (by decide) (by decide) (by decide);clear hV;clear bp;have hV:=hV39;refine gS (Ad5 (vs:= [AB r1.2.1,a8,NI r1.2.2.2]) rfl rfl (gS (Ad5 (vs:= [AB r1.2.1,a8,NI r1.2.2.2]) rfl rfl (gS (Ad5 (vs:= [AB r1.2.1,a8,NI r1.2.2.2]) rfl rfl (gS (Ad9 VA fun a9 bq c3 br ba c4=> ?_)))))));have s:=Ad4 av;have c5:=hE.size;have cd:OB r6 a9:=A4 hr_r6.2 (by omega);have hV:VtS w ae.heap.size g1 gv bq H36 r1.1 []:=(hV.keep ba);have af:=br;clear br;have c6:a9<bq.heap.size:=by omega
  refine gS (AaB (vr (PQ a9 0) rfl) (vr (AB r1.2.1) rfl) af (by exact Bp hid1 Afp) (by exact Ac hid1) (Ag _) fun ce bs bb c7=> ?_);have hV:VtS w ae.heap.size g1 gv ce H36 r1.1 []:=AdP hV bb af (by decide) (by decide) (by decide) (by decide) (by decide) (by decide) (by decide) (by omega);clear af;have af:=bs;clear bs;have c8:=bl af;refine gS (Aay (a:=(r1.2.2.2:Nat)) (b:=(0:Nat)) rfl rfl (AV _ _ _ _) ?_);refine cD rfl (fun cf=> ?_) fun cf=> ?_
  ·have hbad:=hFp.2 (by omega);have s:=s.trans ba;have s:=Ab s bb (Ae7 (Ae8 _) (by omega));have c:=eb s c;have hE:=hE.trans s;refine gS (Aay (a:=(r1.2.2.2:Nat)) (b:=(7:Nat)) rfl rfl (AH _ _ _ _) (kT (hbad.1) (gS (Ad6 II g (gS (Aax MS rfl rfl (cellAt c (Gk x)) (gS (AaE Xx rfl ((Vc _ (hG.keep hE) x.2.all vs x.1.all hvl (hal.keep hE) (fun i hi=>(hrb i hi).keep hE) hsk.2.2.2.2 hsk.1 hbad.2).mono ?_)))))))));rintro e cg ⟨rfl,bt⟩;refine⟨_,rfl,?_⟩;have hV:VtS w ae.heap.size g1 gv cg H36 r1.1 []:=(hV.keep bt);refine gS (AaS rfl rfl (A8 rfl (vr (.bool (true)) rfl) ?_));have hE:=hE.trans bt;exact⟨rfl,hE⟩
  have ch:r1.2.2.2=0:=by omega
  refine gS (AaC rfl af XM rfl (by exact Ac hid1) (gS (Abg (a:=r1.2.1) (enc:=Ae4) (vr (AB r1.2.1) rfl) ((by rw[Afl,hid1])) Xy fun ci bu bv bc=> ?_)));have hV:VtS w ae.heap.size g1 gv bu H36 r1.1 []:=(hV.keep bc);have s:=s.trans ba;have s:=Ab s bb (Ae7 (Ae8 _) (by omega));have s:=s.trans bc;have hE:=hE.trans s;have hr_r6:=hr_r6.keep s;refine gS (Aa2 _ _ w.heap.size _ 32 Oi pk6_ig33.choose_spec.1 pk6_ig33.choose_spec.2 Oi (acc) ([r1.2.1]) (Aen hr_r6 p) (AaD bv (vr ci rfl)) (fun y _=>Ag y) (by simp only[Afs];omega) (by simp only[Afs];omega) hE.size fun be bw cj al=> ?_);have al:Grew bu bw r6 be:= .eqv p al;have c:=eb s c;have ck:OB be n:=Ap al hap_r6_n2 (bl c);have af:=eb bc af;have hE:=As hE al hr_r6.2 (Ae8 _);have c:=Aq c al hap_r6_n2;have hV:VtS w ae.heap.size g1 gv bw H36 r1.1 []:=Ady hV hr_r6 al (by decide) (by decide) (by decide) (by decide) (by decide) (by decide) (by decide) (Ae8 _);have af:=Aq af al cd;clear bv;clear hr_r6;refine gS (Aaz (xv:=NI i) (yv:=NI 1) u rfl rfl (Ah _ _ _ (by omega)) (gK (AfF ⟨i+1,H36,r1.1,acc++ [r1.2.1],be,T0,g,t,z,T5,ad,rfl,rfl,hE,c,hV,Bd cj (rfl),by omega,hFp.1 ch,ck,trivial⟩ ?_)));show x.1.all.length-(intOf (NI ((i)+(1)))).toNat<x.1.all.length-(intOf (cc 7)).toNat;rw[q7];simp only[intOf,Afg];omega
 have hie:i=x.1.all.length:=by have h:=ap;omega
 have hal8:=hFu.len;have hi20:=hsk.1;refine gS (Ad6 SH g (gS (Aax IJ rfl rfl (cellAt c (U4 x)) ?_)));have aw:=Ad4 ak;have c9:=hE.size;refine gS (AaA Xz p rfl ((Vb _ r6 x.2.take acc x.1.take (AaR hr_r6) (htk.keep hE) (by omega)).mono ?_));rintro e da ⟨aa,rfl,f,ax⟩;refine⟨_,rfl,?_⟩;have c:=eb ax c;refine gS (Ad6 SN g (gS (Aax Vx rfl rfl (cellAt c (Z7 x)) ?_)));have aw:=aw.trans ax;have hVc:=(hV.keep aw);obtain⟨Da,hDa⟩:∃E:Ad,E = { Di with arm:=x.1.at_.toNat } :=⟨_,rfl⟩;have hat:=hx.at_;obtain⟨ha1,ha2,ha3⟩:=hFu.arm hi hsk.1 hsk.2.2.2.2 (show x.1.at_.toNat<=9223372036854775807 by omega) hDa;refine gS (AaA XA t rfl ((((hV.keep aw)).dk.armW x.1.at_).mono ?_));rintro e ay ⟨H84,rfl,hw87⟩;refine⟨_,rfl,?_⟩;rw[<-hDa]at hw87;obtain⟨bx,hC86⟩:=hVc.step hw87;have hE:=hE.trans ax;have hE:Ext w ay:=bx.dk.ext;have c:ay.heap[n]? =some (.cells (vkpC x).toArray 48 (0,0)):=AeU hVc hC86 c (by decide) (by decide) (by decide) (by decide) (by decide);have hr_r6:=hr_r6.keep ax;have hr_r6:OG w.heap.size 33 32 (Ae4) ay r6 (acc):=AbW hVc hC86 hr_r6 (by decide) (by decide) (by decide) (by decide) (by decide);have f:OG ak.heap.size 33 32 (Ae4) ay aa (takenGo acc x.1.take acc.length):=AbW hVc hC86 f (by decide) (by decide) (by decide) (by decide) (by decide);have hV:=bx;refine gS (Ad6 SI g (gS (Aax ML rfl rfl (cellAt c (U5 x)) ?_)));have hVc:=hV;have htm:∀y∈(takenGo acc x.1.take acc.length),y∈acc:=fun y hy=>Nx (Ae8 _) hy;have htl:=Fk acc x.1.take acc.length;refine gS (Aa9 PE z rfl rfl ((Mv w _ ae.heap.size g1 gv H84 Da [] hVc hG aa _ (AaR f) (fun y hy=>(ha2 y (htm y hy)).1) (by omega) (fun y hy q=>(ha2 y (htm y hy)).2) x.2.choices x.1.choices (hch.keep hE) (by omega) 60 ha1 (by omega) (KpR x.1.all i (takenGo acc x.1.take acc.length)) (fun o hS hM=>ha3 _ x.1.choices htm o hS hM)).mono ?_));rintro e az ⟨H90,bz,r2,rfl,hKp,-,hV92,hC93⟩;refine⟨_,rfl,?_⟩;have hE:Ext w az:=hV92.dk.ext;have c:az.heap[n]? =some (.cells (vkpC x).toArray 48 (0,0)):=AeU hVc hC93 c (by decide) (by decide) (by decide) (by decide) (by decide);have hr_r6:OG w.heap.size 33 32 (Ae4) az r6 (acc):=AbW hVc hC93 hr_r6 (by decide) (by decide) (by decide) (by decide) (by decide);have f:OG ak.heap.size 33 32 (Ae4) az aa (takenGo acc x.1.take acc.length):=AbW hVc hC93 f (by decide) (by decide) (by decide) (by decide) (by decide);clear hV;have hV:=hV92;refine gS (Ad5 (vs:= [bz,NI r2.2.2.2]) rfl rfl (gS (Ad5 (vs:= [bz,NI r2.2.2.2]) rfl rfl ?_)));refine gJ (fun ρ wz=>ρ 0=(.agg (vkpC x).toArray:Ae2)/\ρ 1=(PQ n 0:Ae2)/\ρ 3=(PQ g1 0:Ae2)/\ρ 4=(PQ gv 0:Ae2)/\ρ 5=(NI 0:Ae2)/\ρ 6=(r6:Ae2)/\ρ 7=(NI i:Ae2)/\ρ 11=(aa:Ae2)/\ρ 13=(NI r2.2.2.2:Ae2)/\ρ 29=(.bool (false):Ae2)/\Ext w wz/\wz.heap[n]? =some (.cells (vkpC x).toArray 48 (0,0))/\OG w.heap.size 33 32 (Ae4) wz r6 (acc)/\OG ak.heap.size 33 32 (Ae4) wz aa (takenGo acc x.1.take acc.length)/\VtS w ae.heap.size g1 gv wz H90 (r2.1) (r2.2.1)/\True) 1 rfl ?_ fun hJK95=> ?_
 ·clear hE c hr_r6 f hV;rintro db dc ⟨T0,g,t,z,T5,p,u,ag,ah,ad,hE,c,hr_r6,f,hV,-⟩;refine gS (Ad6 SJ g (gS (Aax ML rfl rfl (cellAt c (U6 x)) ?_)));have hVc:=hV;obtain⟨D3,hD3⟩:∃E:Ad,E=crashD r2.1 x.1.fates:=⟨_,rfl⟩;have aq:=hKp.2.1.crash x.1.fates;have am:=hKp.2.2 x.1.fates;rw[<-hD3]at aq am;have hup3:D3.down=false:=by rw[hD3];rfl
  have bf:=aq.lt (by decide);have hnm3:=Ae7 aq.list (show 1000<=100000 by decide);refine gS (AaA XB t rfl (((hV).dk.crashW x.2.fates x.1.fates (hft.keep hE) (hKp.2.1.lt (by decide))).mono ?_));rintro e ai ⟨H100,rfl,hw103⟩;refine⟨_,rfl,?_⟩;rw[<-hD3]at hw103;obtain⟨b0,hC102⟩:=hVc.step hw103;have hE:Ext w ai:=b0.dk.ext;have c:ai.heap[n]? =some (.cells (vkpC x).toArray 48 (0,0)):=AeU hVc hC102 c (by decide) (by decide) (by decide) (by decide) (by decide);have hr_r6:OG w.heap.size 33 32 (Ae4) ai r6 (acc):=AbW hVc hC102 hr_r6 (by decide) (by decide) (by decide) (by decide) (by decide);have f:OG ak.heap.size 33 32 (Ae4) ai aa (takenGo acc x.1.take acc.length):=AbW hVc hC102 f (by decide) (by decide) (by decide) (by decide) (by decide);clear hV;have hV:=b0;have hDc:=(hV).dk;refine gS (AaE W8 t ((Mu w _ g1 H100 D3 hDc hG bf hnm3 hup3).mono ?_));rintro e cl ⟨gv2,rfl,hVS_,an⟩;refine⟨_,rfl,?_⟩;have hV2:=hVS_;refine gS (Ad5 (vs:= [PQ gv2 0,NI 0]) rfl rfl (gS (Ad5 (vs:= [PQ gv2 0,NI 0]) rfl rfl ?_)));refine gJ (fun ρ wz=>ρ 0=(.agg (vkpC x).toArray:Ae2)/\ρ 1=(PQ n 0:Ae2)/\ρ 3=(PQ g1 0:Ae2)/\ρ 4=(PQ gv 0:Ae2)/\ρ 5=(NI 0:Ae2)/\ρ 6=(r6:Ae2)/\ρ 7=(NI i:Ae2)/\ρ 11=(aa:Ae2)/\ρ 13=(NI r2.2.2.2:Ae2)/\ρ 14=(PQ gv2 0:Ae2)/\ρ 15=(NI 0:Ae2)/\ρ 29=(.bool (false):Ae2)/\Ext w wz/\wz.heap[n]? =some (.cells (vkpC x).toArray 48 (0,0))/\OG w.heap.size 33 32 (Ae4) wz r6 (acc)/\OG ak.heap.size 33 32 (Ae4) wz aa (takenGo acc x.1.take acc.length)/\VtS w ai.heap.size g1 gv2 wz H100 D3 (openV D3)/\True) 1 rfl ?_ fun hJK108=> ?_
  ·clear hE c hr_r6 f hV2;rintro dd de ⟨T0,g,t,z,T5,p,u,ag,ah,ar,a0,ad,hE,c,hr_r6,f,hV2,-⟩;refine gL (fun(ρ:Ae) (wz:Ae3)=>∃j:Nat,ρ 0=(.agg (vkpC x).toArray:Ae2)/\ρ 1=(PQ n 0:Ae2)/\ρ 3=(PQ g1 0:Ae2)/\ρ 4=(PQ gv 0:Ae2)/\ρ 5=(NI 0:Ae2)/\ρ 6=(r6:Ae2)/\ρ 7=(NI i:Ae2)/\ρ 11=(aa:Ae2)/\ρ 13=(NI r2.2.2.2:Ae2)/\ρ 14=(PQ gv2 0:Ae2)/\ρ 15=(NI 0:Ae2)/\ρ 29=(.bool (false):Ae2)/\ρ 16=(NI j:Ae2)/\Ext w wz/\wz.heap[n]? =some (.cells (vkpC x).toArray 48 (0,0))/\OG w.heap.size 33 32 (Ae4) wz r6 (acc)/\OG ak.heap.size 33 32 (Ae4) wz aa (takenGo acc x.1.take acc.length)/\VtS w ai.heap.size g1 gv2 wz H100 D3 (openV D3)/\(j<=x.1.all.length)/\True) (fun ρ _=>x.1.all.length-(intOf (ρ 16)).toNat) ⟨0,T0,g,t,z,T5,p,u,ag,ah,ar,a0,ad,rfl,hE,c,hr_r6,f,hV2,AfC _,trivial⟩ ?_;clear hE c hr_r6 f hV2;rintro b1 df ⟨j,T0,g,t,z,T5,p,u,ag,ah,ar,a0,ad,aj,hE,c,hr_r6,f,hV2,hj,-⟩;have q16:=aj;refine gS (Ad6 II g (gS (Aax MS rfl rfl (cellAt c (Gk x)) (gS (AaW MS (AaD (hal.keep hE) rfl) (gS (Aay (a:=(j:Nat)) (b:=(vs.length:Nat)) aj rfl (AE _ _ _ _) ?_)))))));refine cD rfl (fun a1=> ?_) fun a1=> ?_
   ·have hjt:j<x.1.all.length:=hvl▸a1;have hrj:=hrb j hjt;obtain⟨hacl,hacj⟩:=hFu.get hi (k:=j) (by omega);have hcl:List.length (acc.getD (j) ([]:AlJ))=32:=by rw[hacj];exact Sha.sum_length _
    have cm:(Ae4 (acc.getD (j) ([]:AlJ))).length=32:=(Aec (AaR hr_r6) ([]:AlJ) (by omega));refine gS (AaZ Oi Td (by decide) ([]:AlJ) (AaD (AaR hr_r6) p) aj (by omega) fun dh a2=>(gS (Aa4 (Aa6 a2 rfl) XM rfl (by rw[cm];exact SY) ?_)));have hVc2:=hV2;refine AgN (⟨_,rfl⟩:∃r,getV D3 (openV D3) (acc.getD (j) ([]:AlJ))=r) fun r4 b2=>(gS (AaA WJ ar rfl ((U2 w _ ai.heap.size g1 gv2 H100 D3 (openV D3) hVc2 hG bf (acc.getD (j) ([]:AlJ)) hcl r4 b2).mono ?_)));rintro e di ⟨b3,rfl,bg,bh,-⟩;refine⟨_,rfl,?_⟩;have a2:=Aej a2 bh;refine gS (Ad5 (vs:= [b3,NI r4.2]) rfl rfl (gS (Ad5 (vs:= [b3,NI r4.2]) rfl rfl ?_)));clear a2;by_cases hin:(acc.getD (j) ([]:AlJ))∈(takenGo acc x.1.take acc.length)
    ·have b4:r4=((x.1.all.getD (j) ([]:AlJ)),0):=by rw[<-b2,hacj];exact am.2.2 j (by omega) (by rw[<-hacj];exact hin)
     have hq0:r4.2=0:=congrArg Prod.snd b4;have hq1:r4.1=(x.1.all.getD (j) ([]:AlJ)):=congrArg Prod.fst b4;refine Co [0,1,2,3,4,5,6,7,8,9,10,11,12,13,14,15,16,17,18,19,20] [5] [] fun dj b5=> ?_;have hZ1:=bh.trans b5;have hr_r6:=hr_r6.keep hZ1;have cn:(Ae4 (acc.getD (j) ([]:AlJ))).length=32:=(Aec (AaR hr_r6) ([]:AlJ) (by omega));refine yA (AaZ Oi Td (by decide) ([]:AlJ) (AaD (AaR hr_r6) p) aj (by omega) fun dl a3=>(ys (Aa4 (Aa6 a3 rfl) XM rfl (by rw[cn];exact SY) zz) ?_));have htl:=Fk acc x.1.take acc.length;have f:=f.keep hZ1;refine yC (AaA PH ag rfl (((show Calls _ _ _ _ (fun e w2=>e = .returned (.bool true)/\Ext _ w2)from by have h:=Ny _ aa _ (AaR f) (by omega) (acc.getD (j) ([]:AlJ)) hcl;rw[decide_eq_true hin]at h;exact h)).mono ?_));rintro e dm ⟨rfl,au⟩;refine⟨_,rfl,?_⟩;have a3:=Aej a3 au;have hZ2:=hZ1.trans au;have c:=eb hZ2 c;have bg:=bg.keep (b5.trans au);refine ys (Aay (a:=(r4.2:Nat)) (b:=(0:Nat)) rfl rfl (AV _ _ _ _) zz) (kF (fun h=>h hq0) (ys (Abb GR u5 QD (AaF bg rfl) zz) (ys (Ad6 II g zz) (ys (Aax MS rfl rfl (cellAt c (Gk x)) zz) ?_))));have hE:=hE.trans hZ2;have dn:(Cb (vs.getD (j) undef)).length=1:=(Aec (hal.keep hE) undef (a1));refine yA (AaZ MS Tx (by decide) undef (AaD (hal.keep hE) rfl) aj (a1) fun dp b6=>(ys (AaY GR rfl (Aef (Aa6 b6 rfl) rfl) zz) (ys (Abb GR u5 QD (AaF (hrj.keep hE) rfl) zz) (ys (Abw (l:=r4.1) (m:=(x.1.all.getD (j) ([]:AlJ))) (.inr rfl) rfl rfl (decide ((r4.1:AlJ)≠((x.1.all.getD (j) ([]:AlJ)):AlJ))) rfl zz) (kF (fun h=>h hq1) (ys (AaX rfl rfl zz) (ys (AaS rfl rfl zz) ?_)))))));clear a3;clear b6;have hV2:=hV2.keep hZ2;have hr_r6:=hr_r6.keep au;have f:=f.keep au;refine cF rfl (gS (Aaz (xv:=NI j) (yv:=NI 1) aj rfl rfl (Ah _ _ _ (by omega)) (gK (AfF ⟨j+1,T0,g,t,z,T5,p,u,ag,ah,ar,a0,ad,rfl,hE,c,hr_r6,f,hV2,by omega,trivial⟩ ?_))));show x.1.all.length-(intOf (NI ((j)+(1)))).toNat<x.1.all.length-(intOf (b1 16)).toNat;rw[q16];simp only[intOf,Afg];omega
    refine Co [0,1,2,3,4,5,6,7,8,9,10,11,12,13,14,15,16,17,18,19,20] [5] [] fun dq co=> ?_;have hZ3:=bh.trans co;have hr_r6:=hr_r6.keep hZ3;have cp:(Ae4 (acc.getD (j) ([]:AlJ))).length=32:=(Aec (AaR hr_r6) ([]:AlJ) (by omega));refine yA (AaZ Oi Td (by decide) ([]:AlJ) (AaD (AaR hr_r6) p) aj (by omega) fun dr a4=>(ys (Aa4 (Aa6 a4 rfl) XM rfl (by rw[cp];exact SY) zz) ?_));have htl:=Fk acc x.1.take acc.length;have f:=f.keep hZ3;refine yC (AaA PH ag rfl (((show Calls _ _ _ _ (fun e w2=>e = .returned (.bool false)/\Ext _ w2)from by have h:=Ny _ aa _ (AaR f) (by omega) (acc.getD (j) ([]:AlJ)) hcl;rw[decide_eq_false hin]at h;exact h)).mono ?_));rintro e ds ⟨rfl,a5⟩;refine⟨_,rfl,?_⟩;have a4:=Aej a4 a5;refine ys (AaX rfl rfl zz) ?_;clear a4;have hZ4:=hZ3.trans a5;have hE:=hE.trans hZ4;have c:=eb hZ4 c;have hV2:=hV2.keep hZ4;have hr_r6:=hr_r6.keep a5;have f:=f.keep a5;refine cF rfl (gS (Aaz (xv:=NI j) (yv:=NI 1) aj rfl rfl (Ah _ _ _ (by omega)) (gK (AfF ⟨j+1,T0,g,t,z,T5,p,u,ag,ah,ar,a0,ad,rfl,hE,c,hr_r6,f,hV2,by omega,trivial⟩ ?_))));show x.1.all.length-(intOf (NI ((j)+(1)))).toNat<x.1.all.length-(intOf (b1 16)).toNat;rw[q16];simp only[intOf,Afg];omega
   refine gS (Acv XC ((Zj _ (hG.keep hE)).mono ?_));rintro e dt ⟨rfl,cq⟩;refine⟨_,rfl,?_⟩;refine A8 rfl (vr (.bool (true)) rfl) ?_;have hE:=hE.trans cq;exact⟨rfl,hE⟩
  refine Or.elim hKp.1 (fun hg=> ?_) fun hg=> ?_
  ·refine gS (Aay (a:=(0:Nat)) (b:=(0:Nat)) rfl rfl (AV _ _ _ _) (kF (fun h=>h rfl) (gS (Aay (a:=(r2.2.2.2:Nat)) (b:=(0:Nat)) ah rfl (AH _ _ _ _) (kT (hg) ?_)))));have hVc2:=hV2;have ao:=Ad4 cl;have hE:=hE.trans an;have du:=hE.size;refine gS (AaE XD rfl ((Z3 w _ ai.heap.size g1 gv2 H100 D3 (openV D3) hVc2 hG bf hnm3 (fun e he=>Ae7 (am.1.2 e he) (by decide)) (by have h1:=Q3 aq;have h2:=am.1.1;omega)).mono ?_));rintro e dv ⟨cr,o2,rfl,cs,ct,hM2,bi⟩;refine⟨_,rfl,?_⟩;have htl:=Fk acc x.1.take acc.length;have ho2l:o2.length<=100000:=Zq ct hM2 aq am.1;have hE:=hE.trans bi;have ao:=ao.trans bi;have dw:=hE.size;have dx:=ao.size;have hZ5:=an.trans bi;have f:=f.keep hZ5;refine gS (AaA XE ag rfl ((Vk _ aa cr _ o2 (AaR f) (AaR cs) (by omega) ho2l).mono ?_));rintro e dy ⟨cu,o3,rfl,cv,dz,hm3,d0,b7⟩;refine⟨_,rfl,?_⟩;have he3:o3= []:=Aim.2 fun y hy=>((hm3 y).1 hy).2 ((hM2 y).2 (am.2.1 y ((hm3 y).1 hy).1));refine gS (AaA XF rfl rfl (((show Calls _ _ _ _ (fun e w2=>e = .returned (.bool true)/\Ext _ w2)from by have h:=Ql _ cu (.slice none 0 0) o3 [] (AaR cv) (AeH _ _ _) (by rw[he3];decide);rw[decide_eq_true he3]at h;exact h)).mono ?_));rintro e d1 ⟨rfl,b8⟩;refine⟨_,rfl,?_⟩;refine gS (Abl rfl (gS (AaS rfl rfl (gS (AaX rfl rfl (cF rfl ?_))))));have hZ6:=(hZ5.trans b7).trans b8;have c:=eb hZ6 c;have hr_r6:=hr_r6.keep hZ6;have hZ7:=b7.trans b8;have hE:=hE.trans hZ7;have f:=f.keep hZ7;have ao:=ao.trans hZ7;exact hJK108 _ _ ⟨T0,g,t,z,T5,p,u,ag,ah,rfl,rfl,ad,hE,c,hr_r6,f,(hV2.keep ao),trivial⟩
  refine gS (Aay (a:=(0:Nat)) (b:=(0:Nat)) rfl rfl (AV _ _ _ _) (kF (fun h=>h rfl) (gS (Aay (a:=(r2.2.2.2:Nat)) (b:=(0:Nat)) ah rfl (AH _ _ _ _) (kF (by omega) (gS (AaX rfl rfl (gS (AaX rfl rfl (cF rfl ?_))))))))));have hE:=hE.trans an;have c:=eb an c;have hr_r6:=hr_r6.keep an;have f:=f.keep an;exact hJK108 _ _ ⟨T0,g,t,z,T5,p,u,ag,ah,rfl,rfl,ad,hE,c,hr_r6,f,hV2,trivial⟩
 refine Or.elim hKp.1 (fun hg=> ?_) fun hg=> ?_
 ·refine gS (Aay (a:=(r2.2.2.2:Nat)) (b:=(0:Nat)) rfl rfl (AV _ _ _ _) (kF (fun h=>h hg) (gS (AaX rfl rfl (cF rfl ?_)))));exact hJK95 _ _ ⟨T0,g,t,z,T5,p,u,rfl,rfl,ad,hE,c,hr_r6,f,hV,trivial⟩
 refine gS (Aay (a:=(r2.2.2.2:Nat)) (b:=(0:Nat)) rfl rfl (AV _ _ _ _) (kT (by omega) (gS (Aay (a:=(r2.2.2.2:Nat)) (b:=(9:Nat)) rfl rfl (AV _ _ _ _) (kF (fun h=>h hg) (gS (AaS rfl rfl (cF rfl ?_))))))));exact hJK95 _ _ ⟨T0,g,t,z,T5,p,u,rfl,rfl,ad,hE,c,hr_r6,f,hV,trivial⟩
end Go.Proofs.YtfpekahfdalfkaaGreatDoor
