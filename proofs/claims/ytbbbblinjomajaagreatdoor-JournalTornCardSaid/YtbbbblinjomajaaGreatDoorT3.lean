/- Part 3 of what stands behind these statements: laws and walks of the functions that are reached. Conditions: those that each theorem names. -/
import Derived.Test.YtbbbblinjomajaaGreatDoorT2
set_option linter.unusedVariables false
set_option linter.unusedSimpArgs false
namespace Go.Proofs.YtbbbblinjomajaaGreatDoor
open _root_.Bool renaming and_eq_true->AdX,or_eq_true->AeH,and_eq_false_iff->AfO,or_eq_false_iff->Aeg,not_eq_false'->Aez,false_eq_true->Ae1,true_and->Ahl
open _root_.List renaming replicate->Aey,length_replicate->Aee,map_toArray->AdH,map_cons->AdK,map_nil->AdO,drop_eq_getElem_cons->Afk,getD_eq_getElem?_getD->Adz,getElem?_eq_getElem->AdE,drop_of_length_le->AeR,length_append->Adx,length_cons->AdJ,length_take->AdS,length_drop->AdT,mem_map->Aeq,mem_iff_getElem->AeB,getElem_drop->Ahq,mem_cons->Ad5,mem_of_mem_drop->Agu,mem_append->Aed,mem_of_mem_take->AfB,mem_singleton->Aeb,cons_append->Ad1,nil_append->Ad9,length_nil->AdQ,getElem?_toArray->Aeh,getElem?_eq_some_iff->AdR,range->Afj,all_eq_true->Ael,take_append_drop->AeK,mem_of_getElem?->AfA,append_assoc->AdW,drop_left->Agn,take_left'->AeJ,flatMap_append->Ae6,flatMap_cons->Aen,append_nil->Agd,length_singleton->Ad4,drop_drop->Af1,length->Ah9,contains_iff_mem->AeM,nodup_cons->AeL,append_of_mem->Afe,nodup_append->AfD,mem_append_right->AeY,drop_zero->AfI,drop_append_of_le_length->Ag1
open _root_.Go.Proofs.Tryz renaming prog->Adt
open _root_.Go renaming TypeId->Ady,Operand->AdC,Value->Adr,World->Ads,Program->AdM,Oper->AdL
open _root_.Go.Lib renaming byteCells->Adv,byteCells_length->AdG,uvarint->AdU,uvarint_pos->AhR
open _root_.Go.Instr renaming build->Aew,buildSlice->Ad0,extract->Agy
open _root_.Go.Value renaming bool->Ae8,slice->AdI,ownBlock->Aec,string->AiL
open _root_.Nat renaming le_trans->Adu,le_refl->Adw,zero_le->AdN,not_lt_zero->Aex,zero_add->Afa,lt_of_lt_of_le->AeS,blt->Ae5,le_of_ble_eq_true->AdD,eq_of_beq_eq_true->Agm,strongRecOn->Agb,add_assoc->Afu,lt_irrefl->Ahm
open _root_.Go.World.grownBy renaming refl->AdZ
open _root_.Option.some renaming inj->AdY,injEq->AeZ
open _root_.Go.Sem renaming run_bind->AdB,run_pure->AdF
open _root_.Go.Result renaming andThen_ok->AdA
open _root_.Classical renaming not_not->Ae9,byContradiction->AeE
open _root_.Option renaming getD_some->AfH,bind_eq_some_iff->Aff,bind_some->AdP,map_eq_some_iff->Afr
open _root_.Go.Region renaming ready->AeV,binds->Aeu,wanted->AeA,noSelect->AhZ
open _root_.Array renaming length_toList->AeN,toList_setIfInBounds->AfQ,getD_eq_getD_getElem?->Ad8,getElem?_eq_getElem->AfV,replicate->Afc
open _root_.Go.Op renaming eqFields->Ahc,equalIn->Afg
open Go.RowKit
set_option maxRecDepth 100000
theorem KH{l:List AK}{s:Bs}{p:Nat}(h:BW l s p=true):p<l.length:=by
 unfold BW at h;simp only[AdX,decide_eq_true_eq]at h;exact h.1
theorem Lp{l:List AK}{p:Nat}{y:AC}(hf:BW l y.name p=true):Dc l p y=if(l.getD p dNmd).id.1≠y.old.1 then(15,[])else if Ai y.new=true then(0,l.eraseIdx p)else(0,l.set p ⟨(l.getD p dNmd).name,y.new⟩):=by unfold Dc;rw[hf];rfl
theorem JQ{l:List AK}{p:Nat}{y:AC}(hf:BW l y.name p=false):Dc l p y=if Aey 32 0≠y.old.1 then(15,[])else if Ai y.new=true then(0,l)else if 64<=l.length then(3,[])else(0,l.take p++⟨y.name,y.new⟩ :: l.drop p):=by unfold Dc;rw[hf];rfl
theorem Ra:Plain Adt 154:=fun _ _=>by kernel_rfl
theorem MB{d:Option Tmp}{ty:Ady}{pos:String}{af:Array Edge}{gd:Option (Nat × Bool)}(σ:AdC->Adr)(w:Ads):(execOp σ ⟨d, .alloc 33,ty,pos,af,gd⟩).run Adt w = .ok (.value (PQ w.heap.size 0)) (w.alloc (.cells (Adv (Aey 32 0)).toArray 33)):=by kernel_rfl
theorem MC:Plain Adt 36:=fun _ _=>by kernel_rfl
theorem Rb:Plain Adt 155:=fun _ _=>by kernel_rfl
theorem L6(z0:ByteArray)(c1_0 c1_1 c1_2 c1_3 c1_4 c1_5 c1_6 c1_7 c1_8 c1_9 c1_10 c1_11 c1_12 c1_13 c1_14 c1_15 c1_16 c1_17 c1_18 c1_19 c1_20 c1_21 c1_22 c1_23 c1_24 c1_25 c1_26 c1_27 c1_28 c1_29 c1_30 c1_31:Adr)(w:Ads):(Aew 94 #[(0, .string z0),(1, .agg #[c1_0,c1_1,c1_2,c1_3,c1_4,c1_5,c1_6,c1_7,c1_8,c1_9,c1_10,c1_11,c1_12,c1_13,c1_14,c1_15,c1_16,c1_17,c1_18,c1_19,c1_20,c1_21,c1_22,c1_23,c1_24,c1_25,c1_26,c1_27,c1_28,c1_29,c1_30,c1_31])]).run Adt w = .ok (.agg #[.string z0,c1_0,c1_1,c1_2,c1_3,c1_4,c1_5,c1_6,c1_7,c1_8,c1_9,c1_10,c1_11,c1_12,c1_13,c1_14,c1_15,c1_16,c1_17,c1_18,c1_19,c1_20,c1_21,c1_22,c1_23,c1_24,c1_25,c1_26,c1_27,c1_28,c1_29,c1_30,c1_31]) w:=by kernel_rfl
theorem Nx(z0:Ai1)(z1:Cl)(w:Ads):(Aew 94 #[(0,St z0),(1,AB z1.1)]).run Adt w = .ok (.agg (St (z0) :: (Adv z1.1)).toArray) w:=by
 obtain⟨z1,k1⟩:=z1;obtain⟨a1_0,a1_1,a1_2,a1_3,a1_4,a1_5,a1_6,a1_7,a1_8,a1_9,a1_10,a1_11,a1_12,a1_13,a1_14,a1_15,a1_16,a1_17,a1_18,a1_19,a1_20,a1_21,a1_22,a1_23,a1_24,a1_25,a1_26,a1_27,a1_28,a1_29,a1_30,a1_31,rfl⟩:=K5 k1;exact L6 _ _ _ _ _ _ _ _ _ _ _ _ _ _ _ _ _ _ _ _ _ _ _ _ _ _ _ _ _ _ _ _ _ w
theorem S4(c0 c1 c2 c3 c4 c5 c6 c7 c8 c9 c10 c11 c12 c13 c14 c15 c16 c17 c18 c19 c20 c21 c22 c23 c24 c25 c26 c27 c28 c29 c30 c31 c32:Adr)(w:Ads):(Ad0 31 1 #[(0, .agg #[c0,c1,c2,c3,c4,c5,c6,c7,c8,c9,c10,c11,c12,c13,c14,c15,c16,c17,c18,c19,c20,c21,c22,c23,c24,c25,c26,c27,c28,c29,c30,c31,c32])]).run Adt w = .ok (.slice (some ⟨w.heap.size,0,none⟩) 1 1) (w.alloc (.cells #[c0,c1,c2,c3,c4,c5,c6,c7,c8,c9,c10,c11,c12,c13,c14,c15,c16,c17,c18,c19,c20,c21,c22,c23,c24,c25,c26,c27,c28,c29,c30,c31,c32] 94)):=by kernel_rfl
theorem S5:∀(cs:Array Adr),cs.size=33->∀w:Ads,(Ad0 31 1 #[(0, .agg cs)]).run Adt w = .ok (.slice (some ⟨w.heap.size,0,none⟩) 1 1) (w.alloc (.cells cs 94))
 | ⟨c0 :: c1 :: c2 :: c3 :: c4 :: c5 :: c6 :: c7 :: c8 :: c9 :: c10 :: c11 :: c12 :: c13 :: c14 :: c15 :: c16 :: c17 :: c18 :: c19 :: c20 :: c21 :: c22 :: c23 :: c24 :: c25 :: c26 :: c27 :: c28 :: c29 :: c30 :: c31 :: c32 :: []⟩,_,w=>S4 c0 c1 c2 c3 c4 c5 c6 c7 c8 c9 c10 c11 c12 c13 c14 c15 c16 c17 c18 c19 c20 c21 c22 c23 c24 c25 c26 c27 c28 c29 c30 c31 c32 w
theorem Rc:Plain Adt 156:=fun _ _=>by kernel_rfl
set_option maxHeartbeats 1600000
theorem Lq(w:Ads)(v:Adr)(l:List AK)(hr:RG 33 nmdC w v l)(hl:l.length<=1000)(hs:DX l)(y:AC):
  Calls Adt 131 #[v, .agg (updC y).toArray] w fun e w' =>∃v',e = .returned (.tuple #[v',NI (Am l y).1])/\OG w.heap.size 94 33 nmdC w' v' (Am l y).2/\Ext w w' :=by
 refine F2 (args:= [v, .agg (updC y).toArray]) Tryz.func131 rfl 68 rfl rfl ?_;have hE:=Acz w;refine gS (AcP (vr (.agg (updC y).toArray) rfl) fun n2 w3 b0 ax bg b1=> ?_);have c:=ax;clear ax;have b2:n2<w3.heap.size:=by omega
 have hE:=hE.trans bg;refine gS (Acy PH rfl (gS (ZN E4 rfl rfl (Ac c (DK y)) (gS (ZR Ra rfl rfl ((SX _ v l (hr.keep hE) hl hs y.name).mono ?_))))));rintro e ay ⟨⟨p,rfl,hp⟩,ac⟩;refine⟨_,rfl,?_⟩;refine gS (AcB (vs:= [NI p, .bool (BW l y.name p)]) rfl rfl (gS (AcB (vs:= [NI p, .bool (BW l y.name p)]) rfl rfl ?_)));by_cases hf:BW l y.name p=true
 ·have hlt:p<l.length:=KH hf;refine gS (Ac1 (v:=AB (Aey 32 0)) (by kernel_rfl) (gS (AcH MB fun ad bh b3 az a0 b4=> ?_)));have f:=Acz ay;have hE:=hE.trans ac;have ah:=hE.size;have h:=az;clear az;have b5:ad<bh.heap.size:=by omega
  refine gS (Z7 (vr (PQ ad 0) rfl) (vr (AB (Aey 32 0)) rfl) h (by exact Em Aee Aee) (by exact As Aee) (Ay _) fun bi a1 a2 b6=> ?_);clear h;have h:=a1;clear a1;have b7:=bl h;refine cT (vr (.bool (true)) ((show _=Ae8 (BW l y.name p)from rfl).trans (congrArg Ae8 hf))) ?_;have hE:=hE.trans a0;have hE:=Ad hE a2 (Adu ah (by omega));have b8:(nmdC (l.getD (p) dNmd)).length=33:=(AcL (hr.keep hE) dNmd (by omega));refine gS (Z3 Fb Lj (by decide) dNmd (ZU (hr.keep hE) rfl) rfl (by omega) fun b9 a3=> ?_);have u:(Adv (l.getD (p) dNmd).id.1).length=32:=by rw[AdG,(l.getD (p) dNmd).id.2]
  refine gS (Aag (n:=32) PC (Aaa a3 rfl) fun bj ae=> ?_);have ae:PR (Adv (l.getD (p) dNmd).id.1) bj bi:=(Lb (l.getD (p) dNmd))▸ae;refine gS (ZT (Aaa ae rfl) WA rfl (by rw[u];exact Sz) (gS (Z7 (vr (PQ ad 0) rfl) (vr (AB ((l.getD (p) dNmd).id.1)) rfl) h (by exact Em (ES (u)) Aee) (by exact As (ES (u))) (Ay _) fun a4 a5 ai ca=> ?_)));clear a3;clear ae;clear h;have h:=a5;clear a5;have cb:=bl h;have f:=f.trans a0;have f:=Ad f a2 (Adu (Adw _) (by omega));have f:=Ad f ai (Adu (Adw _) (by omega));have c:=eb (ac.trans f) c;refine gS (Aal rfl h WA rfl (by exact As (ES (u))) (gS (Acy Kc rfl (gS (ZT (AcN c (D8 y) (En y) rfl) WA rfl (As y.old.2) (gS (AaK (l1:=((l.getD (p) dNmd).id.1)) (l2:=y.old.1) WA u5 QN SJ rfl rfl ((ES (u))) (y.old.2) ?_)))))));refine cD rfl (fun r=> ?_) fun r=> ?_
  ·have hmv:=r;refine Ei rfl (vr (AdI none 0 0) rfl) (vr (NI 15) rfl) ?_;have hT:Dc l p y=(15,[]):=by rw[Lp hf,if_pos hmv]
   rw[show Dc l p y=Am l y by unfold Am;rw[<-Dw hp]]at hT;have hE:=Ad hE ai (Adu ah (by omega));exact⟨_,by rw[hT],by rw[hT];exact(AcO _ _ _ _ _),hE⟩
  have hmv:=r;have q:=Acz a4;have hE:=Ad hE ai (Adu ah (by omega));have bk:=hE;have bm:=f;have aj:=hE.size;refine gS (ZP MC rfl ((DN _ v l (hr.keep hE) (by omega)).mono ?_));rintro e cc ⟨af,rfl,j,ak⟩;refine⟨_,rfl,?_⟩;have bn:OB af n2:=Bk j.2 (bl c);have bo:OB af ad:=Bk j.2 (bl h);have c:=eb ak c;refine gS (Acy Kd rfl (gS (ZT (AcN c (CP y) (C6 y) rfl) WA rfl (As y.new.2) (gS (ZP Jb rfl ((Ch _ y.new).mono ?_))))));rintro e cd ⟨rfl,x⟩;refine⟨_,rfl,?_⟩;refine gO fun _=>Ae (.bool (true)) rfl rfl (gT rfl) (fun hG63=>AcF (vr (.bool (true)) ((show _=Ae8 (BW l y.name p)from rfl).trans (congrArg Ae8 hf))) ⟨rfl,rfl⟩) (At (gS (Z9 rfl (fun hA=>(Al rfl hA)) rfl fun bb64 hbb65=> ?_)));refine cB (bb64) rfl (fun s=> ?_) fun s=> ?_
  ·subst hbb65;have hz:Ai y.new=true:=by simpa using s
   have hZ1:=ak.trans x;have q:=q.trans hZ1;have j:=j.keep x;refine gS (ZV (xv:=NI p) (yv:=NI 1) rfl rfl rfl (AF _ _ _ (by omega)) (gS (Z5 Rb rfl rfl rfl ((S2 a4 _ af l p q j hlt).mono ?_))));rintro e ce ⟨bp,rfl,bq,al⟩;refine⟨_,rfl,?_⟩;have hE:=hE.trans hZ1;have hE:=bk.trans al;clear c;have a6:=f.size;have f:=f.trans hZ1;have f:=bm.trans al;clear h;have q:=al;clear j;refine Ei rfl (vr bp rfl) (vr (NI 0) rfl) ?_;have hT:Dc l p y=(0,l.eraseIdx p):=by rw[Lp hf,if_neg hmv,if_pos hz]
   rw[show Dc l p y=Am l y by unfold Am;rw[<-Dw hp]]at hT;exact⟨_,by rw[hT],by rw[hT];exact(AcM bq aj),hE⟩
  subst hbb65;have hz:Ai y.new=false:=by simpa using s
  have c:=eb x c;refine gS (Acy Kd rfl (gS (ZT (AcN c (CP y) (C6 y) rfl) WA rfl (As y.new.2) (gS (ZP Jb rfl ((Ch _ y.new).mono ?_))))));rintro e cf ⟨rfl,am⟩;refine⟨_,rfl,?_⟩;refine cF ((rfl).trans (congrArg Ae8 (hz))) ?_;have j:=j.keep (x.trans am);obtain⟨g,hg⟩:=OG.block j hlt;have c:=eb am c;refine cT (vr (.bool (true)) ((show _=Ae8 (BW l y.name p)from rfl).trans (congrArg Ae8 hf))) (gS (Acy Kd rfl (gS (ZT (AcN c (CP y) (C6 y) rfl) WA rfl (As y.new.2) (gS (Acb (k:=33) (i:=p) Fb Lj rfl j.2 hg rfl (hlt) (gS (Acy PC rfl (gS (Abn (p:=p) (i:=y.new) rfl rfl j hg hlt Sz fun cg br z=> ?_))))))))));have hZ2:=(ak.trans x).trans am;have hE:=hE.trans hZ2;have hE:=Bz hE z j.2 aj;have c:=A0 c z bn;have a6:=f.size;have f:=f.trans hZ2;have f:=Bz f z j.2 a6;have h:=eb hZ2 h;have h:=A0 h z bo;have q:=q.trans hZ2;have q:=Bz q z j.2 (Adw _);clear j;refine Ei rfl (vr af rfl) (vr (NI 0) rfl) ?_;have hT:Dc l p y=(0,l.set p ⟨(l.getD p dNmd).name,y.new⟩):=by rw[Lp hf,if_neg hmv,if_neg (by rw[hz];decide)]
  rw[show Dc l p y=Am l y by unfold Am;rw[<-Dw hp]]at hT;exact⟨_,by rw[hT],by rw[hT];exact(AcM br aj),hE⟩
 replace hf:BW l y.name p=false:=by simpa using hf
 refine gS (Ac1 (v:=AB (Aey 32 0)) (by kernel_rfl) (gS (AcH MB fun a7 bs ch a8 an ci=> ?_)));have m:=Acz ay;have hE:=hE.trans ac;have a9:=hE.size;have t:=a8;clear a8;have cj:a7<bs.heap.size:=by omega
 refine gS (Z7 (vr (PQ a7 0) rfl) (vr (AB (Aey 32 0)) rfl) t (by exact Em Aee Aee) (by exact As Aee) (Ay _) fun ba bb ao ck=> ?_);clear t;have t:=bb;clear bb;have cl:=bl t;have m:=m.trans an;have m:=Ad m ao (Adu (Adw _) (by omega));have c:=eb (ac.trans m) c;refine cF (vr (.bool (false)) ((show _=Ae8 (BW l y.name p)from rfl).trans (congrArg Ae8 hf))) (gS (Aal rfl t WA rfl (by exact As Aee) (gS (Acy Kc rfl (gS (ZT (AcN c (D8 y) (En y) rfl) WA rfl (As y.old.2) (gS (AaK (l1:=(Aey 32 0)) (l2:=y.old.1) WA u5 QN SJ rfl rfl (Aee) (y.old.2) ?_))))))));refine cD rfl (fun r=> ?_) fun r=> ?_
 ·have hmv:=r;refine Ei rfl (vr (AdI none 0 0) rfl) (vr (NI 15) rfl) ?_;have hT:Dc l p y=(15,[]):=by rw[JQ hf,if_pos hmv]
  rw[show Dc l p y=Am l y by unfold Am;rw[<-Dw hp]]at hT;have hE:=hE.trans an;have hE:=Ad hE ao (Adu a9 (by omega));exact⟨_,by rw[hT],by rw[hT];exact(AcO _ _ _ _ _),hE⟩
 have hmv:=r;have ag:=Acz ba;have hE:=hE.trans an;have hE:=Ad hE ao (Adu a9 (by omega));have bt:=hE;have bu:=m;have bc:=hE.size;refine gS (ZP MC rfl ((DN _ v l (hr.keep hE) (by omega)).mono ?_));rintro e cm ⟨ap,rfl,o,aq⟩;refine⟨_,rfl,?_⟩;have c:=eb aq c;refine gS (Acy Kd rfl (gS (ZT (AcN c (CP y) (C6 y) rfl) WA rfl (As y.new.2) (gS (ZP Jb rfl ((Ch _ y.new).mono ?_))))));rintro e cn ⟨rfl,aa⟩;refine⟨_,rfl,?_⟩;refine gO fun _=>Ae (.bool (false)) rfl rfl (gT rfl) (fun hG118=>AcF (vr (.bool (false)) ((show _=Ae8 (BW l y.name p)from rfl).trans (congrArg Ae8 hf))) ⟨rfl,rfl⟩) (At (gS (Z9 rfl (fun hA=>(Al rfl hA)) rfl fun bb119 hbb120=> ?_)));refine cB (bb119) rfl (fun s=> ?_) fun s=> ?_
 ·(subst hbb120;simp at s)
 subst hbb120;have c:=eb aa c;refine gS (Acy Kd rfl (gS (ZT (AcN c (CP y) (C6 y) rfl) WA rfl (As y.new.2) (gS (ZP Jb rfl ((Ch _ y.new).mono ?_))))));rintro e co ⟨rfl,ab⟩;refine⟨_,rfl,?_⟩;refine cB (Ai y.new) rfl (fun ar=> ?_) fun ar=> ?_
 ·have hz:=ar;refine Ei rfl (vr ap rfl) (vr (NI 0) rfl) ?_;have hT:Dc l p y=(0,l):=by rw[JQ hf,if_neg hmv,if_pos hz]
  rw[show Dc l p y=Am l y by unfold Am;rw[<-Dw hp]]at hT;have hZ3:=(aq.trans aa).trans ab;have hE:=hE.trans hZ3;have o:=o.keep (aa.trans ab);exact⟨_,by rw[hT],by rw[hT];exact(AcM o bc),hE⟩
 have hz:=ar;have hZ4:=(aq.trans aa).trans ab;have hE:=hE.trans hZ4;refine cF (vr (.bool (false)) ((show _=Ae8 (BW l y.name p)from rfl).trans (congrArg Ae8 hf))) (gS (ZZ Fb (ZU (hr.keep hE) rfl) (gS (ZO (a:=(l.length:Nat)) (b:=(64:Nat)) rfl rfl (FO _ _ _ _) ?_))));refine cD rfl (fun bv=> ?_) fun bv=> ?_
 ·have hfu:64<=l.length:=by omega
  refine Ei rfl (vr (AdI none 0 0) rfl) (vr (NI 3) rfl) ?_;have hT:Dc l p y=(3,[]):=by rw[JQ hf,if_neg hmv,if_neg (by rw[hz];decide),if_pos hfu]
  rw[show Dc l p y=Am l y by unfold Am;rw[<-Dw hp]]at hT;exact⟨_,by rw[hT],by rw[hT];exact(AcO _ _ _ _ _),hE⟩
 have hfu:¬64<=l.length:=by omega
 have c:=eb ab c;refine gS (Acy PH rfl (gS (ZN E4 rfl rfl (Ac c (DK y)) (gS (Acy Kd rfl (gS (ZT (AcN c (CP y) (C6 y) rfl) WA rfl (As y.new.2) (gS (AaC (vr (St (y.name)) rfl) (vr (AB y.new.1) rfl) (fun w=>Nx y.name y.new w) (gS (Ack (enc:=nmdC) (a:=(⟨y.name,y.new⟩:AK)) (vr (.agg (nmdC (⟨y.name,y.new⟩:AK)).toArray) rfl) (BA _) S5 fun bd cp cq be au cr=> ?_)))))))))));have o:=o.keep (aa.trans ab);have bw:OB ap bd:=Cf o.2 (by omega);have hZ5:=hZ4.trans au;have ag:=ag.trans hZ5;have o:=o.keep au;refine gS (Z5 Rc rfl rfl rfl ((S3 ba _ ap _ l p bd (⟨y.name,y.new⟩:AK) _ ag o hp.1 (by omega) rfl be bw).mono ?_));rintro e cs ⟨bx,rfl,bz,av⟩;refine⟨_,rfl,?_⟩;have hE:=hE.trans au;have hE:=bt.trans av;clear c;have ct:=m.size;have m:=m.trans hZ5;have m:=bu.trans av;clear t;have ag:=av;clear be;clear o;refine Ei rfl (vr bx rfl) (vr (NI 0) rfl) ?_;have hT:Dc l p y=(0,l.take p++⟨y.name,y.new⟩ :: l.drop p):=by rw[JQ hf,if_neg hmv,if_neg (by rw[hz];decide),if_neg hfu]
 rw[show Dc l p y=Am l y by unfold Am;rw[<-Dw hp]]at hT;exact⟨_,by rw[hT],by rw[hT];exact(AcM bz bc),hE⟩
abbrev B1:Af:=(⟨[],[],[109,97,105,110],zid,[]⟩,⟨.slice none 0 0, .slice none 0 0, .slice none 0 0⟩)
theorem S6{d:Option Tmp}{ty:Ady}{pos:String}{af:Array Edge}{gd:Option (Nat × Bool)}(σ:AdC->Adr)(w:Ads):(execOp σ ⟨d, .alloc 36,ty,pos,af,gd⟩).run Adt w = .ok (.value (PQ w.heap.size 0)) (w.alloc (.cells (refsC ((⟨[],[],[],zid,[]⟩,⟨.slice none 0 0, .slice none 0 0, .slice none 0 0⟩):Af)).toArray 36)):=by kernel_rfl
theorem Of(z2:ByteArray)(w:Ads):(Aew 36 #[(2, .string z2)]).run Adt w = .ok (.agg #[.slice none 0 0, .slice none 0 0, .string z2, .int .u8 0, .int .u8 0, .int .u8 0, .int .u8 0, .int .u8 0, .int .u8 0, .int .u8 0, .int .u8 0, .int .u8 0, .int .u8 0, .int .u8 0, .int .u8 0, .int .u8 0, .int .u8 0, .int .u8 0, .int .u8 0, .int .u8 0, .int .u8 0, .int .u8 0, .int .u8 0, .int .u8 0, .int .u8 0, .int .u8 0, .int .u8 0, .int .u8 0, .int .u8 0, .int .u8 0, .int .u8 0, .int .u8 0, .int .u8 0, .int .u8 0, .int .u8 0, .slice none 0 0]) w:=by kernel_rfl
theorem PJ(z2:Ai1)(w:Ads):(Aew 36 #[(2,St z2)]).run Adt w = .ok (.agg ((AdI none 0 0) :: ((AdI none 0 0) :: (St (z2) :: (Adv zid.1++((AdI none 0 0) :: ([])))))).toArray) w:=by
 exact Of _ w
theorem MD:∃fs,Tryz.prog.underlying 36=some (.struct fs):=DP (by kernel_rfl)
theorem Lr:(Tryz.prog.info? 36).map (·.size)=some 36:=by kernel_rfl
theorem S7:EM Adt 36 refsC:=⟨⟨_,(MD).choose_spec⟩,fun x=>AQ (An x) Lr⟩
theorem S8(w:Ads):
  Calls Adt 75 #[] w fun e w' =>e = .returned (.agg (refsC B1).toArray)/\Ext w w' :=by
 refine gG (args:= []) Tryz.func75 rfl 2 rfl rfl ?_;have hE:=Acz w;refine gS (AcH S6 fun b g k c h l=> ?_);have a:=c;clear c;have m:b<g.heap.size:=by omega
 refine gS (AaS (vr (St (([109,97,105,110]:Ai1))) rfl) (fun w=>PJ ([109,97,105,110]:Ai1) w) (gS (Z0 S7 (vr (PQ b 0) rfl) (vr (.agg (refsC ((⟨[],[],([109,97,105,110]:Ai1),zid,[]⟩,⟨(AdI none 0 0),(AdI none 0 0),(AdI none 0 0)⟩):Af)).toArray) rfl) a (AS rfl rfl rfl) fun i f j n=> ?_)));clear a;have a:i.heap[b]? =some (.cells (refsC ((⟨[],[],([109,97,105,110]:Ai1),zid,[]⟩,⟨(AdI none 0 0),(AdI none 0 0),(AdI none 0 0)⟩):Af)).toArray 36 (0,0)):=f;clear f;have o:=bl a;refine IN rfl (AcQ rfl a (MD).choose_spec rfl (AQ (An _) Lr)) ?_;have hE:=hE.trans h;have hE:=Ad hE j (Adu (Adw _) (by omega));exact⟨rfl,hE⟩
def Og(r:Au)(y:AC):Bool:=((decide ((Am r.branches y).1=0)&&Ai y.new)&&(!Ai y.old))&&decide (r.head=y.name)
def Dm(r:Au)(y:AC):Nat × Au:=if Og r y=true then(16,r)else if(Am r.branches y).1=0 then(0,⟨(Am r.branches y).2,r.tags,r.head,r.at_,r.log⟩)else((Am r.branches y).1,r)
def GK(r:Au)(y:AC):Nat × Au:=if(Am r.tags y).1=0 then(0,⟨r.branches,(Am r.tags y).2,r.head,r.at_,r.log⟩)else((Am r.tags y).1,r)
def NM(r:Au)(y:AC):Nat × Au:=(0,⟨r.branches,r.tags,y.name,y.new,r.log⟩)
def Cy(r:Au)(y:AC):Nat × Au:=if y.kind.toNat=1 then Dm r y else if y.kind.toNat=2 then GK r y else NM r y
structure AppAt (w0 w : Ads) (g : Nat) (z : Af) : Prop where
 ext:Ext w0 w
 g0:w0.heap.size<=g
 blk:w.heap[g]? =some (.cells (refsC z).toArray 36 (0,0))
 br:OG w0.heap.size 94 33 nmdC w z.2.branches z.1.branches
 tg:OG w0.heap.size 94 33 nmdC w z.2.tags z.1.tags
 lg:OG w0.heap.size 97 67 entC w z.2.log z.1.log
 ab:z.2.branches.ownBlock≠some g
 at_:z.2.tags.ownBlock≠some g
 al:z.2.log.ownBlock≠some g
 lb:C9 z.2.log z.2.branches
 lt:C9 z.2.log z.2.tags
theorem AppAt.keep{w0 w w' :Ads}{g:Nat}{z:Af}(h:AppAt w0 w g z)(k:Ext w w'):AppAt w0 w' g z:=⟨h.ext.trans k,h.g0,Aay k h.blk,h.br.keep k,h.tg.keep k,h.lg.keep k,h.ab,h.at_,h.al,h.lb,h.lt⟩
structure Fp (r : Au) : Prop where
 br:DX r.branches
 tg:DX r.tags
 bl:r.branches.length<=64
 tl:r.tags.length<=64
def NewOG(t:Ady)(w0 wb w:Ads)(v:Adr)(l:List AK):Prop:=OG w0.heap.size t 33 nmdC w v l/\∀k,v.ownBlock=some k->wb.heap.size<=k
theorem NewOG.keep{t:Ady}{w0 wb w w' :Ads}{v:Adr}{l:List AK}(h:NewOG t w0 wb w v l)(k:Ext w w'):NewOG t w0 wb w' v l:=⟨h.1.keep k,h.2⟩
abbrev Adm:=@NewOG.keep
theorem Abv{t:Ady}{w0 wb w1 w:Ads}{v:Adr}{l:List AK}(h:OG w1.heap.size t 33 nmdC w v l)(h0:w0.heap.size<=wb.heap.size)(h1:wb.heap.size<=w1.heap.size):NewOG t w0 wb w v l:=⟨h.low (Adu h0 h1),fun k hk=>Adu h1 (h.2.lt k hk).1⟩
theorem NewOG.apart{t:Ady}{w0 wb w:Ads}{v:Adr}{l:List AK}{g:Nat}(h:NewOG t w0 wb w v l)(hg:g<wb.heap.size):v.ownBlock≠some g:=fun e=>by have:=h.2 g e;omega
abbrev Adj:=@NewOG.apart
theorem Aa0{α:Type}{t t' :Ady}{w0 wb w wa:Ads}{v u:Adr}{l:List AK}{b k:Nat}{enc:α->List Adr}{m:List α}(h:NewOG t w0 wb w v l)(hu:OG b t' k enc wa u m)(hle:wa.heap.size<=wb.heap.size):C9 u v:=fun i h1 h2=>by
 have:=(hu.2.lt i h1).2;have:=h.2 i h2;omega
abbrev Oh(f:Nat):Adr:= .func (.func f) #[] #[]
def doG:UInt8->Option Nat:=updM (updM (updM (fun _=>none) 1 (some 89)) 2 (some 90)) 3 (some 91)
theorem Yl:∀u:Ads,(zeroValue 101).run Adt u = .ok Value.nilFunc u:=fun _=>by kernel_rfl
theorem S9:∃fs,Tryz.prog.underlying 77=some (.struct fs):=DP (by kernel_rfl)
theorem Re:(Tryz.prog.info? 77).map (·.size)=some 66:=by kernel_rfl
theorem ME:EM Adt 77 updC:=⟨⟨_,(S9).choose_spec⟩,fun x=>AQ (Cv x) Re⟩
theorem Ls:Plain Adt 131:=fun _ _=>by kernel_rfl
theorem Lt:(Tryz.prog.info? 31).map (·.size)=some 1:=by kernel_rfl
theorem Ta:(Tryz.prog.info? 9).map (·.size)=some 1:=by kernel_rfl
theorem Jf:Tryz.prog.underlying 98=some (.map 5 101):=by kernel_rfl
theorem Rf(w0 w:Ads)(g:Nat)(z:Af)(hA:AppAt w0 w g z)(hS:Fp z.1)(y:AC):
  Calls Adt 89 #[PQ g 0, .agg (updC y).toArray] w fun e w' =>∃z',(e = .returned (NI (Dm z.1 y).1)/\z'.1=(Dm z.1 y).2)/\AppAt w0 w' g z' /\z'.2.log=z.2.log/\w.grownBy w' (some g):=by
 have hgr:=AdZ w (some g);have c:=hA.ext;have ag:=hA.g0;have hblk:=hA.blk;have hbr:=hA.br;have htg:=hA.tg;have hlg:=hA.lg;have hab:=hA.ab;have hat:=hA.at_;have hal:=hA.al;have hlb:=hA.lb;have hlt:=hA.lt;have hlg0:=hA.lg;have hgl:=(bl hblk);refine gG (args:= [PQ g 0, .agg (updC y).toArray]) Tryz.func89 rfl 45 rfl rfl ?_;have hE:=Acz w;refine gS (AcP (vr (.agg (updC y).toArray) rfl) fun j f au an q bx=> ?_);have r:=Acz w;have bz:=hE;have b0:=c;have b1:=hE.size;have b2:=c.size;have b3:=AO (bl hblk) au;have b4:OB z.2.branches j:=Cf hbr.2 (by omega);have b5:OB z.2.tags j:=Cf htg.2 (by omega);have b6:OB z.2.log j:=Cf hlg.2 (by omega);have hblk:=eb q hblk;have hbr:=hbr.keep q;have htg:=htg.keep q;have hlg:=hlg.keep q;have hgr:w.grownBy f (some g):=Aa hgr q.grown (fun _ e=>by cases e);have hE:=hE.trans q;have c:=c.trans q;have r:=r.trans q;have n:=an;clear an;have b7:j<f.heap.size:=by omega
 refine gR ?_;refine E1 [Is (PQ g 0),Is (PQ g 0),Is (PQ g 0),Is (z.2.branches),Is (.agg (updC y).toArray),fun x w' =>∃v,x = .tuple #[v,NI (Am z.1.branches y).1]/\NewOG 94 w0 f w' v ((Am z.1.branches y).2),fun x w' =>∃v,x = .tuple #[v,NI (Am z.1.branches y).1]/\NewOG 94 w0 f w' v ((Am z.1.branches y).2),fun x w' =>NewOG 94 w0 f w' x ((Am z.1.branches y).2),Is (NI ((Am z.1.branches y).1)),fun x w' =>NewOG 94 w0 f w' x ((Am z.1.branches y).2),Is (NI ((Am z.1.branches y).1))] (by kernel_rfl) [8,9,10,11,12,13,7,14,15,5,6] (by kernel_rfl) (by kernel_rfl) (Zl ⟨(fun _ _ _ ⟨v,h1,h2⟩ k=>⟨v,h1,h2.keep k⟩),(fun _ _ _ ⟨v,h1,h2⟩ k=>⟨v,h1,h2.keep k⟩),(fun _ _ _ h k=>Adm h k),ZW _,(fun _ _ _ h k=>Adm h k),ZW _,trivial⟩) ?av ?hQ1001
 case av=>
  refine⟨?_,?_,?_,?_,?_,?_,?_,?_,?_,?_,?_,trivial⟩
  ·refine AE rfl fun σ w1 hC h=> ?_;have e0:σ 0=PQ g 0:=(AJ (h 0 (by decide))).trans rfl;exact AcF e0 ⟨Acz _,rfl⟩
  ·refine AE rfl fun σ w1 hC h=> ?_;have e8:=AJ (h 8 (by decide));exact AcA e8 ⟨Acz _,rfl⟩
  ·refine AE rfl fun σ w1 hC h=> ?_;have e9:=AJ (h 9 (by decide));exact Acy PD e9 ⟨Acz _,rfl⟩
  ·refine AE rfl fun σ w1 hC h=> ?_;have ay:=AJ (h 10 (by decide));exact ZN Fb rfl ay (Ac (eb hC hblk) (Br z)) ⟨Acz _,rfl⟩
  ·refine AE rfl fun σ w1 hC h=> ?_;have s:σ 3=PQ j 0:=(AJ (h 3 (by decide))).trans rfl;exact ZY ME s (eb hC n) ⟨Acz _,rfl⟩
  ·refine AE rfl fun σ w1 hC h=> ?_;have az:=AJ (h 11 (by decide));have a0:=AJ (h 12 (by decide));refine ZR Ls az a0 ((Lq _ z.2.branches z.1.branches (ZQ (hbr.keep hC)) (by have:=hS.bl;omega) hS.br y).mono ?_);rintro e w2 ⟨v,rfl,ho,hx⟩;exact⟨_,rfl,hx,v,rfl,Abv ho c.size hC.size⟩
  ·refine AE rfl fun σ w1 hC h=> ?_;have a1:(fun x w' =>∃v,x = .tuple #[v,NI (Am z.1.branches y).1]/\NewOG 94 w0 f w' v ((Am z.1.branches y).2)) (σ 13) w1:=h 13 (by decide);exact AcF rfl ⟨Acz _,a1⟩
  ·refine AE rfl fun σ w1 hC h=> ?_;have e7:(fun x w' =>∃v,x = .tuple #[v,NI (Am z.1.branches y).1]/\NewOG 94 w0 f w' v ((Am z.1.branches y).2)) (σ 7) w1:=h 7 (by decide);obtain⟨v0,h1_,h2_⟩:=e7;exact AcB (vs:= [v0,_]) h1_ (show _=some v0 from rfl) ⟨Acz _,h2_⟩
  ·refine AE rfl fun σ w1 hC h=> ?_;have e7:(fun x w' =>∃v,x = .tuple #[v,NI (Am z.1.branches y).1]/\NewOG 94 w0 f w' v ((Am z.1.branches y).2)) (σ 7) w1:=h 7 (by decide);obtain⟨v0,h1_,h2_⟩:=e7;exact AcB (vs:= [v0,NI (Am z.1.branches y).1]) h1_ (show _=some (NI (Am z.1.branches y).1:Adr)from rfl) ⟨Acz _,rfl⟩
  ·refine AE rfl fun σ w1 hC h=> ?_;have a2:(fun x w' =>NewOG 94 w0 f w' x ((Am z.1.branches y).2)) (σ 14) w1:=h 14 (by decide);exact AcS rfl ⟨Acz _,a2⟩
  ·refine AE rfl fun σ w1 hC h=> ?_;have a3:=AJ (h 15 (by decide));exact AcS a3 ⟨Acz _,rfl⟩
 intro aj ao p he hf;obtain⟨-,-,-,-,-,-,-,-,-,k5,k6,-⟩:=hf;obtain⟨T0,T1,T3,T4,-⟩:=he.hold [(0,PQ g 0),(1, .agg (updC y).toArray),(3,PQ j 0),(4,NI 0)] ⟨rfl,rfl,rfl,rfl,trivial⟩ rfl;clear he;have hblk:=eb p hblk;have hbr:=hbr.keep p;have htg:=htg.keep p;have hlg:=hlg.keep p;have hgr:w.grownBy ao (some g):=Aa hgr p.grown (fun _ e=>by cases e);have hE:=hE.trans p;have c:=c.trans p;have r:=r.trans p;have n:=eb p n;have k5:(fun x w' =>NewOG 94 w0 f w' x ((Am z.1.branches y).2)) (aj 5) ao:=k5;obtain⟨t,T5⟩:∃v,aj 5=v:=⟨_,rfl⟩;rw[T5]at k5;have ad:=k5;clear k5;have ap:OB t g:=Adj ad (by omega);have b8:OB t j:=Adj ad (by omega);have a4:C9 z.2.log t:=Aa0 ad hlg0 (by omega);have u:=ad.1;clear ad;have T6:aj 6=NI ((Am z.1.branches y).1):=k6;clear k6;refine gX (gR ?_);refine E1 [Is (NI ((Am z.1.branches y).1)),Is (.bool (decide (((Am z.1.branches y).1:Nat)=(0)))),Is (.bool (decide (((Am z.1.branches y).1:Nat)=(0)))),Is (cond ((decide (((Am z.1.branches y).1:Nat)=(0)))) (PQ j 34) undef),Is (cond ((decide (((Am z.1.branches y).1:Nat)=(0)))) (AB y.new.1) undef),Is (cond ((decide (((Am z.1.branches y).1:Nat)=(0)))) (.bool (Ai y.new)) undef),Is (.bool ((decide (((Am z.1.branches y).1:Nat)=(0)))&&(Ai y.new))),Is (.bool ((decide (((Am z.1.branches y).1:Nat)=(0)))&&(Ai y.new))),Is (cond ((decide (((Am z.1.branches y).1:Nat)=(0)))&&(Ai y.new)) (PQ j 2) undef),Is (cond ((decide (((Am z.1.branches y).1:Nat)=(0)))&&(Ai y.new)) (AB y.old.1) undef),Is (cond ((decide (((Am z.1.branches y).1:Nat)=(0)))&&(Ai y.new)) (.bool (Ai y.old)) undef),Is (cond ((decide (((Am z.1.branches y).1:Nat)=(0)))&&(Ai y.new)) (.bool (!(Ai y.old))) undef),Is (.bool (((decide (((Am z.1.branches y).1:Nat)=(0)))&&(Ai y.new))&&(!(Ai y.old)))),Is (.bool (((decide (((Am z.1.branches y).1:Nat)=(0)))&&(Ai y.new))&&(!(Ai y.old)))),Is (cond (((decide (((Am z.1.branches y).1:Nat)=(0)))&&(Ai y.new))&&(!(Ai y.old))) (PQ g 0) undef),Is (cond (((decide (((Am z.1.branches y).1:Nat)=(0)))&&(Ai y.new))&&(!(Ai y.old))) (PQ g 0) undef),Is (cond (((decide (((Am z.1.branches y).1:Nat)=(0)))&&(Ai y.new))&&(!(Ai y.old))) (PQ g 2) undef),Is (cond (((decide (((Am z.1.branches y).1:Nat)=(0)))&&(Ai y.new))&&(!(Ai y.old))) (St (z.1.head)) undef),Is (cond (((decide (((Am z.1.branches y).1:Nat)=(0)))&&(Ai y.new))&&(!(Ai y.old))) (PQ j 1) undef),Is (cond (((decide (((Am z.1.branches y).1:Nat)=(0)))&&(Ai y.new))&&(!(Ai y.old))) (St (y.name)) undef),Is (cond (((decide (((Am z.1.branches y).1:Nat)=(0)))&&(Ai y.new))&&(!(Ai y.old))) (.bool (decide ((z.1.head:Ai1)=(y.name:Ai1)))) undef),Is (.bool ((((decide (((Am z.1.branches y).1:Nat)=(0)))&&(Ai y.new))&&(!(Ai y.old)))&&(decide ((z.1.head:Ai1)=(y.name:Ai1)))))] (by kernel_rfl) [16,17,18,19,20,21,22,23,24,25,26,27,28,29,30,31,32,33,34,35,36,37] (by kernel_rfl) (by kernel_rfl) (Zr (UK trivial)) ?a5 ?hQ2002
 case a5=>
  refine⟨?_,?_,?_,?_,?_,?_,?_,?_,?_,?_,?_,?_,?_,?_,?_,?_,?_,?_,?_,?_,?_,?_,trivial⟩
  ·refine AE rfl fun σ w1 hC h=> ?_;have e6:=(AJ (h 6 (by decide))).trans T6;exact AcF e6 ⟨Acz _,rfl⟩
  ·refine AE rfl fun σ w1 hC h=> ?_;have a7:=AJ (h 16 (by decide));exact ZO (a:=((Am z.1.branches y).1:Nat)) (b:=(0:Nat)) a7 rfl (AI _ _ _ _) ⟨Acz _,rfl⟩
  ·refine AE rfl fun σ w1 hC h=> ?_;have a8:=AJ (h 17 (by decide));exact AcF a8 ⟨Acz _,rfl⟩
  ·refine Bd 2 true 18 (G:=(decide (((Am z.1.branches y).1:Nat)=(0)))) rfl rfl (fun x _ (h:x = .bool (decide (((Am z.1.branches y).1:Nat)=(0))))=>gT h) (fun hu_ _=>BC hu_) fun hG σ w1 hC h=> ?_;have s:=(AJ (h 3 (by decide))).trans T3;exact Acy Kd s ⟨Acz _,BB hG⟩
  ·refine Bd 2 true 18 (G:=(decide (((Am z.1.branches y).1:Nat)=(0)))) rfl rfl (fun x _ (h:x = .bool (decide (((Am z.1.branches y).1:Nat)=(0))))=>gT h) (fun hu_ _=>BC hu_) fun hG σ w1 hC h=> ?_;have a9:=AJ (h 19 (by decide));exact ZT (AcN (eb hC n) (CP y) (C6 y) (Al a9 hG)) WA rfl (As y.new.2) ⟨Acz _,BB hG⟩
  ·refine Bd 2 true 18 (G:=(decide (((Am z.1.branches y).1:Nat)=(0)))) rfl rfl (fun x _ (h:x = .bool (decide (((Am z.1.branches y).1:Nat)=(0))))=>gT h) (fun hu_ _=>BC hu_) fun hG σ w1 hC h=> ?_;have ba:=AJ (h 20 (by decide));refine ZP Jb (Al ba hG) ((Ch _ y.new).mono ?_);rintro e w2 ⟨rfl,hx⟩;exact⟨_,rfl,hx,BB hG⟩
  ·refine AE rfl fun σ w1 hC h=> ?_;have bb:=AJ (h 18 (by decide));have bc:=AJ (h 21 (by decide));exact Aar bb (fun hA=>(Al bc hA)) (vr (.bool (false)) rfl) ⟨Acz _,rfl⟩
  ·refine AE rfl fun σ w1 hC h=> ?_;have bd:=AJ (h 22 (by decide));exact AcF bd ⟨Acz _,rfl⟩
  ·refine Bd 7 true 23 (G:=(decide (((Am z.1.branches y).1:Nat)=(0)))&&(Ai y.new)) rfl rfl (fun x _ (h:x = .bool ((decide (((Am z.1.branches y).1:Nat)=(0)))&&(Ai y.new)))=>gT h) (fun hu_ _=>BC hu_) fun hG σ w1 hC h=> ?_;have s:=(AJ (h 3 (by decide))).trans T3;exact Acy Kc s ⟨Acz _,BB hG⟩
  ·refine Bd 7 true 23 (G:=(decide (((Am z.1.branches y).1:Nat)=(0)))&&(Ai y.new)) rfl rfl (fun x _ (h:x = .bool ((decide (((Am z.1.branches y).1:Nat)=(0)))&&(Ai y.new)))=>gT h) (fun hu_ _=>BC hu_) fun hG σ w1 hC h=> ?_;have be:=AJ (h 24 (by decide));exact ZT (AcN (eb hC n) (D8 y) (En y) (Al be hG)) WA rfl (As y.old.2) ⟨Acz _,BB hG⟩
  ·refine Bd 7 true 23 (G:=(decide (((Am z.1.branches y).1:Nat)=(0)))&&(Ai y.new)) rfl rfl (fun x _ (h:x = .bool ((decide (((Am z.1.branches y).1:Nat)=(0)))&&(Ai y.new)))=>gT h) (fun hu_ _=>BC hu_) fun hG σ w1 hC h=> ?_;have bf:=AJ (h 25 (by decide));refine ZP Jb (Al bf hG) ((Ch _ y.old).mono ?_);rintro e w2 ⟨rfl,hx⟩;exact⟨_,rfl,hx,BB hG⟩
  ·refine Bd 7 true 23 (G:=(decide (((Am z.1.branches y).1:Nat)=(0)))&&(Ai y.new)) rfl rfl (fun x _ (h:x = .bool ((decide (((Am z.1.branches y).1:Nat)=(0)))&&(Ai y.new)))=>gT h) (fun hu_ _=>BC hu_) fun hG σ w1 hC h=> ?_;have bg:=AJ (h 26 (by decide));exact Z2 (Al bg hG) ⟨Acz _,BB hG⟩
  ·refine AE rfl fun σ w1 hC h=> ?_;have bh:=AJ (h 23 (by decide));have bi:=AJ (h 27 (by decide));exact Aar bh (fun hA=>(Al bi hA)) (vr (.bool (false)) rfl) ⟨Acz _,rfl⟩
  ·refine AE rfl fun σ w1 hC h=> ?_;have bj:=AJ (h 28 (by decide));exact AcF bj ⟨Acz _,rfl⟩
  ·refine Bd 13 true 29 (G:=((decide (((Am z.1.branches y).1:Nat)=(0)))&&(Ai y.new))&&(!(Ai y.old))) rfl rfl (fun x _ (h:x = .bool (((decide (((Am z.1.branches y).1:Nat)=(0)))&&(Ai y.new))&&(!(Ai y.old))))=>gT h) (fun hu_ _=>BC hu_) fun hG σ w1 hC h=> ?_;have e0:=(AJ (h 0 (by decide))).trans T0;exact AcF e0 ⟨Acz _,BB hG⟩
  ·refine Bd 13 true 29 (G:=((decide (((Am z.1.branches y).1:Nat)=(0)))&&(Ai y.new))&&(!(Ai y.old))) rfl rfl (fun x _ (h:x = .bool (((decide (((Am z.1.branches y).1:Nat)=(0)))&&(Ai y.new))&&(!(Ai y.old))))=>gT h) (fun hu_ _=>BC hu_) fun hG σ w1 hC h=> ?_;have bk:=AJ (h 30 (by decide));exact AcA (Al bk hG) ⟨Acz _,BB hG⟩
  ·refine Bd 13 true 29 (G:=((decide (((Am z.1.branches y).1:Nat)=(0)))&&(Ai y.new))&&(!(Ai y.old))) rfl rfl (fun x _ (h:x = .bool (((decide (((Am z.1.branches y).1:Nat)=(0)))&&(Ai y.new))&&(!(Ai y.old))))=>gT h) (fun hu_ _=>BC hu_) fun hG σ w1 hC h=> ?_;have bm:=AJ (h 31 (by decide));exact Acy Hh (Al bm hG) ⟨Acz _,BB hG⟩
  ·refine Bd 13 true 29 (G:=((decide (((Am z.1.branches y).1:Nat)=(0)))&&(Ai y.new))&&(!(Ai y.old))) rfl rfl (fun x _ (h:x = .bool (((decide (((Am z.1.branches y).1:Nat)=(0)))&&(Ai y.new))&&(!(Ai y.old))))=>gT h) (fun hu_ _=>BC hu_) fun hG σ w1 hC h=> ?_;have bn:=AJ (h 32 (by decide));exact ZN E4 rfl (Al bn hG) (Ac (eb hC hblk) (Cw z)) ⟨Acz _,BB hG⟩
  ·refine Bd 13 true 29 (G:=((decide (((Am z.1.branches y).1:Nat)=(0)))&&(Ai y.new))&&(!(Ai y.old))) rfl rfl (fun x _ (h:x = .bool (((decide (((Am z.1.branches y).1:Nat)=(0)))&&(Ai y.new))&&(!(Ai y.old))))=>gT h) (fun hu_ _=>BC hu_) fun hG σ w1 hC h=> ?_;have s:=(AJ (h 3 (by decide))).trans T3;exact Acy PH s ⟨Acz _,BB hG⟩
  ·refine Bd 13 true 29 (G:=((decide (((Am z.1.branches y).1:Nat)=(0)))&&(Ai y.new))&&(!(Ai y.old))) rfl rfl (fun x _ (h:x = .bool (((decide (((Am z.1.branches y).1:Nat)=(0)))&&(Ai y.new))&&(!(Ai y.old))))=>gT h) (fun hu_ _=>BC hu_) fun hG σ w1 hC h=> ?_;have bo:=AJ (h 34 (by decide));exact ZN E4 rfl (Al bo hG) (Ac (eb hC n) (DK y)) ⟨Acz _,BB hG⟩
  ·refine Bd 13 true 29 (G:=((decide (((Am z.1.branches y).1:Nat)=(0)))&&(Ai y.new))&&(!(Ai y.old))) rfl rfl (fun x _ (h:x = .bool (((decide (((Am z.1.branches y).1:Nat)=(0)))&&(Ai y.new))&&(!(Ai y.old))))=>gT h) (fun hu_ _=>BC hu_) fun hG σ w1 hC h=> ?_;have bp:=AJ (h 33 (by decide));have bq:=AJ (h 35 (by decide));exact Aav (l:=z.1.head) (m:=y.name) (.inl rfl) (Al bp hG) (Al bq hG) (decide ((z.1.head:Ai1)=(y.name:Ai1))) rfl ⟨Acz _,BB hG⟩
  ·refine AE rfl fun σ w1 hC h=> ?_;have bs:=AJ (h 29 (by decide));have bt:=AJ (h 36 (by decide));exact Aar bs (fun hA=>(Al bt hA)) (vr (.bool (false)) rfl) ⟨Acz _,rfl⟩
 intro bu bv o he hf;obtain⟨-,-,-,-,-,-,-,-,-,-,-,-,-,-,-,-,-,-,-,-,-,k37,-⟩:=hf;obtain⟨T0,T1,T3,T4,T5,T6,-⟩:=he.hold [(0,_),(1,_),(3,_),(4,_),(5,_),(6,_)] ⟨T0,T1,T3,T4,T5,T6,trivial⟩ rfl;clear he;have hblk:=eb o hblk;have hbr:=hbr.keep o;have htg:=htg.keep o;have hlg:=hlg.keep o;have hgr:w.grownBy bv (some g):=Aa hgr o.grown (fun _ e=>by cases e);have hE:=hE.trans o;have c:=c.trans o;have r:=r.trans o;have n:=eb o n;have u:=u.keep o;have bw:bu 37 = .bool ((((decide (((Am z.1.branches y).1:Nat)=(0)))&&(Ai y.new))&&(!(Ai y.old)))&&(decide ((z.1.head:Ai1)=(y.name:Ai1)))):=k37;clear k37;refine gX ?_;refine cB ((((decide (((Am z.1.branches y).1:Nat)=(0)))&&(Ai y.new))&&(!(Ai y.old)))&&(decide ((z.1.head:Ai1)=(y.name:Ai1)))) bw (fun ak=> ?_) fun ak=> ?_
 ·have h0c:Og z.1 y=true:=ak;refine Az rfl (vr (NI 16) rfl) ?_;exact⟨z,⟨by unfold Dm;rw[if_pos h0c],by unfold Dm;rw[if_pos h0c]⟩,⟨c,ag,hblk,hbr,htg,hlg,hab,hat,hal,hlb,hlt⟩,rfl,hgr⟩
 have h0c:Og z.1 y=false:=ak;refine gS (ZO (a:=((Am z.1.branches y).1:Nat)) (b:=(0:Nat)) T6 rfl (AI _ _ _ _) ?_);refine cD rfl (fun am=> ?_) fun am=> ?_
 ·have h1c:=am;refine gS (AcA T0 (gS (Acy PD rfl (gS (ZS (i:=0) (v:=t) rfl T5 hblk (by rw[An];decide) Lt (AcD (ZQ u)).1 (AcD (ZQ u)).2 fun aq ar aa b9=> ?_)))));have hbr:=AcC hbr aa hab;have htg:=AcC htg aa hat;have hlg:=AcC hlg aa hal;have hgr:w.grownBy aq (some g):=Aa hgr aa (fun _ e=> .inl e);clear hE;have c:=Ad c aa (Adu (Adw _) (by omega));clear r;have n:=kb aa n (by omega);have u:=AcC u aa ap;clear hblk;have hblk:aq.heap[g]? =some (.cells (refsC ((⟨(Am z.1.branches y).2,z.1.tags,z.1.head,z.1.at_,z.1.log⟩,⟨t,z.2.tags,z.2.log⟩):Af)).toArray 36 (0,0)):=AG ar (HE z t ((Am z.1.branches y).2));clear ar;have ca:=bl hblk;refine Az rfl T6 ?_;exact⟨((⟨(Am z.1.branches y).2,z.1.tags,z.1.head,z.1.at_,z.1.log⟩,⟨t,z.2.tags,z.2.log⟩):Af),⟨by unfold Dm;rw[if_neg (by rw[h0c];decide),if_pos h1c,h1c],by unfold Dm;rw[if_neg (by rw[h0c];decide),if_pos h1c]⟩,⟨c,ag,hblk,u,htg,hlg,ap,hat,hal,a4,hlt⟩,rfl,hgr⟩
 have h1c:=am;refine Az rfl T6 ?_;exact⟨z,⟨by unfold Dm;rw[if_neg (by rw[h0c];decide),if_neg h1c],by unfold Dm;rw[if_neg (by rw[h0c];decide),if_neg h1c]⟩,⟨c,ag,hblk,hbr,htg,hlg,hab,hat,hal,hlb,hlt⟩,rfl,hgr⟩
theorem W4(w0 w:Ads)(g:Nat)(z:Af)(hA:AppAt w0 w g z)(hS:Fp z.1)(y:AC):
  Calls Adt 90 #[PQ g 0, .agg (updC y).toArray] w fun e w' =>∃z',(e = .returned (NI (GK z.1 y).1)/\z'.1=(GK z.1 y).2)/\AppAt w0 w' g z' /\z'.2.log=z.2.log/\w.grownBy w' (some g):=by
 have hgr:=AdZ w (some g);have c:=hA.ext;have ae:=hA.g0;have hblk:=hA.blk;have hbr:=hA.br;have htg:=hA.tg;have hlg:=hA.lg;have hab:=hA.ab;have hat:=hA.at_;have hal:=hA.al;have hlb:=hA.lb;have hlt:=hA.lt;have hlg0:=hA.lg;have hgl:=(bl hblk);refine gG (args:= [PQ g 0, .agg (updC y).toArray]) Tryz.func90 rfl 23 rfl rfl ?_;have hE:=Acz w;refine gS (AcP (vr (.agg (updC y).toArray) rfl) fun m f ak af l a1=> ?_);have p:=Acz w;have a2:=hE;have a3:=c;have a4:=hE.size;have a5:=c.size;have a6:=AO (bl hblk) ak;have a7:OB z.2.branches m:=Cf hbr.2 (by omega);have a8:OB z.2.tags m:=Cf htg.2 (by omega);have a9:OB z.2.log m:=Cf hlg.2 (by omega);have hblk:=eb l hblk;have hbr:=hbr.keep l;have htg:=htg.keep l;have hlg:=hlg.keep l;have hgr:w.grownBy f (some g):=Aa hgr l.grown (fun _ e=>by cases e);have hE:=hE.trans l;have c:=c.trans l;have p:=p.trans l;have q:=af;clear af;have ba:m<f.heap.size:=by omega
 refine gR ?_;refine E1 [Is (PQ g 0),Is (PQ g 0),Is (PQ g 1),Is (z.2.tags),Is (.agg (updC y).toArray),fun x w' =>∃v,x = .tuple #[v,NI (Am z.1.tags y).1]/\NewOG 94 w0 f w' v ((Am z.1.tags y).2),fun x w' =>∃v,x = .tuple #[v,NI (Am z.1.tags y).1]/\NewOG 94 w0 f w' v ((Am z.1.tags y).2),fun x w' =>NewOG 94 w0 f w' x ((Am z.1.tags y).2),Is (NI ((Am z.1.tags y).1)),fun x w' =>NewOG 94 w0 f w' x ((Am z.1.tags y).2),Is (NI ((Am z.1.tags y).1))] (by kernel_rfl) [8,9,10,11,12,13,7,14,15,5,6] (by kernel_rfl) (by kernel_rfl) (Zl ⟨(fun _ _ _ ⟨v,h1,h2⟩ k=>⟨v,h1,h2.keep k⟩),(fun _ _ _ ⟨v,h1,h2⟩ k=>⟨v,h1,h2.keep k⟩),(fun _ _ _ h k=>Adm h k),ZW _,(fun _ _ _ h k=>Adm h k),ZW _,trivial⟩) ?am ?hQ1001
 case am=>
  refine⟨?_,?_,?_,?_,?_,?_,?_,?_,?_,?_,?_,trivial⟩
  ·refine AE rfl fun σ w1 hC h=> ?_;have e0:σ 0=PQ g 0:=(AJ (h 0 (by decide))).trans rfl;exact AcF e0 ⟨Acz _,rfl⟩
  ·refine AE rfl fun σ w1 hC h=> ?_;have e8:=AJ (h 8 (by decide));exact AcA e8 ⟨Acz _,rfl⟩
  ·refine AE rfl fun σ w1 hC h=> ?_;have e9:=AJ (h 9 (by decide));exact Acy PE e9 ⟨Acz _,rfl⟩
  ·refine AE rfl fun σ w1 hC h=> ?_;have aq:=AJ (h 10 (by decide));exact ZN Fb rfl aq (Ac (eb hC hblk) (BQ z)) ⟨Acz _,rfl⟩
  ·refine AE rfl fun σ w1 hC h=> ?_;have e3:σ 3=PQ m 0:=(AJ (h 3 (by decide))).trans rfl;exact ZY ME e3 (eb hC q) ⟨Acz _,rfl⟩
  ·refine AE rfl fun σ w1 hC h=> ?_;have au:=AJ (h 11 (by decide));have av:=AJ (h 12 (by decide));refine ZR Ls au av ((Lq _ z.2.tags z.1.tags (ZQ (htg.keep hC)) (by have:=hS.tl;omega) hS.tg y).mono ?_);rintro e w2 ⟨v,rfl,ho,hx⟩;exact⟨_,rfl,hx,v,rfl,Abv ho c.size hC.size⟩
  ·refine AE rfl fun σ w1 hC h=> ?_;have aw:(fun x w' =>∃v,x = .tuple #[v,NI (Am z.1.tags y).1]/\NewOG 94 w0 f w' v ((Am z.1.tags y).2)) (σ 13) w1:=h 13 (by decide);exact AcF rfl ⟨Acz _,aw⟩
  ·refine AE rfl fun σ w1 hC h=> ?_;have u:(fun x w' =>∃v,x = .tuple #[v,NI (Am z.1.tags y).1]/\NewOG 94 w0 f w' v ((Am z.1.tags y).2)) (σ 7) w1:=h 7 (by decide);obtain⟨t,h1_,h2_⟩:=u;exact AcB (vs:= [t,_]) h1_ (show _=some t from rfl) ⟨Acz _,h2_⟩
  ·refine AE rfl fun σ w1 hC h=> ?_;have u:(fun x w' =>∃v,x = .tuple #[v,NI (Am z.1.tags y).1]/\NewOG 94 w0 f w' v ((Am z.1.tags y).2)) (σ 7) w1:=h 7 (by decide);obtain⟨t,h1_,h2_⟩:=u;exact AcB (vs:= [t,NI (Am z.1.tags y).1]) h1_ (show _=some (NI (Am z.1.tags y).1:Adr)from rfl) ⟨Acz _,rfl⟩
  ·refine AE rfl fun σ w1 hC h=> ?_;have ax:(fun x w' =>NewOG 94 w0 f w' x ((Am z.1.tags y).2)) (σ 14) w1:=h 14 (by decide);exact AcS rfl ⟨Acz _,ax⟩
  ·refine AE rfl fun σ w1 hC h=> ?_;have ay:=AJ (h 15 (by decide));exact AcS ay ⟨Acz _,rfl⟩
 intro aa ag j he hf;obtain⟨-,-,-,-,-,-,-,-,-,k5,k6,-⟩:=hf;obtain⟨T0,T1,T3,T4,-⟩:=he.hold [(0,PQ g 0),(1, .agg (updC y).toArray),(3,PQ m 0),(4,NI 0)] ⟨rfl,rfl,rfl,rfl,trivial⟩ rfl;clear he;have hblk:=eb j hblk;have hbr:=hbr.keep j;have htg:=htg.keep j;have hlg:=hlg.keep j;have hgr:w.grownBy ag (some g):=Aa hgr j.grown (fun _ e=>by cases e);have hE:=hE.trans j;have c:=c.trans j;have p:=p.trans j;have q:=eb j q;have k5:(fun x w' =>NewOG 94 w0 f w' x ((Am z.1.tags y).2)) (aa 5) ag:=k5;obtain⟨n,T5⟩:∃v,aa 5=v:=⟨_,rfl⟩;rw[T5]at k5;have r:=k5;clear k5;have ah:OB n g:=Adj r (by omega);have bb:OB n m:=Adj r (by omega);have a0:C9 z.2.log n:=Aa0 r hlg0 (by omega);have s:=r.1;clear r;have T6:aa 6=NI ((Am z.1.tags y).1):=k6;clear k6;refine gX (gS (ZO (a:=((Am z.1.tags y).1:Nat)) (b:=(0:Nat)) T6 rfl (AI _ _ _ _) ?_));refine cD rfl (fun ad=> ?_) fun ad=> ?_
 ·have h1c:=ad;refine gS (AcA T0 (gS (Acy PE rfl (gS (ZS (i:=1) (v:=n) rfl T5 hblk (by rw[An];decide) Lt (AcD (ZQ s)).1 (AcD (ZQ s)).2 fun ai aj o bc=> ?_)))));have hbr:=AcC hbr o hab;have htg:=AcC htg o hat;have hlg:=AcC hlg o hal;have hgr:w.grownBy ai (some g):=Aa hgr o (fun _ e=> .inl e);clear hE;have c:=Ad c o (Adu (Adw _) (by omega));clear p;have q:=kb o q (by omega);have s:=AcC s o ah;clear hblk;have hblk:ai.heap[g]? =some (.cells (refsC ((⟨z.1.branches,(Am z.1.tags y).2,z.1.head,z.1.at_,z.1.log⟩,⟨z.2.branches,n,z.2.log⟩):Af)).toArray 36 (0,0)):=AG aj (HF z n ((Am z.1.tags y).2));clear aj;have bd:=bl hblk;refine Az rfl T6 ?_;exact⟨((⟨z.1.branches,(Am z.1.tags y).2,z.1.head,z.1.at_,z.1.log⟩,⟨z.2.branches,n,z.2.log⟩):Af),⟨by unfold GK;rw[if_pos h1c,h1c],by unfold GK;rw[if_pos h1c]⟩,⟨c,ae,hblk,hbr,s,hlg,hab,ah,hal,hlb,a0⟩,rfl,hgr⟩
 have h1c:=ad;refine Az rfl T6 ?_;exact⟨z,⟨by unfold GK;rw[if_neg h1c],by unfold GK;rw[if_neg h1c]⟩,⟨c,ae,hblk,hbr,htg,hlg,hab,hat,hal,hlb,hlt⟩,rfl,hgr⟩
theorem U0(w0 w:Ads)(g:Nat)(z:Af)(hA:AppAt w0 w g z)(hS:Fp z.1)(y:AC):
  Calls Adt 91 #[PQ g 0, .agg (updC y).toArray] w fun e w' =>∃z',(e = .returned (NI (NM z.1 y).1)/\z'.1=(NM z.1 y).2)/\AppAt w0 w' g z' /\z'.2.log=z.2.log/\w.grownBy w' (some g):=by
 have hgr:=AdZ w (some g);have b:=hA.ext;have u:=hA.g0;have hblk:=hA.blk;have hbr:=hA.br;have htg:=hA.tg;have hlg:=hA.lg;have hab:=hA.ab;have hat:=hA.at_;have hal:=hA.al;have hlb:=hA.lb;have hlt:=hA.lt;have hlg0:=hA.lg;have hgl:=(bl hblk);refine gG (args:= [PQ g 0, .agg (updC y).toArray]) Tryz.func91 rfl 15 rfl rfl ?_;have hE:=Acz w;refine gS (AcP (vr (.agg (updC y).toArray) rfl) fun n o x p h ac=> ?_);have l:=Acz w;have ad:=hE;have ae:=b;have af:=hE.size;have ag:=b.size;have ah:=AO (bl hblk) x;have ai:OB z.2.branches n:=Cf hbr.2 (by omega);have aj:OB z.2.tags n:=Cf htg.2 (by omega);have ak:OB z.2.log n:=Cf hlg.2 (by omega);have hblk:=eb h hblk;have hbr:=hbr.keep h;have htg:=htg.keep h;have hlg:=hlg.keep h;have hgr:w.grownBy o (some g):=Aa hgr h.grown (fun _ e=>by cases e);have hE:=hE.trans h;have b:=b.trans h;have l:=l.trans h;have c:=p;clear p;have am:n<o.heap.size:=by omega
 refine Ev [0,1,2,3,4,5,6,7,8,9,10,11] [8,11] [4] [5] fun aa f=> ?_;have hblk:=eb f hblk;have hbr:=hbr.keep f;have htg:=htg.keep f;have hlg:=hlg.keep f;have hgr:w.grownBy aa (some g):=Aa hgr f.grown (fun _ e=>by cases e);have hE:=hE.trans f;have b:=b.trans f;have l:=l.trans f;have c:=eb f c;refine Qa c ?_;refine ys (Acy PH rfl zz) (ys (ZN E4 rfl rfl (Ac c (DK y)) zz) (yp (Acy Kd rfl zz) (yf (fun _ ⟨c,_⟩=>ZT (AcN c (CP y) (C6 y) rfl) WA rfl (As y.new.2) zz) (ys (AcA rfl zz) (ys (Acy Hh rfl zz) (yI (ZS (i:=2) (v:=St (y.name)) rfl rfl hblk (by rw[An];decide) Ta rfl rfl fun q r j an=> ?_)))))));have hbr:=AcC hbr j hab;have htg:=AcC htg j hat;have hlg:=AcC hlg j hal;have hgr:w.grownBy q (some g):=Aa hgr j (fun _ e=> .inl e);clear hE;have b:=Ad b j (Adu (Adw _) (by omega));clear l;have c:=kb j c (by omega);clear hblk;have hblk:q.heap[g]? =some (.cells (refsC ((⟨z.1.branches,z.1.tags,y.name,z.1.at_,z.1.log⟩,⟨z.2.branches,z.2.tags,z.2.log⟩):Af)).toArray 36 (0,0)):=AG r (L1 z y.name);clear r;have ao:=bl hblk;refine⟨⟨c,trivial⟩,?_⟩;refine ys (AcA rfl zz) (ys (Acy Ka rfl zz) (yD rfl (Aao (a:=E9 ((⟨z.1.branches,z.1.tags,y.name,z.1.at_,z.1.log⟩,⟨z.2.branches,z.2.tags,z.2.log⟩):Af)) (m:=Adv z.1.at_.1) (z:=Gx ((⟨z.1.branches,z.1.tags,y.name,z.1.at_,z.1.log⟩,⟨z.2.branches,z.2.tags,z.2.log⟩):Af)) (cells:=Adv y.new.1) rfl rfl (Cx ((⟨z.1.branches,z.1.tags,y.name,z.1.at_,z.1.log⟩,⟨z.2.branches,z.2.tags,z.2.log⟩):Af)▸hblk) (CH ((⟨z.1.branches,z.1.tags,y.name,z.1.at_,z.1.log⟩,⟨z.2.branches,z.2.tags,z.2.log⟩):Af)) (by rw[AdG,AdG,z.1.at_.2,y.new.2]) (by rw[AdG,y.new.2];exact Sz) (Ay _) fun s t k ap=> ?_)));have hbr:=AcC hbr k hab;have htg:=AcC htg k hat;have hlg:=AcC hlg k hal;have hgr:w.grownBy s (some g):=Aa hgr k (fun _ e=> .inl e);have b:=Ad b k (Adu (Adw _) (by omega));have c:=kb k c (by omega);clear hblk;have hblk:s.heap[g]? =some (.cells (refsC ((⟨z.1.branches,z.1.tags,y.name,y.new,z.1.log⟩,⟨z.2.branches,z.2.tags,z.2.log⟩):Af)).toArray 36 (0,0)):=AG t (L2 ((⟨z.1.branches,z.1.tags,y.name,z.1.at_,z.1.log⟩,⟨z.2.branches,z.2.tags,z.2.log⟩):Af) y.new);clear t;have aq:=bl hblk;refine Az rfl (vr (NI 0) rfl) ?_;exact⟨((⟨z.1.branches,z.1.tags,y.name,y.new,z.1.log⟩,⟨z.2.branches,z.2.tags,z.2.log⟩):Af),⟨rfl,rfl⟩,⟨b,u,hblk,hbr,htg,hlg,hab,hat,hal,hlb,hlt⟩,rfl,hgr⟩
theorem Rg(w:Ads):
  Calls Adt 38 #[] w fun e w' =>∃b,e = .returned (.map (some b))/\MapF B8 Oh (fun _:UInt8=>True) w' b doG/\w.heap.size<=b/\Ext w w' :=by
 refine gG (args:= []) Tryz.func38 rfl 3 rfl rfl ?_;have hE:=Acz w;refine gS (AaV B8 Oh (fun _:UInt8=>True) fun f k s i l t=> ?_);have hE:=hE.trans l;have u:f<k.heap.size:=by omega
 refine gS (Abe (ek:=B8) (ev:=Oh) (D:=(fun _:UInt8=>True)) (a:=1) (c:=89) NK NL Jf rfl rfl rfl i trivial fun m g n v=> ?_);have hE:=Ad hE n (Adu (Adw _) (by omega));clear i;have x:f<m.heap.size:=g.lt;refine gS (Abe (ek:=B8) (ev:=Oh) (D:=(fun _:UInt8=>True)) (a:=2) (c:=90) NK NL Jf rfl rfl rfl g trivial fun o h p y=> ?_);have hE:=Ad hE p (Adu (Adw _) (by omega));clear g;have z:f<o.heap.size:=h.lt;refine gS (Abe (ek:=B8) (ev:=Oh) (D:=(fun _:UInt8=>True)) (a:=3) (c:=91) NK NL Jf rfl rfl rfl h trivial fun q j r aa=> ?_);have hE:=Ad hE r (Adu (Adw _) (by omega));clear h;have ab:f<q.heap.size:=j.lt;refine Az rfl (vr (.map (some f)) rfl) ?_;exact⟨_,rfl,j,by omega,hE⟩
theorem MF{k:UInt8}{f:Nat}(h:doG k=some f):(k.toNat=1/\f=89)\/(k.toNat=2/\f=90)\/(k.toNat=3/\f=91):=by
 unfold doG updM at h;split at h
 ·rename_i e;subst e;exact .inr (.inr ⟨rfl,(AdY h).symm⟩)
 ·split at h
  ·rename_i e;subst e;exact .inr (.inl ⟨rfl,(AdY h).symm⟩)
  ·split at h
   ·rename_i e;subst e;exact .inl ⟨rfl,(AdY h).symm⟩
   ·cases h
theorem U1{k:UInt8}(h:Ej k=true):∃f,doG k=some f:=by
 unfold Ej at h;simp only[AeH,decide_eq_true_eq]at h;rcases h with (h | h) | h
 ·obtain rfl:k=1:=UInt8.toNat_inj.1 h;exact⟨_,rfl⟩
 ·obtain rfl:k=2:=UInt8.toNat_inj.1 h;exact⟨_,rfl⟩
 ·obtain rfl:k=3:=UInt8.toNat_inj.1 h;exact⟨_,rfl⟩
theorem ZF:Plain Adt 89:=fun _ _=>by kernel_rfl
theorem ZG:Plain Adt 90:=fun _ _=>by kernel_rfl
theorem ZH:Plain Adt 91:=fun _ _=>by kernel_rfl
theorem U2{k:UInt8}{f:Nat}(h:doG k=some f):Plain Adt f:=by
 rcases MF h with ⟨-,e⟩ | ⟨-,e⟩ | ⟨-,e⟩ <;> rw[e]
 ·exact ZF
 ·exact ZG
 ·exact ZH
theorem Ym(w0 w:Ads)(g:Nat)(z:Af)(hA:AppAt w0 w g z)(hS:Fp z.1)(y:AC){f:Nat}(hf:doG y.kind=some f):
  Calls Adt f #[PQ g 0, .agg (updC y).toArray] w fun e w' =>∃z',(e = .returned (NI (Cy z.1 y).1)/\z'.1=(Cy z.1 y).2)/\AppAt w0 w' g z' /\z'.2.log=z.2.log/\w.grownBy w' (some g):=by
 rcases MF hf with ⟨hk,rfl⟩ | ⟨hk,rfl⟩ | ⟨hk,rfl⟩
 ·rw[show Cy z.1 y=Dm z.1 y by unfold Cy;rw[if_pos hk]];exact Rf w0 w g z hA hS y
 ·rw[show Cy z.1 y=GK z.1 y by unfold Cy;rw[if_neg (by omega),if_pos hk]];exact W4 w0 w g z hA hS y
 ·rw[show Cy z.1 y=NM z.1 y by unfold Cy;rw[if_neg (by omega),if_neg (by omega)]];exact U0 w0 w g z hA hS y
section
variable {α β : Type} {b b' k k' g : Nat} {t t' : Ady} {enc : α -> List Adr} {enc' : β -> List Adr} {w : Ads} {u v : Adr} {l : List α} {m : List β}
theorem OG.off(h:OG b t k enc w v l){cs:Array Adr}{fr:Nat × Nat}(hb:w.heap[g]? =some (.cells cs t' fr))(hne:t≠t'):v.ownBlock≠some g:=by
 obtain⟨-,-,⟨rfl,-⟩ | ⟨g',c,cur,rfl,-,hg,-⟩⟩:=h
 ·simp[Aec]
 ·intro e;obtain rfl:g' =g:=by simpa [Aec] using e
  rw[hg]at hb;simp only[AeZ,Obj.cells.injEq]at hb;exact hne hb.2.1
abbrev AcE:=@OG.off
theorem Acd{γ δ:Type}{ek:γ->Adr}{ev:δ->Adr}{D:γ->Prop}{G:γ->Option δ}(h:OG b t k enc w v l)(hb:MapF ek ev D w g G):v.ownBlock≠some g:=by
 obtain⟨es,c,hm,-⟩:=hb;obtain⟨-,-,⟨rfl,-⟩ | ⟨g',c,cur,rfl,-,hg,-⟩⟩:=h
 ·simp[Aec]
 ·intro e;obtain rfl:g' =g:=by simpa [Aec] using e
  rw[hg]at hm;cases hm
theorem OG.apart(hu:OG b t k enc w u l)(hv:OG b' t' k' enc' w v m)(hne:t≠t'):C9 u v:=fun g h1 h2=>by
 obtain⟨-,-,⟨rfl,-⟩ | ⟨g',c,cur,rfl,-,hg,-⟩⟩:=hv
 ·simp[Aec]at h2
 ·obtain rfl:g' =g:=by simpa [Aec] using h2
  exact hu.off hg hne h1
abbrev Adb:=@OG.apart
end
structure RefsOw (b : Nat) (w : Ads) (z : Af) : Prop where
 br:OG b 94 33 nmdC w z.2.branches z.1.branches
 tg:OG b 94 33 nmdC w z.2.tags z.1.tags
 lg:OG b 97 67 entC w z.2.log z.1.log
theorem RefsOw.keep{b:Nat}{w w' :Ads}{z:Af}(h:RefsOw b w z)(k:Ext w w'):RefsOw b w' z:=⟨h.br.keep k,h.tg.keep k,h.lg.keep k⟩
theorem RefsOw.rd{b:Nat}{w:Ads}{z:Af}(h:RefsOw b w z):RefsAt w z:=⟨ZQ h.br,ZQ h.tg,ZQ h.lg⟩
theorem RefsOw.zero{b:Nat}{w:Ads}{z:Af}(h:RefsOw b w z):RefsOw 0 w z:=⟨h.br.low (AdN _),h.tg.low (AdN _),h.lg.low (AdN _)⟩
theorem Acl{P:AdM}{K:Adr->Ads->Prop}{ρ:Aj}{w:Ads}{d:Option Tmp}{ty:Ady}{pos:String}{af:Array Edge}{gd:Option (Nat × Bool)}{t1 t2:Ady}{x y:AdC}{n m:Nat}(hx:Ab ρ x = .int .i64 ((n:Int)-(m:Int)))(hy:Ab ρ y=NI 0)(hk:K (NI (n-m)) w):
  Yk P K ((execOp (Ab ρ) ⟨d, .call ⟨.builtin .max,#[x,y],#[t1,t2]⟩,ty,pos,af,gd⟩).run P w):=by
 refine AcG (v:=NI (n-m)) (w' :=w) ?_ hk;unfold execOp;simp only[resolve,invoke,builtin,hx,hy,AdH,AdK,AdO,AdB,AdF,AdA];have hr:(Builtin.max_ #[t1,t2] ty #[.int .i64 ((n:Int)-(m:Int)),NI 0]).run P w = .ok (NI (n-m)) w:=by
  simp only[Builtin.max_,List.foldlM_cons,List.foldlM_nil,AdB,Builtin.max2,AdF,AdA]
  congr 2
  simp only[Int.natCast_zero];split <;> omega
 rw[hr];rfl
abbrev EX:Au:=⟨[],[],[],zid,[]⟩
def entOf(y:AC)(note:Bs):Ba:=⟨y.kind,y.name,y.old,y.new,note⟩
def F5(r:Au)(e:Ba):Au:=⟨r.branches,r.tags,r.head,r.at_,r.log++ [e]⟩
def Dx(note:Bs)(r:Au)(y:AC):Nat × Au:=if BE y≠0 then(BE y,r)else if(Cy r y).1≠0 then((Cy r y).1,r)else(0,F5 (Cy r y).2 (entOf y note))
def Dq(note:Bs):Au->List AC->Nat × Au
 | r,[]=>(0,r)
 | r,y :: l=>if(Dx note r y).1≠0 then((Dx note r y).1,EX)else Dq note (Dx note r y).2 l
def Jg(r:Au):Au:=⟨r.branches,r.tags,r.head,r.at_,r.log.drop (r.log.length-64)⟩
noncomputable def Ag(r:Au)(l:List AC)(note:Bs):Nat × Au:=
 if((!AA r)||(!CB note))=true then(1,EX)else if(Dq note r l).1≠0 then((Dq note r l).1,EX)else(0,Jg (Dq note r l).2)
theorem L7{note:Bs}{r:Au}{l:List AC}{i:Nat}(hi:i<l.length):Dq note r (l.drop i)=if(Dx note r (l.getD i AD)).1≠0 then((Dx note r (l.getD i AD)).1,EX)else Dq note (Dx note r (l.getD i AD)).2 (l.drop (i+1)):=by
 rw[Afk hi,Adz,AdE hi];rfl
section
variable {note : Bs} {r r' : Au} {l : List AC} {i e : Nat}
theorem Tb(hi:i<l.length)(h:BE (l.getD i AD)≠0):Dq note r (l.drop i)=(BE (l.getD i AD),EX):=by
 rw[L7 hi,show Dx note r (l.getD i AD)=(BE (l.getD i AD),r) by unfold Dx;rw[if_pos h],if_pos h]
theorem MG(hi:i<l.length)(h:BE (l.getD i AD)=0)(h2:(Cy r (l.getD i AD)).1≠0):Dq note r (l.drop i)=((Cy r (l.getD i AD)).1,EX):=by
 rw[L7 hi,show Dx note r (l.getD i AD)=((Cy r (l.getD i AD)).1,r) by unfold Dx;rw[if_neg (fun k=>k h),if_pos h2],if_pos h2]
theorem MH(hi:i<l.length)(h:BE (l.getD i AD)=0)(h2:(Cy r (l.getD i AD)).1=0):Dq note r (l.drop i)=Dq note (F5 (Cy r (l.getD i AD)).2 (entOf (l.getD i AD) note)) (l.drop (i+1)):=by
 rw[L7 hi,show Dx note r (l.getD i AD)=(0,F5 (Cy r (l.getD i AD)).2 (entOf (l.getD i AD) note)) by unfold Dx;rw[if_neg (fun k=>k h),if_neg (fun k=>k h2)],if_neg (fun k=>k rfl)]
theorem Oi(hi:l.length<=i):Dq note r (l.drop i)=(0,r):=by rw[AeR hi];rfl
theorem Rh(h:((!AA r)||(!CB note))=true):Ag r l note=(1,EX):=by unfold Ag;rw[if_pos h]
theorem Ik(h0:((!AA r)||(!CB note))=false)(h:Dq note r l=(e,EX))(he:e≠0):Ag r l note=(e,EX):=by unfold Ag;rw[h0,if_neg (by decide),h,if_pos he]
theorem MI(h0:((!AA r)||(!CB note))=false)(h:Dq note r l=(0,r')):Ag r l note=(0,Jg r'):=by unfold Ag;rw[h0,if_neg (by decide),h,if_neg (fun k=>k rfl)]
theorem Hj{y:AC}(h:BE y=0):Ej y.kind=true:=by
 unfold BE at h;cases hk:Ej y.kind with
 | true=>rfl
 | false=>rw[hk]at h;simp at h
end
theorem Jh{l:List AK}:DX l↔(l.map (·.name)).Pairwise (· < ·):=by
 rw[List.pairwise_map,List.pairwise_iff_getElem];unfold DX;constructor
 ·intro h i j hi hj hij;have:=h i j hij hj
  rwa [Adz,AdE hi,Adz,AdE hj]at this
 ·intro h i j hij hj;have:=h i j (by omega) hj hij;rw[Adz,AdE (by omega),Adz,AdE hj];exact this
theorem Hk{a:AK}{l:List AK}{s:Bs}:BM (a :: l) s=if a.name<s then BM l s+1 else 0:=by
 unfold BM;rw[List.takeWhile_cons];by_cases h:a.name<s <;> simp[h]
theorem MJ:∀(l:List AK) (s:Bs),BM l s<=l.length
 | [],s=>Adw _
 | a :: l,s=>by rw[Hk];have:=MJ l s;split <;> simp <;> omega
theorem ML:∀ {l:List AK} {s:Bs} {j:Nat},j<BM l s->(l.getD j dNmd).name<s
 | [],s,j,h=>by simp[BM]at h
 | a :: l,s,j,h=>by
  rw[Hk]at h;split at h
  ·cases j with
   | zero=>assumption
   | succ j=>exact ML (l:=l) (by omega)
  ·omega
theorem MM:∀ {l:List AK} {s:Bs},BM l s<l.length->¬(l.getD (BM l s) dNmd).name<s
 | [],s,h=>by simp at h
 | a :: l,s,h=>by
  rw[Hk]at h ⊢;split at h
  ·rename_i e
   rw[if_pos e];exact MM (l:=l) (by simpa using h)
  ·rename_i e
   rw[if_neg e];exact e
theorem Tc{l:List AK}{s:Bs}(hs:DX l):JP l s (BM l s):=by
 refine⟨MJ l s,fun j hj=>ML hj,fun j h1 h2=> ?_⟩;exact Lm hs (MM (by omega)) j h1 h2
theorem Td{a b:Bs}(h:¬a<b)(h2:a≠b):b<a:=by
 by_cases h3:b<a
 ·exact h3
 ·exact absurd (List.le_antisymm h3 h) h2
theorem Ny{l:List AK}{i:Nat}:(l.getD i dNmd).name=(l.map (·.name)).getD i []:=by
 rw[Adz,Adz,List.getElem?_map];cases l[i]? <;> rfl
theorem GL{l:List AK}{y:AC}(hs:DX l)(hl:l.length<=64):DX (Am l y).2/\(Am l y).2.length<=64:=by
 have hp:=Tc (s:=y.name) hs;have hnil:DX []:=fun i j _ h=>by simp at h
 unfold Am;rcases hf:BW l y.name (BM l y.name)with _ | _
 ·rw[JQ hf];split
  ·exact⟨hnil,by simp⟩
  ·split
   ·exact⟨hs,hl⟩
   ·split
    ·exact⟨hnil,by simp⟩
    ·refine⟨?_,by rw[Adx,AdJ,AdS,AdT];have:=hp.1;omega⟩;have b:=hs;rw[Jh]at hs ⊢;rw[List.map_append,AdK,List.pairwise_append,List.pairwise_cons];refine⟨?_,⟨?_,?_⟩,?_⟩
     ·rw[List.map_take];exact hs.sublist (List.take_sublist _ _)
     ·intro a ha;obtain⟨n,hn,rfl⟩:=Aeq.1 ha;obtain⟨i,hi,rfl⟩:=AeB.1 hn;rw[AdT]at hi;have h1:=hp.2.2 (BM l y.name+i) (by omega) (by omega);rw[Adz,AdE (by omega)]at h1;rw[Ahq];refine Td h1 fun e=> ?_;have hi0:i=0:=by
       refine Nat.eq_zero_of_not_pos fun h0=> ?_;have h2:=b (BM l y.name) (BM l y.name+i) (by omega) (by omega);rw[show l.getD (BM l y.name+i) dNmd=l[BM l y.name+i]'(by omega)from by rw[Adz,AdE (by omega)];rfl]at h2;refine hp.2.2 (BM l y.name) (Adw _) (by omega) ?_;rw[e]at h2;exact h2
      subst hi0;unfold BW at hf;rw[Adz,AdE (by omega)]at hf;simp only[AfO,decide_eq_false_iff_not]at hf;rcases hf with hf | hf
      ·omega
      ·exact hf e
     ·rw[List.map_drop];exact hs.sublist (List.drop_sublist _ _)
     ·intro a ha c hc;obtain⟨n,hn,rfl⟩:=Aeq.1 ha;obtain⟨i,hi,rfl⟩:=AeB.1 hn;rw[AdS]at hi;rw[List.getElem_take];have h1:=hp.2.1 i (by omega);rw[Adz,AdE (by omega)]at h1;rcases Ad5.1 hc with rfl | hc
      ·exact h1
      ·obtain⟨m,hm,rfl⟩:=Aeq.1 hc;obtain⟨j,hj,rfl⟩:=AeB.1 hm;rw[AdT]at hj;rw[Ahq];have h2:=b i (BM l y.name+j) (by omega) (by omega);rw[Adz,AdE (by omega),Adz,AdE (by omega)]at h2;exact h2
 ·rw[Lp hf];have hlt:=KH hf;split
  ·exact⟨hnil,by simp⟩
  ·split
   ·refine⟨?_,Adu (List.length_eraseIdx_le _ _) hl⟩;rw[Jh]at hs ⊢;exact hs.sublist ((List.eraseIdx_sublist _ _).map _)
   ·refine⟨?_,by rw[List.length_set];exact hl⟩;rw[Jh]at hs ⊢;rw[List.map_set,Ny];rw[show(l.map (·.name)).set (BM l y.name) ((l.map (·.name)).getD (BM l y.name) [])=l.map (·.name)from by
     rw[Adz,AdE (by rw[List.length_map];exact hlt)];exact List.set_getElem_self _]
    exact hs
theorem Ri{r:Au}{y:AC}(h:Fp r):Fp (Cy r y).2:=by
 unfold Cy;split
 ·unfold Dm;split
  ·exact h
  ·split
   ·have:=GL (y:=y) h.br h.bl;exact⟨this.1,h.tg,this.2,h.tl⟩
   ·exact h
 ·split
  ·unfold GK;split
   ·have:=GL (y:=y) h.tg h.tl;exact⟨h.br,this.1,h.bl,this.2⟩
   ·exact h
  ·exact⟨h.br,h.tg,h.bl,h.tl⟩
theorem L8{r:Au}{y:AC}:(Cy r y).2.log=r.log:=by
 unfold Cy;split
 ·unfold Dm;split
  ·rfl
  ·split <;> rfl
 ·split
  ·unfold GK;split <;> rfl
  ·rfl
theorem Ea{l:List AK}(h:Cb l=true):DX l/\l.length<=64:=by
 classical
 unfold Cb at h;have h:=of_decide_eq_true h;refine⟨?_,h.2⟩;have step:∀j,j+1<l.length->(l.getD j dNmd).name<(l.getD (j+1) dNmd).name:=fun j hj=>by
  have:=h.1 (j+1) hj;unfold nE at this;simp only[Aeg,AfO,decide_eq_false_iff_not,Aez,Nat.add_sub_cancel]at this;rcases this.2 with h1 | h1
  ·omega
  ·rw[bytesLess_eq]at h1;exact of_decide_eq_true h1
 intro i j hij hj
 induction j with
 | zero=>omega
 | succ j ih=>
  by_cases e:i=j
  ·subst e;exact step i hj
  ·exact List.lt_trans (ih (by omega) (by omega)) (step j hj)
theorem GM{r:Au}(h:AA r=true):Cb r.branches=true/\Cb r.tags=true/\r.log.length<=64:=by
 unfold AA at h;simp only[AdX]at h;have h1:=h.1;unfold Ja at h1;simp only[Bool.not_eq_true',Aeg,Aez,decide_eq_false_iff_not]at h1;exact⟨h1.1.1,h1.1.2,by omega⟩
theorem Nz{r:Au}(h:AA r=true):Fp r:=by
 obtain⟨h1,h2,-⟩:=GM h;exact⟨(Ea h1).1,(Ea h2).1,(Ea h1).2,(Ea h2).2⟩
theorem GN{r:Au}{l:List AC}{note:Bs}(h:(Ag r l note).1=0):((!AA r)||(!CB note))=false/\(Dq note r l).1=0/\(Ag r l note).2=Jg (Dq note r l).2:=by
 unfold Ag at h ⊢;split
 ·rename_i h1;rw[if_pos h1]at h;simp at h
 ·rename_i h1
  rw[if_neg h1]at h;split
  ·rename_i h2;rw[if_pos h2]at h;exact absurd h h2
  ·rename_i h2;exact⟨by simpa using h1,Ae9.1 h2,rfl⟩
structure G4 (r : Au) : Prop where
 br:Cb r.branches=true
 tg:Cb r.tags=true
 hd:HK r=false
 lg:∀e∈r.log,Ej e.kind=true/\CB e.note=true/\e.name.length<=32
theorem Dy{l:List AK}:Cb l=true↔(∀n∈l,Aw n.name=true/\Ai n.id=false)/\DX l/\l.length<=64:=by
 classical
 constructor
 ·intro h;refine⟨fun n hn=> ?_,Ea h⟩;unfold Cb at h;have h:=(of_decide_eq_true h).1;obtain⟨i,hi,rfl⟩:=AeB.1 hn;have:=h i hi;unfold nE at this;rw[Adz,AdE hi]at this;simp only[Aeg,Aez,AfH]at this;exact this.1
 ·rintro⟨h1,h2,h3⟩;unfold Cb;refine decide_eq_true ⟨fun j hj=> ?_,h3⟩;unfold nE;have:=h1 (l.getD j dNmd) (Cq dNmd hj);rw[this.1,this.2];simp only[Bool.not_true,Bool.false_or,AfO,decide_eq_false_iff_not,Aez];by_cases h0:0<j
  ·right;rw[bytesLess_eq];exact decide_eq_true (h2 (j-1) j (by omega) hj)
  ·exact .inl h0
theorem Fq{r:Au}:AA r=true↔G4 r/\r.log.length<=64:=by
 classical
 constructor
 ·intro h;obtain⟨h1,h2,h3⟩:=GM h;unfold AA at h;simp only[AdX,Bool.not_eq_true',decide_eq_true_eq]at h;refine⟨⟨h1,h2,h.2.1,fun e he=> ?_⟩,h3⟩;obtain⟨i,hi,rfl⟩:=AeB.1 he;have:=h.2.2 i hi;unfold Hf at this;rw[Adz,AdE hi]at this;simp only[Aeg,Aez,AfH,decide_eq_false_iff_not]at this;exact⟨this.1.1,this.1.2,by omega⟩
 ·rintro⟨h,h3⟩;refine Gt (i:=r.log.length) ?_ h.hd (Adw _) fun j hj=> ?_
  ·unfold Ja;rw[h.br,h.tg];simp;omega
  ·have:=h.lg _ (Cq Ap hj);unfold Hf;rw[this.1,this.2.1,decide_eq_false (by omega)];rfl
theorem U3{r:Au}(h:G4 r):AA (Jg r)=true:=by
 refine Fq.2 ⟨⟨h.br,h.tg,h.hd,fun e he=>h.lg e (Agu he)⟩,?_⟩;show(r.log.drop (r.log.length-64)).length<=64;rw[AdT];omega
theorem Lu{l:List AK}{y:AC}(h:Cb l=true)(hn:Aw y.name=true):Cb (Am l y).2=true:=by
 obtain⟨h1,h2,h3⟩:=Dy.1 h;obtain⟨h4,h5⟩:=GL (y:=y) h2 h3;refine Dy.2 ⟨fun n hm=> ?_,h4,h5⟩;unfold Am at hm;cases hf:BW l y.name (BM l y.name)with
 | true=>
  have hlt:=KH hf;rw[Lp hf]at hm;split at hm
  ·cases hm
  ·split at hm
   ·exact h1 n (List.mem_of_mem_eraseIdx hm)
   ·rename_i hz
    rcases List.mem_or_eq_of_mem_set hm with hm | rfl
    ·exact h1 n hm
    ·exact⟨(h1 _ (Cq dNmd hlt)).1,by simpa using hz⟩
 | false=>
  rw[JQ hf]at hm;split at hm
  ·cases hm
  ·split at hm
   ·exact h1 n hm
   ·rename_i hz
    split at hm
    ·cases hm
    ·rcases Aed.1 hm with hm | hm
     ·exact h1 n (AfB hm)
     ·rcases Ad5.1 hm with rfl | hm
      ·exact⟨hn,by simpa using hz⟩
      ·exact h1 n (Agu hm)
theorem upd_facts{y:AC}(h:BE y=0):Ej y.kind=true/\Qe y=false/\Qf y=false/\Qg y=false:=by
 refine⟨Hj h,?_⟩;unfold BE at h;rw[Hj h]at h;simp only[Bool.not_true,Ae1,if_false]at h;cases h1:Qe y with
 | true=>rw[h1]at h;simp at h
 | false=>
  rw[h1]at h;simp only[Ae1,if_false]at h;cases h2:Qf y with
  | true=>rw[h2]at h;simp at h
  | false=>
   rw[h2]at h;simp only[Ae1,if_false]at h;cases h3:Qg y with
   | true=>rw[h3]at h;simp at h
   | false=>exact⟨rfl,rfl,rfl⟩
theorem Il{y:AC}(h:BE y=0):(y.kind.toNat≠3->Aw y.name=true)/\(y.name≠ []->Aw y.name=true)/\y.name.length<=32:=by
 obtain⟨-,-,-,h3⟩:=upd_facts h;unfold Qg at h3;simp only[AfO,Aez,Aeg,decide_eq_false_iff_not]at h3;refine⟨fun hk=> ?_,fun hn=> ?_,?_⟩
 ·rcases h3 with h3 | h3
  ·exact h3
  ·exact absurd hk h3.1
 ·rcases h3 with h3 | h3
  ·exact h3
  ·exact absurd hn h3.2
 ·rcases h3 with h3 | h3
  ·exact(Ex h3).2
  ·rw[Ae9.1 h3.2];simp
theorem U4{r:Au}{y:AC}(h:G4 r)(hu:BE y=0)(_h0:(Cy r y).1=0):G4 (Cy r y).2:=by
 obtain⟨hk,-,h2,h3⟩:=upd_facts hu;obtain⟨a,b,-⟩:=Il hu;unfold Cy;split
 ·rename_i c
  have hn:=a (by omega);unfold Dm;split
  ·exact h
  ·split
   ·exact⟨Lu h.br hn,h.tg,h.hd,h.lg⟩
   ·exact h
 ·split
  ·rename_i e
   have hn:=a (by omega);unfold GK;split
   ·exact⟨h.br,Lu h.tg hn,h.hd,h.lg⟩
   ·exact h
  ·rename_i c e
   refine⟨h.br,h.tg,?_,h.lg⟩;have f:y.kind.toNat=3:=by
    unfold Ej at hk;simp only[AeH,decide_eq_true_eq]at hk;omega
   unfold Qf at h2;rw[f]at h2;simp only[decide_true,Ahl,Aeg,Aez]at h2;show HK ⟨r.branches,r.tags,y.name,y.new,r.log⟩=false;unfold HK;by_cases hy:y.name= []
   ·have h4:=h2.2;rw[decide_eq_true hy]at h4;simp only[hy];cases hz:Ai y.new with
    | true=>rw[hz]at h4;simp at h4
    | false=>simp
   ·have h4:=h2.2;rw[decide_eq_false hy]at h4;simp only[b hy];cases hz:Ai y.new with
    | false=>rw[hz]at h4;simp at h4
    | true=>simp[hy]
theorem Te{note:Bs}{r:Au}{y:AC}(hn:CB note=true)(h:G4 r)(h0:(Dx note r y).1=0):G4 (Dx note r y).2/\BE y=0/\(Cy r y).1=0/\(Dx note r y).2=F5 (Cy r y).2 (entOf y note):=by
 unfold Dx at h0 ⊢;split
 ·rename_i h1;rw[if_pos h1]at h0;exact absurd h0 h1
 ·rename_i h1
  rw[if_neg h1]at h0;have h1:=Ae9.1 h1;split
  ·rename_i h2;rw[if_pos h2]at h0;exact absurd h0 h2
  ·rename_i h2
   have h2:=Ae9.1 h2;have h3:=U4 h h1 h2;refine⟨⟨h3.br,h3.tg,h3.hd,fun e he=> ?_⟩,h1,h2,rfl⟩;rcases Aed.1 he with he | he
   ·exact h3.lg e he
   ·rw[Aeb.1 he];exact⟨(upd_facts h1).1,hn,(Il h1).2.2⟩
theorem Oj{note:Bs}(hn:CB note=true):∀ {l:List AC} {r:Au},G4 r->(Dq note r l).1=0->G4 (Dq note r l).2
 | [],r,h,_=>h
 | y :: l,r,h,h0=>by
  unfold Dq at h0 ⊢;split
  ·rename_i h1;rw[if_pos h1]at h0;exact absurd h0 h1
  ·rename_i h1;rw[if_neg h1]at h0;exact Oj hn (Te hn h (Ae9.1 h1)).1 h0
theorem Ke{note:Bs}{r:Au}{l:List AC}(h:(Ag r l note).1=0):AA (Ag r l note).2=true:=by
 obtain⟨h1,h2,h3⟩:=GN h;simp only[Aeg,Aez]at h1;rw[h3];exact U3 (Oj h1.2 (Fq.1 h1.1).1 h2)
abbrev G5:Bs:= [109,97,105,110]
abbrev Jj:Cl:=⟨1 :: Aey 31 0,rfl⟩
abbrev u1:AC:=⟨1,G5,zid,Jj⟩
theorem MN:Aw G5=true:=by decide
theorem Tf{l:Bs}{a:Nat}(h:∀x∈l,x.toNat<128)(ha:a<l.length):EO l a=some (a+1):=by
 have hx:(l.getD a 0).toNat<128:=h _ (Cq 0 ha);have hl:DG (l.getD a 0)=some (0,(l.getD a 0).toNat,0):=by unfold DG;rw[if_pos hx]
 unfold EO;rw[hl];simp only[FR];rw[if_neg (by omega),if_pos ⟨AdN _,by unfold N1;simp only[AdN,decide_true,Ahl,AdX,AeH,decide_eq_true_eq];omega⟩]
theorem MO{l:Bs}(h:∀x∈l,x.toNat<128):∀(n a:Nat),l.length<=a+n->EP l a=true
 | 0,a,hn=>KE (by omega)
 | n+1,a,hn=>by
  by_cases ha:a<l.length
  ·rw[Mp ha (Tf h ha)];exact MO h n _ (by omega)
  ·exact KE ha
theorem Lv{l:Bs}(h:∀x∈l,x.toNat<128)(hl:l.length<=256):CB l=true:=by unfold CB;rw[decide_eq_true hl,MO h l.length 0 (by omega)];rfl
theorem U5:CB []=true:=Lv (by decide) (by decide)
theorem Ok:Cb []=true:=by rw[Ih (i:=0) (Adw _) (fun j hj=>absurd hj (Aex _))];rfl
theorem U6:Cb [⟨G5,Jj⟩]=true:=by
 rw[Ih (i:=1) (Adw _) (fun j hj=>by cases j with
  | zero=>rfl
  | succ j=>omega)];rfl
theorem Fs:AA B1.1=true:=Gt (i:=0) (by unfold Ja;rw[Ok];rfl) (by unfold HK;rw[show B1.1.head=G5 from rfl,MN];rfl) (Adw _) (fun j hj=>absurd hj (Aex _))
theorem Qj:BE u1=0:=by decide
theorem Zq:Cy B1.1 u1=(0,⟨[⟨G5,Jj⟩],[],G5,zid,[]⟩):=rfl
/-! ### Numbers below 0; a literal of bytes (any program) -/
theorem Th(t:Ady)(a b:Int)(h: -9223372036854775808<=a+b/\a+b<=9223372036854775807):Go.binOp .add t (.int .i64 a) (.int .i64 b)=pure (.int .i64 (a+b)):=by
 show pure (Value.int .i64 (IntKind.i64.wrap (a+b)))=_;rw[IntWalk.i64_in _ h]
theorem Ol(t:Ady)(a b:Int)(h: -9223372036854775808<=a-b/\a-b<=9223372036854775807):Go.binOp .sub t (.int .i64 a) (.int .i64 b)=pure (.int .i64 (a-b)):=by
 show pure (Value.int .i64 (IntKind.i64.wrap (a-b)))=_;rw[IntWalk.i64_in _ h]
section
variable {P : AdM} {K : Adr -> Ads -> Prop} {ρ : Aj} {w : Ads} {d : Option Tmp} {ty : Ady} {pos : String} {af : Array Edge} {gd : Option (Nat × Bool)}
theorem AaH{α:Type}{enc:α->List Adr}{t e:Ady}{x:AdC}{a:α}{u:Adr}(hx:Ab ρ x=u)(hu:enc a= [u]) 
  (hr:∀w:Ads,(Ad0 t 1 #[(0,u)]).run P w = .ok (.slice (some ⟨w.heap.size,0,none⟩) 1 1) (w.alloc (.cells #[u] e)))
  (hk:∀v w',RG 1 enc w' v [a]->Ext w w' ->K v w'):Yk P K ((execOp (Ab ρ) ⟨d, .buildSlice t 1 #[(0,x)],ty,pos,af,gd⟩).run P w):=by
 have hE:Ext w (w.alloc (.cells #[u] e)):=(Below.refl _ _).alloc (Adw _) _;have hb:(w.alloc (.cells #[u] e)).heap[w.heap.size]? =some (.cells ([u]:List Adr).toArray e (0,0)):=heap_alloc_new w _;refine AcG (v:= .slice (some ⟨w.heap.size,0,none⟩) 1 1) (w' :=w.alloc (.cells #[u] e)) ?_ (hk _ _ ⟨fun y hy=>by rw[Aeb.1 hy,hu];rfl,by simp[hu],_,1,rfl,Adw _,by simp[maxLen],(fun h=>by cases h),fun q hq j z hz=> ?_⟩ hE)
 ·unfold execOp;simp only[AdH,AdK,AdO,hx,AdB,hr,AdA,AdF]
 ·cases hq;rw[Addr.add_lit,Afa];exact Ac hb (by simpa [hu] using hz)
end
theorem W5(y:AC)(note:Bs):updC y++ [AiL ⟨note.toArray⟩]=entC (entOf y note):=by simp[entC,updC,entOf]
theorem Fc:EM Adt 36 refsC:=⟨⟨_,(MD).choose_spec⟩,fun x=>AQ (An x) Lr⟩
theorem Ti:Plain Adt 34:=fun _ _=>by kernel_rfl
theorem MP:Plain Adt 37:=fun _ _=>by kernel_rfl
theorem Im:(Tryz.prog.info? 34).map (·.size)=some 1:=by kernel_rfl
theorem Tj:Plain Adt 38:=fun _ _=>by kernel_rfl
theorem MQ:Tryz.prog.underlying 41=some (.slice 77):=by kernel_rfl
theorem Rj:∀w' :Ads,(sizeOf 77).run Adt w' = .ok 66 w' :=fun _=>by kernel_rfl
theorem Tk{d:Option Tmp}{ty:Ady}{pos:String}{af:Array Edge}{gd:Option (Nat × Bool)}(σ:AdC->Adr)(w:Ads):(execOp σ ⟨d, .alloc 77,ty,pos,af,gd⟩).run Adt w = .ok (.value (PQ w.heap.size 0)) (w.alloc (.cells (updC (⟨0,[],zid,zid⟩:AC)).toArray 77)):=by kernel_rfl
theorem G6:EM Adt 77 updC:=⟨⟨_,(S9).choose_spec⟩,fun x=>AQ (Cv x) Re⟩
theorem Tl:Plain Adt 39:=fun _ _=>by kernel_rfl
theorem U7:∀(cs:Array Adr),cs.size=66->∀(s:ByteArray) (w:Ads),(Aew 97 #[(0,Value.agg cs),(1,AiL s)]).run Adt w = .ok (.agg (cs.toList++ [AiL s]).toArray) w
 | ⟨c0 :: c1 :: c2 :: c3 :: c4 :: c5 :: c6 :: c7 :: c8 :: c9 :: c10 :: c11 :: c12 :: c13 :: c14 :: c15 :: c16 :: c17 :: c18 :: c19 :: c20 :: c21 :: c22 :: c23 :: c24 :: c25 :: c26 :: c27 :: c28 :: c29 :: c30 :: c31 :: c32 :: c33 :: c34 :: c35 :: c36 :: c37 :: c38 :: c39 :: c40 :: c41 :: c42 :: c43 :: c44 :: c45 :: c46 :: c47 :: c48 :: c49 :: c50 :: c51 :: c52 :: c53 :: c54 :: c55 :: c56 :: c57 :: c58 :: c59 :: c60 :: c61 :: c62 :: c63 :: c64 :: c65 :: []⟩,_,s,w=>by kernel_rfl
theorem Tm(c0 c1 c2 c3 c4 c5 c6 c7 c8 c9 c10 c11 c12 c13 c14 c15 c16 c17 c18 c19 c20 c21 c22 c23 c24 c25 c26 c27 c28 c29 c30 c31 c32 c33 c34 c35 c36 c37 c38 c39 c40 c41 c42 c43 c44 c45 c46 c47 c48 c49 c50 c51 c52 c53 c54 c55 c56 c57 c58 c59 c60 c61 c62 c63 c64 c65 c66:Adr)(w:Ads):(Ad0 34 1 #[(0, .agg #[c0,c1,c2,c3,c4,c5,c6,c7,c8,c9,c10,c11,c12,c13,c14,c15,c16,c17,c18,c19,c20,c21,c22,c23,c24,c25,c26,c27,c28,c29,c30,c31,c32,c33,c34,c35,c36,c37,c38,c39,c40,c41,c42,c43,c44,c45,c46,c47,c48,c49,c50,c51,c52,c53,c54,c55,c56,c57,c58,c59,c60,c61,c62,c63,c64,c65,c66])]).run Adt w = .ok (.slice (some ⟨w.heap.size,0,none⟩) 1 1) (w.alloc (.cells #[c0,c1,c2,c3,c4,c5,c6,c7,c8,c9,c10,c11,c12,c13,c14,c15,c16,c17,c18,c19,c20,c21,c22,c23,c24,c25,c26,c27,c28,c29,c30,c31,c32,c33,c34,c35,c36,c37,c38,c39,c40,c41,c42,c43,c44,c45,c46,c47,c48,c49,c50,c51,c52,c53,c54,c55,c56,c57,c58,c59,c60,c61,c62,c63,c64,c65,c66] 97)):=by kernel_rfl
theorem Tn:∀(cs:Array Adr),cs.size=67->∀w:Ads,(Ad0 34 1 #[(0, .agg cs)]).run Adt w = .ok (.slice (some ⟨w.heap.size,0,none⟩) 1 1) (w.alloc (.cells cs 97))
 | ⟨c0 :: c1 :: c2 :: c3 :: c4 :: c5 :: c6 :: c7 :: c8 :: c9 :: c10 :: c11 :: c12 :: c13 :: c14 :: c15 :: c16 :: c17 :: c18 :: c19 :: c20 :: c21 :: c22 :: c23 :: c24 :: c25 :: c26 :: c27 :: c28 :: c29 :: c30 :: c31 :: c32 :: c33 :: c34 :: c35 :: c36 :: c37 :: c38 :: c39 :: c40 :: c41 :: c42 :: c43 :: c44 :: c45 :: c46 :: c47 :: c48 :: c49 :: c50 :: c51 :: c52 :: c53 :: c54 :: c55 :: c56 :: c57 :: c58 :: c59 :: c60 :: c61 :: c62 :: c63 :: c64 :: c65 :: c66 :: []⟩,_,w=>Tm c0 c1 c2 c3 c4 c5 c6 c7 c8 c9 c10 c11 c12 c13 c14 c15 c16 c17 c18 c19 c20 c21 c22 c23 c24 c25 c26 c27 c28 c29 c30 c31 c32 c33 c34 c35 c36 c37 c38 c39 c40 c41 c42 c43 c44 c45 c46 c47 c48 c49 c50 c51 c52 c53 c54 c55 c56 c57 c58 c59 c60 c61 c62 c63 c64 c65 c66 w
theorem Hl(w:Ads)(z0:Af)(hm:RefsAt w z0)(hL:DM z0.1)(lv:Adr)(l:List AC)(hr:RG 66 updC w lv l)(hl:l.length<=1000)(hln:∀u∈l,u.name.length<=9223372036854775807)(note:Bs):
  Calls Adt 13 #[.agg (refsC z0).toArray,lv,St note] w fun e w' =>∃v,e = .returned (.tuple #[.agg (refsC ((Ag z0.1 l note).2,v)).toArray,NI (Ag z0.1 l note).1])/\RefsOw w.heap.size w' ((Ag z0.1 l note).2,v)/\Ext w w' :=by
 have hmt:=hm.branches;have hmg:=hm.tags;have hml:=hm.log;refine F2 (args:= [.agg (refsC z0).toArray,lv,St (note)]) Tryz.func13 rfl 77 rfl rfl ?_;have hE:=Acz w;refine gS (AcP (vr (.agg (refsC z0).toArray) rfl) fun q w3 dt bu cp du=> ?_);have g:=bu;clear bu;have dv:q<w3.heap.size:=by omega
 refine gS (AcH S6 fun af cq cr bv bw dw=> ?_);have hE:=hE.trans cp;have a8:=hE.size;have c:=bv;clear bv;have dx:af<cq.heap.size:=by omega
 have dy:=AO (bl g) cr;have g:=eb bw g;have hE:=hE.trans bw;refine gS (ZY Fc rfl g (gS (ZP Ti rfl ((Ii _ z0 ⟨(hmt.keep hE),(hmg.keep hE),(hml.keep hE)⟩ hL).mono ?_))));rintro e dz ⟨rfl,bx⟩;refine⟨_,rfl,?_⟩;refine gS (Z2 rfl (gO fun _=>Ae (St (note)) rfl rfl (gF rfl) (fun hG26=>AcF rfl ⟨rfl,rfl⟩) (At (gO fun _=>Cg (.bool (CB note)) rfl rfl (gF rfl) (fun hG27=>ZP SP (Al rfl hG27) ((N7 _ note).mono (by rintro e w2 ⟨rfl,hx⟩;exact⟨_,rfl,rfl,hx⟩))) fun d0 bz=>At (gO fun _=>Ae (.bool (!(CB note))) rfl rfl (gF rfl) (fun hG31=>Z2 (Al rfl hG31) ⟨rfl,rfl⟩) (At (gS (Z6 rfl rfl (fun hA=>(Al rfl (BJ hA))) fun bb32 hbb33=> ?_))))))));refine cB (bb32) rfl (fun bf=> ?_) fun bf=> ?_
 ·subst hbb33;have h0c:((!AA z0.1)||(!CB note))=true:=bf;have hZ1:=bx.trans bz;have c:=eb hZ1 c;refine gS (Ac1 (v:= .agg (refsC ((⟨[],[],[],zid,[]⟩,⟨.slice none 0 0, .slice none 0 0, .slice none 0 0⟩):Af)).toArray) (by kernel_rfl) (gS (Z0 Fc (vr (PQ af 0) rfl) (vr (.agg (refsC ((⟨[],[],[],zid,[]⟩,⟨.slice none 0 0, .slice none 0 0, .slice none 0 0⟩):Af)).toArray) rfl) c (AS rfl rfl rfl) fun cs b0 ct d1=> ?_)));clear c;have c:cs.heap[af]? =some (.cells (refsC ((⟨[],[],[],zid,[]⟩,⟨.slice none 0 0, .slice none 0 0, .slice none 0 0⟩):Af)).toArray 36 (0,0)):=b0;clear b0;have d2:=bl c;refine Wy rfl (AcQ rfl c (MD).choose_spec rfl (AQ (An _) Lr)) (vr (NI 1) rfl) ?_;have hAp:=Rh (l:=l) h0c;have hE:=hE.trans hZ1;have hE:=Ad hE ct (Adu a8 (by omega));exact⟨⟨.slice none 0 0, .slice none 0 0, .slice none 0 0⟩,by rw[hAp],by rw[hAp];exact⟨AcO _ _ _ _ _,AcO _ _ _ _ _,AcO _ _ _ _ _⟩,hE⟩
 subst hbb33;have h0c:((!AA z0.1)||(!CB note))=false:=bf;have hrt:AA z0.1=true:=by simp only[Aeg,Aez]at h0c;exact h0c.1
 have ap:=Nz hrt;have hlg:=(GM hrt).2.2;have cu:=ap.bl;have ht0:=ap.tl;refine Ev [0,1,3,4,6,7,2,5,8,9,10,11,12,13,14] [2,5,8,10,12,14] [3,6] [4,7] fun cv cw=> ?_;have a9:=Acz cv;have hZ2:=(bx.trans bz).trans cw;have g:=eb hZ2 g;refine Ew a9 ?_;refine ys (Acy PD rfl zz) (ys (ZN Fb rfl rfl (Ac g (Br z0)) zz) (yp (Acy PE rfl zz) (yf (fun _ ⟨hZ,_⟩=>ZN Fb rfl rfl (Ac (eb hZ g) (BQ z0)) zz) (yp (Acy J9 rfl zz) (yf (fun _ ⟨hZ,_⟩=>ZN F4 rfl rfl (Ac (eb hZ g) (Bv z0)) zz) ?_)))));have hE:=hE.trans hZ2;have hz_:=hE.size;refine yE (ZP MC rfl ((DN _ z0.2.branches (z0.1.branches) (hmt.keep hE) (by have:=cu;omega)).mono ?_));rintro e cx ⟨ab,rfl,h,ba⟩;refine⟨_,rfl,?_⟩;have h:=AcM h hz_;have g:=eb ba g;have bg:=AcE h g (by decide);have c:=eb (hZ2.trans ba) c;have a9:=a9.trans ba;refine⟨a9,?_⟩;have bh:=Acz cx;have hE:=hE.trans ba;have hz_:=hE.size;refine yE (ZP MC rfl ((DN _ z0.2.tags (z0.1.tags) (hmg.keep hE) (by have:=ht0;omega)).mono ?_));rintro e d3 ⟨aj,rfl,j,ay⟩;refine⟨_,rfl,?_⟩;have j:=AcM j hz_;have g:=eb ay g;have bi:=AcE j g (by decide);have c:=eb ay c;have bh:=bh.trans ay;refine⟨bh,?_⟩;have hE:=hE.trans ay;have hz_:=hE.size;refine yD rfl (ZP MP rfl ((GI _ z0.2.log (z0.1.log) (hml.keep hE) (by have:=hlg;omega)).mono ?_));rintro e d4 ⟨aq,rfl,p,az⟩;refine⟨_,rfl,?_⟩;have p:=AcM p hz_;have g:=eb az g;have bj:=AcE p g (by decide);have c:=eb az c;have h:=h.keep (ay.trans az);refine ys (Acy PD rfl zz) (yD rfl (ZS (i:=0) (v:=ab) rfl rfl g (by rw[An];decide) Lt (AcD (ZQ h)).1 (AcD (ZQ h)).2 fun cy b1 a0 d5=> ?_));clear g;have g:cy.heap[q]? =some (.cells (refsC ((⟨z0.1.branches,z0.1.tags,z0.1.head,z0.1.at_,z0.1.log⟩,⟨ab,z0.2.tags,z0.2.log⟩):Af)).toArray 36 (0,0)):=AG b1 (HE z0 ab (z0.1.branches));clear b1;have d6:=bl g;have j:=j.keep az;have j:=AcC j a0 bi;refine ys (Acy PE rfl zz) (yD rfl (ZS (i:=1) (v:=aj) rfl rfl g (by rw[An];decide) Lt (AcD (ZQ j)).1 (AcD (ZQ j)).2 fun cz b2 a1 d7=> ?_));clear g;have g:cz.heap[q]? =some (.cells (refsC ((⟨z0.1.branches,z0.1.tags,z0.1.head,z0.1.at_,z0.1.log⟩,⟨ab,aj,z0.2.log⟩):Af)).toArray 36 (0,0)):=AG b2 (HF ((⟨z0.1.branches,z0.1.tags,z0.1.head,z0.1.at_,z0.1.log⟩,⟨ab,z0.2.tags,z0.2.log⟩):Af) aj (z0.1.tags));clear b2;have d8:=bl g;have p:=AcC p a0 bj;have p:=AcC p a1 bj;refine ys (Acy J9 rfl zz) (yD rfl (ZS (i:=35) (v:=aq) rfl rfl g (by rw[An];decide) Im (AcD (ZQ p)).1 (AcD (ZQ p)).2 fun c0 b3 a2 d9=> ?_));clear g;have g:c0.heap[q]? =some (.cells (refsC ((⟨z0.1.branches,z0.1.tags,z0.1.head,z0.1.at_,z0.1.log⟩,⟨ab,aj,aq⟩):Af)).toArray 36 (0,0)):=AG b3 (Gy ((⟨z0.1.branches,z0.1.tags,z0.1.head,z0.1.at_,z0.1.log⟩,⟨ab,aj,z0.2.log⟩):Af) aq (z0.1.log));clear b3;have ea:=bl g;refine gS (Aaw Tj ((Rg _).mono ?_));rintro e a3 ⟨gm,rfl,hmp,hgm,ar⟩;refine⟨_,rfl,?_⟩;have c:=kb a0 c (by omega);have c:=kb a1 c (by omega);have c:=kb a2 c (by omega);have ec:af<gm:=AeS (bl c) hgm;have ed:q<gm:=AeS (bl g) hgm;have hgl:gm<a3.heap.size:=hmp.lt;have hE:=hE.trans az;have hE:=Ad hE a0 (Adu (Adw _) (by omega));have hE:=Ad hE a1 (Adu (Adw _) (by omega));have hE:=Ad hE a2 (Adu (Adw _) (by omega));have hE:=hE.trans ar;refine gS (ZZ MQ (ZU (hr.keep hE) rfl) ?_);have h:=AcC h a0 bg;have h:=AcC h a1 bg;have h:=AcC h a2 bg;have h:=h.keep ar;have bk:OG w.heap.size 94 33 nmdC a3 ab (z0.1.branches):=h;have j:=AcC j a1 bi;have j:=AcC j a2 bi;have j:=j.keep ar;have bm:OG w.heap.size 94 33 nmdC a3 aj (z0.1.tags):=j;have p:=AcC p a2 bj;have p:=p.keep ar;have bb:OG w.heap.size 97 67 entC a3 aq (z0.1.log):=p;have g:=eb ar g;have hP:AppAt w a3 q ((⟨z0.1.branches,z0.1.tags,z0.1.head,z0.1.at_,z0.1.log⟩,⟨ab,aj,aq⟩):Af):=⟨hE,by omega,g,bk,bm,bb,(AcE bk g (by decide)),(AcE bm g (by decide)),(AcE bb g (by decide)),Adb bb bk (by decide),Adb bb bm (by decide)⟩;have c:=eb ar c;refine gL (fun(ρ:Aj) (wz:Ads)=>∃i:Nat,∃z:Af,ρ 0=(.agg (refsC z0).toArray:Adr)/\ρ 1=(lv:Adr)/\ρ 2=(St (note):Adr)/\ρ 3=(PQ q 0:Adr)/\ρ 6=(PQ af 0:Adr)/\ρ 8=(.map (some gm):Adr)/\ρ 35=(lv:Adr)/\ρ 36=(NI l.length:Adr)/\ρ 37=(NI i:Adr)/\Ext w wz/\wz.heap[af]? =some (.cells (refsC ((⟨[],[],[],zid,[]⟩,⟨.slice none 0 0, .slice none 0 0, .slice none 0 0⟩):Af)).toArray 36 (0,0))/\MapF B8 Oh (fun _:UInt8=>True) wz gm doG/\AppAt w wz q z/\(i<=l.length)/\(Dq note z0.1 l=Dq note z.1 (l.drop i))/\(Fp z.1)/\(z.1.log.length<=64+i)/\True) (fun ρ _=>l.length-(intOf (ρ 37)).toNat) ⟨0,((⟨z0.1.branches,z0.1.tags,z0.1.head,z0.1.at_,z0.1.log⟩,⟨ab,aj,aq⟩):Af),rfl,rfl,rfl,rfl,rfl,rfl,rfl,rfl,rfl,hE,c,hmp,hP,AdN _,rfl,⟨ap.br,ap.tg,ap.bl,ap.tl⟩,(show z0.1.log.length<=64+0 by omega),trivial⟩ ?_;clear h;clear j;clear p;clear g;clear hP;clear hE c hmp;rintro c1 c2 ⟨i,z,T0,T1,T2,T3,T6,T8,b5,b6,bc,hE,c,hmp,hQ,hi,hrun,hS,hlog,-⟩;have q37:=bc;refine gS (ZO (a:=(i:Nat)) (b:=(l.length:Nat)) bc b6 (Bg _ _ _ _) ?_);refine cD rfl (fun b7=> ?_) fun b7=> ?_
 ·have hlt:i<l.length:=b7;have ee:(updC (l.getD (i) AD)).length=66:=(AcL (hr.keep hE) AD (by omega));refine gS (Z3 MQ Rj (by decide) AD (ZU (hr.keep hE) b5) bc (by omega) fun ef b8=>(gS (ZT (Aaa b8 rfl) (S9).choose_spec rfl (by rw[Cv];exact Re) (gS (AcH Tk fun bn c4 b9 ca an eg=> ?_)))));have s:=Acz c2;have bo:=hE.size;have eh:=AO hmp.lt b9;have k:=ca;clear ca;have ei:bn<c4.heap.size:=by omega
  refine gS (Z0 G6 (vr (PQ bn 0) rfl) (vr (.agg (updC (l.getD (i) AD)).toArray) rfl) k (Hw) fun c5 cb ao ej=> ?_);have hmp:=hmp.keep an;have hmp:=AcR hmp ao (CI (by omega));clear k;have k:c5.heap[bn]? =some (.cells (updC (l.getD (i) AD)).toArray 77 (0,0)):=cb;clear cb;have el:=bl k;clear b8;refine gS (ZY G6 rfl k (gS (ZP Tl rfl ((Q5 _ (l.getD i AD) (hln _ (Cq AD hlt))).mono ?_))));rintro e em ⟨rfl,ag⟩;refine⟨_,rfl,?_⟩;refine gS (ZO (a:=(BE (l.getD i AD):Nat)) (b:=(0:Nat)) rfl rfl (AX _ _ _ _) ?_);refine cD rfl (fun bp=> ?_) fun bp=> ?_
  ·have hU:BE (l.getD i AD)≠0:=bp;have s:=s.trans an;have s:=Ad s ao (Adu (Adw _) (by omega));have s:=s.trans ag;have c:=eb s c;refine gS (Ac1 (v:= .agg (refsC ((⟨[],[],[],zid,[]⟩,⟨.slice none 0 0, .slice none 0 0, .slice none 0 0⟩):Af)).toArray) (by kernel_rfl) (gS (Z0 Fc T6 (vr (.agg (refsC ((⟨[],[],[],zid,[]⟩,⟨.slice none 0 0, .slice none 0 0, .slice none 0 0⟩):Af)).toArray) rfl) c (AS rfl rfl rfl) fun c6 cc cd en=> ?_)));have hmp:=hmp.keep ag;have hmp:=AcR hmp cd (CI (by omega));clear c;have c:c6.heap[af]? =some (.cells (refsC ((⟨[],[],[],zid,[]⟩,⟨.slice none 0 0, .slice none 0 0, .slice none 0 0⟩):Af)).toArray 36 (0,0)):=cc;clear cc;have eo:=bl c;refine Wy rfl (AcQ T6 c (MD).choose_spec rfl (AQ (An _) Lr)) (vr (NI (BE (l.getD i AD))) rfl) ?_;have hAp:=Ik h0c (hrun.trans (Tb hlt hU)) hU;have hE:=hE.trans an;have hE:=Ad hE ao (Adu bo (by omega));have hE:=hE.trans ag;have hE:=Ad hE cd (Adu a8 (by omega));exact⟨⟨.slice none 0 0, .slice none 0 0, .slice none 0 0⟩,by rw[hAp],by rw[hAp];exact⟨AcO _ _ _ _ _,AcO _ _ _ _ _,AcO _ _ _ _ _⟩,hE⟩
  have hU:BE (l.getD i AD)=0:=by simpa using bp
  obtain⟨f,hF⟩:=U1 (Hj hU);have s:=s.trans an;have s:=Ad s ao (Adu (Adw _) (by omega));have s:=s.trans ag;have hmp:=hmp.keep ag;have k:=eb ag k;refine gS (Acy PF rfl (gS (ZN u5 rfl rfl (Ac k (EQ (l.getD (i) AD))) (gS (AaI (ek:=B8) (ev:=Oh) (D:=fun _:UInt8=>True) NK NL (fun _ _=>X9) Jf (z:=Value.nilFunc) Yl T8 rfl hmp trivial hF (gS (ZY G6 rfl k (gS (Aaj (U2 hF) (caps:= #[]) rfl #[PQ q 0, .agg (updC (l.getD (i) AD)).toArray] (by simp only[AdH,AdK,AdO,List.append_toArray,Ad1,Ad9];exact congrArg List.toArray (Cj T3 rfl)) ((Ym w _ q z (hQ.keep s) hS (l.getD i AD) hF).mono ?_))))))))));rintro e ep ⟨z1,⟨rfl,bd⟩,hR,eq,a4⟩;refine⟨_,rfl,?_⟩;have hmp:=AcR hmp a4 (CI (by omega));have o:=hR.blk;have ah:=hR.br;have ai:=hR.tg;have aa:=hR.lg;have er:=AO (bl c) b9;have c:=eb an c;have c:=kb ao c (by omega);have c:=eb ag c;have c:=kb a4 c (by omega);have c7:=AcE aa c (by decide);have c8:=Acd aa hmp;have k:=kb a4 k (by omega);have c9:=AcE aa k (by decide);have da:=AcE ah o (by decide);have db:=AcE ai o (by decide);have ce:=AcE aa o (by decide);have dc:=Adb aa ah (by decide);have dd:=Adb aa ai (by decide);clear hR;refine gS (ZO (a:=((Cy z.1 (l.getD i AD)).1:Nat)) (b:=(0:Nat)) rfl rfl (AX _ _ _ _) ?_);refine cD rfl (fun bq=> ?_) fun bq=> ?_
  ·have hD:(Cy z.1 (l.getD i AD)).1≠0:=bq;refine gS (Ac1 (v:= .agg (refsC ((⟨[],[],[],zid,[]⟩,⟨.slice none 0 0, .slice none 0 0, .slice none 0 0⟩):Af)).toArray) (by kernel_rfl) (gS (Z0 Fc T6 (vr (.agg (refsC ((⟨[],[],[],zid,[]⟩,⟨.slice none 0 0, .slice none 0 0, .slice none 0 0⟩):Af)).toArray) rfl) c (AS rfl rfl rfl) fun de cf cg es=> ?_)));have hmp:=AcR hmp cg (CI (by omega));clear c;have c:de.heap[af]? =some (.cells (refsC ((⟨[],[],[],zid,[]⟩,⟨.slice none 0 0, .slice none 0 0, .slice none 0 0⟩):Af)).toArray 36 (0,0)):=cf;clear cf;have et:=bl c;refine Wy rfl (AcQ T6 c (MD).choose_spec rfl (AQ (An _) Lr)) (vr (NI ((Cy z.1 (l.getD i AD)).1)) rfl) ?_;have hAp:=Ik h0c (hrun.trans (MG hlt hU hD)) hD;have hE:=hE.trans an;have hE:=Ad hE ao (Adu bo (by omega));have hE:=hE.trans ag;have hE:=Ad hE a4 (Adu (Adw _) (by omega));have hE:=Ad hE cg (Adu a8 (by omega));exact⟨⟨.slice none 0 0, .slice none 0 0, .slice none 0 0⟩,by rw[hAp],by rw[hAp];exact⟨AcO _ _ _ _ _,AcO _ _ _ _ _,AcO _ _ _ _ _⟩,hE⟩
  have hD:(Cy z.1 (l.getD i AD)).1=0:=by simpa using bq
  refine gS (Acy J9 T3 (gS (ZN F4 rfl rfl (Ac o (Bv z1)) (gS (ZY G6 rfl k (gS (AaC (vr (.agg (updC (l.getD (i) AD)).toArray) rfl) T2 (fun w=>(U7 _ (by rw[List.size_toArray];exact Cv _) _ w).trans (by rw[List.toList_toArray,W5])) (gS (AaM (a:=(entOf (l.getD i AD) note)) (enc:=entC) (vr (.agg (entC (entOf (l.getD i AD) note)).toArray) rfl) (CZ _) Tn fun df dg ch ak=> ?_)))))))));have hE:=hE.trans an;have hE:=Ad hE ao (Adu bo (by omega));have hE:=hE.trans ag;have hE:=Ad hE a4 (Adu (Adw _) (by omega));have hE:=hE.trans ak;have aa:=aa.keep ak;refine gS (Aak _ _ w.heap.size _ 104 F4 wr30_ig97.choose_spec.1 wr30_ig97.choose_spec.2 F4 (z1.1.log) ([(entOf (l.getD i AD) note)]) (AaJ aa (vr z1.2.log rfl)) (ZU ch (vr df rfl)) (fun _ _=>Gw) (by have h_:=congrArg (fun r=>r.log.length) bd;simp only[L8]at h_;simp only[AdJ,AdQ];omega) (by have h_:=congrArg (fun r=>r.log.length) bd;simp only[L8]at h_;simp only[AdJ,AdQ];omega) hE.size fun al dh a5 ac=> ?_);have ac:Grew dg dh z1.2.log al:=ac;have c:=eb ak c;have hmp:=hmp.keep ak;have k:=eb ak k;have o:=eb ak o;have di:OB al q:=Cp ac ce (bl o);have ah:=ah.keep ak;have ai:=ai.keep ak;have hE:=Bz hE ac aa.2 (Adw _);have c:=A0 c ac c7;have hmp:=Ab7 hmp ac c8;have k:=A0 k ac c9;have o:=A0 o ac ce;have ah:=HJ ah ac dc;have ai:=HJ ai ac dd;clear ch;clear aa;refine gS (Acy J9 T3 (gS (ZS (i:=35) (v:=al) rfl rfl o (by rw[An];decide) Im (AcD (ZQ a5)).1 (AcD (ZQ a5)).2 fun a6 ci au eu=> ?_)));have hmp:=AcR hmp au (CI (by omega));clear o;have o:a6.heap[q]? =some (.cells (refsC ((⟨z1.1.branches,z1.1.tags,z1.1.head,z1.1.at_,(z1.1.log)++ [(entOf (l.getD i AD) note)]⟩,⟨z1.2.branches,z1.2.tags,al⟩):Af)).toArray 36 (0,0)):=AG ci (Gy z1 al ((z1.1.log)++ [(entOf (l.getD i AD) note)]));clear ci;have ew:=bl o;refine gS (ZV (xv:=NI i) (yv:=NI 1) bc rfl rfl (AF _ _ _ (by omega)) ?_);have ah:=AcC ah au da;have bs:OG w.heap.size 94 33 nmdC a6 z1.2.branches (z1.1.branches):=ah;have ai:=AcC ai au db;have bt:OG w.heap.size 94 33 nmdC a6 z1.2.tags (z1.1.tags):=ai;have a5:=AcC a5 au di;have be:OG w.heap.size 97 67 entC a6 al ((z1.1.log)++ [(entOf (l.getD i AD) note)]):=a5;have hE:=Ad hE au (Adu (Adw _) (by omega));have hP:AppAt w a6 q ((⟨z1.1.branches,z1.1.tags,z1.1.head,z1.1.at_,(z1.1.log)++ [(entOf (l.getD i AD) note)]⟩,⟨z1.2.branches,z1.2.tags,al⟩):Af):=⟨hE,by omega,o,bs,bt,be,(AcE bs o (by decide)),(AcE bt o (by decide)),(AcE be o (by decide)),Adb be bs (by decide),Adb be bt (by decide)⟩;have cj:Fp (F5 (Cy z.1 (l.getD i AD)).2 (entOf (l.getD i AD) note)):=by have h_:=Ri (y:=(l.getD i AD)) hS;exact⟨h_.br,h_.tg,h_.bl,h_.tl⟩
  have hlog2:(F5 (Cy z.1 (l.getD i AD)).2 (entOf (l.getD i AD) note)).log.length<=64+(i+1):=by simp only[F5,Adx,AdJ,AdQ,L8];omega
  rw[<-bd]at cj hlog2;have c:=kb au c (by omega);refine gK (And.intro ⟨i+1,((⟨z1.1.branches,z1.1.tags,z1.1.head,z1.1.at_,(z1.1.log)++ [(entOf (l.getD i AD) note)]⟩,⟨z1.2.branches,z1.2.tags,al⟩):Af),T0,T1,T2,T3,T6,T8,b5,b6,rfl,hE,c,hmp,hP,by omega,(hrun.trans (MH hlt hU hD)).trans (by rw[bd];rfl),cj,hlog2,trivial⟩ ?_);show l.length-(intOf (NI ((i)+(1)))).toNat<l.length-(intOf (c1 37)).toNat;rw[q37];simp only[intOf,Int.toNat_natCast];omega
 have t:=hQ.blk;have ad:=hQ.br;have ae:=hQ.tg;have ck:=hQ.lg;have dj:=AcE ad c (by decide);have dk:=AcE ae c (by decide);have dl:=AcE ad t (by decide);have dm:=AcE ae t (by decide);clear hQ;refine gS (Acy J9 T3 (gS (ZN F4 rfl rfl (Ac t (Bv z)) (gS (Acy J9 T3 (gS (ZN F4 rfl rfl (Ac t (Bv z)) (gS (ZZ F4 (ZU (ZQ ck) rfl) (gS (ZV (xv:= .int .i64 ((((z.1.log).length:Nat):Int))) (yv:= .int .i64 (((64:Nat):Int))) rfl rfl rfl (Ol _ ((((z.1.log).length:Nat):Int)) (((64:Nat):Int)) (by omega)) (gS (Acl (n:=z.1.log.length) (m:=64) rfl rfl (gS (Aa4 F4 QY rfl (ZQ ck) rfl (by omega) fun dn cl ha194=> ?_)))))))))))))));have hz_:=hE.size;refine gS (ZP MP rfl ((GI _ dn ((z.1.log).drop (z.1.log.length-64)) cl (by rw[AdT];omega)).mono ?_));rintro e ex ⟨av,rfl,x,aw⟩;refine⟨_,rfl,?_⟩;have x:=AcM x hz_;have t:=eb aw t;have dp:=AcE x t (by decide);have c:=eb aw c;have dq:=AcE x c (by decide);refine gS (Acy J9 T3 (gS (ZS (i:=35) (v:=av) rfl rfl t (by rw[An];decide) Im (AcD (ZQ x)).1 (AcD (ZQ x)).2 fun dr cm ax ey=> ?_)));have hmp:=hmp.keep aw;have hmp:=AcR hmp ax (CI (by omega));clear cl;clear t;have t:dr.heap[q]? =some (.cells (refsC ((⟨z.1.branches,z.1.tags,z.1.head,z.1.at_,(z.1.log).drop (z.1.log.length-64)⟩,⟨z.2.branches,z.2.tags,av⟩):Af)).toArray 36 (0,0)):=AG cm (Gy z av ((z.1.log).drop (z.1.log.length-64)));clear cm;have ez:=bl t;have ad:=ad.keep aw;have ad:=AcC ad ax dl;have ae:=ae.keep aw;have ae:=AcC ae ax dm;have c:=kb ax c (by omega);have x:=AcC x ax dp;refine gS (ZY Fc T3 t (gS (Z0 Fc T6 (vr (.agg (refsC ((⟨z.1.branches,z.1.tags,z.1.head,z.1.at_,(z.1.log).drop (z.1.log.length-64)⟩,⟨z.2.branches,z.2.tags,av⟩):Af)).toArray) rfl) c (AS (AcD (ZQ ad)).2 (AcD (ZQ ae)).2 (AcD (ZQ x)).2) fun ds cn a7 e0=> ?_)));have hmp:=AcR hmp a7 (CI (by omega));clear c;have c:ds.heap[af]? =some (.cells (refsC ((⟨z.1.branches,z.1.tags,z.1.head,z.1.at_,(z.1.log).drop (z.1.log.length-64)⟩,⟨z.2.branches,z.2.tags,av⟩):Af)).toArray 36 (0,0)):=cn;clear cn;have e1:=bl c;refine Wy rfl (AcQ T6 c (MD).choose_spec rfl (AQ (An _) Lr)) (vr (NI 0) rfl) ?_;have hAp:=MI h0c (hrun.trans (Oi (show l.length<=i by omega)));have hE:=hE.trans aw;have hE:=Ad hE ax (Adu (Adw _) (by omega));have hE:=Ad hE a7 (Adu a8 (by omega));have ad:=AcC ad a7 dj;have ae:=AcC ae a7 dk;have x:=AcC x a7 dq;exact⟨⟨z.2.branches,z.2.tags,av⟩,by rw[hAp];rfl,by rw[hAp];exact⟨ad,ae,x⟩,hE⟩
section
variable {P : AdM} {l : List AdL} {kill : Nat -> List Nat} {C : Nat -> Ads -> Prop} {R : Nat -> Ads -> Ads -> Prop} {Φ : Nat -> BH} {a0 : Act}
theorem To{z:Nat}(g:KA l z){k:Nat}(ht:∀i,k<=i->i<l.length->∀m,k<=m->m<i->((AT l []).getD i 0).testBit m=true){Q:Exit->Act->Ads->Prop}:
  ∀(fuel m:Nat) (listed:Array Bool) (a:Act) (w:Ads),listed.size=l.length->(∀i,On listed i↔i<m)->k<=m->m<=l.length->l.length<=m+fuel->wpList P l.toArray Q (l.drop m) a w->wpAny P .any l.toArray Q fuel listed a w:=by
 have noReady:∀(m:Nat) (listed:Array Bool),listed.size=l.length->(∀i,On listed i↔i<m)->l.length<=m->AeV .any l.toArray listed= []:=by
  intro m listed hsz hon hm;cases hr:AeV .any l.toArray listed with
  | nil=>rfl
  | cons x xs=>
   exfalso;have hmem:x∈AeV .any l.toArray listed:=by rw[hr];simp
   obtain⟨h1,o,ho,_⟩:=mem_ready.1 hmem;have hx:x<l.length:=by simpa using (Array.getElem?_eq_some_iff.1 ho).1
   have h2:=(hon x).2 (by omega);have hx' :x<listed.size:=h2.lt;unfold On at h2;simp[hx']at h1 h2;rw[h1]at h2;cases h2
 intro fuel
 induction fuel with
 | zero=>
  intro m listed a w hsz hon hk hm hf hw;rw[AeR (by omega)]at hw;exact⟨noReady m listed hsz hon (by omega),hw⟩
 | succ fuel ih=>
  intro m listed a w hsz hon hk hm hf hw;by_cases hml:m=l.length
  ·have hr:=noReady m listed hsz hon (by omega);rw[AeR (by omega)]at hw;exact⟨fun _=>hw,fun i hi=>by rw[hr]at hi;cases hi⟩
  ·have hlt:m<l.length:=by omega
   have hoff:¬On listed m:=fun x=>by have:=(hon m).1 x;omega
   have hI:Inv l (fun _=> []) (fun _ _=>True) (fun _ _=>True) (fun _ _ _=>True) a listed a w:=
    ⟨hsz,fun i o ho hi e he hb=>(hon _).2 (by have:=g.back i o ho e he hb;have:=(hon i).1 hi;omega),rfl,rfl,fun _ _ _=>trivial,trivial,fun _ _=>rfl,fun _ _ _ _ _ _ _ _=>trivial⟩
   refine⟨fun hr=> ?_,fun i hi=> ?_⟩
   ·exfalso;have ho:l[m]? =some l[m]:=AdE hlt;have:m∈AeV .any l.toArray listed:=by
     refine mem_ready.2 ⟨?_,l[m],by rw[Aeh];exact ho,fun e he hb=>(hon _).2 (g.back m _ ho e he hb)⟩;have hm' :m<listed.size:=by omega
     unfold On at hoff;simp[hm']at hoff ⊢;exact hoff
    rw[hr]at this;cases this
   ·obtain⟨h1,o,ho,hall⟩:=mem_ready.1 hi;have ho' :l[i]? =some o:=by simpa using ho
    have hil:i<l.length:=(AdR.1 ho').1;have hno:¬On listed i:=fun x=>by
     have hx:i<listed.size:=by omega
     unfold On at x;simp[hx]at h1 x;rw[h1]at x;cases x
    have him:i=m:=by
     by_cases h2:i<m
     ·exact absurd ((hon i).2 h2) hno
     ·by_cases h3:i=m
      ·exact h3
      ·exact absurd (hI.maskReady ho' (fun e he hb=>hall e he hb) (ht i (by omega) hil m hk (by omega))) hoff
    subst him;rw[Afk hlt]at hw;obtain rfl:l[i]=o:=by rw[AdE hlt]at ho';exact AdY ho'
    have nxt:∀a' w',wpList P l.toArray Q (l.drop (i+1)) a' w' ->wpAny P .any l.toArray Q fuel (listed.setIfInBounds i true) a' w' :=fun a' w' hw' =>
     ih (i+1) _ a' w' (by simpa using hsz) (fun j=>by rw[AR (by omega),hon j];omega) (by omega) (by omega) (by omega) hw'
    unfold wpOp;simp only[Aeh,ho'];unfold wpList at hw;split at hw
    ·rename_i hwt
     rw[if_pos hwt];exact hw.imp (fun h=>Oper.wp_mono nxt h) (fun h=>h)
    ·rename_i hwt
     rw[if_neg hwt];exact nxt _ _ hw
end
def Rl(l:List AdL)(oe:AdL)(e:Nat):Bool:=
 (Afj l.length).all fun j=>match l[j]? with
  | some o=>Nat.beq j e||(o.after.any (fun x=>Aeu .any x&&x.on==e)||(oe.apart l.toArray o||((AT l []).getD e 0).testBit j))
  | none=>true
def Lw(l:List AdL)(k e:Nat):Bool:=Ae5 e k&&(Afj l.length).all fun i=>Ae5 i k||(Afj i).all fun m=>Nat.beq m e||((AT l []).getD i 0).testBit m
theorem Tp{l:List AdL}{k e:Nat}(h:Lw l k e=true):e<k/\∀i,k<=i->i<l.length->∀m,m<i->m≠e->((AT l []).getD i 0).testBit m=true:=by
 unfold Lw at h;rw[AdX]at h;refine⟨AdD h.1,fun i hi hl m hm hne=> ?_⟩;have h1:=Ael.1 h.2 i (by simpa using hl);rcases AeH _ _▸h1 with h2 | h2
 ·have:=AdD h2;omega
 ·have h3:=Ael.1 h2 m (by simpa using hm);rcases AeH _ _▸h3 with h4 | h4
  ·exact absurd (Agm h4) hne
  ·exact h4
section
variable {P : AdM} {l : List AdL} {Φ : Nat -> BH} {a0 : Act} {w0 : Ads} {Q : Exit -> Act -> Ads -> Prop} {e k : Nat} {oe : AdL}
def JR(P:AdM)(op:Op):Prop:=∀(ev:AdC->Adr) dst ty pos af,(∃x,∀w:Ads,(execOp ev ⟨dst,op,ty,pos,af,none⟩).run P w = .ok (.value x) w)\/∀w:Ads,∃s,(execOp ev ⟨dst,op,ty,pos,af,none⟩).run P w = .halt (.stuck s) w
theorem NA(o:AdC)(n:Nat):JR P (.extract o n):=by
 intro ev dst ty pos af;have hr:∀v:Adr,(∃x,∀w:Ads,(Agy v n).run P w = .ok x w)\/∀w:Ads,∃s,(Agy v n).run P w = .halt (.stuck s) w:=by
  intro v;cases v with
  | tuple vs=>
   cases hx:vs[n]? with
   | some x=>exact .inl ⟨x,fun w=>by simp[Agy,hx]⟩
   | none=>exact .inr fun w=>⟨_,by simp only[Agy,hx];rfl⟩
  | _=>exact .inr fun w=>⟨_,by simp only[Agy];rfl⟩
 rcases hr (ev o)with ⟨x,hx⟩ | hx
 ·exact .inl ⟨x,fun w=>by
   unfold execOp;simp only[AdB,hx,AdA,AdF]⟩
 ·refine .inr fun w=> ?_;obtain⟨s,hs⟩:=hx w;exact⟨s,by
   unfold execOp;simp only[AdB,hs];rfl⟩
theorem Om{dst:Option Tmp}{op:Op}(hst:JR P op){ty:Ady}{pos:String}{af:Array Edge}(he:l[e]? =some ⟨dst,op,ty,pos,af,none⟩){K:Act->Ads->Prop}{a:Act}{w:Ads} 
  (h:wpOp P l.toArray (fun _ _ _=>False) e K a w):∃x,Yields P l.toArray ⟨dst,op,ty,pos,af,none⟩ x a/\K (a.put dst x) w:=by
 unfold wpOp at h;simp only[Aeh,he,AeA,if_true]at h;rcases h with h | ⟨-,-,-,h⟩
 ·unfold Oper.wp at h;rcases hst a.eval dst ty pos af with ⟨x,hx⟩ | hx
  ·rw[hx]at h;exact⟨x, .inl ⟨rfl,hx⟩,h⟩
  ·obtain⟨s,hs⟩:=hx w;rw[hs]at h;exact h.elim
 ·exact h.elim
theorem W6(g:KA l a0.tmps.size)(hsel:AhZ l.toArray=true){d:Tmp}{op:Op}(hso:JR P op){ty:Ady}{pos:String}{af:Array Edge}(he:l[e]? =some ⟨some d,op,ty,pos,af,none⟩) 
  (hte:Lw l k e=true) (hfr:Rl l ⟨some d,op,ty,pos,af,none⟩ e=true) (hk:k<=l.length) (hst:∀i,Stab Ext (Φ i))
  (hs:∀i o,l[i]? =some o->i<k->IT P l (fun _=>Ext w0) (fun _=>Ext) Φ a0.tmps i o) (hQp:∀v c a w,Q (.panic c) (a.put (some d) v) w->Q (.panic c) a w)
  (hQ:∀listed a' w',(∀i,On listed i↔i<k)->Inv l (fun _=> []) (fun _=>Ext w0) (fun _ _=>True) Φ a0 listed a' w' ->wpList P l.toArray Q (l.drop k) a' w'):
  ∀(fuel:Nat) (listed:Array Bool) (a:Act) (w:Ads),(listed.toList.filter (!·)).length=fuel->(∀i,On listed i->i<k)->e∉AeV .any l.toArray listed->Inv l (fun _=> []) (fun _=>Ext w0) (fun _ _=>True) Φ a0 listed a w->wpAny P .any l.toArray Q fuel listed a w:=by
 obtain⟨hek,hte⟩:=Tp hte;have ht:∀i,k<=i->i<l.length->∀m,k<=m->m<i->((AT l []).getD i 0).testBit m=true:=fun i hi hl m hkm hm=>hte i hi hl m hm (by omega);have hkl:Fh l (fun _=> [])=true:=by unfold Fh;simp
 have hC:∀n m,n<l.length->m<l.length->n≠m->((AT l []).getD n 0).testBit m=false->∀w w',Ext w0 w->Ext w w' ->Ext w0 w' :=fun _ _ _ _ _ _ _ _ hc hr=>hc.trans hr;have hE:∀n listed (w w' :Ads),n<l.length->listed.size=l.length->¬On listed n->(∀i k,On listed i\/i=n->((AT l []).getD i 0).testBit k=true->On listed k)->True->Ext w w' ->True:=fun _ _ _ _ _ _ _ _ _ _=>trivial;have hΦ:∀n i,n<l.length->i<l.length->i∉([]:List Nat)->i≠n->((AT l []).getD i 0).testBit n=false->∀v w w',Φ i v w->Ext w w' ->Φ i v w' :=fun _ i _ _ _ _ _ v w w' =>hst i v w w';have hRr:∀(n:Nat) o (w:Ads),l[n]? =some o->o.guard.isSome=true->Ext w w:=fun _ _ w _ _=>Acz w;intro fuel
 induction fuel using Agb with
 | _ fuel ih=>
 intro listed a w hf hoff hre h;by_cases hfull:∀i,i<k->On listed i
 ·have hon:∀i,On listed i↔i<k:=fun i=>⟨hoff i,hfull i⟩;refine To g ht fuel k listed a w h.size hon (Adw _) hk ?_ (hQ listed a w hon h);have f:=AeK k listed.toList;rw[<-f,List.filter_append,Adx]at hf;have p:(listed.toList.drop k).filter (!·)=listed.toList.drop k:=List.filter_eq_self.2 fun b hb=>by
   obtain⟨j,hj,rfl⟩:=List.getElem_of_mem hb;rw[Ahq];have hno:¬On listed (k+j):=fun x=>by have:=hoff _ x;omega
   rw[AdT]at hj;have hlt:k+j<listed.size:=by rw[<-AeN];omega
   unfold On at hno;simp[hlt]at hno;simp[hno]
  rw[p,AdT]at hf;have hz:listed.toList.length=l.length:=by rw[AeN];exact h.size
  omega
 ·have hunl:∀i,i<l.length->¬On listed i->listed.getD i true=false:=fun i hi hno=>by
   have hi' :i<listed.size:=by rw[h.size];exact hi
   unfold On at hno;simp[hi']at hno ⊢;exact hno
  have hlow:∃j,j<k/\j≠e/\¬On listed j:=by
   refine AeE fun hn=>hfull fun i hi=>AeE fun hx=> ?_;have hall:∀j,j<k->j≠e->On listed j:=fun j hj hje=>AeE fun hx=>hn ⟨j,hj,hje,hx⟩;have hie:i=e:=AeE fun hne=>hx (hall i hi hne);subst hie;refine hre (mem_ready.2 ⟨hunl i (by omega) hx,_,by rw[Aeh];exact he,fun x hxm hb=> ?_⟩);have:=g.back i _ he x hxm hb;exact hall x.on (by omega) (by omega)
  obtain⟨j0,hj0,hj0e,hoff0⟩:=hlow;have hpos:∀(L:Array Bool) i,L.size=l.length->i<l.length->L.getD i true=false->∃m,(L.toList.filter (!·)).length=m+1/\((L.setIfInBounds i true).toList.filter (!·)).length=m:=fun L i hL hi hx=>by
   have hi' :i<L.size:=by omega
   have:=FX L.toList i (by simp[hi']at hx;simp[hi',hx]);exact⟨_,this.symm,by rw[AfQ]⟩
  obtain⟨f0,hf0,-⟩:=hpos listed j0 h.size (by omega) (hunl j0 (by omega) hoff0);obtain rfl:fuel=f0+1:=by omega
  refine⟨fun hr=> ?_,fun i hi=> ?_⟩
  ·exfalso;have full:∀i,i<l.length->On listed i:=by
    intro i
    induction i using Agb with
    | _ i ih2=>
     intro hi;refine AeE fun hno=> ?_;have ho:l[i]? =some l[i]:=AdE hi;have:i∈AeV .any l.toArray listed:=mem_ready.2 ⟨hunl i hi hno,l[i],by rw[Aeh];exact ho,fun x hx hb=>by
      have hlt:=g.back i _ ho x hx hb;exact ih2 x.on hlt (by omega)⟩
     rw[hr]at this;cases this
   exact hoff0 (full j0 (by omega))
  ·have hie:i≠e:=fun x=>hre (x▸hi);obtain⟨h1,o,ho,hall0⟩:=mem_ready.1 hi;have ho' :l[i]? =some o:=by simpa using ho
   have hilt:i<l.length:=(AdR.1 ho').1;have hil:i<listed.size:=by rw[h.size];exact hilt
   have hno:¬On listed i:=by
    unfold On;simp[hil]at h1 ⊢;exact h1
   have hall:∀x∈o.after,Aeu .any x=true->On listed x.on:=fun x hx hb=>hall0 x hx hb;have hik:i<k:=by
    by_cases h2:i<k
    ·exact h2
    ·exact absurd (h.maskReady ho' hall (hte i (by omega) hilt j0 (by omega) hj0e)) hoff0
   obtain⟨f1,hf1,hcnt⟩:=hpos listed i h.size hilt h1;obtain rfl:f1=f0:=by omega
   refine h.step g hkl hC hE hΦ hRr ho' hno hall (hs i o ho' hik) fun a' w' h' => ?_;have hoff' :∀j,On (listed.setIfInBounds i true) j->j<k:=fun j hx=>by
    rcases(AR hil).1 hx with rfl | h3
    ·exact hik
    ·exact hoff j h3
   by_cases hre' :e∈AeV .any l.toArray (listed.setIfInBounds i true)
   ·obtain⟨q1,oe',hoe,hq⟩:=mem_ready.1 hre';have hoe' :l[e]? =some oe' :=by simpa using hoe
    obtain rfl:=AdY (he.symm.trans hoe');have helt:e<l.length:=by omega
    have hel:e<(listed.setIfInBounds i true).size:=by rw[h'.size];exact helt
    have hnoe:¬On (listed.setIfInBounds i true) e:=by
     unfold On;rw[Ad8]at q1 ⊢;rw[AfV hel]at q1 ⊢;simp only[AfH]at q1 ⊢;rw[q1];decide
    have hw:=h'.step g hkl hC hE hΦ hRr he hnoe (fun x hx hb=>hq x hx hb) (hs e _ he hek) (K:=fun a2 w2=>Inv l (fun _=> []) (fun _=>Ext w0) (fun _ _=>True) Φ a0 ((listed.setIfInBounds i true).setIfInBounds e true) a2 w2) (Q:=fun _ _ _=>False) (fun _ _ hx=>hx);obtain⟨x,hy,hK⟩:=Om hso he hw;obtain⟨f2,hf2,hcnt2⟩:=hpos _ e h'.size helt q1;obtain rfl:f1=f2+1:=by omega
    refine wpAny_first hoe (Region.noSelect_spec hsel) (hQp x) f2 _ a' w' (fun j oj hoj hje hjun hjno=> ?_) hre' hy (ih f2 (by omega) _ _ _ hcnt2 (fun j hx=> ?_) (fun hx=> ?_) hK)
    ·have hoj' :l[j]? =some oj:=by simpa using hoj
     have hjl:j<l.length:=(AdR.1 hoj').1;have hfj:=Ael.1 hfr j (by simpa using hjl);rw[hoj']at hfj;simp only[AeH]at hfj;rcases hfj with h3 | h3 | h3 | h3
     ·exact absurd (Agm h3) hje
     ·obtain⟨y,hy1,hy2⟩:=Array.any_eq_true'.1 h3;simp only[AdX,beq_iff_eq]at hy2;exact absurd hy2.2 (hjno y hy1 hy2.1)
     ·exact h3
     ·have hon:=h'.maskReady he (fun x hx hb=>hq x hx hb) h3;have hjl' :=hon.lt;unfold On at hon;rw[Ad8,AfV hjl']at hon hjun;simp only[AfH]at hon hjun;rw[hon]at hjun;cases hjun
    ·rcases(AR hel).1 hx with rfl | h3
     ·exact hek
     ·exact hoff' j h3
    ·have:=(mem_ready.1 hx).1;simp[hel]at this
   ·exact ih f1 (by omega) _ _ _ hcnt hoff' hre' h'
end
section
variable {P : AdM} {n : Nat} {ρ : Aj} {w : Ads} {Q : Bi}
theorem L9{l r:List AdL}(e k0:Nat)(Φs:List BH){id:Nat}(hm:P.follows .mixedOrders=true)(ds:List Tmp)(hg:DD l n=true){d:Tmp}{op:Op}(hso:JR P op){ty:Ady}{pos:String}{af:Array Edge}(he:l[e]? =some ⟨some d,op,ty,pos,af,none⟩)(hsel:AhZ l.toArray=true) 
  (hn:Lw l k0 e=true) (hfr:Rl l ⟨some d,op,ty,pos,af,none⟩ e=true) (haf:af.any (fun x=>Aeu .any x)=true) (f:Nat.ble Φs.length k0=true) (hds:slotsW l=ds) (hr:(l.drop k0)=r) (hlt:Ae5 k0 l.length=true) (hst:AllStab Ext Φs)
  (hQp:∀c ρ ρ' w,Q (.panic c) ρ w->Q (.panic c) ρ' w)
  (hs:StepsFC P l k0 (fun _=>Ext w) (fun _=>Ext) (CX Φs) ρ 0 l)
  (hQ:∀(ρ' :Aj) w1,Ext w w1->EndF ds ρ ρ' ->C1 l (fun _=> []) (CX Φs) ρ' w1 ds->B2 P l.toArray n Q r ρ' w1):Cm P n (.region id l.toArray true) Q ρ w:=by
 intro a ha;obtain⟨T,df⟩:=a;have hz:T.size=n:=ha.size;subst hz;have b:k0<l.length:=AdD hlt;have g:=Hr hg;have hno0:∀i,¬On (Afc l.toArray.size false) i:=fun i h=>by
  unfold On at h;rw[Ad8,Array.getElem?_replicate]at h;split at h <;> simp at h
 refine wp_region_any hm (W6 (a0:= { tmps:=T,defers:=df }) (w0:=w) (Φ:=CX Φs) g hsel hso he hn hfr (Nat.le_of_lt b) (fun i=>hst.get Φs i) (fun i o ho hi=> ?_) (fun v c a' w' hx=> ?_) (fun listed a' w' hon h=> ?_) _ _ _ _ (by simp) (fun i h=>absurd h (hno0 i)) ?_ ?_)
 ·have hst:=StepsFC.get l 0 hs i o ho (by omega);rw[Afa]at hst;have h2:=StepsF.ok (P:=P) (l:=l) (C:=fun _=>Ext w) (R:=fun _=>Ext) (Φ:=CX Φs) (T:=T) ha.get [o] i ⟨hst,trivial⟩;exact h2.1
 ·obtain⟨ρ',hf,hq⟩:=hx;exact⟨fun t=>a'.tmps.getD t undef,⟨by have:=hf.size;simpa [Act.put] using this,by have:=hf.defers;simpa [Act.put] using this,fun _=>rfl⟩,hQp _ _ _ _ hq⟩
 ·have hw:∀d k,DJ l d l.length=some k->(Afj l.length).all (fun n=> !([]:List Nat).contains k)=true->CX Φs k (a'.tmps.getD d undef) w' :=fun d k hk hall=>by
   obtain⟨h1,⟨o,ho,hd'⟩,h3⟩:=FN _ hk;by_cases hkL:k0<=k
   ·have e:CX Φs k=fun _ _=>True:=by
     have:=AdD f;unfold CX;rw[Adz,List.getElem?_eq_none (by omega)];rfl
    rw[e];trivial
   exact h.new d k o ho hd' ((hon k).2 (by omega)) (fun k' o' hkk ho' hd'' _=>h3 k' o' hkk (AdR.1 ho').1 ho' hd'') (fun n hn=>by simp)
  have hget:∀t,a'.tmps.getD t undef=if t∈ds then a'.tmps.getD t undef else ρ t:=fun t=>by
   by_cases hn:t∈ds
   ·rw[if_pos hn]
   ·rw[if_neg hn,<-ha.get];exact h.old t fun k o ho hd _=>hn (by
     rw[<-hds];unfold slotsW;rw[List.mem_eraseDups,List.mem_filterMap];exact⟨o,AfA ho,hd⟩)
  have hcl:=h.cls k0 b (fun x=>by have:=(hon k0).1 x;omega);have hend:EndF ds ρ (fun t=>a'.tmps.getD t undef):=⟨fun t ht=>by rw[hget t,if_neg (by simpa using ht)]⟩;have:=hQ (fun t=>a'.tmps.getD t undef) w' hcl hend (Hd hw ds);rw[hr];exact this a' ⟨h.tmps,h.defers.trans ha.defers,fun t=>rfl⟩
 ·intro hx;obtain⟨-,o,ho,hall⟩:=mem_ready.1 hx;obtain rfl:=AdY (he.symm.trans (by simpa using ho));obtain⟨x,j,m⟩:=Array.any_eq_true'.1 haf;exact hno0 _ (hall x j m)
 ·exact⟨Array.size_replicate,fun i o _ h=>absurd h (hno0 i),rfl,rfl,fun n hn _=>(Below.refl _ _).drew,trivial,fun t _=>rfl,fun t k o _ _ h=>absurd h (hno0 k)⟩
theorem NB{l r:List AdL}(e k0:Nat)(Φs:List BH){id:Nat}(hm:P.follows .mixedOrders=true)(ds:List Tmp)(hg:DD l n=true){d t:Tmp}{m:Nat}{ty:Ady}{pos:String}{af:Array Edge}(he:l[e]? =some ⟨some d, .extract (.tmp t) m,ty,pos,af,none⟩)(hsel:AhZ l.toArray=true) 
  (hn:Lw l k0 e=true) (hfr:Rl l ⟨some d, .extract (.tmp t) m,ty,pos,af,none⟩ e=true) (haf:af.any (fun x=>Aeu .any x)=true) (a:Nat.ble Φs.length k0=true) (hds:slotsW l=ds) (hr:(l.drop k0)=r) (hlt:Ae5 k0 l.length=true) (hst:AllStab Ext Φs)
  (hQp:∀c ρ ρ' w,Q (.panic c) ρ w->Q (.panic c) ρ' w)
  (hs:StepsFC P l k0 (fun _=>Ext w) (fun _=>Ext) (CX Φs) ρ 0 l)
  (hQ:∀(ρ' :Aj) w1,Ext w w1->EndF ds ρ ρ' ->C1 l (fun _=> []) (CX Φs) ρ' w1 ds->B2 P l.toArray n Q r ρ' w1):Cm P n (.region id l.toArray true) Q ρ w:=
 L9 e k0 Φs hm ds hg (NA _ _) he hsel hn hfr haf a hds hr hlt hst hQp hs hQ
end
def Yn(f:Field)(x:Nat × Nat):Bool:=f.name != "_" && (f.type==x.1&&f.offset==x.2)
def Lx:List Field->List (Nat × Nat)->Bool
 | [],[]=>true
 | f :: fs,x :: r=>Yn f x&&Lx fs r
 | _,_=>false
section
variable {P : AdM} {w : Ads} {d : Nat} {xs ys : Array Adr}
theorem Gz{fs:List Field}(h:Lx fs []=true):(Ahc d xs ys fs).run P w = .ok true w:=by
 cases fs with
 | nil=>simp[Ahc,AdF]
 | cons f fs=>cases h
theorem B3{fs:List Field}{t o:Nat}{r:List (Nat × Nat)}{a b:Adr}{q q2:Bool}(h:Lx fs ((t,o) :: r)=true)(ha:(part t xs o).run P w = .ok a w)(hb:(part t ys o).run P w = .ok b w)(he:(Afg d t a b).run P w = .ok q w) 
  (hr:∀fs',Lx fs' r=true->(Ahc d xs ys fs').run P w = .ok q2 w):(Ahc d xs ys fs).run P w = .ok (q&&q2) w:=by
 cases fs with
 | nil=>cases h
 | cons f fs=>
  simp only[Lx,Yn,AdX,bne_iff_ne,beq_iff_eq]at h;obtain⟨⟨hn,ht,ho⟩,h2⟩:=h;have hr:=hr fs h2;simp only[Ahc,if_pos hn,AdB,ht,ho,ha,hb,he,AdA];cases q
  ·simp[AdF]
  ·simpa using hr
theorem B4{t o:Nat}{cs:List Adr}{v:Adr}(h:(isAgg t).run P w = .ok false w)(hv:cs[o]? =some v):(part t cs.toArray o).run P w = .ok v w:=by
 unfold part;rw[AdB,h];simp[hv,AdF]
theorem Ds{t o:Nat}{cs a z:List Adr}{l:Ai1}(h:(isAgg t).run P w = .ok true w)(hs:(sizeOf t).run P w = .ok 32 w)(hc:cs=a++Adv l++z)(ha:a.length=o)(hl:l.length=32):(part t cs.toArray o).run P w = .ok (.agg (Adv l).toArray) w:=by
 unfold part;have e:(cs.drop o).take 32=Adv l:=by
  rw[hc,AdW,<-ha,Agn,AeJ (by rw[AdG,hl])]
 rw[AdB,h];simp[hs,e]
theorem Tq{t:Nat}{a b:UInt8}(h:P.underlying t=some (.int .u8)):(Afg (d+1) t (B8 a) (B8 b)).run P w = .ok (decide (a=b)) w:=by
 rw[run_equalIn_int w d t .u8 .u8 _ _ h,byte_eq]
theorem GA{t:Nat}{a b:Bs}(h:P.underlying t=some .string):(Afg (d+1) t (St a) (St b)).run P w = .ok (decide (a=b)) w:=by
 have e:=run_equalIn_string (P:=P) w d t ⟨a.toArray⟩ ⟨b.toArray⟩ h;rw[FF,FF]at e;refine e.trans ?_
 congr 1
 rw[Bool.eq_iff_iff];simp
theorem HN{t e:Nat}{a b:Cl}(ht:P.underlying t=some (.array 32 e))(he:P.underlying e=some (.int .u8))(hs:(sizeOf e).run P w = .ok 1 w):(Afg (d+1+1) t (.agg (Adv a.1).toArray) (.agg (Adv b.1).toArray)).run P w = .ok (decide (a=b)) w:=by
 rw[run_eqArray w ht he hs a.1 b.1 a.2 b.2]
 congr 1
 exact decide_eq_decide.2 ⟨fun h=>Subtype.ext h,fun h=>by rw[h]⟩
end
section
variable {P : AdM} {K : Adr -> Ads -> Prop} {ρ : Aj} {w : Ads} {d : Option Tmp} {ty : Ady} {pos : String} {af : Array Edge} {gd : Option (Nat × Bool)}
theorem AaW{t ty2:Ady}{x y:AdC}{cx cy:Array Adr}{b:Bool}(hg:P.eqGuardType P.depth t=false)(hx:Ab ρ x = .agg cx)(hy:Ab ρ y = .agg cy)(h:(Afg 10000 t (.agg cx) (.agg cy)).run P w = .ok b w)(hk:K (.bool (!b)) w):Yk P K ((execOp (Ab ρ) ⟨d, .binOp .neq t x y ty2,ty,pos,af,gd⟩).run P w):=by
 refine AcG (v:= .bool (!b)) (w' :=w) ?_ hk;unfold execOp;simp only[hx,hy,AdB,run_eqGuard_agg w .neq t x y cx cy hg,AdA,run_neq_struct,h];rfl
end
theorem In{P:AdM}{w:Ads}{t o n:Nat}{cs a m z:List Adr}(h:(isAgg t).run P w = .ok true w)(hs:(sizeOf t).run P w = .ok n w)(hc:cs=a++m++z)(ha:a.length=o)(hl:m.length=n):(part t cs.toArray o).run P w = .ok (.agg m.toArray) w:=by
 unfold part;have e:(cs.drop o).take n=m:=by rw[hc,AdW,<-ha,Agn,AeJ hl]
 rw[AdB,h];simp[hs,e]
theorem Yo(w:Ads)(d:Nat)(x:AC):(Afg (d+3) 77 (.agg (updC x).toArray) (.agg (updC x).toArray)).run Adt w = .ok true w:=by
 refine(run_equalIn_struct w (d+2) _ _ _ (by kernel_rfl) (by kernel_rfl)).trans ?_;rw[show true=(decide (x.kind=x.kind)&&(decide (x.name=x.name)&&(decide (x.old=x.old)&&(decide (x.new=x.new)&&true)))) by simp];exact B3 (t:=5) (o:=0) (r:= [(9,1),(33,2),(33,34)]) (by kernel_rfl) (B4 (by kernel_rfl) (EQ x)) (B4 (by kernel_rfl) (EQ x)) (Tq (d:=d+1) (by kernel_rfl)) fun _ h=>
  B3 h (B4 (by kernel_rfl) (DK x)) (B4 (by kernel_rfl) (DK x)) (GA (d:=d+1) (by kernel_rfl)) fun _ h=>
  B3 h (Ds (by kernel_rfl) (by kernel_rfl) (D8 x) (En x) x.old.2) (Ds (by kernel_rfl) (by kernel_rfl) (D8 x) (En x) x.old.2) (HN (d:=d) (e:=5) (by kernel_rfl) (by kernel_rfl) (by kernel_rfl)) fun _ h=>
  B3 h (Ds (by kernel_rfl) (by kernel_rfl) (CP x) (C6 x) x.new.2) (Ds (by kernel_rfl) (by kernel_rfl) (CP x) (C6 x) x.new.2) (HN (d:=d) (e:=5) (by kernel_rfl) (by kernel_rfl) (by kernel_rfl)) fun _ h=>Gz h
theorem Yq(w:Ads)(x:AK):(Afg 10000 159 (.agg (nmdC x).toArray) (.agg (nmdC x).toArray)).run Adt w = .ok true w:=by
 refine(run_equalIn_struct w 9999 _ _ _ (by kernel_rfl) (by kernel_rfl)).trans ?_;rw[show true=(decide (x.name=x.name)&&(decide (x.id=x.id)&&true)) by simp];exact B3 (t:=9) (o:=0) (r:= [(33,1)]) (by kernel_rfl) (B4 (by kernel_rfl) (Eo x)) (B4 (by kernel_rfl) (Eo x)) (GA (d:=9998) (by kernel_rfl)) fun _ h=>
  B3 h (Ds (by kernel_rfl) (by kernel_rfl) (FY x) (FZ x) x.id.2) (Ds (by kernel_rfl) (by kernel_rfl) (FY x) (FZ x) x.id.2) (HN (d:=9997) (e:=5) (by kernel_rfl) (by kernel_rfl) (by kernel_rfl)) fun _ h=>Gz h
theorem G7(x:Ba):entC x= []++updC ⟨x.kind,x.name,x.old,x.new⟩++ [St x.note]:=by simp[entC,updC]
theorem Y4(w:Ads)(x:Ba):(Afg 10000 97 (.agg (entC x).toArray) (.agg (entC x).toArray)).run Adt w = .ok true w:=by
 refine(run_equalIn_struct w 9999 _ _ _ (by kernel_rfl) (by kernel_rfl)).trans ?_;rw[show true=(true&&(decide (x.note=x.note)&&true)) by simp];exact B3 (t:=77) (o:=0) (r:= [(9,66)]) (by kernel_rfl) (In (by kernel_rfl) (by kernel_rfl) (G7 x) rfl (Cv _)) (In (by kernel_rfl) (by kernel_rfl) (G7 x) rfl (Cv _)) (Yo w 9996 _) fun _ h=>
  B3 h (B4 (by kernel_rfl) (HC x)) (B4 (by kernel_rfl) (HC x)) (GA (d:=9998) (by kernel_rfl)) fun _ h=>Gz h
theorem Dz:Tryz.prog.underlying 67=some (.slice 159):=by kernel_rfl
theorem Kf:∀w' :Ads,(sizeOf 159).run Adt w' = .ok 33 w' :=fun _=>by kernel_rfl
theorem Ly:∃fs,Tryz.prog.underlying 159=some (.struct fs):=DP (by kernel_rfl)
theorem Kg:(Tryz.prog.info? 159).map (·.size)=some 33:=by kernel_rfl
theorem Rm:Tryz.prog.eqGuardType Tryz.prog.depth 159=false:=by kernel_rfl
theorem Kh:Ax Adt 69 0 0:=fun b o w=>by simp[go_sem]
theorem MR:Plain Adt 97:=fun _ _=>by kernel_rfl
theorem Ki:Ax Adt 69 1 1:=fun b o w=>by simp[go_sem]
theorem Kj:Ax Adt 69 2 2:=fun b o w=>by simp[go_sem]
theorem Kk:Ax Adt 69 3 3:=fun b o w=>by simp[go_sem]
theorem ET:Ax Adt 69 4 35:=fun b o w=>by simp[go_sem]
theorem Tr:Tryz.prog.eqGuardType Tryz.prog.depth 97=false:=by kernel_rfl
theorem Cs(w:Ads)(v f:Adr)(l:List AK)(hr:RG 33 nmdC w v l)(c:RG 33 nmdC w f l)(hl:l.length<9223372036854775807):
  Calls Adt 97 #[v,f] w fun e w' =>e = .returned (.bool true)/\Ext w w' :=by
 refine gG (args:= [v,f]) Tryz.func97 rfl 26 rfl rfl ?_;have hE:=Acz w;refine gS (ZZ Dz (ZU hr rfl) (gS (ZZ Dz (ZU c rfl) (gS (ZO (a:=(l.length:Nat)) (b:=(l.length:Nat)) rfl rfl (AX _ _ _ _) (kF (fun h=>h rfl) (cF rfl (gL (fun(ρ:Aj) (wz:Ads)=>∃i:Nat,ρ 0=(v:Adr)/\ρ 1=(f:Adr)/\ρ 10=(.bool (false):Adr)/\ρ 5=(NI i:Adr)/\RG 33 nmdC wz v l/\RG 33 nmdC wz f l/\Ext w wz/\(i<=l.length)/\True) (fun ρ _=>l.length-(intOf (ρ 5)).toNat) ⟨0,rfl,rfl,rfl,rfl,hr,c,hE,AdN _,trivial⟩ ?_))))))));clear hr c hE;rintro o q ⟨i,g,T1,p,T5,hr,c,hE,hi,-⟩;have q5:=T5;refine gS (ZZ Dz (ZU hr g) (gS (ZO (a:=(i:Nat)) (b:=(l.length:Nat)) T5 rfl (Bg _ _ _ _) ?_)));refine cD rfl (fun k=> ?_) fun k=> ?_
 ·have hlt:i<l.length:=k;refine gM0 [0,1,2,3,4,5,6,7,8] [] [] fun r j=> ?_;have hr:=hr.keep j;have s:(nmdC (l.getD (i) dNmd)).length=33:=(AcL hr dNmd (by omega));refine yA (Z3 Dz Kf (by decide) dNmd (ZU hr g) T5 (by omega) fun t m=>(ys (ZT (Aaa m rfl) (Ly).choose_spec rfl (by rw[BA];exact Kg) zz) ?_));have c:=c.keep j;have u:(nmdC (l.getD (i) dNmd)).length=33:=(AcL c dNmd (by omega));refine yA (Z3 Dz Kf (by decide) dNmd (ZU c T1) T5 (by omega) fun x n=>(ys (ZT (Aaa n rfl) (Ly).choose_spec rfl (by rw[BA];exact Kg) zz) (ys (AaW Rm rfl rfl (Yq _ (l.getD i dNmd)) zz) ?_)));clear m;clear n;have hE:=hE.trans j;refine cF rfl (gS (ZV (xv:=NI i) (yv:=NI 1) T5 rfl rfl (AF _ _ _ (by omega)) (gK (And.intro ⟨i+1,g,T1,p,rfl,hr,c,hE,by omega,trivial⟩ ?_))));show l.length-(intOf (NI ((i)+(1)))).toNat<l.length-(intOf (o 5)).toNat;rw[q5];simp only[intOf,Int.toNat_natCast];omega
 refine Az rfl (vr (.bool (true)) rfl) ?_;exact⟨rfl,hE⟩
theorem PK(w:Ads)(y z:Af)(hm:RefsAt w y)(hn:RefsAt w z)(he:z.1=y.1)(hL:DM y.1):
  Calls Adt 47 #[.agg (refsC y).toArray, .agg (refsC z).toArray] w fun e w' =>e = .returned (.bool true)/\Ext w w' :=by
 have hmt:=hm.branches;have hmg:=hm.tags;have hml:=hm.log;have hnt:=he▸hn.branches;have hng:=he▸hn.tags;have hnl:=he▸hn.log;refine gG (args:= [.agg (refsC y).toArray, .agg (refsC z).toArray]) Tryz.func47 rfl 61 rfl rfl ?_;have hE:=Acz w;refine gS (AcP (vr (.agg (refsC y).toArray) rfl) fun o p ag s aa ah=> ?_);have c:=s;clear s;have ai:o<p.heap.size:=by omega
 refine gS (AcP (vr (.agg (refsC z).toArray) rfl) fun q ab ac t r aj=> ?_);have g:=Acz p;have hE:=hE.trans aa;have ak:=hE.size;have f:=t;clear t;have al:q<ab.heap.size:=by omega
 have am:=AO (bl c) ac;have c:=eb r c;have hE:=hE.trans r;refine gS (Acy Kh rfl (gS (ZN Dz rfl rfl (Ac c (Br y)) (gS (Acy Kh rfl (gS (ZN Dz rfl rfl (Ac f (Br z)) (gS (ZR MR rfl rfl ((Cs _ y.2.branches z.2.branches y.1.branches (hmt.keep hE) (hnt.keep hE) hL.branches).mono ?_))))))))));rintro e an ⟨rfl,j⟩;refine⟨_,rfl,?_⟩;have hE:=hE.trans j;have c:=eb j c;have f:=eb j f;refine gS (Z2 rfl (gS (Acy Ki rfl (gS (ZN Dz rfl rfl (Ac c (BQ y)) (gS (Acy Ki rfl (gS (ZN Dz rfl rfl (Ac f (BQ z)) (gS (ZR MR rfl rfl ((Cs _ y.2.tags z.2.tags y.1.tags (hmg.keep hE) (hng.keep hE) hL.tags).mono ?_))))))))))));rintro e ao ⟨rfl,k⟩;refine⟨_,rfl,?_⟩;have g:=g.trans ((r.trans j).trans k);have hE:=hE.trans k;have c:=eb k c;have f:=eb k f;refine gS (Z2 rfl (gS (Z4 rfl rfl (gS (Acy Kj rfl (gS (ZN E4 rfl rfl (Ac c (Cw y)) (gS (Acy Kj rfl (gS (ZN E4 rfl rfl (Ac f (Cw z)) (gS (Aav (l:=y.1.head) (m:=z.1.head) (.inr rfl) rfl rfl (decide ((y.1.head:Ai1)≠(z.1.head:Ai1))) rfl (kF (fun h=>h (by rw[he])) (gS (Z4 rfl rfl (gS (Acy Kk rfl (gS (ZT (AcN c (Cx y) (CH y) rfl) WA rfl (As y.1.at_.2) (gS (Acy Kk rfl (gS (ZT (AcN f (Cx z) (CH z) rfl) WA rfl (As z.1.at_.2) (gS (AaK (l1:=y.1.at_.1) (l2:=z.1.at_.1) WA u5 QN SJ rfl rfl (y.1.at_.2) (z.1.at_.2) (kF (fun h=>h (by rw[he])) (gS (Z4 rfl rfl (gS (Acy ET rfl (gS (ZN F4 rfl rfl (Ac c (Bv y)) ?_)))))))))))))))))))))))))))))))));refine gS (ZZ F4 (ZU (hml.keep hE) rfl) (gS (Acy ET rfl (gS (ZN F4 rfl rfl (Ac f (Bv z)) (gS (ZZ F4 (ZU (hnl.keep hE) rfl) (gS (ZO (a:=((y.1.log).length:Nat)) (b:=((y.1.log).length:Nat)) rfl rfl (AX _ _ _ _) (kF (fun h=>h rfl) (gS (Z4 rfl rfl (cF rfl (gL (fun(ρ:Aj) (wz:Ads)=>∃i:Nat,ρ 0=(.agg (refsC y).toArray:Adr)/\ρ 1=(.agg (refsC z).toArray:Adr)/\ρ 2=(PQ o 0:Adr)/\ρ 3=(PQ q 0:Adr)/\ρ 42=(.bool (false):Adr)/\ρ 5=(NI i:Adr)/\Ext w wz/\wz.heap[o]? =some (.cells (refsC y).toArray 69 (0,0))/\Ext p wz/\wz.heap[q]? =some (.cells (refsC z).toArray 69 (0,0))/\(i<=y.1.log.length)/\True) (fun ρ _=>y.1.log.length-(intOf (ρ 5)).toNat) ⟨0,rfl,rfl,rfl,rfl,rfl,rfl,hE,c,g,f,AdN _,trivial⟩ ?_))))))))))))));clear hE c f;rintro ad ap ⟨i,T0,T1,T2,T3,af,T5,hE,c,g,f,hi,-⟩;have q5:=T5;refine gS (Acy ET T2 (gS (ZN F4 rfl rfl (Ac c (Bv y)) (gS (ZZ F4 (ZU (hml.keep hE) rfl) (gS (ZO (a:=(i:Nat)) (b:=((y.1.log).length:Nat)) T5 rfl (Bg _ _ _ _) ?_)))))));refine cD rfl (fun u=> ?_) fun u=> ?_
 ·have hlt:i<y.1.log.length:=u;have hll:=hL.log;refine gM0 [0,1,2,3,4,5,6,7,8,9,10] [] [] fun aq n=> ?_;have c:=eb n c;refine ys (Acy ET T2 zz) (ys (ZN F4 rfl rfl (Ac c (Bv y)) zz) ?_);have hE:=hE.trans n;have ar:(entC ((y.1.log).getD (i) Ap)).length=67:=(AcL (hml.keep hE) Ap (by omega));have f:=eb n f;refine yA (Z3 F4 QY (by decide) Ap (ZU (hml.keep hE) rfl) T5 (by omega) fun au v=>(ys (ZT (Aaa v rfl) (Mw).choose_spec rfl (by rw[CZ];exact Ll) zz) (ys (Acy ET T3 zz) (ys (ZN F4 rfl rfl (Ac f (Bv z)) zz) ?_))));have av:(entC ((y.1.log).getD (i) Ap)).length=67:=(AcL (hnl.keep hE) Ap (by omega));refine yA (Z3 F4 QY (by decide) Ap (ZU (hnl.keep hE) rfl) T5 (by omega) fun aw x=>(ys (ZT (Aaa x rfl) (Mw).choose_spec rfl (by rw[CZ];exact Ll) zz) (ys (AaW Tr rfl rfl (Y4 _ (y.1.log.getD i Ap)) zz) ?_)));clear v;clear x;have g:=g.trans n;refine cF rfl (gS (ZV (xv:=NI i) (yv:=NI 1) T5 rfl rfl (AF _ _ _ (by have:=hL.log;omega)) (gK (And.intro ⟨i+1,T0,T1,T2,T3,af,rfl,hE,c,g,f,by omega,trivial⟩ ?_))));show y.1.log.length-(intOf (NI ((i)+(1)))).toNat<y.1.log.length-(intOf (ad 5)).toNat;rw[q5];simp only[intOf,Int.toNat_natCast];omega
 refine Az rfl (vr (.bool (true)) rfl) ?_;exact⟨rfl,hE⟩
theorem BX{r:Au}(h:AA r=true):r.branches.length<=80/\r.tags.length<=80/\r.log.length<=80:=by
 obtain⟨h1,h2⟩:=Fq.1 h;have h3:=(Dy.1 h1.br).2.2;have h4:=(Dy.1 h1.tg).2.2;omega
theorem BS{r:Au}(h:AA r=true):DM r:=by
 obtain⟨h1,h2⟩:=Fq.1 h;have h3:=Dy.1 h1.br;have h4:=Dy.1 h1.tg;refine⟨by have:=h3.2.2;omega,by have:=h4.2.2;omega,by omega,fun u hu=>by have:=(Ex (h3.1 u hu).1).2;omega,fun u hu=>by have:=(Ex (h4.1 u hu).1).2;omega,?_⟩;have hh:=h1.hd;unfold HK at hh;by_cases h0:r.head= []
 ·rw[h0];simp
 ·simp only[decide_eq_true h0,Ahl,Aeg,Aez]at hh;have:=(Ex hh.1.1).2;omega
theorem EH{α β:Type}{f:α->List β}{l:List α}{i:Nat}(d:α)(h:i<l.length):(l.take (i+1)).flatMap f=(l.take i).flatMap f++f (l.getD i d):=by
 rw[List.take_succ_eq_append_getElem h,Ae6,Aen,List.flatMap_nil,Agd,Adz,AdE h];rfl
def C3(n:AK):Bs:=AL n.name++n.id.1
def EU(l:List AK):Bs:=AdU l.length++l.flatMap C3
def CK(e:Ba):Bs:=(((([e.kind]++AL e.name)++e.old.1)++e.new.1))++AL e.note
def Ee(r:Au):Bs:=((((EU r.branches++EU r.tags)++AL r.head)++r.at_.1)++AdU r.log.length)++r.log.flatMap CK
def lsB(r:Au)(i:Nat):Bs:=if i=0 then []else if i=1 then EU r.branches else EU r.branches++EU r.tags
theorem WB{r:Au}{i:Nat}(h:i=0):lsB r i= []:=if_pos h
theorem WC{r:Au}{i:Nat}(h:i=1):lsB r i=EU r.branches:=by subst h;rfl
theorem WD{r:Au}{i:Nat}(h:i=2):lsB r i=EU r.branches++EU r.tags:=by subst h;rfl
theorem BY{s:Bs}{n:Nat}(h:s.length<=n)(hn:n<=4611686018427387904):(AL s).length<=n+9:=by
 have:=Cc (n:=s.length) (by omega);unfold AL;rw[Adx];omega
theorem Ey{α:Type}{f:α->Bs}{c:Nat}:∀ {l:List α},(∀a∈l,(f a).length<=c)->(l.flatMap f).length<=c*l.length
 | [],_=>AdN _
 | a :: l,h=>by
  have h1:=h a (by simp);have h2:=Ey (l:=l) (fun x hx=>h x (by simp[hx]));rw[Aen,Adx,AdJ,Nat.mul_add,Nat.mul_one];omega
theorem Oo{n:AK}(h:n.name.length<=32):(C3 n).length<=73:=by
 unfold C3;have:=BY h (by omega);rw[Adx,n.id.2];omega
theorem U8{e:Ba}(h:e.name.length<=32)(h2:e.note.length<=256):(CK e).length<=371:=by
 unfold CK;have:=BY h (by omega);have:=BY h2 (by omega);simp only[Adx,Ad4,e.old.2,e.new.2];omega
structure U9 (r : Au) : Prop where
 bl:r.branches.length<=64
 tl:r.tags.length<=64
 ll:r.log.length<=64
 bn:∀n∈r.branches,n.name.length<=32
 tn:∀n∈r.tags,n.name.length<=32
 hd:r.head.length<=32
 ln:∀e∈r.log,e.name.length<=32/\e.note.length<=256
theorem Jl{r:Au}(h:AA r=true):U9 r:=by
 obtain⟨h1,h2⟩:=Fq.1 h;have h3:=Dy.1 h1.br;have h4:=Dy.1 h1.tg;refine⟨h3.2.2,h4.2.2,h2,fun n hn=>(Ex (h3.1 n hn).1).2,fun n hn=>(Ex (h4.1 n hn).1).2,?_,fun e he=>⟨(h1.lg e he).2.2,?_⟩⟩
 ·have hh:=h1.hd;unfold HK at hh;by_cases h0:r.head= []
  ·rw[h0];simp
  ·simp only[decide_eq_true h0,Ahl,Aeg,Aez]at hh;exact(Ex hh.1.1).2
 ·have h5:=(h1.lg e he).2.1;unfold CB at h5;rw[AdX]at h5;exact of_decide_eq_true h5.1
theorem Lz{l:List AK}(h:l.length<=64)(hn:∀n∈l,n.name.length<=32):(EU l).length<=4681:=by
 unfold EU;have h1:=Ey (f:=C3) (c:=73) (l:=l) (fun n hm=>Oo (hn n hm));have h2:=Cc (n:=l.length) (by omega);rw[Adx];omega
theorem Qk{r:Au}(h:U9 r)(i:Nat):(lsB r i).length<=9362:=by
 have h1:=Lz h.bl h.bn;have h2:=Lz h.tl h.tn;unfold lsB;split
 ·simp
 ·split
  ·omega
  ·rw[Adx];omega
theorem Oq{l:List AK}(h:l.length<=64)(hn:∀n∈l,n.name.length<=32)(i:Nat):((l.take i).flatMap C3).length<=4672:=by
 have h1:=Ey (f:=C3) (c:=73) (l:=l.take i) (fun n hm=>Oo (hn n (AfB hm)));have h2:=List.length_take_le i l;have h3:(l.take i).length<=l.length:=by rw[AdS];omega
 omega
theorem Ot{r:Au}(h:U9 r)(i:Nat):((r.log.take i).flatMap CK).length<=23744:=by
 have h1:=Ey (f:=CK) (c:=371) (l:=r.log.take i) (fun e hm=>U8 (h.ln e (AfB hm)).1 (h.ln e (AfB hm)).2);have h3:(r.log.take i).length<=r.log.length:=by rw[AdS];omega
 have:=h.ll;omega
theorem Ts:Plain Adt 103:=fun _ _=>by kernel_rfl
theorem Jm(w:Ads)(v:Adr)(l:Bs)(hr:RB w v l)(hl:l.length+64<=140737488355328)(id:Cl):
  Calls Adt 60 #[v,AB id.1] w fun e w' =>∃v',e = .returned v' /\NewB 5 w w' v' (l++id.1):=by
 refine gG (args:= [v,AB id.1]) Tryz.func60 rfl 9 rfl rfl ?_;have hE:=Acz w;refine gS (AcP (vr (AB id.1) rfl) fun h o x j p y=> ?_);have a:=j;clear j;have z:h<o.heap.size:=by omega
 refine gM0 [0,2,1,3,4] [1,3] [2] fun k m=> ?_;have hE:=hE.trans (p.trans m);refine yp (AbD WA QN rfl zz) (yC (ZP Ts rfl ((L0 _ v (l) (hr.keep hE) (by omega)).mono ?_)));rintro e q ⟨i,rfl,b⟩;refine⟨_,rfl,?_⟩;have c:=Acz k;have r:=hE.size;have a:=eb m a;have s:OB i h:=Bk b.own (bl a);have g:=b.own;have a:=eb b.ext a;have c:=c.trans b.ext;refine yC (AaA _ _ k.heap.size (.int .u8 0) Hv QE rfl Hv (l) (id.1) (Hu g (vr i rfl)) (Aaf (Ab9 a id.2 (by decide)) (vr (.slice (some ⟨h,0,none⟩) 32 32) rfl)) (by rw[id.2];omega) c.size fun n t u f=> ?_);have f:Grew q t i n:=f;have hE:=hE.trans b.ext;have hE:=Bz hE f g r;have a:=A0 a f s;have c:=Bz c f g (Adw _);clear g;refine Az rfl (vr n rfl) ?_;exact⟨_,rfl,⟨AN u (by omega),hE.grown⟩⟩
abbrev AY(v:Adr)(b:Bs)(i:Nat):DL:=(⟨b,((i:Nat):Int)⟩,⟨v⟩)
def DY(b:Bs)(i:Nat):Option (UInt8 × Nat):=if i<b.length then some (b.getD i 0,i+1)else none
def CQ(b:Bs)(i:Nat):Option (Nat × Nat):=(AU 0 (b.drop i)).map fun x=>(x.1,i+x.2)
def A5(b:Bs)(i most:Nat):Option (Bs × Nat):=match AU 0 (b.drop i)with
 | none=>none
 | some x=>if most<x.1 then none else if b.length<i+x.2+x.1 then none else some ((b.drop (i+x.2)).take x.1,i+x.2+x.1)
def DQ(b:Bs)(i:Nat):Option (Cl × Nat):=if h:i+32<=b.length then some (⟨(b.drop i).take 32,by rw[AdS,AdT];omega⟩,i+32)else none
theorem Va{b:Bs}{i n:Nat}{c:UInt8}(h:DY b i=some (c,n)):n<=b.length:=by
 unfold DY at h;split at h
 ·cases h;omega
 ·cases h
theorem Ql{b:Bs}{i n k:Nat}(hi:i<=b.length)(h:CQ b i=some (k,n)):n<=b.length:=by
 unfold CQ at h;cases hd:AU 0 (b.drop i)with
 | none=>rw[hd]at h;cases h
 | some x=>
  rw[hd]at h;cases h;have:=(Id _ _ _ hd).2.1;rw[AdT]at this;omega
theorem txtP_le{b:Bs}{i most n:Nat}{s:Bs}(h:A5 b i most=some (s,n)):n<=b.length/\s.length<=most:=by
 unfold A5 at h;split at h
 ·cases h
 ·split at h
  ·cases h
  ·split at h
   ·cases h
   ·cases h;rw[AdS,AdT];omega
theorem HP{b:Bs}{i n:Nat}{x:Cl}(h:DQ b i=some (x,n)):n<=b.length:=by
 unfold DQ at h;split at h
 ·cases h;omega
 ·cases h
theorem Aaz{w w' :Ads}{v:Adr}{l:Ai1}(h:RB w v l){row:Option Nat}(hg:w.grownBy w' row)(hv:l= []\/v.ownBlock≠row):RB w' v l:=by
 rcases hv with rfl | hv
 ·obtain⟨h1,ao,cap,rfl,h2,h3,h4,h5⟩:=h;exact⟨h1,ao,cap,rfl,h2,h3,h4,fun a ha j u hu=>by simp[Adv]at hu⟩
 ·exact RB.kept h hg (.inr hv)
def Cn{σ:Type}(f:σ->Option σ):Nat->σ->Option σ
 | 0,s=>some s
 | n+1,s=>(Cn f n s).bind f
theorem Io{σ:Type}{f:σ->Option σ}{s:σ}{j:Nat}(h:Cn f j s=none):∀n,j<=n->Cn f n s=none
 | 0,hn=>by(have:j=0:=by omega);rw[this]at h;exact h
 | n+1,hn=>by
  by_cases e:j=n+1
  ·rw[<-e];exact h
  ·show(Cn f n s).bind f=none;rw[Io h n (by omega)];rfl
theorem FG{σ:Type}{f:σ->Option σ}{s t:σ}{j:Nat}(h:Cn f j s=some t):Cn f (j+1) s=f t:=by
 show(Cn f j s).bind f=_;rw[h];rfl
def CE{σ:Type}(b:Bs)(i most:Nat)(st:σ × Nat->Option (σ × Nat))(s:σ):Option (σ × Nat):=
 (CQ b i).bind fun x=>if x.1<=most then Cn st x.1 (s,x.2)else none
theorem Rn{σ:Type}{b:Bs}{i most n j:Nat}{st:σ × Nat->Option (σ × Nat)}{s:σ}(h:CQ b i=some (n,j))(hn:n<=most):CE b i most st s=Cn st n (s,j):=by
 unfold CE;rw[h];exact if_pos hn
theorem Ip{σ:Type}{f:σ->Option σ}{s t:σ}{n:Nat}(h:Cn f (n+1) s=some t):∃u,Cn f n s=some u/\f u=some t:=by
 have h:(Cn f n s).bind f=some t:=h;exact Aff.1 h
theorem JS{σ:Type}{f:List σ × Nat->Option (List σ × Nat)}(hf:∀s t,f s=some t->t.1.length=s.1.length+1):∀(n:Nat) {s t:List σ × Nat},Cn f n s=some t->t.1.length=s.1.length+n
 | 0,s,t,h=>by cases h;rfl
 | n+1,s,t,h=>by
  obtain⟨u,h1,h2⟩:=Ip h;rw[hf u t h2,JS hf n h1];omega
theorem Tt{σ:Type}{b:Bs}{i most:Nat}{st:σ × Nat->Option (σ × Nat)}{s:σ}{t:σ × Nat}(h:CE b i most st s=some t):∃n j,CQ b i=some (n,j)/\n<=most/\Cn st n (s,j)=some t:=by
 unfold CE at h;rw[Aff]at h;obtain⟨x,h1,h2⟩:=h;split at h2
 ·rename_i hn
  exact⟨x.1,x.2,h1,hn,h2⟩
 ·cases h2
theorem Ct{α:Type}{b u r:List α}{i:Nat}(h:b.drop i=u++r):b.drop (i+u.length)=r:=by
 rw[<-Af1,h,Agn]
theorem Ro{α:Type}{b u r:List α}{i:Nat}(h:b.drop i=u++r)(hu:0<u.length):i+u.length+r.length=b.length:=by
 have h1:=congrArg Ah9 h;rw[AdT,Adx]at h1;omega
theorem Qm{b r:Bs}{c:UInt8}{i:Nat}(h:b.drop i=c :: r):DY b i=some (c,i+1):=by
 have h0:=Ro (u:= [c]) h (by simp);have h1:b[i]? =some c:=by have:=congrArg (fun l:Bs=>l[0]?) h;simpa using this
 unfold DY;rw[if_pos (by simp only[Ad4]at h0;omega),Adz,h1];rfl
theorem Yr{b r:Bs}{n i:Nat}(h:b.drop i=AdU n++r)(hn:n<9223372036854775808):CQ b i=some (n,i+(AdU n).length):=by
 have h4:(128:Nat)^(8+1)=9223372036854775808:=by decide
 unfold CQ;rw[h,EG r 8 n 0 (by omega) (by omega) (by omega)];rfl
theorem JT{b r:Bs}{x:Cl}{i:Nat}(h:b.drop i=x.1++r):DQ b i=some (x,i+x.1.length):=by
 have hx:=x.2;have h0:=Ro h (by omega);unfold DQ;rw[dif_pos (by omega),hx]
 congr 2
 refine Subtype.ext ?_;show(b.drop i).take 32=x.1;rw[h];exact AeJ hx
theorem F6{b r s:Bs}{most i:Nat}(h:b.drop i=AL s++r)(hs:s.length<=most)(hm:most<9223372036854775808):A5 b i most=some (s,i+(AL s).length):=by
 have h4:(128:Nat)^(8+1)=9223372036854775808:=by decide
 have h' :b.drop i=AdU s.length++(s++r):=by rw[h];unfold AL;rw[AdW]
 have h0:=Ro h' (AhR _);have h2:=Ct h';unfold A5;rw[h',EG (s++r) 8 s.length 0 (by omega) (by omega) (by omega)];simp only;rw[Adx]at h0;rw[if_neg (by omega),if_neg (by omega),h2,List.take_left];unfold AL;rw[Adx,Afu]
theorem Ou{σ:Type}{f:σ->Option σ}:∀(n:Nat) (s:σ),Cn f (n+1) s=(f s).bind (Cn f n)
 | 0,s=>by
  show f s=_;cases f s <;> rfl
 | n+1,s=>by
  show(Cn f (n+1) s).bind f=_;rw[Ou n s];cases f s with
  | none=>rfl
  | some t=>rfl
theorem WE{α:Type}(f:α->Bs){b:Bs}(st:List α × Nat->Option (List α × Nat)):∀(l:List α) (a:List α) (r:Bs) (i:Nat),b.drop i=l.flatMap f++r ->
  (∀x∈l,∀(a:List α) (i:Nat) (r:Bs),b.drop i=f x++r->st (a,i)=some (a++ [x],i+(f x).length))->Cn st l.length (a,i)=some (a++l,i+(l.flatMap f).length)
 | [],a,r,i,_,_=>by simp[Cn]
 | x :: l,a,r,i,h,hst=>by
  rw[Aen,AdW]at h;rw[AdJ,Ou,hst x (by simp) a i _ h,AdP,WE f st l (a++ [x]) r _ (Ct h) (fun y hy=>hst y (by simp[hy]))];simp[Afu]
theorem Ma{α:Type}(f:α->Bs){b:Bs}{most:Nat}(st:List α × Nat->Option (List α × Nat)){l:List α}{r:Bs}{i:Nat}(h:b.drop i=AdU l.length++(l.flatMap f++r))(hl:l.length<=most)(hm:most<9223372036854775808) 
  (hst:∀x∈l,∀(a:List α) (i:Nat) (r:Bs),b.drop i=f x++r->st (a,i)=some (a++ [x],i+(f x).length)):CE b i most st []=some (l,i+(AdU l.length).length+(l.flatMap f).length):=by
 rw[Rn (Yr h (by omega)) hl,WE f st l [] r _ (Ct h) hst,Ad9]
theorem Hm:∀(l:Bs) (k:Nat) (x:Nat × Nat),AU k l=some x->l=AdU x.1++l.drop x.2/\(0<k->0<x.1)
 | [],k,x,h=>by simp[AU]at h
 | c :: r,k,x,h=>by
  have hc:=c.toNat_lt;unfold AU at h;split at h
  ·split at h
   ·cases h
   ·obtain⟨y,hy,rfl⟩:=Afr.1 h;obtain⟨h1,h2⟩:=Hm r (k+1) y hy;have h2:=h2 (by omega);have a:(c.toNat-128+128*y.1)%128+128=c.toNat:=by omega
    have b:(c.toNat-128+128*y.1)/128=y.1:=by omega
    refine⟨?_,fun _=>by simp only;omega⟩;simp only;rw[Lib.uvarint_big (by omega),a,b,List.drop_succ_cons,Ad1,<-h1];simp
  ·split at h
   ·cases h
   ·rename_i h1 h2
    cases h;refine⟨?_,fun _=>by simp only;omega⟩;simp only;rw[Lib.uvarint_small (by omega)];simp
theorem W7{b:Bs}{i n:Nat}{c:UInt8}(h:DY b i=some (c,n)):b.drop i= [c]++b.drop n:=by
 unfold DY at h;split at h
 ·cases h
  rename_i hi
  rw[SI 0 hi];rfl
 ·cases h
theorem Ys{b:Bs}{i n k:Nat}(h:CQ b i=some (k,n)):b.drop i=AdU k++b.drop n:=by
 unfold CQ at h;obtain⟨x,hx,h2⟩:=Afr.1 h;cases h2;have:=(Hm _ _ _ hx).1
 rwa [Af1]at this
theorem NN{b:Bs}{i n:Nat}{x:Cl}(h:DQ b i=some (x,n)):b.drop i=x.1++b.drop n:=by
 unfold DQ at h;split at h
 ·cases h;show b.drop i=(b.drop i).take 32++b.drop (i+32);rw[<-Af1,AeK]
 ·cases h
theorem Jo{b s:Bs}{i n most:Nat}(h:A5 b i most=some (s,n)):b.drop i=AL s++b.drop n:=by
 unfold A5 at h;split at h
 ·cases h
 ·rename_i x hx
  split at h
  ·cases h
  ·split at h
   ·cases h
   ·cases h;have h1:=(Hm _ _ _ hx).1;rw[Af1]at h1;have hl:((b.drop (i+x.2)).take x.1).length=x.1:=by rw[AdS,AdT];omega
    unfold AL;rw[hl,AdW,<-Af1 (i:=x.1),AeK];exact h1
theorem WF{α:Type}{f:α->Bs}{Q:α->Prop}{b:Bs}{st:List α × Nat->Option (List α × Nat)}(hst:∀a i t,st (a,i)=some t->∃x,t.1=a++ [x]/\Q x/\b.drop i=f x++b.drop t.2):∀(n:Nat) (a:List α) (i:Nat) (t:List α × Nat),Cn st n (a,i)=some t->∃l,t.1=a++l/\l.length=n/\(∀x∈l,Q x)/\b.drop i=l.flatMap f++b.drop t.2
 | 0,a,i,t,h=>by cases h;exact⟨[],by simp,rfl,(fun x hx=>by cases hx),rfl⟩
 | n+1,a,i,t,h=>by
  obtain⟨u,h1,h2⟩:=Ip h;obtain⟨l,c,e,g,j⟩:=WF hst n a i u h1;obtain⟨x,f1,f2,f3⟩:=hst u.1 u.2 t h2;refine⟨l++ [x],by rw[f1,c,AdW],by simp[e],fun y hy=> ?_,?_⟩
  ·rcases Aed.1 hy with hy | hy
   ·exact g y hy
   ·rw[Aeb.1 hy];exact f2
  ·rw[j,f3,Ae6,List.flatMap_singleton,AdW]
theorem Qn{α:Type}{f:α->Bs}{Q:α->Prop}{b:Bs}{most i:Nat}{st:List α × Nat->Option (List α × Nat)}{t:List α × Nat}(hst:∀a i t,st (a,i)=some t->∃x,t.1=a++ [x]/\Q x/\b.drop i=f x++b.drop t.2)(h:CE b i most st []=some t):b.drop i=(AdU t.1.length++t.1.flatMap f)++b.drop t.2/\∀x∈t.1,Q x:=by
 obtain⟨n,j,h1,-,h2⟩:=Tt h;obtain⟨l,c,e,g,k⟩:=WF hst n [] j t h2;rw[Ad9]at c;rw[c,Ys h1,e,k,AdW];exact⟨rfl,g⟩
def Iq(P:AdM)(l:List AdL)(cs pf fl:List Nat)(J:List PanicEntry->Ads->Prop)(K:Aj->Ads->Prop)(a:Nat)(da:Tmp)(o0:Obj)(post:List Nat):List Nat->Ads->(Nat->Prop)->Aj->Prop
 | [],wk,N,ρ=>∀m w,Ext wk w->N m->m<w.heap.size->w.heap[m]? =some o0->DV P l cs pf (a :: fl) J K post (fun x=>Ext w x/\True) (updO ρ (some da) (PQ m 0)) w
 | i :: r,wk,N,ρ=>match l[i]? with
  | none=>False
  | some o=>
   if i∈cs then ∀w,Ext wk w->Yk P (fun v w' =>(Ext w w' \/((w.heap.size<=w'.heap.size/\∀m,N m->w.heap[m]? =some o0->w'.heap[m]? =some o0)/\QJ l fl r i=true))/\Iq P l cs pf fl J K a da o0 post r w' (fun m=>N m/\(m<w.heap.size\/w'.heap.size<=m)) (updO ρ o.dst v)) ((execOp (Ab ρ) o).run P w)
   else ∃v,(∀w',DF l pf i=true\/Ext wk w' ->Yk P (fun x w'' =>x=v/\w'' =w') ((execOp (Ab ρ) o).run P w'))/\Iq P l cs pf fl J K a da o0 post r wk N (updO ρ o.dst v)
def Yt(l:List AdL)(cs:List Nat)(a:Nat)(da:Tmp)(pre post:List Nat):Bool:=
 (l.all fun o=>o.guard.isNone)&&(!cs.contains a&&((pre.all fun i=> !(looksL l i).contains da&&Da l i != some da)&&post.all fun i=>((AT l []).getD i 0).testBit a))
section
variable {P : AdM} {n : Nat} {Q : Bi} {l : List AdL} {cs pf fl pre post : List Nat} {a : Nat} {da : Tmp} {o0 : Obj} {oa : AdL} {J : List PanicEntry -> Ads -> Prop} {K : Aj -> Ads -> Prop}
def PendA(P:AdM)(l:List AdL)(cs pf:List Nat)(wk:Ads)(ρ:Aj)(i:Nat):Prop:=
 ∃o,l[i]? =some o/\i∉cs/\(∀d,o.dst=some d->d∉o.looksAt l.toArray)/\(∀cs b,o.op ≠ .select cs b)/\∃d,o.dst=some d/\∀w',DF l pf i=true\/Ext wk w' ->Yk P (fun x w'' =>x=ρ d/\w'' =w') ((execOp (Ab ρ) o).run P w')
theorem PendA.upd{wk wk' :Ads}{ρ ρ' :Aj}{i:Nat}(h:PendA P l cs pf wk ρ i)(he:DF l pf i=true\/Ext wk wk')(hl:∀t∈looksL l i,ρ' t=ρ t)(hd:∀t,Da l i=some t->ρ' t=ρ t):PendA P l cs pf wk' ρ' i:=by
 obtain⟨o,ho,h1,h2,h3,d,hd0,c⟩:=h;have hl' :∀t∈o.looksAt l.toArray,ρ' t=ρ t:=fun t ht=>hl t (by unfold looksL;rw[ho];exact ht);refine⟨o,ho,h1,h2,h3,d,hd0,fun w' hw' => ?_⟩;rw[hd d (by unfold Da;rw[ho];exact hd0),Dv h3 hl'];exact c w' (hw'.elim .inl fun x=>he.imp id fun y=>y.trans x)
structure AInv (P : AdM) (l : List AdL) (cs pf fl : List Nat) (n : Nat) (J : List PanicEntry -> Ads -> Prop) (K : Aj -> Ads -> Prop) (a : Nat) (da : Tmp) (o0 : Obj) (pre post u r : List Nat) (wk : Ads) (N : Nat -> Prop) (ρ : Aj) (listed : Array Bool) (x : Act) (w : Ads) : Prop where
 size:listed.size=l.length
 closed:∀i o,l[i]? =some o->On listed i->∀e∈o.after,Aeu .any e=true->On listed e.on
 tmps:x.tmps.size=n
 defers:x.defers= []
 split:pre=u++r
 rest:∀i∈r,¬On listed i
 last:∀i∈post,¬On listed i
 pend:∀i∈u,¬On listed i->PendA P l cs pf wk ρ i
 agree:∀t,t≠da->(∀i∈u,¬On listed i->Da l i≠some t)->x.tmps.getD t undef=ρ t
 ext:Ext wk w
 done:On listed a->∃m,x.tmps.getD da undef=PQ m 0/\N m/\m<w.heap.size/\w.heap[m]? =some o0
 todo:¬On listed a->∀m,w.heap.size<=m->N m
 run:Iq P l cs pf fl J K a da o0 post r wk N ρ
theorem AInv.place(hb:Fk l cs pf (a :: fl) (a :: (pre++post))=true){wk:Ads}{N:Nat->Prop}{listed:Array Bool}{x:Act}{w:Ads}:∀(r u:List Nat) (ρ:Aj),AInv P l cs pf fl n J K a da o0 pre post u r wk N ρ listed x w ->
  ∃u' r' ρ',AInv P l cs pf fl n J K a da o0 pre post u' r' wk N ρ' listed x w/\(r' = []\/∃c q,r' =c :: q/\c∈cs)
 | [],u,ρ,h=>⟨u,[],ρ,h, .inl rfl⟩
 | i :: r,u,ρ,h=>by
  obtain⟨o,ho,hm⟩:=Et (u:=a :: u) (i:=i) (v:=r++post) (by have h2:=hb;rw[h.split]at h2;simpa using h2);by_cases hc:i∈cs
  ·exact⟨u,i :: r,ρ,h, .inr ⟨i,r,rfl,hc⟩⟩
  ·have hrun:=h.run;unfold Iq at hrun;rw[ho]at hrun;simp only at hrun;rw[if_neg hc]at hrun;obtain⟨v,hv,hrun⟩:=hrun;have hown:=hm.own (.inl hc);obtain⟨d,hd⟩:=hm.has hc;have hno:¬On listed i:=h.rest i (by simp);have hne:∀t,o.dst≠some t->updO ρ o.dst v t=ρ t:=fun t ht=>by rw[hd,A7,C8 (fun e=>ht (by rw[hd,e]))]
   refine AInv.place hb r (u++ [i]) _ ⟨h.size,h.closed,h.tmps,h.defers,by rw[h.split];simp,fun j hj=>h.rest j (by simp[hj]),h.last,fun j hj hnj=> ?_,fun t htd ht=> ?_,h.ext,h.done,h.todo,hrun⟩
   ·rcases Aed.1 hj with hj | hj
    ·have hpj:=h.pend j hj hnj;obtain⟨oj,hoj,hcj,-⟩:=hpj;refine(h.pend j hj hnj).upd (.inr (Acz _)) (fun t ht=>hne t fun e=>(hm.sep j (by simp[hj]) (.inl hcj) (.inl hc) t e).1 ht) fun t ht=>hne t fun e=>(hm.sep j (by simp[hj]) (.inl hcj) (.inl hc) t e).2 ht
    ·rw[Aeb.1 hj];have hag:∀t∈o.looksAt l.toArray,updO ρ o.dst v t=ρ t:=fun t ht=>hne t fun e=>hown t e ht;refine⟨o,ho,hc,hown,hm.sel,d,hd,fun w' hw' => ?_⟩;rw[Dv hm.sel hag,hd,A7,Es];exact hv w' hw'
   ·have h1:=h.agree t htd fun j hj=>ht j (by simp[hj]);rw[h1,hne t fun e=>ht i (by simp) hno (by unfold Da;rw[ho];exact e)]
theorem Vb(hg:DD l n=true)(hb:Fk l cs pf (a :: fl) (a :: (pre++post))=true)(hab:Yt l cs a da pre post=true)(hoa:l[a]? =some oa)(hda:oa.dst=some da) 
  (hal:∀(ρ:Aj) (w:Ads) (K:Adr->Ads->Prop),(∀w',w'.heap[w.heap.size]? =some o0->Ext w w' ->w.heap.size<w'.heap.size->K (PQ w.heap.size 0) w')->Yk P K ((execOp (Ab ρ) oa).run P w)):
  ∀(fuel:Nat) (listed:Array Bool) (x:Act) (w:Ads) (u r:List Nat) (wk:Ads) (N:Nat->Prop) (ρ:Aj),(listed.toList.filter (!·)).length=fuel->AInv P l cs pf fl n (fun ch w' =>∀ρ',Q (.panic ch) ρ' w') (fun ρ w=>Q .normal ρ w) a da o0 pre post u r wk N ρ listed x w->((r= []/\¬On listed a)\/∃c q,r=c :: q/\c∈cs) ->
   wpAny P .any l.toArray (fun e x' w' =>∃ρ',Fits n ρ' x' /\Q e ρ' w') fuel listed x w:=by
 have g:=Hr hg;unfold Yt at hab;simp only[AdX]at hab;obtain⟨hgu,hac,hpre,hpost⟩:=hab;have hgu' :∀(i:Nat) (o:AdL),l[i]? =some o->o.guard=none:=fun i o ho=>by
  have:=Ael.1 hgu o (AfA ho)
  simpa using this
 have hac' :a∉cs:=by simpa using hac
 have hpre' :∀i∈pre,da∉looksL l i/\Da l i≠some da:=fun i hi=>by
  have:=Ael.1 hpre i hi
  simpa using this
 have hpost' :∀i∈post,((AT l []).getD i 0).testBit a=true:=fun i hi=>Ael.1 hpost i hi;have hall:∀i,i<l.length->i∈a :: (pre++post):=fun i hi=>by
  unfold Fk at hb;rw[AdX,AdX]at hb;have:=Ael.1 hb.2.1 i (by simpa using hi);exact AeM.1 this
 have hnd:(a :: (pre++post)).Nodup:=by
  unfold Fk at hb;rw[AdX]at hb;exact I9 hb.1
 have hlt:∀(i:Nat) (o:AdL),l[i]? =some o->i<l.length:=fun i o ho=>(AdR.1 ho).1
 -- the memory is made, and all ahead of it is walked
 have two:∀(fuel:Nat) (listed:Array Bool) (x:Act) (w:Ads) (u:List Nat) (wk:Ads) (N:Nat->Prop) (ρ:Aj),(listed.toList.filter (!·)).length=fuel->AInv P l cs pf fl n (fun ch w' =>∀ρ',Q (.panic ch) ρ' w') (fun ρ w=>Q .normal ρ w) a da o0 pre post u [] wk N ρ listed x w->On listed a->wpAny P .any l.toArray (fun e x' w' =>∃ρ',Fits n ρ' x' /\Q e ρ' w') fuel listed x w:=fun fuel listed x w u wk N ρ hfu h hon=>by
  obtain⟨m,hm1,hm2,hm3,hm4⟩:=h.done hon;have hsp:pre=u:=by rw[h.split,Agd]
  have hrun:=h.run;unfold Iq at hrun;have h0:MInv P l cs pf (a :: fl) (a :: (pre++post)) n (fun ch w' =>∀ρ',Q (.panic ch) ρ' w') (fun ρ w=>Q .normal ρ w) (a :: pre) post (fun x=>Ext w x/\True) (updO ρ (some da) (PQ m 0)) listed x w:=by
   refine⟨h.size,h.closed,h.tmps,h.defers,by simp,h.last,fun i hi hno=> ?_,fun t ht=> ?_,⟨Acz _,trivial⟩,hrun m w h.ext hm2 hm3 hm4⟩
   ·rcases Ad5.1 hi with rfl | hi
    ·exact absurd hon hno
    ·obtain⟨o,ho,h1,h2,h3,d,hd,c⟩:=h.pend i (hsp▸hi) hno;have hq:=hpre' i hi;have hag:∀t∈o.looksAt l.toArray,updO ρ (some da) (PQ m 0) t=ρ t:=fun t ht=>by
      rw[A7,C8];rintro rfl;exact hq.1 (by unfold looksL;rw[ho];exact ht)
     refine⟨o,ho, .inl h1,h2,h3, .inr ⟨by unfold A9;rw[hgu' i o ho],h1,d,hd,fun w' hw' => ?_⟩⟩;rw[Dv h3 hag,A7,C8 (fun e=>hq.2 (by unfold Da;rw[ho];exact hd.trans (by rw[e])))];refine c w' (hw'.imp id fun z=> ?_);split at z
     ·exact h.ext.trans z.1
     ·rw[z];exact h.ext
   ·by_cases e:t=da
    ·subst e;rw[A7,Es];exact hm1
    ·rw[A7,C8 e];exact h.agree t e fun i hi=>ht i (by simp[hsp,hi])
  obtain⟨u',r',ρ',hp,hr⟩:=h0.place hb;exact P9 hg hb _ _ _ _ u' r' _ ρ' hfu hp hr
 intro fuel
 induction fuel with
 | zero=>
  intro listed x w u r wk N ρ hfu h hr;have full:∀i,i<l.length->On listed i:=fun i hi=>by
   have:=Gq _ hfu i (by rw[AeN,h.size];omega);unfold On;simp at this;simp[this]
  exfalso;rcases hr with ⟨-,hna⟩ | ⟨c,q,rfl,hc⟩
  ·exact hna (full a (hlt a oa hoa))
  ·obtain⟨o,ho,-⟩:=Et (u:=a :: u) (i:=c) (v:=q++post) (by have h2:=hb;rw[h.split]at h2;simpa using h2);exact h.rest c (by simp) (full c (hlt c o ho))
 | succ fuel ih=>
  intro listed x w u r wk N ρ hfu h hr;have again:∀(listed:Array Bool) (x:Act) (w:Ads) (u r:List Nat) (wk:Ads) (N:Nat->Prop) (ρ:Aj),(listed.toList.filter (!·)).length=fuel->AInv P l cs pf fl n (fun ch w' =>∀ρ',Q (.panic ch) ρ' w') (fun ρ w=>Q .normal ρ w) a da o0 pre post u r wk N ρ listed x w->wpAny P .any l.toArray (fun e x' w' =>∃ρ',Fits n ρ' x' /\Q e ρ' w') fuel listed x w:=fun listed x w u r wk N ρ hfu h=>by
   obtain⟨u',r',ρ',hp,hr'⟩:=h.place hb;rcases hr' with rfl | hr'
   ·by_cases hon:On listed a
    ·exact two _ _ _ _ _ _ _ _ hfu hp hon
    ·exact ih _ _ _ _ _ _ _ _ hfu hp (.inl ⟨rfl,hon⟩)
   ·exact ih _ _ _ _ _ _ _ _ hfu hp (.inr hr')
  refine⟨fun hrd=> ?_,fun i hi=> ?_⟩
  ·exfalso;have full:∀i,i<l.length->On listed i:=fun i=>by
    induction i using Agb with
    | _ i ih2=>
     intro hi;refine AeE fun hno=> ?_;have ho:l[i]? =some l[i]:=AdE hi;have:i∈AeV .any l.toArray listed:=by
      refine mem_ready.2 ⟨?_,l[i],by rw[Aeh];exact ho,fun e he hb=> ?_⟩
      ·have hi' :i<listed.size:=by rw[h.size];exact hi
       unfold On at hno;simp[hi']at hno ⊢;exact hno
      ·have hlt:=g.back i _ ho e he hb;exact ih2 e.on hlt (by omega)
     rw[hrd]at this;cases this
   rcases hr with ⟨-,hna⟩ | ⟨c,q,rfl,hc⟩
   ·exact hna (full a (hlt a oa hoa))
   ·obtain⟨o,ho,-⟩:=Et (u:=a :: u) (i:=c) (v:=q++post) (by have h2:=hb;rw[h.split]at h2;simpa using h2);exact h.rest c (by simp) (full c (hlt c o ho))
  ·obtain⟨h1,o,ho,hall0⟩:=mem_ready.1 hi;have ho' :l[i]? =some o:=by simpa using ho
   have hilt:i<l.length:=hlt i o ho';have hil:i<listed.size:=by rw[h.size];exact hilt
   have hno:¬On listed i:=by
    unfold On;simp[hil]at h1 ⊢;exact h1
   have hball:∀e∈o.after,Aeu .any e=true->On listed e.on:=fun e he hb=>hall0 e he hb;have hI:Inv l (fun _=> []) (fun _ _=>True) (fun _ _=>True) (fun _ _ _=>True) x listed x w:=
    ⟨h.size,h.closed,rfl,rfl,fun _ _ _=>trivial,trivial,fun _ _=>rfl,fun _ _ _ _ _ _ _ _=>trivial⟩
   have hmr:∀k,((AT l []).getD i 0).testBit k=true->On listed k:=fun k hk=>hI.maskReady ho' hball hk;have hcnt:((listed.setIfInBounds i true).toList.filter (!·)).length=fuel:=by
    rw[AfQ];have:=FX listed.toList i (by
     simp[hil]at h1;simp[hil,h1])
    omega
   have hcl:∀j oj,l[j]? =some oj->On (listed.setIfInBounds i true) j->∀e∈oj.after,Aeu .any e=true->On (listed.setIfInBounds i true) e.on:=fun j oj hj hon e he hb=>by
    rcases(AR hil).1 hon with rfl | hon
    ·obtain rfl:o=oj:=by rw[ho']at hj;exact AdY hj
     exact(AR hil).2 (.inr (hball e he hb))
    ·exact(AR hil).2 (.inr (h.closed j oj hj hon e he hb))
   have hF:Fits n (fun t=>x.tmps.getD t undef) x:=⟨h.tmps,h.defers,fun t=>rfl⟩;have hroom:∀t,o.dst=some t->t<n:=fun t ht=>g.room i o t ho' ht;have hun:∀j,¬On (listed.setIfInBounds i true) j->¬On listed j/\j≠i:=fun j hj=>⟨fun x=>hj ((AR hil).2 (.inr x)),fun x=>hj ((AR hil).2 (.inl x))⟩;have hw:AeA o (yielded l.toArray x.tmps)=true:=by unfold AeA;rw[hgu' i o ho']
   unfold wpOp;simp only[Aeh,ho'];rw[if_pos hw];refine .inl (I8 ?_);rw[hF.eval];by_cases hia:i=a
   ·-- memory is made
    subst hia;obtain rfl:oa=o:=by rw[hoa]at ho';exact AdY ho'
    refine hal _ w _ fun w' hm4 hE hlt' => ?_;refine again _ _ _ u r wk N ρ hcnt ⟨by simpa using h.size,hcl,(hF.put oa.dst hroom _).size,(hF.put oa.dst hroom _).defers,h.split,fun j hj hx=> ?_,fun j hj hx=> ?_,fun j hj hnj=>h.pend j hj (hun j hnj).1,fun t htd ht=> ?_,h.ext.trans hE,fun _=>⟨w.heap.size,?_,h.todo hno _ (Adw _),hlt',hm4⟩,fun hx=>absurd ((AR hil).2 (.inl rfl)) hx,h.run⟩
    ·rcases(AR hil).1 hx with rfl | hx
     ·exact(AeL.1 hnd).1 (by rw[h.split];simp[hj])
     ·exact h.rest j hj hx
    ·rcases(AR hil).1 hx with rfl | hx
     ·exact(AeL.1 hnd).1 (by simp[hj])
     ·exact h.last j hj hx
    ·rw[(hF.put oa.dst hroom _).get t,hda,A7,C8 htd];refine h.agree t htd fun j hj hnj=>ht j hj fun x=> ?_;rcases(AR hil).1 x with rfl | x
     ·exact(AeL.1 hnd).1 (by rw[h.split];simp[hj])
     ·exact hnj x
    ·rw[(hF.put oa.dst hroom _).get da,hda,A7,Es]
   ·-- what stands behind what asks for the memory, or behind the chain's next operation, is not to be met yet
    have hip:i∈pre:=by
     rcases Ad5.1 (hall i hilt)with e | e
     ·exact absurd e hia
     ·rcases Aed.1 e with e | e
      ·exact e
      ·exfalso;have hona:=hmr a (hpost' i e);rcases hr with ⟨-,hna⟩ | ⟨c,q,rfl,hc⟩
       ·exact hna hona
       ·obtain⟨p1,p2,hp⟩:=Afe e;obtain⟨o2,f,hm⟩:=Et (u:=a :: (pre++p1)) (i:=i) (v:=p2) (by have h2:=hb;rw[hp]at h2;simpa using h2);exact h.rest c (by simp) (hmr c (hm.chain c (by rw[h.split];simp) hc))
    have hwhere:∃u1 b,pre=u1++i :: b/\(i∈r->u1=u/\r=i :: b/\i∈cs):=by
     by_cases hir:i∈r
     ·rcases hr with ⟨rfl,-⟩ | ⟨c,q,rfl,hc⟩
      ·cases hir
      ·have:i=c:=by
        rcases Ad5.1 hir with x | x
        ·exact x
        ·exfalso;obtain⟨q1,q2,hq⟩:=Afe x;obtain⟨o2,f,hm⟩:=Et (u:=a :: (u++c :: q1)) (i:=i) (v:=q2++post) (by have h2:=hb;rw[h.split,hq]at h2;simpa using h2);exact h.rest c (by simp) (hmr c (hm.chain c (by simp) hc))
       subst this;exact⟨u,q,h.split,fun _=>⟨rfl,rfl,hc⟩⟩
     ·obtain⟨u1,s,hu⟩:=Afe hip;exact⟨u1,s,hu,fun x=>absurd x hir⟩
    obtain⟨u1,b,hord,hin⟩:=hwhere;obtain⟨o2,f,hm⟩:=Et (u:=a :: u1) (i:=i) (v:=b++post) (by have h2:=hb;rw[hord]at h2;simpa using h2);obtain rfl:o=o2:=by rw[ho']at f;exact AdY f
    have hndp:pre.Nodup:=(AfD.1 (AeL.1 hnd).2).1;have hlda:∀t∈o.looksAt l.toArray,t≠da:=fun t ht e=>(hpre' i hip).1 (by unfold looksL;rw[ho',<-e];exact ht);have hlook:∀t∈o.looksAt l.toArray,x.tmps.getD t undef=ρ t:=fun t ht=>h.agree t (hlda t ht) fun q hq hnq e=>by
     obtain⟨oq,hoq,hcq,hownq,-⟩:=h.pend q hq hnq;have hdq:oq.dst=some t:=by unfold Da at e;rw[hoq]at e;exact e
     rcases Nat.lt_trichotomy q i with hqi | hqi | hqi
     ·exact hnq (hmr q (g.tied i o q oq t ho' hoq hqi (.inl ⟨hdq,AeY _ ht⟩)))
     ·subst hqi;rw[ho']at hoq;cases hoq;exact hownq t hdq ht
     ·have hmq:=g.tied q oq i o t hoq ho' hqi (.inr ⟨hdq,AeY _ ht⟩);obtain⟨s1,s2,hs⟩:=Afe hq;obtain⟨oq2,hoq2,hmq2⟩:=Et (u:=a :: s1) (i:=q) (v:=s2++(r++post)) (by have h2:=hb;rw[h.split,hs]at h2;simpa using h2);rw[hoq]at hoq2;cases hoq2;have hip2:=hmq2.lin i hilt hmq;rcases Ad5.1 hip2 with e3 | hip2
      ·exact hia e3
      by_cases hic:i∈cs
      ·have hiu:i∈u:=by rw[hs];simp[hip2]
       exact(h.pend i hiu hno).choose_spec.2.1 hic
      ·exact(hmq2.sep i (by simp[hip2]) (.inl hic) (.inl hcq) t hdq).1 (by unfold looksL;rw[ho'];exact ht)
    rw[Dv (ρ:=ρ) hm.sel hlook];have hne:∀(v:Adr) (t:Tmp),o.dst≠some t->updO ρ o.dst v t=ρ t:=fun v t ht=>by
     cases hd:o.dst with
     | none=>rfl
     | some d=>rw[A7,C8 (fun e=>ht (by rw[hd,e]))]
    have hdda:o.dst≠some da:=fun e=>(hpre' i hip).2 (by unfold Da;rw[ho'];exact e);have hput:∀v:Adr,(x.put o.dst v).tmps.getD da undef=x.tmps.getD da undef:=fun v=>by
     rw[(hF.put o.dst hroom v).get da];cases hd:o.dst with
     | none=>rfl
     | some d=>rw[A7,C8 (fun e=>hdda (by rw[hd,e]))]
    by_cases hir:i∈r
    ·-- the chain's next operation
     obtain⟨rfl,rfl,hc⟩:=hin hir;have hrun:=h.run;unfold Iq at hrun;rw[ho']at hrun;simp only at hrun;rw[if_pos hc]at hrun;refine Ac9 (hrun w h.ext) ?_;rintro v w' ⟨hE,hrun'⟩;have hsz:w.heap.size<=w'.heap.size:=hE.elim (fun e=>e.size) (·.1.1);refine again _ _ _ (u1++ [i]) b w' _ _ hcnt ⟨by simpa using h.size,hcl,(hF.put o.dst hroom _).size,(hF.put o.dst hroom _).defers,by rw[hord];simp,fun j hj hx=> ?_,fun j hj hx=> ?_,fun j hj hnj=> ?_,fun t htd ht=> ?_,Acz _,fun hx=> ?_,fun hx m hm' =>⟨h.todo (fun y=>hx ((AR hil).2 (.inr y))) m (by omega), .inr hm'⟩,hrun'⟩
     ·rcases(AR hil).1 hx with rfl | hx
      ·have:=hord▸hndp;exact(AeL.1 (AfD.1 this).2.1).1 hj
      ·exact h.rest j (by simp[hj]) hx
     ·rcases(AR hil).1 hx with rfl | hx
      ·exact(AfD.1 (AeL.1 hnd).2).2.2 j hip j hj rfl
      ·exact h.last j hj hx
     ·obtain⟨hnj,hjc⟩:=hun j hnj;have hju:j∈u1:=(Aed.1 hj).elim id fun x=>absurd (Aeb.1 x) hjc;have hpj:=h.pend j hju hnj;have hcj:=hpj.choose_spec.2.1;have hmj:((AT l []).getD i 0).testBit j=false:=by
       cases hx:((AT l []).getD i 0).testBit j with
       | false=>rfl
       | true=>exact absurd (hmr j hx) hnj
      refine hpj.upd ?_ (fun t ht=>hne v t fun e=>(hm.sep j (by simp[hju]) (.inl hcj) (.inr (.inr hmj)) t e).1 ht) fun t ht=>hne v t fun e=>(hm.sep j (by simp[hju]) (.inl hcj) (.inr (.inr hmj)) t e).2 ht;rcases hE with hE | ⟨-,hclr⟩
      ·exact .inr (h.ext.trans hE)
      ·rcases hm.loc hc j (by simp[hju]) hcj with hz | hz | hz
       ·exact .inl hz
       ·exfalso;rcases Ad5.1 hz with rfl | hz
        ·exact(AeL.1 hnd).1 (by rw[hord];simp[hju])
        ·have:=Ael.1 hclr j hz;rw[AeH]at this;rcases this with y | y
         ·have hy:j∈b:=by simpa using y
          exact NY (hord▸hndp) hju (by simp[hy])
         ·exact hnj (hmr j y)
       ·exact absurd (hmr j hz) hnj
     ·rw[(hF.put o.dst hroom _).get t];have hag' :=fun(hd:o.dst≠some t)=>h.agree t htd fun j hj hnj=>ht j (by simp[hj]) fun x=>by
       rcases(AR hil).1 x with rfl | x
       ·exact NY (hord▸hndp) hj (by simp)
       ·exact hnj x
      by_cases e:o.dst=some t
      ·rw[e,A7,A7,Es,Es]
      ·rw[hne v t e,<-hag' e];cases hd:o.dst with
       | none=>rfl
       | some d=>rw[A7,C8 (fun y=>e (by rw[hd,y]))]
     ·have hona:On listed a:=by
       rcases(AR hil).1 hx with e | e
       ·exact absurd e.symm hia
       ·exact e
      obtain⟨m,q1,q2,q3,q4⟩:=h.done hona;exact⟨m,(hput v).trans q1,⟨q2, .inl q3⟩,by omega,hE.elim (fun e=>Aay e q4) fun e=>e.1.2 m q2 q4⟩
    ·-- one that was walked
     have hiu:i∈u:=by
      rw[h.split]at hip;exact(Aed.1 hip).elim id fun x=>absurd x hir
     obtain⟨o3,p,hci,hown,hsel,d,hd,hp⟩:=h.pend i hiu hno;rw[ho']at p;cases p;refine Ac9 (hp w (.inr h.ext)) ?_;rintro v w' ⟨rfl,rfl⟩;refine again _ _ _ u r wk N ρ hcnt ⟨by simpa using h.size,hcl,(hF.put o.dst hroom _).size,(hF.put o.dst hroom _).defers,h.split,fun j hj hx=> ?_,fun j hj hx=> ?_,fun j hj hnj=>h.pend j hj (hun j hnj).1,fun t htd ht=> ?_,h.ext,fun hx=> ?_,fun hx=>h.todo fun y=>hx ((AR hil).2 (.inr y)),h.run⟩
     ·rcases(AR hil).1 hx with rfl | hx
      ·exact hir hj
      ·exact h.rest j hj hx
     ·rcases(AR hil).1 hx with rfl | hx
      ·exact(AfD.1 (AeL.1 hnd).2).2.2 j hip j hj rfl
      ·exact h.last j hj hx
     ·rw[(hF.put o.dst hroom _).get t];by_cases e:o.dst=some t
      ·rw[e,A7,Es];rw[hd]at e;cases e;rfl
      ·have hx:updO (fun t=>x.tmps.getD t undef) o.dst (ρ d) t=x.tmps.getD t undef:=by rw[hd,A7,C8 (fun y=>e (by rw[hd,y]))]
       rw[hx];refine h.agree t htd fun j hj hnj=> ?_;by_cases hji:j=i
       ·subst hji;unfold Da;rw[ho'];exact e
       ·exact ht j hj fun x=>by
         rcases(AR hil).1 x with x | x
         ·exact hji x
         ·exact hnj x
     ·have hona:On listed a:=by
       rcases(AR hil).1 hx with e | e
       ·exact absurd e.symm hia
       ·exact e
      obtain⟨m,q1,q2,q3,q4⟩:=h.done hona;exact⟨m,(hput _).trans q1,q2,q3,q4⟩
end
section
variable {P : AdM} {n : Nat} {u : Bool} {Q : Bi} {ρ : Aj} {w wk : Ads} {k : List Fr} {l : List AdL} {cs pf fl pre post r : List Nat} {a i : Nat} {da : Tmp} {o0 : Obj} {N : Nat -> Prop} {o : AdL} {v : Adr}
def G8(P:AdM)(n:Nat)(_:Bool)(Q:Bi)(k:List Fr)(l:List AdL)(cs pf fl:List Nat)(a:Nat)(da:Tmp)(o0:Obj)(post r:List Nat)(wk:Ads)(N:Nat->Prop)(ρ:Aj):Prop:=
 Iq P l cs pf fl (JK P n Q k) (fun ρ w=>Ck P n Q k .normal ρ w) a da o0 post r wk N ρ
theorem WG{id:Nat}{e:Ady}{cells:Array Adr}{ty:Ady}{pos:String}{af:Array Edge}{gd:Option (Nat × Bool)}(a:Nat)(pre post cs pf fl:List Nat)(hz:∀(σ:AdC->Adr) (w:Ads),(execOp σ ⟨some da, .alloc e,ty,pos,af,gd⟩).run P w = .ok (.value (.pointer (some ⟨w.heap.size,0,none⟩))) (w.alloc (.cells cells e))) 
  (h:∀w1,Ext w w1->G8 P n u Q k l cs pf fl a da (.cells cells e (0,0)) post pre w1 (fun m=>w1.heap.size<=m) ρ) (hoa:l[a]? =some ⟨some da, .alloc e,ty,pos,af,gd⟩:=by rfl)
  (hm:P.follows .mixedOrders=true:=by kernel_rfl) (hg:DD l n=true:=by kernel_rfl) (hb:Fk l cs pf (a :: fl) (a :: (pre++post))=true:=by kernel_rfl) (hab:Yt l cs a da pre post=true:=by kernel_rfl):AZ P n u Q w (.code (.region id l.toArray true) k ρ):=fun x hx=>by
 have h0:AInv P l cs pf fl n (JK P n Q k) (fun ρ w=>Ck P n Q k .normal ρ w) a da (.cells cells e (0,0)) pre post [] pre w.drew (fun m=>w.drew.heap.size<=m) ρ (Afc l.length false) x w.drew:=
  ⟨by simp,fun i o _ h=>absurd h Aam,hx.size,hx.defers,rfl,fun i _=>Aam,fun i _=>Aam,(fun i hi=>by cases hi),fun t _ _=>hx.get t,Acz _,fun h=>absurd h Aam,fun _ m hm=>hm,h _ (Below.refl _ _).drew⟩
 have hal:∀(ρ:Aj) (w:Ads) (K:Adr->Ads->Prop),(∀w',w'.heap[w.heap.size]? =some (.cells cells e (0,0))->Ext w w' ->w.heap.size<w'.heap.size->K (PQ w.heap.size 0) w')->Yk P K ((execOp (Ab ρ) ⟨some da, .alloc e,ty,pos,af,gd⟩).run P w):=fun ρ w K hk=>
  AcH hz fun m w' hn hb hx hs=>by subst hn;exact hk w' hb hx (by omega)
 obtain⟨u',r',ρ',hp,hr⟩:=h0.place hb;refine wp_region_any hm (Vb hg hb hab hoa rfl hal _ _ _ _ u' r' _ _ ρ' (by simp) hp ?_);rcases hr with rfl | hr
 ·exact .inl ⟨rfl,Aam⟩
 ·exact .inr hr
theorem aX(ho:l[i]? =some o)(hc:cs.contains i=false)(v:Adr)(hv:∀w',DF l pf i=true\/Ext wk w' ->Yk P (fun x w'' =>x=v/\w'' =w') ((execOp (Ab ρ) o).run P w'))(h:G8 P n u Q k l cs pf fl a da o0 post r wk N (updO ρ o.dst v)):G8 P n u Q k l cs pf fl a da o0 post (i :: r) wk N ρ:=by
 unfold G8 Iq;rw[ho];simp only;rw[if_neg (fun x=>by rw[AeM.2 x]at hc;cases hc)];exact⟨v,hv,h⟩
theorem aP(ho:l[i]? =some o)(hc:cs.contains i=false)(hv:∀(w' :Ads) (_:True),Yk P (fun x w'' =>x=v/\w'' =w') ((execOp (Ab ρ) o).run P w'))(h:G8 P n u Q k l cs pf fl a da o0 post r wk N (updO ρ o.dst v)):G8 P n u Q k l cs pf fl a da o0 post (i :: r) wk N ρ:=aX ho hc v (fun w' _=>hv w' trivial) h
theorem aM{d:Option Tmp}{x:AdC}{ty:Ady}{pos:String}{af:Array Edge}{gd:Option (Nat × Bool)}(ho:l[i]? =some ⟨d, .move x,ty,pos,af,gd⟩)(hc:cs.contains i=false)(h:G8 P n u Q k l cs pf fl a da o0 post r wk N (updO ρ d (Ab ρ x))):G8 P n u Q k l cs pf fl a da o0 post (i :: r) wk N ρ:=aX ho hc _ (fun w' _=>AcF rfl ⟨rfl,rfl⟩) h
theorem aF(ho:l[i]? =some o)(hc:(cs.contains i||DF l pf i)=false)(hv:∀w',Ext wk w' ->Yk P (fun x w'' =>x=v/\w'' =w') ((execOp (Ab ρ) o).run P w'))(h:G8 P n u Q k l cs pf fl a da o0 post r wk N (updO ρ o.dst v)):G8 P n u Q k l cs pf fl a da o0 post (i :: r) wk N ρ:=by
 rw[Aeg]at hc;exact aX ho hc.1 v (fun w' hw' =>hv w' (hw'.resolve_left (by rw[hc.2];exact Bool.false_ne_true))) h
theorem aC(ho:l[i]? =some o)(hc:cs.contains i=true)(h:∀w,Ext wk w->Yk P (fun v w' =>Ext w w' /\G8 P n u Q k l cs pf fl a da o0 post r w' (fun m=>N m/\(m<w.heap.size\/w'.heap.size<=m)) (updO ρ o.dst v)) ((execOp (Ab ρ) o).run P w)):G8 P n u Q k l cs pf fl a da o0 post (i :: r) wk N ρ:=by
 unfold G8 Iq;rw[ho];simp only;rw[if_pos (AeM.1 hc)];exact fun w hw=>Ac9 (h w hw) fun v w' hx=>⟨.inl hx.1,hx.2⟩
theorem aE(h:∀m w2,Ext wk w2->N m->m<w2.heap.size->w2.heap[m]? =some o0->AZ P n u Q w2 (Be n u 1000 (.mix l cs pf (a :: fl) (fun x=>Ext w2 x/\True) post) k (updO ρ (some da) (PQ m 0)))):G8 P n u Q k l cs pf fl a da o0 post [] wk N ρ:=fun m w2 h1 h2 h3 h4=>adv_ok _ _ _ _ (h m w2 h1 h2 h3 h4)
end
def Do:PanicEntry:= { v:= .iface 212 (.agg #[]),recovered:=false }
def Dd(b:Bs)(i most:Nat):Option (Nat × Nat):=(CQ b i).bind fun x=>if x.1<=most then some x else none
theorem Rp:∃fs,Tryz.prog.underlying 212=some (.struct fs):=DP (by kernel_rfl)
theorem AV:Ax Adt 216 1 1:=fun b o w=>by simp[go_sem]
theorem BN:Ax Adt 216 0 0:=fun b o w=>by simp[go_sem]
theorem Cu:Plain Adt 182:=fun _ _=>by kernel_rfl
theorem DR:(Tryz.prog.info? 3).map (·.size)=some 1:=by kernel_rfl
theorem Ir:Plain Adt 121:=fun _ _=>by kernel_rfl
theorem G9:Plain Adt 76:=fun _ _=>by kernel_rfl
theorem LA:Plain Adt 183:=fun _ _=>by kernel_rfl
theorem Ci(w:Ads)(b:Bool):
  Calls Adt 182 #[.bool b] w fun r w' =>(∃v,r = .returned v/\v = .tuple #[]/\b=true/\Ext w w')\/∃ch,r = .panicked ch/\ch= [Do]/\b=false/\Ext w w' :=by
 refine gG (args:= [.bool (b)]) Tryz.func182 rfl 6 rfl rfl ?_;have hE:=Acz w;refine gS (Z2 rfl ?_);refine cB (!(b)) rfl (fun a=> ?_) fun a=> ?_
 ·refine gS (Ac1 (v:= .agg #[]) (by kernel_rfl) (gS (Aa9 (Rp).choose_spec (vr (.agg #[]) rfl) (gP (Yp.panic rfl (Aq ?_))))));exact .inr ⟨_,rfl,rfl,by simpa using a,hE⟩
 refine Gm rfl ?_;exact .inl ⟨_,rfl,rfl,by simpa using a,hE⟩
theorem Tu(w:Ads)(r:Nat)(v:Adr)(b:Bs)(i:Nat)(hb:w.heap[r]? =some (.cells (B0 (AY v b (i))).toArray 216 (0,0)))(hr:RB w v b)(hap:b= []\/OB v r)(hi:i<=b.length)(hl:b.length<=4611686018427387904):
  Calls Adt 181 #[PQ r 0] w fun e w' =>(∃x,e = .returned x/\∃c n,DY b i=some (c,n)/\x=B8 c/\w'.heap[r]? =some (.cells (B0 (AY v b (n))).toArray 216 (0,0))/\w.grownBy w' (some r))\/∃ch,e = .panicked ch/\DY b i=none/\ch= [Do]/\w.grownBy w' (some r):=by
 have hlr:=(bl hb);have hgr:=AdZ w (some r);refine gG (args:= [PQ r 0]) Tryz.func181 rfl 32 rfl rfl ?_;have hE:=Acz w;by_cases hlt:i<b.length
 ·have hP:DY b i=some (b.getD i 0,i+1):=if_pos hlt;refine gM0 [0,1,2,3,4,5,6,7,8,9,10] [10] [] fun q f=> ?_;have hgr:w.grownBy q (some r):=Aa hgr f.grown (fun _ e=>by cases e);have hb:=eb f hb;have hE:=hE.trans f;refine ys (AcA rfl zz) (ys (Acy AV rfl zz) (ys (ZN Oa rfl rfl (Ac hb (B9 (AY v b (i)))) zz) (ys (AcA rfl zz) (ys (Acy BN rfl zz) (ys (ZN Hv rfl rfl (Ac hb (Cr (AY v b (i)))) zz) (ys (Aae Hv (Aaf (hr.keep hE) rfl) zz) (ys (ZO (a:=(i:Nat)) (b:=(b.length:Nat)) rfl rfl (Bg _ _ _ _) zz) (kT ((by omega)) (Qb (ZX Cu rfl ?_))))))))));refine Ao (Ci _ (true)) ?_ ?_;rotate_left
  ·rintro ch z ⟨rfl,hb,hx⟩;refine Aq ?_;cases hb
  rintro v_ s ⟨rfl,aa,g⟩;have hgr:w.grownBy s (some r):=Aa hgr g.grown (fun _ e=>by cases e);have hE:=hE.trans g;have hb:=eb g hb;refine gS (AcA rfl (gS (Acy AV rfl (gS (ZN Oa rfl rfl (Ac hb (B9 (AY v b (i)))) (gS (ZV (xv:=NI i) (yv:=NI 1) rfl rfl rfl (AF _ _ _ (by omega)) (gS (AcA rfl (gS (Acy AV rfl (gS (ZS (i:=1) (v:=NI ((i)+(1))) rfl rfl hb (by rw[C7];decide) DR rfl rfl fun k m o ab=> ?_)))))))))))));have hr:=hr.keep hE;have hr:=Aaz hr o hap;have hgr:w.grownBy k (some r):=Aa hgr o (fun _ e=> .inl e);clear hE;clear hb;have hb:k.heap[r]? =some (.cells (B0 ((⟨b,(((i)+(1):Nat):Int)⟩,⟨v⟩):DL)).toArray 216 (0,0)):=AG m (DE (AY v b (i)) (((i)+(1):Nat):Int));clear m;have ac:=bl hb;refine gM0 [0,1,2,3,4,5,6,7,8,9,10,11] [] [] fun t h=> ?_;have hgr:w.grownBy t (some r):=Aa hgr h.grown (fun _ e=>by cases e);have hr:=hr.keep h;have hb:=eb h hb;refine ys (AcA rfl zz) (ys (Acy BN rfl zz) (ys (ZN Hv rfl rfl (Ac hb (Cr ((⟨b,(((i)+(1):Nat):Int)⟩,⟨v⟩):DL))) zz) (ys (AcA rfl zz) (ys (Acy AV rfl zz) (ys (ZN Oa rfl rfl (Ac hb (B9 ((⟨b,(((i)+(1):Nat):Int)⟩,⟨v⟩):DL))) zz) (ys (ZV (xv:=NI ((i)+(1))) (yv:=NI 1) rfl rfl rfl (FE _ _ _ (by omega) (by omega)) zz) (yA (Aa1 (l:=b) (i:=((i)+(1))-(1)) Hv QN (Aaf hr rfl) rfl (by omega) fun ad p=>(ys (Aab u5 rfl (Aai p rfl) zz) ?_)))))))));clear p;refine Az rfl (vr (B8 (b.getD (((i)+(1))-(1)) 0)) rfl) ?_;exact .inl ⟨_,rfl,_,_,hP,rfl,hb,hgr⟩
 have hP:DY b i=none:=if_neg hlt;refine gM0 [0,1,2,3,4,5,6,7,8,9,10] [10] [] fun u j=> ?_;have hgr:w.grownBy u (some r):=Aa hgr j.grown (fun _ e=>by cases e);have hb:=eb j hb;have hE:=hE.trans j;refine ys (AcA rfl zz) (ys (Acy AV rfl zz) (ys (ZN Oa rfl rfl (Ac hb (B9 (AY v b (i)))) zz) (ys (AcA rfl zz) (ys (Acy BN rfl zz) (ys (ZN Hv rfl rfl (Ac hb (Cr (AY v b (i)))) zz) (ys (Aae Hv (Aaf (hr.keep hE) rfl) zz) (ys (ZO (a:=(i:Nat)) (b:=(b.length:Nat)) rfl rfl (Bg _ _ _ _) zz) (kF ((by omega)) (Qb (ZX Cu rfl ?_))))))))));refine Ao (Ci _ (false)) ?_ ?_;rotate_left
 ·rintro ch ae ⟨rfl,hb,hx⟩;refine Aq ?_;exact .inr ⟨_,rfl,hP,rfl,(Aa hgr hx.grown (fun _ e=>by cases e))⟩
 rintro v_ af ⟨rfl,y,ag⟩;cases y
theorem Kl(w:Ads)(r:Nat)(v:Adr)(b:Bs)(i:Nat)(hb:w.heap[r]? =some (.cells (B0 (AY v b (i))).toArray 216 (0,0)))(hr:RB w v b)(hap:b= []\/OB v r)(hi:i<=b.length)(hl:b.length<=4611686018427387904)(most:Nat):
  Calls Adt 180 #[PQ r 0,NI most] w fun e w' =>(∃x,e = .returned x/\∃c n,Dd b i most=some (c,n)/\x=NI c/\w'.heap[r]? =some (.cells (B0 (AY v b (n))).toArray 216 (0,0))/\w.grownBy w' (some r))\/∃ch,e = .panicked ch/\Dd b i most=none/\ch= [Do]/\w.grownBy w' (some r):=by
 have hlr:=(bl hb);have hgr:=AdZ w (some r);refine gG (args:= [PQ r 0,NI most]) Tryz.func180 rfl 34 rfl rfl ?_;have hE:=Acz w;rcases hd:AU 0 (b.drop i)with _ | ⟨xn,xk⟩
 ·have hP:Dd b i most=none:=by unfold Dd CQ;rw[hd];rfl
  refine gM0 [0,1,2,3,4,5,6,7,8,9,10,11,12,13,14,15] [8] [] fun q f=> ?_;have hgr:w.grownBy q (some r):=Aa hgr f.grown (fun _ e=>by cases e);have hb:=eb f hb;have hE:=hE.trans f;refine ys (AcA rfl zz) (ys (Acy BN rfl zz) (ys (ZN Hv rfl rfl (Ac hb (Cr (AY v b (i)))) zz) (ys (AcA rfl zz) (ys (Acy AV rfl zz) (ys (ZN Oa rfl rfl (Ac hb (B9 (AY v b (i)))) zz) (yC (ZR Ir rfl rfl ?_)))))));refine((show Calls _ _ _ _ (fun e w2=>e = .returned (.tuple #[NI 0,NI 0,NI 6])/\Ext _ w2)from(HI _ v b (hr.keep hE) i hi).mono fun e w2 ⟨h1,h2⟩=>by subst h2;subst h1;refine⟨?_,Acz _⟩;rw[hd];rfl)).mono ?_;rintro e s ⟨rfl,k⟩;refine⟨_,rfl,?_⟩;have hgr:w.grownBy s (some r):=Aa hgr k.grown (fun _ e=>by cases e);refine ys (AcB (vs:= [NI 0,NI 0,NI 6]) rfl rfl zz) (ys (AcB (vs:= [NI 0,NI 0,NI 6]) rfl rfl zz) (ys (AcB (vs:= [NI 0,NI 0,NI 6]) rfl rfl zz) (gS (ZO (a:=(6:Nat)) (b:=(0:Nat)) rfl rfl (AI _ _ _ _) (kF (by decide) (gS (Z4 rfl rfl (gP (ZX Cu rfl ?_)))))))));refine Ao (Ci _ (false)) ?_ ?_;rotate_left
  ·have hb:=eb k hb;rintro ch ae ⟨rfl,hb,hx⟩;refine Aq ?_;exact .inr ⟨_,rfl,hP,rfl,(Aa hgr hx.grown (fun _ e=>by cases e))⟩
  rintro v_ af ⟨rfl,t,ag⟩;cases t
 by_cases hm:xn<=most
 ·have hP:Dd b i most=some (xn,i+xk):=by unfold Dd CQ;rw[hd];exact if_pos hm
  refine gM0 [0,1,2,3,4,5,6,7,8,9,10,11,12,13,14,15] [8] [] fun u g=> ?_;have hgr:w.grownBy u (some r):=Aa hgr g.grown (fun _ e=>by cases e);have hb:=eb g hb;have hE:=hE.trans g;refine ys (AcA rfl zz) (ys (Acy BN rfl zz) (ys (ZN Hv rfl rfl (Ac hb (Cr (AY v b (i)))) zz) (ys (AcA rfl zz) (ys (Acy AV rfl zz) (ys (ZN Oa rfl rfl (Ac hb (B9 (AY v b (i)))) zz) (yC (ZR Ir rfl rfl ?_)))))));refine((show Calls _ _ _ _ (fun e w2=>e = .returned (.tuple #[NI xn,NI (i+xk),NI 0])/\Ext _ w2)from(HI _ v b (hr.keep hE) i hi).mono fun e w2 ⟨h1,h2⟩=>by subst h2;subst h1;refine⟨?_,Acz _⟩;rw[hd];rfl)).mono ?_;rintro e y ⟨rfl,h⟩;refine⟨_,rfl,?_⟩;have hgr:w.grownBy y (some r):=Aa hgr h.grown (fun _ e=>by cases e);refine ys (AcB (vs:= [NI xn,NI (i+xk),NI 0]) rfl rfl zz) (ys (AcB (vs:= [NI xn,NI (i+xk),NI 0]) rfl rfl zz) (ys (AcB (vs:= [NI xn,NI (i+xk),NI 0]) rfl rfl zz) (gS (ZO (a:=(0:Nat)) (b:=(0:Nat)) rfl rfl (AI _ _ _ _) (kT (rfl) (gS (ZO (a:=(xn:Nat)) (b:=(most:Nat)) rfl rfl (Fj _ _ _ _) (kT (hm) (gS (Z1 rfl rfl (gP (ZX Cu rfl ?_))))))))))));refine Ao (Ci _ (true)) ?_ ?_;rotate_left
  ·have hb:=eb h hb;rintro ch ah ⟨rfl,hb,hx⟩;refine Aq ?_;cases hb
  rintro v_ z ⟨rfl,ai,l⟩;have hgr:w.grownBy z (some r):=Aa hgr l.grown (fun _ e=>by cases e);have hZ1:=h.trans l;have hb:=eb hZ1 hb;refine gS (AcA rfl (gS (Acy AV rfl (gS (ZS (i:=1) (v:=NI (i+xk)) rfl rfl hb (by rw[C7];decide) DR rfl rfl fun m o aa aj=> ?_)))));have hgr:w.grownBy m (some r):=Aa hgr aa (fun _ e=> .inl e);clear hE;clear hb;have hb:m.heap[r]? =some (.cells (B0 ((⟨b,((i+xk:Nat):Int)⟩,⟨v⟩):DL)).toArray 216 (0,0)):=AG o (DE (AY v b (i)) ((i+xk:Nat):Int));clear o;have ak:=bl hb;refine Az rfl (vr (NI xn) rfl) ?_;exact .inl ⟨_,rfl,_,_,hP,rfl,hb,hgr⟩
 have hP:Dd b i most=none:=by unfold Dd CQ;rw[hd];exact if_neg hm
 refine gM0 [0,1,2,3,4,5,6,7,8,9,10,11,12,13,14,15] [8] [] fun ab j=> ?_;have hgr:w.grownBy ab (some r):=Aa hgr j.grown (fun _ e=>by cases e);have hb:=eb j hb;have hE:=hE.trans j;refine ys (AcA rfl zz) (ys (Acy BN rfl zz) (ys (ZN Hv rfl rfl (Ac hb (Cr (AY v b (i)))) zz) (ys (AcA rfl zz) (ys (Acy AV rfl zz) (ys (ZN Oa rfl rfl (Ac hb (B9 (AY v b (i)))) zz) (yC (ZR Ir rfl rfl ?_)))))));refine((show Calls _ _ _ _ (fun e w2=>e = .returned (.tuple #[NI xn,NI (i+xk),NI 0])/\Ext _ w2)from(HI _ v b (hr.keep hE) i hi).mono fun e w2 ⟨h1,h2⟩=>by subst h2;subst h1;refine⟨?_,Acz _⟩;rw[hd];rfl)).mono ?_;rintro e ac ⟨rfl,p⟩;refine⟨_,rfl,?_⟩;have hgr:w.grownBy ac (some r):=Aa hgr p.grown (fun _ e=>by cases e);refine ys (AcB (vs:= [NI xn,NI (i+xk),NI 0]) rfl rfl zz) (ys (AcB (vs:= [NI xn,NI (i+xk),NI 0]) rfl rfl zz) (ys (AcB (vs:= [NI xn,NI (i+xk),NI 0]) rfl rfl zz) (gS (ZO (a:=(0:Nat)) (b:=(0:Nat)) rfl rfl (AI _ _ _ _) (kT (rfl) (gS (ZO (a:=(xn:Nat)) (b:=(most:Nat)) rfl rfl (Fj _ _ _ _) (kF (hm) (gS (Z1 rfl rfl (gP (ZX Cu rfl ?_))))))))))));refine Ao (Ci _ (false)) ?_ ?_;rotate_left
 ·have hb:=eb p hb;rintro ch al ⟨rfl,hb,hx⟩;refine Aq ?_;exact .inr ⟨_,rfl,hP,rfl,(Aa hgr hx.grown (fun _ e=>by cases e))⟩
 rintro v_ am ⟨rfl,ad,an⟩;cases ad
theorem Ha(w:Ads)(r:Nat)(v:Adr)(b:Bs)(i:Nat)(hb:w.heap[r]? =some (.cells (B0 (AY v b (i))).toArray 216 (0,0)))(hr:RB w v b)(hap:b= []\/OB v r)(hi:i<=b.length)(hl:b.length<=4611686018427387904):
  Calls Adt 178 #[PQ r 0] w fun e w' =>(∃x,e = .returned x/\∃c n,A5 b i 256=some (c,n)/\x=St c/\w'.heap[r]? =some (.cells (B0 (AY v b (n))).toArray 216 (0,0))/\w.grownBy w' (some r))\/∃ch,e = .panicked ch/\A5 b i 256=none/\ch= [Do]/\w.grownBy w' (some r):=by
 have hlr:=(bl hb);have hgr:=AdZ w (some r);refine gG (args:= [PQ r 0]) Tryz.func178 rfl 27 rfl rfl ?_;have hE:=Acz w;rcases hd:AU 0 (b.drop i)with _ | ⟨xn,xk⟩
 ·have hP:A5 b i 256=none:=by unfold A5;rw[hd]
  refine gM0 [0,1,2,3,4,5,6,7,8,9,10,11,12,13,14,15] [8] [] fun w3 g=> ?_;have hgr:w.grownBy w3 (some r):=Aa hgr g.grown (fun _ e=>by cases e);have hb:=eb g hb;have hE:=hE.trans g;refine ys (AcA rfl zz) (ys (Acy BN rfl zz) (ys (ZN Hv rfl rfl (Ac hb (Cr (AY v b (i)))) zz) (ys (AcA rfl zz) (ys (Acy AV rfl zz) (ys (ZN Oa rfl rfl (Ac hb (B9 (AY v b (i)))) zz) (yC (Z5 G9 rfl rfl rfl ?_)))))));refine((show Calls _ _ _ _ (fun e w2=>e = .returned (.tuple #[St (([]:Ai1)),NI 0,NI 6])/\Ext _ w2)from(Db _ v b (hr.keep hE) i hi 256).mono fun e w2 ⟨h1,h2⟩=>by subst h2;subst h1;refine⟨?_,Acz _⟩;unfold Bp;rw[hd];simp only;rfl)).mono ?_;rintro e w6 ⟨rfl,h⟩;refine⟨_,rfl,?_⟩;have hgr:w.grownBy w6 (some r):=Aa hgr h.grown (fun _ e=>by cases e);refine ys (AcB (vs:= [St (([]:Ai1)),NI 0,NI 6]) rfl rfl zz) (ys (AcB (vs:= [St (([]:Ai1)),NI 0,NI 6]) rfl rfl zz) (ys (AcB (vs:= [St (([]:Ai1)),NI 0,NI 6]) rfl rfl zz) (gS (ZO (a:=(6:Nat)) (b:=(0:Nat)) rfl rfl (AI _ _ _ _) (gP (ZX Cu rfl ?_))))));refine Ao (Ci _ (decide ((6:Nat)=(0)))) ?_ ?_;rotate_left
  ·have hb:=eb h hb;rintro ch a2 ⟨rfl,hb,hx⟩;refine Aq ?_;have hno:=of_decide_eq_false hb;exact .inr ⟨_,rfl,hP,rfl,(Aa hgr hx.grown (fun _ e=>by cases e))⟩
  rintro v_ ai ⟨rfl,aj,q⟩;have hgr:w.grownBy ai (some r):=Aa hgr q.grown (fun _ e=>by cases e);have a3:=of_decide_eq_true aj;have hZ1:=h.trans q;have hb:=eb hZ1 hb;refine gS (AcA rfl (gS (Acy AV rfl (gS (ZS (i:=1) (v:=NI 0) rfl rfl hb (by rw[C7];decide) DR rfl rfl fun s t ak a4=> ?_)))));have hgr:w.grownBy s (some r):=Aa hgr ak (fun _ e=> .inl e);clear hE;clear hb;have hb:s.heap[r]? =some (.cells (B0 ((⟨b,((0:Nat):Int)⟩,⟨v⟩):DL)).toArray 216 (0,0)):=AG t (DE (AY v b (i)) ((0:Nat):Int));clear t;have a5:=bl hb;refine Az rfl (vr (St (([]:Ai1))) rfl) ?_;omega
 by_cases hm:256<xn
 ·have hP:A5 b i 256=none:=by unfold A5;rw[hd];exact if_pos hm
  refine gM0 [0,1,2,3,4,5,6,7,8,9,10,11,12,13,14,15] [8] [] fun al j=> ?_;have hgr:w.grownBy al (some r):=Aa hgr j.grown (fun _ e=>by cases e);have hb:=eb j hb;have hE:=hE.trans j;refine ys (AcA rfl zz) (ys (Acy BN rfl zz) (ys (ZN Hv rfl rfl (Ac hb (Cr (AY v b (i)))) zz) (ys (AcA rfl zz) (ys (Acy AV rfl zz) (ys (ZN Oa rfl rfl (Ac hb (B9 (AY v b (i)))) zz) (yC (Z5 G9 rfl rfl rfl ?_)))))));refine((show Calls _ _ _ _ (fun e w2=>e = .returned (.tuple #[St (([]:Ai1)),NI 0,NI 2])/\Ext _ w2)from(Db _ v b (hr.keep hE) i hi 256).mono fun e w2 ⟨h1,h2⟩=>by subst h2;subst h1;refine⟨?_,Acz _⟩;unfold Bp;rw[hd];simp only;rw[if_pos (by omega)];rfl)).mono ?_;rintro e am ⟨rfl,k⟩;refine⟨_,rfl,?_⟩;have hgr:w.grownBy am (some r):=Aa hgr k.grown (fun _ e=>by cases e);refine ys (AcB (vs:= [St (([]:Ai1)),NI 0,NI 2]) rfl rfl zz) (ys (AcB (vs:= [St (([]:Ai1)),NI 0,NI 2]) rfl rfl zz) (ys (AcB (vs:= [St (([]:Ai1)),NI 0,NI 2]) rfl rfl zz) (gS (ZO (a:=(2:Nat)) (b:=(0:Nat)) rfl rfl (AI _ _ _ _) (gP (ZX Cu rfl ?_))))));refine Ao (Ci _ (decide ((2:Nat)=(0)))) ?_ ?_;rotate_left
  ·have hb:=eb k hb;rintro ch a6 ⟨rfl,hb,hx⟩;refine Aq ?_;have hno:=of_decide_eq_false hb;exact .inr ⟨_,rfl,hP,rfl,(Aa hgr hx.grown (fun _ e=>by cases e))⟩
  rintro v_ an ⟨rfl,ao,u⟩;have hgr:w.grownBy an (some r):=Aa hgr u.grown (fun _ e=>by cases e);have a7:=of_decide_eq_true ao;have hZ2:=k.trans u;have hb:=eb hZ2 hb;refine gS (AcA rfl (gS (Acy AV rfl (gS (ZS (i:=1) (v:=NI 0) rfl rfl hb (by rw[C7];decide) DR rfl rfl fun y z ap a8=> ?_)))));have hgr:w.grownBy y (some r):=Aa hgr ap (fun _ e=> .inl e);clear hE;clear hb;have hb:y.heap[r]? =some (.cells (B0 ((⟨b,((0:Nat):Int)⟩,⟨v⟩):DL)).toArray 216 (0,0)):=AG z (DE (AY v b (i)) ((0:Nat):Int));clear z;have a9:=bl hb;refine Az rfl (vr (St (([]:Ai1))) rfl) ?_;omega
 by_cases f:b.length<i+xk+xn
 ·have hP:A5 b i 256=none:=by unfold A5;rw[hd];exact(if_neg hm).trans (if_pos f)
  refine gM0 [0,1,2,3,4,5,6,7,8,9,10,11,12,13,14,15] [8] [] fun aq l=> ?_;have hgr:w.grownBy aq (some r):=Aa hgr l.grown (fun _ e=>by cases e);have hb:=eb l hb;have hE:=hE.trans l;refine ys (AcA rfl zz) (ys (Acy BN rfl zz) (ys (ZN Hv rfl rfl (Ac hb (Cr (AY v b (i)))) zz) (ys (AcA rfl zz) (ys (Acy AV rfl zz) (ys (ZN Oa rfl rfl (Ac hb (B9 (AY v b (i)))) zz) (yC (Z5 G9 rfl rfl rfl ?_)))))));refine((show Calls _ _ _ _ (fun e w2=>e = .returned (.tuple #[St (([]:Ai1)),NI 0,NI 6])/\Ext _ w2)from(Db _ v b (hr.keep hE) i hi 256).mono fun e w2 ⟨h1,h2⟩=>by subst h2;subst h1;refine⟨?_,Acz _⟩;unfold Bp;rw[hd];simp only;rw[if_neg (by omega),if_pos f];rfl)).mono ?_;rintro e ar ⟨rfl,m⟩;refine⟨_,rfl,?_⟩;have hgr:w.grownBy ar (some r):=Aa hgr m.grown (fun _ e=>by cases e);refine ys (AcB (vs:= [St (([]:Ai1)),NI 0,NI 6]) rfl rfl zz) (ys (AcB (vs:= [St (([]:Ai1)),NI 0,NI 6]) rfl rfl zz) (ys (AcB (vs:= [St (([]:Ai1)),NI 0,NI 6]) rfl rfl zz) (gS (ZO (a:=(6:Nat)) (b:=(0:Nat)) rfl rfl (AI _ _ _ _) (gP (ZX Cu rfl ?_))))));refine Ao (Ci _ (decide ((6:Nat)=(0)))) ?_ ?_;rotate_left
  ·have hb:=eb m hb;rintro ch ba ⟨rfl,hb,hx⟩;refine Aq ?_;have hno:=of_decide_eq_false hb;exact .inr ⟨_,rfl,hP,rfl,(Aa hgr hx.grown (fun _ e=>by cases e))⟩
  rintro v_ au ⟨rfl,av,aa⟩;have hgr:w.grownBy au (some r):=Aa hgr aa.grown (fun _ e=>by cases e);have bb:=of_decide_eq_true av;have hZ3:=m.trans aa;have hb:=eb hZ3 hb;refine gS (AcA rfl (gS (Acy AV rfl (gS (ZS (i:=1) (v:=NI 0) rfl rfl hb (by rw[C7];decide) DR rfl rfl fun ab ac aw bc=> ?_)))));have hgr:w.grownBy ab (some r):=Aa hgr aw (fun _ e=> .inl e);clear hE;clear hb;have hb:ab.heap[r]? =some (.cells (B0 ((⟨b,((0:Nat):Int)⟩,⟨v⟩):DL)).toArray 216 (0,0)):=AG ac (DE (AY v b (i)) ((0:Nat):Int));clear ac;have bd:=bl hb;refine Az rfl (vr (St (([]:Ai1))) rfl) ?_;omega
 have hP:A5 b i 256=some ((b.drop (i+xk)).take xn,i+xk+xn):=by unfold A5;rw[hd];exact(if_neg hm).trans (if_neg f)
 refine gM0 [0,1,2,3,4,5,6,7,8,9,10,11,12,13,14,15] [8] [] fun ax o=> ?_;have hgr:w.grownBy ax (some r):=Aa hgr o.grown (fun _ e=>by cases e);have hb:=eb o hb;have hE:=hE.trans o;refine ys (AcA rfl zz) (ys (Acy BN rfl zz) (ys (ZN Hv rfl rfl (Ac hb (Cr (AY v b (i)))) zz) (ys (AcA rfl zz) (ys (Acy AV rfl zz) (ys (ZN Oa rfl rfl (Ac hb (B9 (AY v b (i)))) zz) (yC (Z5 G9 rfl rfl rfl ?_)))))));refine((show Calls _ _ _ _ (fun e w2=>e = .returned (.tuple #[St (((b.drop (i+xk)).take xn)),NI (i+xk+xn),NI 0])/\Ext _ w2)from(Db _ v b (hr.keep hE) i hi 256).mono fun e w2 ⟨h1,h2⟩=>by subst h2;subst h1;refine⟨?_,Acz _⟩;unfold Bp;rw[hd];simp only;rw[if_neg (by omega),if_neg f];rfl)).mono ?_;rintro e ay ⟨rfl,p⟩;refine⟨_,rfl,?_⟩;have hgr:w.grownBy ay (some r):=Aa hgr p.grown (fun _ e=>by cases e);refine ys (AcB (vs:= [St (((b.drop (i+xk)).take xn)),NI (i+xk+xn),NI 0]) rfl rfl zz) (ys (AcB (vs:= [St (((b.drop (i+xk)).take xn)),NI (i+xk+xn),NI 0]) rfl rfl zz) (ys (AcB (vs:= [St (((b.drop (i+xk)).take xn)),NI (i+xk+xn),NI 0]) rfl rfl zz) (gS (ZO (a:=(0:Nat)) (b:=(0:Nat)) rfl rfl (AI _ _ _ _) (gP (ZX Cu rfl ?_))))));refine Ao (Ci _ (decide ((0:Nat)=(0)))) ?_ ?_;rotate_left
 ·have hb:=eb p hb;rintro ch be ⟨rfl,hb,hx⟩;refine Aq ?_;have hno:=of_decide_eq_false hb;exact absurd rfl hno
 rintro v_ az ⟨rfl,a0,ad⟩;have hgr:w.grownBy az (some r):=Aa hgr ad.grown (fun _ e=>by cases e);have bf:=of_decide_eq_true a0;have hZ4:=p.trans ad;have hb:=eb hZ4 hb;refine gS (AcA rfl (gS (Acy AV rfl (gS (ZS (i:=1) (v:=NI (i+xk+xn)) rfl rfl hb (by rw[C7];decide) DR rfl rfl fun ae af a1 bg=> ?_)))));have hgr:w.grownBy ae (some r):=Aa hgr a1 (fun _ e=> .inl e);clear hE;clear hb;have hb:ae.heap[r]? =some (.cells (B0 ((⟨b,((i+xk+xn:Nat):Int)⟩,⟨v⟩):DL)).toArray 216 (0,0)):=AG af (DE (AY v b (i)) ((i+xk+xn:Nat):Int));clear af;have bh:=bl hb;refine Az rfl (vr (St (((b.drop (i+xk)).take xn))) rfl) ?_;exact .inl ⟨_,rfl,_,_,hP,rfl,hb,hgr⟩
theorem JU(w:Ads)(r:Nat)(v:Adr)(b:Bs)(i:Nat)(hb:w.heap[r]? =some (.cells (B0 (AY v b (i))).toArray 216 (0,0)))(hr:RB w v b)(hap:b= []\/OB v r)(hi:i<=b.length)(hl:b.length<=4611686018427387904):
  Calls Adt 179 #[PQ r 0] w fun e w' =>(∃x,e = .returned x/\∃c n,DQ b i=some (c,n)/\x=AB c.1/\w'.heap[r]? =some (.cells (B0 (AY v b (n))).toArray 216 (0,0))/\w.grownBy w' (some r))\/∃ch,e = .panicked ch/\DQ b i=none/\ch= [Do]/\w.grownBy w' (some r):=by
 have hlr:=(bl hb);have hgr:=AdZ w (some r);refine gG (args:= [PQ r 0]) Tryz.func179 rfl 27 rfl rfl ?_;have hE:=Acz w;refine gS (AcH MB fun t w3 ah ai u be=> ?_);have hgr:w.grownBy w3 (some r):=Aa hgr u.grown (fun _ e=>by cases e);have f:=ai;clear ai;have bf:t<w3.heap.size:=by omega
 by_cases hle:i+32<=b.length
 ·have hQ:((b.drop i).take 32).length=32:=by rw[AdS,AdT];omega
  have hP:DQ b i=some (⟨(b.drop i).take 32,hQ⟩,i+32):=dif_pos hle;refine WG 13 [0,1,2,3,4,5,6,7,8,9,10,11,12] [14,15,16] [8,14] [11,12] [] (cells:=(Adv (Aey 32 0)).toArray) MB fun aw y=> ?_;have hgr:w.grownBy aw (some r):=Aa hgr y.grown (fun _ e=>by cases e);have hZ1:=u.trans y;have hE:=hE.trans hZ1;have bg:=hE.size;have ax:=AO (bl hb) ah;have hb:=eb hZ1 hb;have bh:=(bl hb);have f:=eb y f;have bi:=(bl f);refine aM rfl rfl (aP rfl rfl (fun _ _=>AcA rfl zz) (aP rfl rfl (fun _ _=>Acy BN rfl zz) (aF rfl rfl (fun _ hZ=>ZN Hv rfl rfl (Ac (eb hZ hb) (Cr (AY v b (i)))) zz) (aM rfl rfl (aP rfl rfl (fun _ _=>AcA rfl zz) (aP rfl rfl (fun _ _=>Acy AV rfl zz) (aF rfl rfl (fun _ hZ=>ZN Oa rfl rfl (Ac (eb hZ hb) (B9 (AY v b (i)))) zz) (aC rfl rfl fun aj j=> ?_))))))));have hgr:w.grownBy aj (some r):=Aa hgr j.grown (fun _ e=>by cases e);have z:=Acz aj;have hE:=hE.trans j;refine id (ZR LA (vr v rfl) (vr (NI i) rfl) ?_);refine((show Calls _ _ _ _ (fun e w2=>e = .returned (.tuple #[AB ((b.drop i).take 32),NI (i+32),NI 0])/\Ext _ w2)from(If _ v b (hr.keep hE) i hi).mono fun e w2 ⟨h1,h2⟩=>by subst h1;refine⟨?_,h2⟩;unfold DW;rw[if_neg (by omega)];rfl)).mono ?_;rintro e ay ⟨rfl,k⟩;refine⟨_,rfl,?_⟩;have hgr:w.grownBy ay (some r):=Aa hgr k.grown (fun _ e=>by cases e);have z:=z.trans k;refine⟨z,?_⟩;refine aM rfl rfl (aP rfl rfl (fun _ _=>AcB (vs:= [AB ((b.drop i).take 32),NI (i+32),NI 0]) rfl rfl zz) (aP rfl rfl (fun _ _=>AcB (vs:= [AB ((b.drop i).take 32),NI (i+32),NI 0]) rfl rfl zz) (aP rfl rfl (fun _ _=>AcB (vs:= [AB ((b.drop i).take 32),NI (i+32),NI 0]) rfl rfl zz) (aE fun az a0 aa ⟨bj,bk⟩ bm g=> ?_))));have hgr:w.grownBy a0 (some r):=Aa hgr aa.grown (fun _ e=>by cases e);refine yD rfl (Z7 (vr (PQ az 0) rfl) (vr (AB ((b.drop i).take 32)) rfl) g (by exact Em hQ Aee) (by exact As hQ) (Ay _) fun a1 ak l bn=> ?_);have hgr:w.grownBy a1 (some r):=Aa hgr l (fun _ e=> .inr (by cases e;omega));clear g;have g:=ak;clear ak;have bo:=bl g;refine gS (ZO (a:=(0:Nat)) (b:=(0:Nat)) rfl rfl (AI _ _ _ _) (gP (ZX Cu rfl ?_)));refine Ao (Ci _ (decide ((0:Nat)=(0)))) ?_ ?_;rotate_left
  ·have hZ2:=(j.trans k).trans aa;have hb:=eb hZ2 hb;have hb:=kb l hb (by omega);rintro ch bp ⟨rfl,hb,hx⟩;refine Aq ?_;have hno:=of_decide_eq_false hb;exact absurd rfl hno
  rintro v_ a2 ⟨rfl,a3,m⟩;have hgr:w.grownBy a2 (some r):=Aa hgr m.grown (fun _ e=>by cases e);have bq:=of_decide_eq_true a3;have hZ3:=(j.trans k).trans aa;have hb:=eb hZ3 hb;have hb:=kb l hb (by omega);have hb:=eb m hb;refine gS (AcA rfl (gS (Acy AV rfl (gS (ZS (i:=1) (v:=NI (i+32)) rfl rfl hb (by rw[C7];decide) DR rfl rfl fun al am ab br=> ?_)))));have hgr:w.grownBy al (some r):=Aa hgr ab (fun _ e=> .inl e);clear hE;clear hb;have hb:al.heap[r]? =some (.cells (B0 ((⟨b,((i+32:Nat):Int)⟩,⟨v⟩):DL)).toArray 216 (0,0)):=AG am (DE (AY v b (i)) ((i+32:Nat):Int));clear am;have bs:=bl hb;have f:=eb hZ3 f;have f:=kb l f (by omega);have f:=eb m f;have f:=kb ab f (by omega);have g:=eb m g;have g:=kb ab g (by omega);refine gS (Aal rfl g WA rfl (by exact As hQ) (gS (Z7 (vr (PQ t 0) rfl) (vr (AB ((b.drop i).take 32)) rfl) f (by exact Em hQ Aee) (by exact As hQ) (Ay _) fun a4 an ao bt=> ?_)));have hgr:w.grownBy a4 (some r):=Aa hgr ao (fun _ e=> .inr (by cases e;omega));clear f;have f:=an;clear an;have bu:=bl f;refine IN rfl (AcQ rfl f WA rfl (by exact As hQ)) ?_;have hb:=kb ao hb (by omega);exact .inl ⟨_,rfl,_,_,hP,rfl,hb,hgr⟩
 have hP:DQ b i=none:=dif_neg hle;refine WG 13 [0,1,2,3,4,5,6,7,8,9,10,11,12] [14,15,16] [8,14] [11,12] [] (cells:=(Adv (Aey 32 0)).toArray) MB fun a5 ac=> ?_;have hgr:w.grownBy a5 (some r):=Aa hgr ac.grown (fun _ e=>by cases e);have hZ4:=u.trans ac;have hE:=hE.trans hZ4;have bv:=hE.size;have ax:=AO (bl hb) ah;have hb:=eb hZ4 hb;have bw:=(bl hb);have f:=eb ac f;have bx:=(bl f);refine aM rfl rfl (aP rfl rfl (fun _ _=>AcA rfl zz) (aP rfl rfl (fun _ _=>Acy BN rfl zz) (aF rfl rfl (fun _ hZ=>ZN Hv rfl rfl (Ac (eb hZ hb) (Cr (AY v b (i)))) zz) (aM rfl rfl (aP rfl rfl (fun _ _=>AcA rfl zz) (aP rfl rfl (fun _ _=>Acy AV rfl zz) (aF rfl rfl (fun _ hZ=>ZN Oa rfl rfl (Ac (eb hZ hb) (B9 (AY v b (i)))) zz) (aC rfl rfl fun ap o=> ?_))))))));have hgr:w.grownBy ap (some r):=Aa hgr o.grown (fun _ e=>by cases e);have ad:=Acz ap;have hE:=hE.trans o;refine id (ZR LA (vr v rfl) (vr (NI i) rfl) ?_);refine((show Calls _ _ _ _ (fun e w2=>e = .returned (.tuple #[AB zero32,NI 0,NI 6])/\Ext _ w2)from(If _ v b (hr.keep hE) i hi).mono fun e w2 ⟨h1,h2⟩=>by subst h1;refine⟨?_,h2⟩;unfold DW;rw[if_pos (by omega)];rfl)).mono ?_;rintro e a6 ⟨rfl,p⟩;refine⟨_,rfl,?_⟩;have hgr:w.grownBy a6 (some r):=Aa hgr p.grown (fun _ e=>by cases e);have ad:=ad.trans p;refine⟨ad,?_⟩;refine aM rfl rfl (aP rfl rfl (fun _ _=>AcB (vs:= [AB zero32,NI 0,NI 6]) rfl rfl zz) (aP rfl rfl (fun _ _=>AcB (vs:= [AB zero32,NI 0,NI 6]) rfl rfl zz) (aP rfl rfl (fun _ _=>AcB (vs:= [AB zero32,NI 0,NI 6]) rfl rfl zz) (aE fun a7 a8 ae ⟨bz,b0⟩ b1 h=> ?_))));have hgr:w.grownBy a8 (some r):=Aa hgr ae.grown (fun _ e=>by cases e);refine yD rfl (Z7 (vr (PQ a7 0) rfl) (vr (AB zero32) rfl) h (by exact Em (by decide) Aee) (by exact As (by decide)) (Ay _) fun a9 aq q b2=> ?_);have hgr:w.grownBy a9 (some r):=Aa hgr q (fun _ e=> .inr (by cases e;omega));clear h;have h:=aq;clear aq;have b3:=bl h;refine gS (ZO (a:=(6:Nat)) (b:=(0:Nat)) rfl rfl (AI _ _ _ _) (gP (ZX Cu rfl ?_)));refine Ao (Ci _ (decide ((6:Nat)=(0)))) ?_ ?_;rotate_left
 ·have hZ5:=(o.trans p).trans ae;have hb:=eb hZ5 hb;have hb:=kb q hb (by omega);rintro ch b4 ⟨rfl,hb,hx⟩;refine Aq ?_;have hno:=of_decide_eq_false hb;exact .inr ⟨_,rfl,hP,rfl,(Aa hgr hx.grown (fun _ e=>by cases e))⟩
 rintro v_ ba ⟨rfl,bb,s⟩;have hgr:w.grownBy ba (some r):=Aa hgr s.grown (fun _ e=>by cases e);have b5:=of_decide_eq_true bb;have hZ6:=(o.trans p).trans ae;have hb:=eb hZ6 hb;have hb:=kb q hb (by omega);have hb:=eb s hb;refine gS (AcA rfl (gS (Acy AV rfl (gS (ZS (i:=1) (v:=NI 0) rfl rfl hb (by rw[C7];decide) DR rfl rfl fun ar au af b6=> ?_)))));have hgr:w.grownBy ar (some r):=Aa hgr af (fun _ e=> .inl e);clear hE;clear hb;have hb:ar.heap[r]? =some (.cells (B0 ((⟨b,((0:Nat):Int)⟩,⟨v⟩):DL)).toArray 216 (0,0)):=AG au (DE (AY v b (i)) ((0:Nat):Int));clear au;have b7:=bl hb;have f:=eb hZ6 f;have f:=kb q f (by omega);have f:=eb s f;have f:=kb af f (by omega);have h:=eb s h;have h:=kb af h (by omega);refine gS (Aal rfl h WA rfl (by exact As (by decide)) (gS (Z7 (vr (PQ t 0) rfl) (vr (AB zero32) rfl) f (by exact Em (by decide) Aee) (by exact As (by decide)) (Ay _) fun bc av bd b8=> ?_)));have hgr:w.grownBy bc (some r):=Aa hgr bd (fun _ e=> .inr (by cases e;omega));clear f;have f:=av;clear av;have b9:=bl f;refine IN rfl (AcQ rfl f WA rfl (by exact As (by decide))) ?_;omega
def Gn(b:Bs)(i:Nat):Option (AK × Nat):=(A5 b i 256).bind fun s=>(DQ b s.2).bind fun x=>some (⟨s.1,x.1⟩,x.2)
def CR(b:Bs)(s:List AK × Nat):Option (List AK × Nat):=(Gn b s.2).map fun x=>(s.1++ [x.1],x.2)
def F7(b:Bs)(i:Nat):Option (List AK × Nat):=(Dd b i 64).bind fun x=>Cn (CR b) x.1 ([],x.2)
def Dr(b:Bs)(i:Nat):Option (Ba × Nat):=(DY b i).bind fun k=>(A5 b k.2 256).bind fun s=>(DQ b s.2).bind fun o=>(DQ b o.2).bind fun n=>(A5 b n.2 256).bind fun t=>some (⟨k.1,s.1,o.1,n.1,t.1⟩,t.2)
def CS(b:Bs)(s:List Ba × Nat):Option (List Ba × Nat):=(Dr b s.2).map fun x=>(s.1++ [x.1],x.2)
def HQ(b:Bs)(i:Nat):Option (List Ba × Nat):=(Dd b i 64).bind fun x=>Cn (CS b) x.1 ([],x.2)
noncomputable def CT(b:Bs):Option Au:=(F7 b 0).bind fun x=>(F7 b x.2).bind fun y=>(A5 b y.2 256).bind fun h=>(DQ b h.2).bind fun a=>(HQ b a.2).bind fun l=>
 if l.2=b.length/\AA ⟨x.1,y.1,h.1,a.1,l.1⟩=true then some ⟨x.1,y.1,h.1,a.1,l.1⟩else none
theorem JV{b:Bs}{i n k most:Nat}(hi:i<=b.length)(h:Dd b i most=some (k,n)):n<=b.length/\k<=most/\CQ b i=some (k,n):=by
 unfold Dd at h;cases hn:CQ b i with
 | none=>rw[hn]at h;cases h
 | some x=>
  rw[hn,AdP]at h;split at h
  ·rename_i h1
   cases h;exact⟨Ql hi hn,h1,rfl⟩
  ·cases h
theorem Vc{b:Bs}{i:Nat}(h:Dd b i 64=none):F7 b i=none:=by unfold F7;rw[h];rfl
theorem Ov{b:Bs}{i n j:Nat}(h:Dd b i 64=some (n,j)):F7 b i=Cn (CR b) n ([],j):=by unfold F7;rw[h];rfl
theorem Vd{b:Bs}{i:Nat}(h:Dd b i 64=none):HQ b i=none:=by unfold HQ;rw[h];rfl
theorem Ow{b:Bs}{i n j:Nat}(h:Dd b i 64=some (n,j)):HQ b i=Cn (CS b) n ([],j):=by unfold HQ;rw[h];rfl
theorem Tv{b:Bs}{i n j k j' :Nat}{o:List AK}(h:Dd b i 64=some (n,j))(hk:k<n)(hit:Cn (CR b) k ([],j)=some (o,j'))(hx:Gn b j' =none):F7 b i=none:=by
 rw[Ov h];refine Io (j:=k+1) ?_ n hk;rw[FG hit];unfold CR;rw[hx];rfl
theorem W8{b:Bs}{j k j' j2:Nat}{o:List AK}{x:AK}(hit:Cn (CR b) k ([],j)=some (o,j'))(hx:Gn b j' =some (x,j2)):Cn (CR b) (k+1) ([],j)=some (o++ [x],j2):=by
 rw[FG hit];unfold CR;rw[hx];rfl
theorem Jp{b:Bs}{i n j k j' :Nat}{o:List Ba}(h:Dd b i 64=some (n,j))(hk:k<n)(hit:Cn (CS b) k ([],j)=some (o,j'))(hx:Dr b j' =none):HQ b i=none:=by
 rw[Ow h];refine Io (j:=k+1) ?_ n hk;rw[FG hit];unfold CS;rw[hx];rfl
theorem W9{b:Bs}{j k j' j2:Nat}{o:List Ba}{x:Ba}(hit:Cn (CS b) k ([],j)=some (o,j'))(hx:Dr b j' =some (x,j2)):Cn (CS b) (k+1) ([],j)=some (o++ [x],j2):=by
 rw[FG hit];unfold CS;rw[hx];rfl
theorem Y5{b:Bs}{i:Nat}(h:A5 b i 256=none):Gn b i=none:=by unfold Gn;rw[h];rfl
theorem Y6{b s:Bs}{i j:Nat}(h:A5 b i 256=some (s,j))(h2:DQ b j=none):Gn b i=none:=by unfold Gn;rw[h,AdP,h2];rfl
theorem WH{b s:Bs}{i j k:Nat}{x:Cl}(h:A5 b i 256=some (s,j))(h2:DQ b j=some (x,k)):Gn b i=some (⟨s,x⟩,k):=by unfold Gn;rw[h,AdP,h2];rfl
theorem MS{σ:Type}{b:Bs}{i:Nat}{f:Nat × Nat->Option σ}{t:σ}(h:(Dd b i 64).bind f=some t):∃n j,Dd b i 64=some (n,j)/\n<=64/\f (n,j)=some t:=by
 cases hn:Dd b i 64 with
 | none=>rw[hn]at h;cases h
 | some x=>
  rw[hn]at h;refine⟨x.1,x.2,rfl,?_,h⟩;unfold Dd at hn;cases hp:CQ b i with
  | none=>rw[hp]at hn;cases hn
  | some y=>
   rw[hp,AdP]at hn;split at hn
   ·cases hn;assumption
   ·cases hn
theorem Qo{b:Bs}{i j:Nat}{x:AK}(h:Gn b i=some (x,j)):∃k,A5 b i 256=some (x.name,k)/\DQ b k=some (x.id,j):=by
 unfold Gn at h;cases h1:A5 b i 256 with
 | none=>rw[h1]at h;cases h
 | some s=>
  rw[h1,AdP]at h;cases h2:DQ b s.2 with
  | none=>rw[h2]at h;cases h
  | some y=>rw[h2]at h;cases h;exact⟨s.2,rfl,h2⟩
theorem LB{b:Bs}{s t:List AK × Nat}(h:CR b s=some t):∃x,t.1=s.1++ [x]/\Gn b s.2=some (x,t.2):=by
 unfold CR at h;cases hn:Gn b s.2 with
 | none=>rw[hn]at h;cases h
 | some x=>rw[hn]at h;cases h;exact⟨x.1,rfl,rfl⟩
theorem Jq{b:Bs}:∀(n:Nat) {s t:List AK × Nat},Cn (CR b) n s=some t->(∀u∈s.1,u.name.length<=256)->(∀u∈t.1,u.name.length<=256)/\t.1.length=s.1.length+n
 | 0,s,t,h,hs=>by cases h;exact⟨hs,rfl⟩
 | n+1,s,t,h,hs=>by
  obtain⟨u,h1,h2⟩:=Ip h;obtain⟨h3,h4⟩:=Jq n h1 hs;obtain⟨x,h5,h6⟩:=LB h2;obtain⟨k,h7,_⟩:=Qo h6;rw[h5];refine⟨fun q hq=> ?_,by rw[Adx,h4];rfl⟩;rcases Aed.1 hq with hq | hq
  ·exact h3 q hq
  ·rw[Aeb.1 hq];exact(txtP_le h7).2
theorem nlP_lt{b:Bs}{i:Nat}{t:List AK × Nat}(h:F7 b i=some t):t.1.length<=64/\∀u∈t.1,u.name.length<=256:=by
 obtain⟨n,j,h1,h2,h3⟩:=MS h;obtain⟨h4,h5⟩:=Jq n h3 (by simp);simp only[AdQ]at h5;exact⟨by omega,h4⟩
theorem LC{b:Bs}{s t:List Ba × Nat}(h:CS b s=some t):∃x,t.1=s.1++ [x]/\Dr b s.2=some (x,t.2):=by
 unfold CS at h;cases hn:Dr b s.2 with
 | none=>rw[hn]at h;cases h
 | some x=>rw[hn]at h;cases h;exact⟨x.1,rfl,rfl⟩
theorem Yu{b:Bs}{i:Nat}{t:List Ba × Nat}(h:HQ b i=some t):t.1.length<=64:=by
 obtain⟨n,j,h1,h2,h3⟩:=MS h;have:=JS (f:=CS b) (fun s t h=>by obtain⟨x,h5,_⟩:=LC h;rw[h5,Adx];rfl) n h3;simp only[AdQ]at this;omega
theorem Ve{b:Bs}{i j k m i1 i2 i3 i5:Nat}{l1 l2:List AK}{lo:List Ba}{d3:Bs}{d4:Cl}(h1:F7 b i=some (l1,i1))(h2:F7 b j=some (l2,i2))(h3:A5 b k 256=some (d3,i3))(h4:HQ b m=some (lo,i5)):DM (⟨l1,l2,d3,d4,lo⟩:Au):=by
 have q1:=nlP_lt h1;have q2:=nlP_lt h2;have q3:=(txtP_le h3).2;have q4:=Yu h4;exact⟨by have:=q1.1;simp only at this ⊢;omega,by have:=q2.1;simp only at this ⊢;omega,by simp only at q4 ⊢;omega,fun u hu=>by have:=q1.2 u hu;omega,fun u hu=>by have:=q2.2 u hu;omega,by simp only;omega⟩
theorem Ox(b:Bs)(i:Nat):F7 b i=CE b i 64 (CR b) []:=by
 unfold F7 CE Dd;cases CQ b i with
 | none=>rfl
 | some x=>
  simp only[AdP];split <;> rfl
theorem Oy(b:Bs)(i:Nat):HQ b i=CE b i 64 (CS b) []:=by
 unfold HQ CE Dd;cases CQ b i with
 | none=>rfl
 | some x=>
  simp only[AdP];split <;> rfl
theorem Y7{b r:Bs}{n:AK}{i:Nat}(h:b.drop i=C3 n++r)(hn:n.name.length<=256):Gn b i=some (n,i+(C3 n).length):=by
 have a:b.drop i=AL n.name++(n.id.1++r):=by rw[h];unfold C3;rw[AdW]
 rw[WH (F6 a hn (by omega)) (JT (Ct a))];unfold C3;rw[Adx,Afu]
theorem WI{b r:Bs}{l:List AK}{i:Nat}(h:b.drop i=EU l++r)(hl:l.length<=64)(hn:∀n∈l,n.name.length<=256):F7 b i=some (l,i+(EU l).length):=by
 have h' :b.drop i=AdU l.length++(l.flatMap C3++r):=by rw[h];unfold EU;rw[AdW]
 rw[Ox,Ma C3 (CR b) h' hl (by omega) (fun x hx a i r hr=>by unfold CR;rw[Y7 hr (hn x hx)];rfl)];unfold EU;rw[Adx,Afu]
theorem Yv{b r:Bs}{e:Ba}{i:Nat}(h:b.drop i=CK e++r)(hn:e.name.length<=256)(ht:e.note.length<=256):Dr b i=some (e,i+(CK e).length):=by
 have a:b.drop i=e.kind :: (AL e.name++(e.old.1++(e.new.1++(AL e.note++r)))):=by rw[h];unfold CK;simp
 have c:b.drop (i+1)=AL e.name++(e.old.1++(e.new.1++(AL e.note++r))):=Ct (u:= [e.kind]) a;have f:=Ct c;have g:=Ct f;have j:=Ct g;unfold Dr;simp only[Qm a,AdP,F6 c hn (by omega),JT f,JT g,F6 j ht (by omega),AeZ,Prod.mk.injEq,true_and];unfold CK;simp only[Adx,Ad4];omega
theorem elP_d{b r:Bs}{l:List Ba}{i:Nat}(h:b.drop i=AdU l.length++(l.flatMap CK++r))(hl:l.length<=64)(hn:∀e∈l,e.name.length<=256/\e.note.length<=256):HQ b i=some (l,i+(AdU l.length).length+(l.flatMap CK).length):=by
 rw[Oy,Ma CK (CS b) h hl (by omega) (fun x hx a i r hr=>by unfold CS;rw[Yv hr (hn x hx).1 (hn x hx).2];rfl)]
theorem Vf{r:Au}(h:AA r=true):CT (Ee r)=some r:=by
 have hR:=Jl h;have a:(Ee r).drop 0=EU r.branches++(EU r.tags++(AL r.head++(r.at_.1++(AdU r.log.length++(r.log.flatMap CK++ []))))):=by unfold Ee;simp only[AfI,AdW,Agd]
 have b:=Ct a;have c:=Ct b;have f:=Ct c;have g:=Ct f;have i:=Ct (Ct g);unfold CT;rw[WI a hR.bl (fun n hn=>by have:=hR.bn n hn;omega),AdP];simp only;rw[WI b hR.tl (fun n hn=>by have:=hR.tn n hn;omega),AdP];simp only;rw[F6 c (by have:=hR.hd;omega) (by omega),AdP];simp only;rw[JT f,AdP];simp only;rw[elP_d g hR.ll (fun e he=>by have:=hR.ln e he;omega),AdP];refine if_pos ⟨?_,h⟩;unfold Ee;simp only[Adx];omega
theorem Y8{b:Bs}{i n:Nat}{x:AK}(h:Gn b i=some (x,n)):b.drop i=C3 x++b.drop n:=by
 obtain⟨k,h1,h2⟩:=Qo h;rw[Jo h1,NN h2];unfold C3;rw[AdW]
theorem Yw{b:Bs}{i n:Nat}{e:Ba}(h:Dr b i=some (e,n)):b.drop i=CK e++b.drop n:=by
 unfold Dr at h;simp only[Aff]at h;obtain⟨⟨c,j1⟩,h1,⟨s,j2⟩,h2,⟨o,j3⟩,h3,⟨x,j4⟩,h4,⟨t,j5⟩,h5,h6⟩:=h;cases h6;rw[W7 h1,Jo h2,NN h3,NN h4,Jo h5];unfold CK;simp only[AdW]
theorem WJ{b:Bs}{i:Nat}{t:List AK × Nat}(h:F7 b i=some t):b.drop i=EU t.1++b.drop t.2:=by
 rw[Ox]at h;exact(Qn (Q:=fun _=>True) (f:=C3) (fun a i t h=>by
  obtain⟨x,h1,h2⟩:=LB h;exact⟨x,h1,trivial,Y8 h2⟩) h).1
theorem Y9{b:Bs}{i:Nat}{t:List Ba × Nat}(h:HQ b i=some t):b.drop i=(AdU t.1.length++t.1.flatMap CK)++b.drop t.2:=by
 rw[Oy]at h;exact(Qn (Q:=fun _=>True) (f:=CK) (fun a i t h=>by
  obtain⟨x,h1,h2⟩:=LC h;exact⟨x,h1,trivial,Yw h2⟩) h).1
theorem Tw{b:Bs}{r:Au}(h:CT b=some r):AA r=true/\Ee r=b:=by
 unfold CT at h;simp only[Aff]at h;obtain⟨⟨l1,j1⟩,h1,⟨l2,j2⟩,h2,⟨hd,j3⟩,h3,⟨a,j4⟩,h4,⟨lo,j5⟩,h5,h6⟩:=h;split at h6
 ·rename_i hq
  cases h6;refine⟨hq.2,?_⟩;have e:b.drop 0=EU l1++(EU l2++(AL hd++(a.1++((AdU lo.length++lo.flatMap CK)++b.drop j5)))):=by rw[WJ h1,WJ h2,Jo h3,NN h4,Y9 h5]
  rw[show j5=b.length from hq.1,List.drop_length,Agd,AfI]at e;rw[e];unfold Ee;simp only[AdW]
 ·cases h6
def CA(u:AC):Bs:=(([u.kind]++AL u.name)++u.old.1)++u.new.1
def tranB(l:List AC)(note:Bs):Bs:=(AdU l.length++l.flatMap CA)++AL note
def recB(k:UInt8)(b:Bs):Bs:=AL ([k]++b)
def F8(b:Bs)(i:Nat):Option (AC × Nat):=(DY b i).bind fun k=>(A5 b k.2 256).bind fun s=>(DQ b s.2).bind fun o=>(DQ b o.2).bind fun n=>some (⟨k.1,s.1,o.1,n.1⟩,n.2)
def De(b:Bs)(s:List AC × Nat):Option (List AC × Nat):=(F8 b s.2).map fun x=>(s.1++ [x.1],x.2)
noncomputable def EY(was:Au)(b:Bs)(l:List AC)(i:Nat):Option Au:=(A5 b i 256).bind fun t=>if t.2=b.length then(if(Ag was l t.1).1=0 then some (Ag was l t.1).2 else none)else none
noncomputable def BT(was:Au)(b:Bs):Option Au:=
 if 0<b.length then(if(b.getD 0 0).toNat=83 then CT (b.drop 1)else if(b.getD 0 0).toNat=84 then(CE b 1 b.length (De b) []).bind fun x=>EY was b x.1 x.2 else none)else none
noncomputable def LD(b:Bs):Nat->Au->Nat->Option (Au × Bool)
 | 0,r,_=>some (r,false)
 | f+1,r,i=>if i<b.length then(match A5 b i b.length with
  | none=>some (r,true)
  | some x=>(BT r x.1).bind fun q=>LD b f q x.2)else some (r,false)
noncomputable def Gp(b:Bs)(r:Au)(i:Nat):Option (Au × Bool):=LD b (b.length-i) r i
noncomputable def Ca(b:Bs):Option (Au × Bool):=Gp b B1.1 0
theorem Tx(s:Bs):0<(AL s).length:=by
 have:=AhR s.length;unfold AL;rw[Adx];omega
theorem Fd{b s:Bs}{i m n:Nat}(h:A5 b i m=some (s,n)):i<n/\n<=b.length:=by
 have h1:=(txtP_le h).1;have h2:=Jo h;have h3:=Tx s;have h4:=congrArg Ah9 h2;rw[Adx,AdT,AdT]at h4;omega
theorem goJ_fuel{b:Bs}:∀(f g:Nat) (r:Au) (i:Nat),b.length-i<=f->b.length-i<=g->LD b f r i=LD b g r i
 | 0,0,r,i,_,_=>rfl
 | 0,g+1,r,i,h,_=>by
  unfold LD;rw[if_neg (by omega)]
 | f+1,0,r,i,_,h=>by
  unfold LD;rw[if_neg (by omega)]
 | f+1,g+1,r,i,h,k=>by
  unfold LD;split
  ·cases ht:A5 b i b.length with
   | none=>rfl
   | some x=>
    have:=Fd (s:=x.1) (n:=x.2) ht;simp only
    congr 1
    funext q
    exact goJ_fuel f g q x.2 (by omega) (by omega)
  ·rfl
theorem rdJ_end{b:Bs}{r:Au}{i:Nat}(h:¬i<b.length):Gp b r i=some (r,false):=by
 unfold Gp;rw[show b.length-i=0 by omega];rfl
theorem GO{b:Bs}{r:Au}{i:Nat}(h:i<b.length)(ht:A5 b i b.length=none):Gp b r i=some (r,true):=by
 unfold Gp;rw[show b.length-i=(b.length-i-1)+1 by omega];unfold LD;rw[if_pos h,ht]
theorem GP{b s:Bs}{r:Au}{i n:Nat}(ht:A5 b i b.length=some (s,n)):Gp b r i=(BT r s).bind fun q=>Gp b q n:=by
 have h:=Fd ht;unfold Gp;rw[show b.length-i=(b.length-i-1)+1 by omega]
 conv=>lhs;unfold LD
 rw[if_pos (by omega),ht];simp only
 congr 1
 funext q
 exact goJ_fuel _ _ q n (by omega) (by omega)
theorem rdJ_bad{b s:Bs}{r:Au}{i n:Nat}(ht:A5 b i b.length=some (s,n))(hb:BT r s=none):Gp b r i=none:=by
 rw[GP ht,hb];rfl
theorem Oz{b s:Bs}{r q:Au}{i n:Nat}(ht:A5 b i b.length=some (s,n))(hb:BT r s=some q):Gp b r i=Gp b q n:=by
 rw[GP ht,hb];rfl
theorem It:∀(l r:Ai1) (k:Nat) (x:Nat × Nat),AU k l=some x->AU k (l++r)=some x
 | [],r,k,x,h=>by simp[AU]at h
 | c :: l,r,k,x,h=>by
  rw[Ad1];unfold AU at h ⊢;split at h
  ·rename_i q
   rw[if_pos q];split at h
   ·cases h
   ·rename_i q2
    rw[if_neg q2];cases e:AU (k+1) l with
    | none=>rw[e]at h;cases h
    | some y=>rw[e]at h;rw[It l r (k+1) y e];exact h
  ·rename_i q
   rw[if_neg q];exact h
theorem OA{c p s:Bs}{i m m' n:Nat}(h:A5 c i m=some (s,n))(hm:m<=m'):A5 (c++p) i m' =some (s,n):=by
 have hn:=Fd h;unfold A5 at h;split at h
 ·cases h
 ·rename_i x hx
  split at h
  ·cases h
  ·rename_i h1
   split at h
   ·cases h
   ·rename_i h2
    cases h;have hd:(c++p).drop i=c.drop i++p:=Ag1 (by omega);unfold A5;rw[hd,It _ p 0 x hx];simp only;rw[if_neg (by omega),if_neg (by rw[Adx];omega),Ag1 (by omega),List.take_append_of_le_length (by rw[AdT];omega)]
theorem Mb{c p:Bs}{q:Au}:∀(n:Nat) (r:Au) (i:Nat),c.length-i<=n->i<=c.length->Gp c r i=some (q,false)->Gp (c++p) r i=Gp (c++p) q c.length
 | n,r,i,hn,hi,h=>by
  by_cases hlt:i<c.length
  ·cases ht:A5 c i c.length with
   | none=>rw[GO hlt ht]at h;cases h
   | some x=>
    have hx:=Fd (s:=x.1) (n:=x.2) ht;rw[GP (s:=x.1) (n:=x.2) ht]at h;cases hb:BT r x.1 with
    | none=>rw[hb]at h;cases h
    | some r' =>
     rw[hb]at h;rw[Oz (OA (p:=p) (s:=x.1) (n:=x.2) ht (by rw[Adx];omega)) hb];cases n with
     | zero=>omega
     | succ n=>exact Mb n r' x.2 (by omega) hx.2 h
  ·rw[rdJ_end hlt]at h;cases h;rw[show i=c.length by omega]
theorem Rq{c s:Bs}(hs:s.length<9223372036854775808):A5 (c++AL s) c.length (c++AL s).length=some (s,(c++AL s).length):=by
 have h:(c++AL s).drop c.length=AL s++ []:=by rw[Agn,Agd]
 have hl:s.length<=(AL s).length:=by unfold AL;rw[Adx];omega
 by_cases hm:(c++AL s).length<9223372036854775808
 ·rw[F6 h (by rw[Adx];omega) hm,Adx]
 ·have h2:=F6 h (Adw s.length) hs;have h3:=OA (p:= []) h2 (m' :=(c++AL s).length) (by rw[Adx];omega);rw[Agd]at h3;rw[h3,Adx]
theorem MT{c s:Bs}{r:Au}(h:Ca c=some (r,false))(hs:s.length<9223372036854775808):Ca (c++AL s)=(BT r s).map fun q=>(q,false):=by
 unfold Ca at h ⊢;rw[Mb c.length _ 0 (by omega) (AdN _) h,GP (Rq hs)];cases BT r s with
 | none=>rfl
 | some q=>exact rdJ_end (Ahm _)
theorem Ty{c s:Bs}{r:Au}{n:Nat}(h:Ca c=some (r,false))(hs:s.length<9223372036854775808)(hn:n<(AL s).length):Ca (c++(AL s).take n)=some (r,decide (0<n)):=by
 have hl:((AL s).take n).length=n:=by rw[AdS];omega
 unfold Ca at h ⊢;rw[Mb c.length _ 0 (by omega) (AdN _) h];by_cases h0:0<n
 ·rw[decide_eq_true h0];refine GO (by rw[Adx];omega) ?_;unfold A5;rw[Agn];cases hd:AU 0 ((AL s).take n)with
  | none=>rfl
  | some x=>
   have h1:=It _ ((AL s).drop n) 0 x hd;rw[AeK]at h1;have h4:(128:Nat)^(8+1)=9223372036854775808:=by decide
   unfold AL at h1;rw[EG s 8 s.length 0 (by omega) (by omega) (by omega)]at h1;cases h1;have h5:(AL s).length=(AdU s.length).length+s.length:=by unfold AL;rw[Adx]
   simp only;split
   ·rfl
   ·rw[if_pos (by rw[Adx,hl];omega)]
 ·rw[decide_eq_false h0];exact rdJ_end (by rw[Adx,hl];omega)
theorem F9:Ca []=some (B1.1,false):=rdJ_end (Ahm _)
theorem Za{b r:Bs}{u:AC}{i:Nat}(h:b.drop i=CA u++r)(hu:u.name.length<=256):F8 b i=some (u,i+(CA u).length):=by
 have a:b.drop i=u.kind :: (AL u.name++(u.old.1++(u.new.1++r))):=by rw[h];unfold CA;simp
 have c:b.drop (i+1)=AL u.name++(u.old.1++(u.new.1++r)):=Ct (u:= [u.kind]) a;have e:=Ct c;have f:=Ct e;unfold F8;simp only[Qm a,AdP,F6 c hu (by omega),JT e,JT f,AeZ,Prod.mk.injEq,true_and];unfold CA;simp only[Adx,Ad4];omega
theorem behindJ_tran{was:Au}{l:List AC}{note:Bs}(hl:l.length<9223372036854775808)(hu:∀u∈l,u.name.length<=256)(hn:note.length<=256)(h0:(Ag was l note).1=0):BT was ([84]++tranB l note)=some (Ag was l note).2:=by
 have b:([84]++tranB l note).drop 1=AdU l.length++(l.flatMap CA++(AL note++ [])):=by
  unfold tranB;simp
 have c:=Ct (Ct b);have hll:l.length<=([84]++tranB l note).length:=by
  have h1:∀m:List AC,m.length<=(m.flatMap CA).length:=fun m=>by
   induction m with
   | nil=>exact Adw _
   | cons a m ih=>
    have:1<=(CA a).length:=by unfold CA;simp only[Adx,Ad4];omega
    rw[Aen,Adx,AdJ];omega
  have:=h1 l;unfold tranB;simp only[Adx];omega
 have hp:CE ([84]++tranB l note) 1 l.length (De ([84]++tranB l note)) []=some (l,1+(AdU l.length).length+(l.flatMap CA).length):=
  Ma CA _ b (Adw _) hl fun x hx a i r hr=>by unfold De;rw[Za hr (hu x hx)];rfl
 have e:CE ([84]++tranB l note) 1 ([84]++tranB l note).length (De ([84]++tranB l note)) []=some (l,1+(AdU l.length).length+(l.flatMap CA).length):=by
  unfold CE at hp ⊢;cases hn:CQ ([84]++tranB l note) 1 with
  | none=>rw[hn]at hp;cases hp
  | some x=>
   rw[hn,AdP]at hp;rw[AdP];split at hp
   ·rw[if_pos (by omega)];exact hp
   ·cases hp
 unfold BT;rw[if_pos (by simp),show List.getD ([84]++tranB l note) 0 (0:UInt8)=84 from rfl,if_neg (by decide),if_pos (by decide),e,AdP];unfold EY;rw[F6 c hn (by omega),AdP];rw[if_pos (by unfold tranB;simp only[Adx,Ad4];omega),if_pos h0]
theorem NC{was r:Au}(h:AA r=true):BT was ([83]++Ee r)=some r:=by
 unfold BT;rw[if_pos (by simp),if_pos (by rfl)];show CT (Ee r)=some r;exact Vf h
theorem Jr{note:Bs}:∀ {l:List AC} {r:Au},(Dq note r l).1=0->∀u∈l,BE u=0
 | [],r,_,u,hu=>by cases hu
 | y :: l,r,h,u,hu=>by
  unfold Dq at h;split at h
  ·rename_i h1;exact absurd h h1
  ·rename_i h1
   have h1:=Ae9.1 h1;rcases Ad5.1 hu with rfl | hu
   ·unfold Dx at h1;split at h1
    ·rename_i h2;exact absurd h1 h2
    ·rename_i h2;exact Ae9.1 h2
   ·exact Jr h u hu
theorem FS{note:Bs}{r:Au}{l:List AC}(h:(Ag r l note).1=0):(∀u∈l,u.name.length<=256)/\note.length<=256/\AA r=true:=by
 obtain⟨h1,h2,-⟩:=GN h;simp only[Aeg,Aez]at h1;refine⟨fun u hu=> ?_,?_,h1.1⟩
 ·have h3:=(Il (Jr h2 u hu)).2.2;omega
 ·have h5:=h1.2;unfold CB at h5;rw[AdX]at h5;exact of_decide_eq_true h5.1
theorem OC{u:AC}(h:u.name.length<=256):(CA u).length<=330:=by
 have:=BY h (by omega);unfold CA;simp only[Adx,Ad4,u.old.2,u.new.2];omega
theorem Js{l:List AC}{note:Bs}{k:Nat}(hu:∀u∈l,u.name.length<=256)(hn:note.length<=k)(hk:k<=1000000)(hl:l.length<=1000000):(tranB l note).length<=330*l.length+k+18:=by
 have h1:=Ey (f:=CA) (c:=330) (l:=l) fun u hm=>OC (hu u hm);have h2:=BY hn (by omega);have h3:=Cc (n:=l.length) (by omega);unfold tranB;simp only[Adx];omega
theorem KI{k:UInt8}{b:Bs}{n:Nat}(h:b.length<=n)(hn:n<=1000000000):(recB k b).length<=n+10:=by
 have:=BY (s:= [k]++b) (n:=n+1) (by rw[Adx,Ad4];omega) (by omega);unfold recB;omega
theorem readJ_tran{c:Bs}{r:Au}{l:List AC}{note:Bs}(h:Ca c=some (r,false))(hl:l.length<=1000000)(h0:(Ag r l note).1=0):Ca (c++recB 84 (tranB l note))=some ((Ag r l note).2,false):=by
 obtain⟨h1,h2,-⟩:=FS h0;have h3:=Js h1 h2 (by omega) hl;unfold recB;rw[MT h (by rw[Adx,Ad4];omega),behindJ_tran (by omega) h1 h2 h0];rfl
theorem Rr{c:Bs}{r:Au}{l:List AC}{note:Bs}{n:Nat}(h:Ca c=some (r,false))(hl:l.length<=1000000)(h0:(Ag r l note).1=0):∃q t,Ca (c++(recB 84 (tranB l note)).take n)=some (q,t)/\(q=r\/q=(Ag r l note).2):=by
 obtain⟨h1,h2,-⟩:=FS h0;have h3:=Js h1 h2 (by omega) hl;by_cases hn:n<(recB 84 (tranB l note)).length
 ·unfold recB at hn ⊢;exact⟨_,_,Ty h (by rw[Adx,Ad4];omega) hn, .inl rfl⟩
 ·rw[List.take_of_length_le (by omega)];exact⟨_,_,readJ_tran h hl h0, .inr rfl⟩
theorem KJ{r:Au}(h:AA r=true):(Ee r).length<=40000:=by
 have hR:=Jl h;have h1:=Lz hR.bl hR.bn;have h2:=Lz hR.tl hR.tn;have h3:=BY hR.hd (by omega);have h4:=Cc (n:=r.log.length) (by have:=hR.ll;omega);have h5:=Ot hR r.log.length;rw[List.take_length]at h5;have h6:r.at_.1.length=32:=r.at_.2;unfold Ee;simp only[Adx];omega
theorem FT{r:Au}(h:AA r=true):Ca (recB 83 (Ee r))=some (r,false):=by
 have h1:=KJ h;have h2:=MT (s:= [83]++Ee r) F9 (by rw[Adx,Ad4];omega);rw[Ad9,NC h]at h2;exact h2
end Go.Proofs.YtbbbblinjomajaaGreatDoor
