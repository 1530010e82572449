/- Part 3 of what stands behind these statements: laws and walks of the functions that are reached. Conditions: those that each theorem names. -/
import Derived.Test.YtbbbblinjomajaaGreatDoorF2
set_option linter.unusedVariables false
set_option linter.unusedSimpArgs false
namespace Go.Proofs.YtbbbblinjomajaaGreatDoor
open _root_.Bool renaming and_eq_true->Ada,or_eq_true->AdU,and_eq_false_iff->Ae1,or_eq_false_iff->Adx,not_eq_false'->AdS,false_eq_true->Aec,true_and->Agz
open _root_.List renaming replicate->AdK,length_replicate->Adq,map_toArray->AcT,map_cons->AcX,map_nil->Ac2,drop_eq_getElem_cons->Aew,getD_eq_getElem?_getD->AcL,getElem?_eq_getElem->AcQ,drop_of_length_le->Aef,length_append->AcJ,length_cons->AcV,length_take->Ac4,length_drop->Ac5,mem_map->AdC,mem_iff_getElem->AdM,getElem_drop->AgE,mem_cons->Adl,mem_of_mem_drop->AfG,mem_append->Adt,mem_of_mem_take->AeN,mem_singleton->Adn,cons_append->Ade,nil_append->Adm,length_nil->Ac1,getElem?_toArray->Ads,getElem?_eq_some_iff->Ac3,range->Aev,all_eq_true->Ady,take_append_drop->AdX,mem_of_getElem?->AeM,append_assoc->Ac7,drop_left->AfA,take_left'->AdW,flatMap_append->Aei,flatMap_cons->Adz,append_nil->Afp,length_singleton->Adh,drop_drop->Afe,length->Ahl,contains_iff_mem->AdZ,nodup_cons->AdY,append_of_mem->Aeq,nodup_append->AeP,mem_append_right->Ad9,drop_zero->AeV,drop_append_of_le_length->Agd
open _root_.Go.Proofs.Tryz renaming prog->AcF
open _root_.Go renaming TypeId->AcK,Operand->AcO,Value->AcD,World->AcE,Program->AcY,Oper->AcW
open _root_.Go.Lib renaming byteCells->AcH,byteCells_length->AcS,uvarint->Ac6,uvarint_pos->Ag5
open _root_.Go.Instr renaming build->AdI,buildSlice->Adc,extract->AfK
open _root_.Go.Value renaming bool->Aek,slice->AcU,ownBlock->Adp,string->AhW
open _root_.Nat renaming le_trans->AcG,le_refl->AcI,zero_le->AcZ,not_lt_zero->AdN,zero_add->Aem,lt_of_lt_of_le->Ad3,blt->Aeh,le_of_ble_eq_true->AcP,eq_of_beq_eq_true->Afz,strongRecOn->Afn,add_assoc->AeG,lt_irrefl->AgA
open _root_.Go.World.grownBy renaming refl->Adb
open _root_.Option.some renaming inj->Ac9,injEq->Aea
open _root_.Go.Sem renaming run_bind->AcN,run_pure->AcR
open _root_.Go.Result renaming andThen_ok->AcM
open _root_.Classical renaming not_not->Ael,byContradiction->AdQ
open _root_.Option renaming getD_some->AeU,bind_eq_some_iff->Aer,bind_some->Ac0,map_eq_some_iff->AeC
open _root_.Go.Region renaming ready->Ad6,binds->AdG,wanted->AdL,noSelect->Ahd
open _root_.Array renaming length_toList->Ad0,toList_setIfInBounds->Ae3,getD_eq_getD_getElem?->Adk,getElem?_eq_getElem->Ae8,replicate->Aeo
open _root_.Go.Op renaming eqFields->Agq,equalIn->AeF
open Go.RowKit
set_option maxRecDepth 100000
theorem JZ{l:List AH}{s:Bs}{p:Nat}(h:BL l s p=true):p<l.length:=by
 unfold BL at h;simp only[Ada,decide_eq_true_eq]at h;exact h.1
theorem KG{l:List AH}{p:Nat}{y:Aw}(hf:BL l y.name p=true):Cr l p y=if(l.getD p dNmd).id.1≠y.old.1 then(15,[])else if Ai y.new=true then(0,l.eraseIdx p)else(0,l.set p ⟨(l.getD p dNmd).name,y.new⟩):=by unfold Cr;rw[hf];rfl
theorem Jc{l:List AH}{p:Nat}{y:Aw}(hf:BL l y.name p=false):Cr l p y=if AdK 32 0≠y.old.1 then(15,[])else if Ai y.new=true then(0,l)else if 64<=l.length then(3,[])else(0,l.take p++⟨y.name,y.new⟩ :: l.drop p):=by unfold Cr;rw[hf];rfl
theorem Qw:Plain AcF 154:=fun _ _=>by kernel_rfl
theorem LY{d:Option Tmp}{ty:AcK}{pos:String}{af:Array Edge}{gd:Option (Nat × Bool)}(σ:AcO->AcD)(w:AcE):(execOp σ ⟨d, .alloc 33,ty,pos,af,gd⟩).run AcF w = .ok (.value (PQ w.heap.size 0)) (w.alloc (.cells (AcH (AdK 32 0)).toArray 33)):=by kernel_rfl
theorem LZ:Plain AcF 36:=fun _ _=>by kernel_rfl
theorem Qx:Plain AcF 155:=fun _ _=>by kernel_rfl
theorem Lq(z0:ByteArray)(c1_0 c1_1 c1_2 c1_3 c1_4 c1_5 c1_6 c1_7 c1_8 c1_9 c1_10 c1_11 c1_12 c1_13 c1_14 c1_15 c1_16 c1_17 c1_18 c1_19 c1_20 c1_21 c1_22 c1_23 c1_24 c1_25 c1_26 c1_27 c1_28 c1_29 c1_30 c1_31:AcD)(w:AcE):(AdI 94 #[(0, .string z0),(1, .agg #[c1_0,c1_1,c1_2,c1_3,c1_4,c1_5,c1_6,c1_7,c1_8,c1_9,c1_10,c1_11,c1_12,c1_13,c1_14,c1_15,c1_16,c1_17,c1_18,c1_19,c1_20,c1_21,c1_22,c1_23,c1_24,c1_25,c1_26,c1_27,c1_28,c1_29,c1_30,c1_31])]).run AcF w = .ok (.agg #[.string z0,c1_0,c1_1,c1_2,c1_3,c1_4,c1_5,c1_6,c1_7,c1_8,c1_9,c1_10,c1_11,c1_12,c1_13,c1_14,c1_15,c1_16,c1_17,c1_18,c1_19,c1_20,c1_21,c1_22,c1_23,c1_24,c1_25,c1_26,c1_27,c1_28,c1_29,c1_30,c1_31]) w:=by kernel_rfl
theorem MR(z0:Aib)(z1:B7)(w:AcE):(AdI 94 #[(0,St z0),(1,AB z1.1)]).run AcF w = .ok (.agg (St (z0) :: (AcH z1.1)).toArray) w:=by
 obtain⟨z1,k1⟩:=z1;obtain⟨a1_0,a1_1,a1_2,a1_3,a1_4,a1_5,a1_6,a1_7,a1_8,a1_9,a1_10,a1_11,a1_12,a1_13,a1_14,a1_15,a1_16,a1_17,a1_18,a1_19,a1_20,a1_21,a1_22,a1_23,a1_24,a1_25,a1_26,a1_27,a1_28,a1_29,a1_30,a1_31,rfl⟩:=Kj k1;exact Lq _ _ _ _ _ _ _ _ _ _ _ _ _ _ _ _ _ _ _ _ _ _ _ _ _ _ _ _ _ _ _ _ _ w
theorem Ss(c0 c1 c2 c3 c4 c5 c6 c7 c8 c9 c10 c11 c12 c13 c14 c15 c16 c17 c18 c19 c20 c21 c22 c23 c24 c25 c26 c27 c28 c29 c30 c31 c32:AcD)(w:AcE):(Adc 31 1 #[(0, .agg #[c0,c1,c2,c3,c4,c5,c6,c7,c8,c9,c10,c11,c12,c13,c14,c15,c16,c17,c18,c19,c20,c21,c22,c23,c24,c25,c26,c27,c28,c29,c30,c31,c32])]).run AcF w = .ok (.slice (some ⟨w.heap.size,0,none⟩) 1 1) (w.alloc (.cells #[c0,c1,c2,c3,c4,c5,c6,c7,c8,c9,c10,c11,c12,c13,c14,c15,c16,c17,c18,c19,c20,c21,c22,c23,c24,c25,c26,c27,c28,c29,c30,c31,c32] 94)):=by kernel_rfl
theorem Su:∀(cs:Array AcD),cs.size=33->∀w:AcE,(Adc 31 1 #[(0, .agg cs)]).run AcF w = .ok (.slice (some ⟨w.heap.size,0,none⟩) 1 1) (w.alloc (.cells cs 94))
 | ⟨c0 :: c1 :: c2 :: c3 :: c4 :: c5 :: c6 :: c7 :: c8 :: c9 :: c10 :: c11 :: c12 :: c13 :: c14 :: c15 :: c16 :: c17 :: c18 :: c19 :: c20 :: c21 :: c22 :: c23 :: c24 :: c25 :: c26 :: c27 :: c28 :: c29 :: c30 :: c31 :: c32 :: []⟩,_,w=>Ss c0 c1 c2 c3 c4 c5 c6 c7 c8 c9 c10 c11 c12 c13 c14 c15 c16 c17 c18 c19 c20 c21 c22 c23 c24 c25 c26 c27 c28 c29 c30 c31 c32 w
theorem Qy:Plain AcF 156:=fun _ _=>by kernel_rfl
set_option maxHeartbeats 1600000
theorem KH(w:AcE)(v:AcD)(l:List AH)(hr:RG 33 nmdC w v l)(hl:l.length<=1000)(hs:DH l)(y:Aw):
  Calls AcF 131 #[v, .agg (updC y).toArray] w fun e w' =>∃v',e = .returned (.tuple #[v',NI (Am l y).1])/\OG w.heap.size 94 33 nmdC w' v' (Am l y).2/\Ext w w' :=by
 refine F2 (args:= [v, .agg (updC y).toArray]) Tryz.func131 rfl 68 rfl rfl ?_;have hE:=AbN w;refine gS (Ab3 (vr (.agg (updC y).toArray) rfl) fun n2 w3 b0 ax bg b1=> ?_);have c:=ax;clear ax;have b2:n2<w3.heap.size:=by omega
 have hE:=hE.trans bg;refine gS (AbM O2 rfl (gS (Y6 EK rfl rfl (Ac c (D4 y)) (gS (Zb Qw rfl rfl ((Sn _ v l (hr.keep hE) hl hs y.name).mono ?_))))));rintro e ay ⟨⟨p,rfl,hp⟩,ac⟩;refine⟨_,rfl,?_⟩;refine gS (AbP (vs:= [NI p, .bool (BL l y.name p)]) rfl rfl (gS (AbP (vs:= [NI p, .bool (BL l y.name p)]) rfl rfl ?_)));by_cases hf:BL l y.name p=true
 ·have hlt:p<l.length:=JZ hf;refine gS (Ace (v:=AB (AdK 32 0)) (by kernel_rfl) (gS (AbV LY fun ad bh b3 az a0 b4=> ?_)));have f:=AbN ay;have hE:=hE.trans ac;have ah:=hE.size;have h:=az;clear az;have b5:ad<bh.heap.size:=by omega
  refine gS (Zl (vr (PQ ad 0) rfl) (vr (AB (AdK 32 0)) rfl) h (by exact D3 Adq Adq) (by exact As Adq) (Ax _) fun bi a1 a2 b6=> ?_);clear h;have h:=a1;clear a1;have b7:=bl h;refine cT (vr (.bool (true)) ((show _=Aek (BL l y.name p)from rfl).trans (congrArg Aek hf))) ?_;have hE:=hE.trans a0;have hE:=Ad hE a2 (AcG ah (by omega));have b8:(nmdC (l.getD (p) dNmd)).length=33:=(AbX (hr.keep hE) dNmd (by omega));refine gS (Zk ES KA (by decide) dNmd (Zf (hr.keep hE) rfl) rfl (by omega) fun b9 a3=> ?_);have u:(AcH (l.getD (p) dNmd).id.1).length=32:=by rw[AcS,(l.getD (p) dNmd).id.2]
  refine gS (ZD (n:=32) OV (Zs a3 rfl) fun bj ae=> ?_);have ae:PR (AcH (l.getD (p) dNmd).id.1) bj bi:=(Kq (l.getD (p) dNmd))▸ae;refine gS (Zd (Zs ae rfl) VZ rfl (by rw[u];exact RX) (gS (Zl (vr (PQ ad 0) rfl) (vr (AB ((l.getD (p) dNmd).id.1)) rfl) h (by exact D3 (Ey (u)) Adq) (by exact As (Ey (u))) (Ax _) fun a4 a5 ai ca=> ?_)));clear a3;clear ae;clear h;have h:=a5;clear a5;have cb:=bl h;have f:=f.trans a0;have f:=Ad f a2 (AcG (AcI _) (by omega));have f:=Ad f ai (AcG (AcI _) (by omega));have c:=eb (ac.trans f) c;refine gS (ZC rfl h VZ rfl (by exact As (Ey (u))) (gS (AbM Jw rfl (gS (Zd (Ab1 c (Ev y) (E2 y) rfl) VZ rfl (As y.old.2) (gS (Aao (l1:=((l.getD (p) dNmd).id.1)) (l2:=y.old.1) VZ u5 Qd R9 rfl rfl ((Ey (u))) (y.old.2) ?_)))))));refine cD rfl (fun r=> ?_) fun r=> ?_
  ·have hmv:=r;refine DX rfl (vr (AcU none 0 0) rfl) (vr (NI 15) rfl) ?_;have hT:Cr l p y=(15,[]):=by rw[KG hf,if_pos hmv]
   rw[show Cr l p y=Am l y by unfold Am;rw[<-De hp]]at hT;have hE:=Ad hE ai (AcG ah (by omega));exact⟨_,by rw[hT],by rw[hT];exact(AbZ _ _ _ _ _),hE⟩
  have hmv:=r;have q:=AbN a4;have hE:=Ad hE ai (AcG ah (by omega));have bk:=hE;have bm:=f;have aj:=hE.size;refine gS (Y9 LZ rfl ((Dw _ v l (hr.keep hE) (by omega)).mono ?_));rintro e cc ⟨af,rfl,j,ak⟩;refine⟨_,rfl,?_⟩;have bn:OB af n2:=Be j.2 (bl c);have bo:OB af ad:=Be j.2 (bl h);have c:=eb ak c;refine gS (AbM Jx rfl (gS (Zd (Ab1 c (C3 y) (Db y) rfl) VZ rfl (As y.new.2) (gS (Y9 ID rfl ((B3 _ y.new).mono ?_))))));rintro e cd ⟨rfl,x⟩;refine⟨_,rfl,?_⟩;refine gO fun _=>Ae (.bool (true)) rfl rfl (gT rfl) (fun hG63=>AbT (vr (.bool (true)) ((show _=Aek (BL l y.name p)from rfl).trans (congrArg Aek hf))) ⟨rfl,rfl⟩) (At (gS (Zq rfl (fun hA=>(Ak rfl hA)) rfl fun bb64 hbb65=> ?_)));refine cB (bb64) rfl (fun s=> ?_) fun s=> ?_
  ·subst hbb65;have hz:Ai y.new=true:=by simpa using s
   have hZ1:=ak.trans x;have q:=q.trans hZ1;have j:=j.keep x;refine gS (Ze (xv:=NI p) (yv:=NI 1) rfl rfl rfl (AD _ _ _ (by omega)) (gS (Zi Qx rfl rfl rfl ((Sq a4 _ af l p q j hlt).mono ?_))));rintro e ce ⟨bp,rfl,bq,al⟩;refine⟨_,rfl,?_⟩;have hE:=hE.trans hZ1;have hE:=bk.trans al;clear c;have a6:=f.size;have f:=f.trans hZ1;have f:=bm.trans al;clear h;have q:=al;clear j;refine DX rfl (vr bp rfl) (vr (NI 0) rfl) ?_;have hT:Cr l p y=(0,l.eraseIdx p):=by rw[KG hf,if_neg hmv,if_pos hz]
   rw[show Cr l p y=Am l y by unfold Am;rw[<-De hp]]at hT;exact⟨_,by rw[hT],by rw[hT];exact(AbY bq aj),hE⟩
  subst hbb65;have hz:Ai y.new=false:=by simpa using s
  have c:=eb x c;refine gS (AbM Jx rfl (gS (Zd (Ab1 c (C3 y) (Db y) rfl) VZ rfl (As y.new.2) (gS (Y9 ID rfl ((B3 _ y.new).mono ?_))))));rintro e cf ⟨rfl,am⟩;refine⟨_,rfl,?_⟩;refine cF ((rfl).trans (congrArg Aek (hz))) ?_;have j:=j.keep (x.trans am);obtain⟨g,hg⟩:=OG.block j hlt;have c:=eb am c;refine cT (vr (.bool (true)) ((show _=Aek (BL l y.name p)from rfl).trans (congrArg Aek hf))) (gS (AbM Jx rfl (gS (Zd (Ab1 c (C3 y) (Db y) rfl) VZ rfl (As y.new.2) (gS (Abt (k:=33) (i:=p) ES KA rfl j.2 hg rfl (hlt) (gS (AbM OV rfl (gS (AaD (p:=p) (i:=y.new) rfl rfl j hg hlt RX fun cg br z=> ?_))))))))));have hZ2:=(ak.trans x).trans am;have hE:=hE.trans hZ2;have hE:=Br hE z j.2 aj;have c:=AW c z bn;have a6:=f.size;have f:=f.trans hZ2;have f:=Br f z j.2 a6;have h:=eb hZ2 h;have h:=AW h z bo;have q:=q.trans hZ2;have q:=Br q z j.2 (AcI _);clear j;refine DX rfl (vr af rfl) (vr (NI 0) rfl) ?_;have hT:Cr l p y=(0,l.set p ⟨(l.getD p dNmd).name,y.new⟩):=by rw[KG hf,if_neg hmv,if_neg (by rw[hz];decide)]
  rw[show Cr l p y=Am l y by unfold Am;rw[<-De hp]]at hT;exact⟨_,by rw[hT],by rw[hT];exact(AbY br aj),hE⟩
 replace hf:BL l y.name p=false:=by simpa using hf
 refine gS (Ace (v:=AB (AdK 32 0)) (by kernel_rfl) (gS (AbV LY fun a7 bs ch a8 an ci=> ?_)));have m:=AbN ay;have hE:=hE.trans ac;have a9:=hE.size;have t:=a8;clear a8;have cj:a7<bs.heap.size:=by omega
 refine gS (Zl (vr (PQ a7 0) rfl) (vr (AB (AdK 32 0)) rfl) t (by exact D3 Adq Adq) (by exact As Adq) (Ax _) fun ba bb ao ck=> ?_);clear t;have t:=bb;clear bb;have cl:=bl t;have m:=m.trans an;have m:=Ad m ao (AcG (AcI _) (by omega));have c:=eb (ac.trans m) c;refine cF (vr (.bool (false)) ((show _=Aek (BL l y.name p)from rfl).trans (congrArg Aek hf))) (gS (ZC rfl t VZ rfl (by exact As Adq) (gS (AbM Jw rfl (gS (Zd (Ab1 c (Ev y) (E2 y) rfl) VZ rfl (As y.old.2) (gS (Aao (l1:=(AdK 32 0)) (l2:=y.old.1) VZ u5 Qd R9 rfl rfl (Adq) (y.old.2) ?_))))))));refine cD rfl (fun r=> ?_) fun r=> ?_
 ·have hmv:=r;refine DX rfl (vr (AcU none 0 0) rfl) (vr (NI 15) rfl) ?_;have hT:Cr l p y=(15,[]):=by rw[Jc hf,if_pos hmv]
  rw[show Cr l p y=Am l y by unfold Am;rw[<-De hp]]at hT;have hE:=hE.trans an;have hE:=Ad hE ao (AcG a9 (by omega));exact⟨_,by rw[hT],by rw[hT];exact(AbZ _ _ _ _ _),hE⟩
 have hmv:=r;have ag:=AbN ba;have hE:=hE.trans an;have hE:=Ad hE ao (AcG a9 (by omega));have bt:=hE;have bu:=m;have bc:=hE.size;refine gS (Y9 LZ rfl ((Dw _ v l (hr.keep hE) (by omega)).mono ?_));rintro e cm ⟨ap,rfl,o,aq⟩;refine⟨_,rfl,?_⟩;have c:=eb aq c;refine gS (AbM Jx rfl (gS (Zd (Ab1 c (C3 y) (Db y) rfl) VZ rfl (As y.new.2) (gS (Y9 ID rfl ((B3 _ y.new).mono ?_))))));rintro e cn ⟨rfl,aa⟩;refine⟨_,rfl,?_⟩;refine gO fun _=>Ae (.bool (false)) rfl rfl (gT rfl) (fun hG118=>AbT (vr (.bool (false)) ((show _=Aek (BL l y.name p)from rfl).trans (congrArg Aek hf))) ⟨rfl,rfl⟩) (At (gS (Zq rfl (fun hA=>(Ak rfl hA)) rfl fun bb119 hbb120=> ?_)));refine cB (bb119) rfl (fun s=> ?_) fun s=> ?_
 ·(subst hbb120;simp at s)
 subst hbb120;have c:=eb aa c;refine gS (AbM Jx rfl (gS (Zd (Ab1 c (C3 y) (Db y) rfl) VZ rfl (As y.new.2) (gS (Y9 ID rfl ((B3 _ y.new).mono ?_))))));rintro e co ⟨rfl,ab⟩;refine⟨_,rfl,?_⟩;refine cB (Ai y.new) rfl (fun ar=> ?_) fun ar=> ?_
 ·have hz:=ar;refine DX rfl (vr ap rfl) (vr (NI 0) rfl) ?_;have hT:Cr l p y=(0,l):=by rw[Jc hf,if_neg hmv,if_pos hz]
  rw[show Cr l p y=Am l y by unfold Am;rw[<-De hp]]at hT;have hZ3:=(aq.trans aa).trans ab;have hE:=hE.trans hZ3;have o:=o.keep (aa.trans ab);exact⟨_,by rw[hT],by rw[hT];exact(AbY o bc),hE⟩
 have hz:=ar;have hZ4:=(aq.trans aa).trans ab;have hE:=hE.trans hZ4;refine cF (vr (.bool (false)) ((show _=Aek (BL l y.name p)from rfl).trans (congrArg Aek hf))) (gS (Zh ES (Zf (hr.keep hE) rfl) (gS (Y7 (a:=(l.length:Nat)) (b:=(64:Nat)) rfl rfl (Fw _ _ _ _) ?_))));refine cD rfl (fun bv=> ?_) fun bv=> ?_
 ·have hfu:64<=l.length:=by omega
  refine DX rfl (vr (AcU none 0 0) rfl) (vr (NI 3) rfl) ?_;have hT:Cr l p y=(3,[]):=by rw[Jc hf,if_neg hmv,if_neg (by rw[hz];decide),if_pos hfu]
  rw[show Cr l p y=Am l y by unfold Am;rw[<-De hp]]at hT;exact⟨_,by rw[hT],by rw[hT];exact(AbZ _ _ _ _ _),hE⟩
 have hfu:¬64<=l.length:=by omega
 have c:=eb ab c;refine gS (AbM O2 rfl (gS (Y6 EK rfl rfl (Ac c (D4 y)) (gS (AbM Jx rfl (gS (Zd (Ab1 c (C3 y) (Db y) rfl) VZ rfl (As y.new.2) (gS (ZU (vr (St (y.name)) rfl) (vr (AB y.new.1) rfl) (fun w=>MR y.name y.new w) (gS (AbA (enc:=nmdC) (a:=(⟨y.name,y.new⟩:AH)) (vr (.agg (nmdC (⟨y.name,y.new⟩:AH)).toArray) rfl) (BG _) Su fun bd cp cq be au cr=> ?_)))))))))));have o:=o.keep (aa.trans ab);have bw:OB ap bd:=B1 o.2 (by omega);have hZ5:=hZ4.trans au;have ag:=ag.trans hZ5;have o:=o.keep au;refine gS (Zi Qy rfl rfl rfl ((Sr ba _ ap _ l p bd (⟨y.name,y.new⟩:AH) _ ag o hp.1 (by omega) rfl be bw).mono ?_));rintro e cs ⟨bx,rfl,bz,av⟩;refine⟨_,rfl,?_⟩;have hE:=hE.trans au;have hE:=bt.trans av;clear c;have ct:=m.size;have m:=m.trans hZ5;have m:=bu.trans av;clear t;have ag:=av;clear be;clear o;refine DX rfl (vr bx rfl) (vr (NI 0) rfl) ?_;have hT:Cr l p y=(0,l.take p++⟨y.name,y.new⟩ :: l.drop p):=by rw[Jc hf,if_neg hmv,if_neg (by rw[hz];decide),if_neg hfu]
 rw[show Cr l p y=Am l y by unfold Am;rw[<-De hp]]at hT;exact⟨_,by rw[hT],by rw[hT];exact(AbY bz bc),hE⟩
abbrev B4:Af:=(⟨[],[],[109,97,105,110],zid,[]⟩,⟨.slice none 0 0, .slice none 0 0, .slice none 0 0⟩)
theorem Sv{d:Option Tmp}{ty:AcK}{pos:String}{af:Array Edge}{gd:Option (Nat × Bool)}(σ:AcO->AcD)(w:AcE):(execOp σ ⟨d, .alloc 36,ty,pos,af,gd⟩).run AcF w = .ok (.value (PQ w.heap.size 0)) (w.alloc (.cells (refsC ((⟨[],[],[],zid,[]⟩,⟨.slice none 0 0, .slice none 0 0, .slice none 0 0⟩):Af)).toArray 36)):=by kernel_rfl
theorem NB(z2:ByteArray)(w:AcE):(AdI 36 #[(2, .string z2)]).run AcF w = .ok (.agg #[.slice none 0 0, .slice none 0 0, .string z2, .int .u8 0, .int .u8 0, .int .u8 0, .int .u8 0, .int .u8 0, .int .u8 0, .int .u8 0, .int .u8 0, .int .u8 0, .int .u8 0, .int .u8 0, .int .u8 0, .int .u8 0, .int .u8 0, .int .u8 0, .int .u8 0, .int .u8 0, .int .u8 0, .int .u8 0, .int .u8 0, .int .u8 0, .int .u8 0, .int .u8 0, .int .u8 0, .int .u8 0, .int .u8 0, .int .u8 0, .int .u8 0, .int .u8 0, .int .u8 0, .int .u8 0, .int .u8 0, .slice none 0 0]) w:=by kernel_rfl
theorem O4(z2:Aib)(w:AcE):(AdI 36 #[(2,St z2)]).run AcF w = .ok (.agg ((AcU none 0 0) :: ((AcU none 0 0) :: (St (z2) :: (AcH zid.1++((AcU none 0 0) :: ([])))))).toArray) w:=by
 exact NB _ w
theorem L0:∃fs,Tryz.prog.underlying 36=some (.struct fs):=Dz (by kernel_rfl)
theorem KI:(Tryz.prog.info? 36).map (·.size)=some 36:=by kernel_rfl
theorem Sw:Ew AcF 36 refsC:=⟨⟨_,(L0).choose_spec⟩,fun x=>AO (An x) KI⟩
theorem Sx(w:AcE):
  Calls AcF 75 #[] w fun e w' =>e = .returned (.agg (refsC B4).toArray)/\Ext w w' :=by
 refine gG (args:= []) Tryz.func75 rfl 2 rfl rfl ?_;have hE:=AbN w;refine gS (AbV Sv fun b g k c h l=> ?_);have a:=c;clear c;have m:b<g.heap.size:=by omega
 refine gS (Z8 (vr (St (([109,97,105,110]:Aib))) rfl) (fun w=>O4 ([109,97,105,110]:Aib) w) (gS (Zj Sw (vr (PQ b 0) rfl) (vr (.agg (refsC ((⟨[],[],([109,97,105,110]:Aib),zid,[]⟩,⟨(AcU none 0 0),(AcU none 0 0),(AcU none 0 0)⟩):Af)).toArray) rfl) a (Ba rfl rfl rfl) fun i f j n=> ?_)));clear a;have a:i.heap[b]? =some (.cells (refsC ((⟨[],[],([109,97,105,110]:Aib),zid,[]⟩,⟨(AcU none 0 0),(AcU none 0 0),(AcU none 0 0)⟩):Af)).toArray 36 (0,0)):=f;clear f;have o:=bl a;refine Ig rfl (Ab0 rfl a (L0).choose_spec rfl (AO (An _) KI)) ?_;have hE:=hE.trans h;have hE:=Ad hE j (AcG (AcI _) (by omega));exact⟨rfl,hE⟩
def NC(r:Ar)(y:Aw):Bool:=((decide ((Am r.branches y).1=0)&&Ai y.new)&&(!Ai y.old))&&decide (r.head=y.name)
def CG(r:Ar)(y:Aw):Nat × Ar:=if NC r y=true then(16,r)else if(Am r.branches y).1=0 then(0,⟨(Am r.branches y).2,r.tags,r.head,r.at_,r.log⟩)else((Am r.branches y).1,r)
def FV(r:Ar)(y:Aw):Nat × Ar:=if(Am r.tags y).1=0 then(0,⟨r.branches,(Am r.tags y).2,r.head,r.at_,r.log⟩)else((Am r.tags y).1,r)
def M5(r:Ar)(y:Aw):Nat × Ar:=(0,⟨r.branches,r.tags,y.name,y.new,r.log⟩)
def Ca(r:Ar)(y:Aw):Nat × Ar:=if y.kind.toNat=1 then CG r y else if y.kind.toNat=2 then FV r y else M5 r y
structure AppAt (w0 w : AcE) (g : Nat) (z : Af) : Prop where
 ext:Ext w0 w
 g0:w0.heap.size<=g
 blk:w.heap[g]? =some (.cells (refsC z).toArray 36 (0,0))
 br:OG w0.heap.size 94 33 nmdC w z.2.branches z.1.branches
 tg:OG w0.heap.size 94 33 nmdC w z.2.tags z.1.tags
 lg:OG w0.heap.size 97 67 entC w z.2.log z.1.log
 ab:z.2.branches.ownBlock≠some g
 at_:z.2.tags.ownBlock≠some g
 al:z.2.log.ownBlock≠some g
 lb:CP z.2.log z.2.branches
 lt:CP z.2.log z.2.tags
theorem AppAt.keep{w0 w w' :AcE}{g:Nat}{z:Af}(h:AppAt w0 w g z)(k:Ext w w'):AppAt w0 w' g z:=⟨h.ext.trans k,h.g0,ZP k h.blk,h.br.keep k,h.tg.keep k,h.lg.keep k,h.ab,h.at_,h.al,h.lb,h.lt⟩
structure E8 (r : Ar) : Prop where
 br:DH r.branches
 tg:DH r.tags
 bl:r.branches.length<=64
 tl:r.tags.length<=64
def NewOG(t:AcK)(w0 wb w:AcE)(v:AcD)(l:List AH):Prop:=OG w0.heap.size t 33 nmdC w v l/\∀k,v.ownBlock=some k->wb.heap.size<=k
theorem NewOG.keep{t:AcK}{w0 wb w w' :AcE}{v:AcD}{l:List AH}(h:NewOG t w0 wb w v l)(k:Ext w w'):NewOG t w0 wb w' v l:=⟨h.1.keep k,h.2⟩
abbrev Acy:=@NewOG.keep
theorem AaL{t:AcK}{w0 wb w1 w:AcE}{v:AcD}{l:List AH}(h:OG w1.heap.size t 33 nmdC w v l)(h0:w0.heap.size<=wb.heap.size)(h1:wb.heap.size<=w1.heap.size):NewOG t w0 wb w v l:=⟨h.low (AcG h0 h1),fun k hk=>AcG h1 (h.2.lt k hk).1⟩
theorem NewOG.apart{t:AcK}{w0 wb w:AcE}{v:AcD}{l:List AH}{g:Nat}(h:NewOG t w0 wb w v l)(hg:g<wb.heap.size):v.ownBlock≠some g:=fun e=>by have:=h.2 g e;omega
abbrev Acw:=@NewOG.apart
theorem Aaf{α:Type}{t t' :AcK}{w0 wb w wa:AcE}{v u:AcD}{l:List AH}{b k:Nat}{enc:α->List AcD}{m:List α}(h:NewOG t w0 wb w v l)(hu:OG b t' k enc wa u m)(hle:wa.heap.size<=wb.heap.size):CP u v:=fun i h1 h2=>by
 have:=(hu.2.lt i h1).2;have:=h.2 i h2;omega
abbrev ND(f:Nat):AcD:= .func (.func f) #[] #[]
def doG:UInt8->Option Nat:=updM (updM (updM (fun _=>none) 1 (some 89)) 2 (some 90)) 3 (some 91)
theorem XC:∀u:AcE,(zeroValue 101).run AcF u = .ok Value.nilFunc u:=fun _=>by kernel_rfl
theorem Sy:∃fs,Tryz.prog.underlying 77=some (.struct fs):=Dz (by kernel_rfl)
theorem Qz:(Tryz.prog.info? 77).map (·.size)=some 66:=by kernel_rfl
theorem L1:Ew AcF 77 updC:=⟨⟨_,(Sy).choose_spec⟩,fun x=>AO (CE x) Qz⟩
theorem KJ:Plain AcF 131:=fun _ _=>by kernel_rfl
theorem KK:(Tryz.prog.info? 31).map (·.size)=some 1:=by kernel_rfl
theorem Sz:(Tryz.prog.info? 9).map (·.size)=some 1:=by kernel_rfl
theorem IH:Tryz.prog.underlying 98=some (.map 5 101):=by kernel_rfl
theorem QA(w0 w:AcE)(g:Nat)(z:Af)(hA:AppAt w0 w g z)(hS:E8 z.1)(y:Aw):
  Calls AcF 89 #[PQ g 0, .agg (updC y).toArray] w fun e w' =>∃z',(e = .returned (NI (CG z.1 y).1)/\z'.1=(CG z.1 y).2)/\AppAt w0 w' g z' /\z'.2.log=z.2.log/\w.grownBy w' (some g):=by
 have hgr:=Adb w (some g);have c:=hA.ext;have ag:=hA.g0;have hblk:=hA.blk;have hbr:=hA.br;have htg:=hA.tg;have hlg:=hA.lg;have hab:=hA.ab;have hat:=hA.at_;have hal:=hA.al;have hlb:=hA.lb;have hlt:=hA.lt;have hlg0:=hA.lg;have hgl:=(bl hblk);refine gG (args:= [PQ g 0, .agg (updC y).toArray]) Tryz.func89 rfl 45 rfl rfl ?_;have hE:=AbN w;refine gS (Ab3 (vr (.agg (updC y).toArray) rfl) fun j f au an q bx=> ?_);have r:=AbN w;have bz:=hE;have b0:=c;have b1:=hE.size;have b2:=c.size;have b3:=AR (bl hblk) au;have b4:OB z.2.branches j:=B1 hbr.2 (by omega);have b5:OB z.2.tags j:=B1 htg.2 (by omega);have b6:OB z.2.log j:=B1 hlg.2 (by omega);have hblk:=eb q hblk;have hbr:=hbr.keep q;have htg:=htg.keep q;have hlg:=hlg.keep q;have hgr:w.grownBy f (some g):=Aa hgr q.grown (fun _ e=>by cases e);have hE:=hE.trans q;have c:=c.trans q;have r:=r.trans q;have n:=an;clear an;have b7:j<f.heap.size:=by omega
 refine gR ?_;refine Fj [Is (PQ g 0),Is (PQ g 0),Is (PQ g 0),Is (z.2.branches),Is (.agg (updC y).toArray),fun x w' =>∃v,x = .tuple #[v,NI (Am z.1.branches y).1]/\NewOG 94 w0 f w' v ((Am z.1.branches y).2),fun x w' =>∃v,x = .tuple #[v,NI (Am z.1.branches y).1]/\NewOG 94 w0 f w' v ((Am z.1.branches y).2),fun x w' =>NewOG 94 w0 f w' x ((Am z.1.branches y).2),Is (NI ((Am z.1.branches y).1)),fun x w' =>NewOG 94 w0 f w' x ((Am z.1.branches y).2),Is (NI ((Am z.1.branches y).1))] (by kernel_rfl) [8,9,10,11,12,13,7,14,15,5,6] (by kernel_rfl) (by kernel_rfl) (YD ⟨(fun _ _ _ ⟨v,h1,h2⟩ k=>⟨v,h1,h2.keep k⟩),(fun _ _ _ ⟨v,h1,h2⟩ k=>⟨v,h1,h2.keep k⟩),(fun _ _ _ h k=>Acy h k),Zc _,(fun _ _ _ h k=>Acy h k),Zc _,trivial⟩) ?av ?hQ1001
 case av=>
  refine⟨?_,?_,?_,?_,?_,?_,?_,?_,?_,?_,?_,trivial⟩
  ·refine AJ rfl fun σ w1 hC h=> ?_;have e0:σ 0=PQ g 0:=(AM (h 0 (by decide))).trans rfl;exact AbT e0 ⟨AbN _,rfl⟩
  ·refine AJ rfl fun σ w1 hC h=> ?_;have e8:=AM (h 8 (by decide));exact AbO e8 ⟨AbN _,rfl⟩
  ·refine AJ rfl fun σ w1 hC h=> ?_;have e9:=AM (h 9 (by decide));exact AbM OW e9 ⟨AbN _,rfl⟩
  ·refine AJ rfl fun σ w1 hC h=> ?_;have ay:=AM (h 10 (by decide));exact Y6 ES rfl ay (Ac (eb hC hblk) (C1 z)) ⟨AbN _,rfl⟩
  ·refine AJ rfl fun σ w1 hC h=> ?_;have s:σ 3=PQ j 0:=(AM (h 3 (by decide))).trans rfl;exact Zr L1 s (eb hC n) ⟨AbN _,rfl⟩
  ·refine AJ rfl fun σ w1 hC h=> ?_;have az:=AM (h 11 (by decide));have a0:=AM (h 12 (by decide));refine Zb KJ az a0 ((KH _ z.2.branches z.1.branches (Y8 (hbr.keep hC)) (by have:=hS.bl;omega) hS.br y).mono ?_);rintro e w2 ⟨v,rfl,ho,hx⟩;exact⟨_,rfl,hx,v,rfl,AaL ho c.size hC.size⟩
  ·refine AJ rfl fun σ w1 hC h=> ?_;have a1:(fun x w' =>∃v,x = .tuple #[v,NI (Am z.1.branches y).1]/\NewOG 94 w0 f w' v ((Am z.1.branches y).2)) (σ 13) w1:=h 13 (by decide);exact AbT rfl ⟨AbN _,a1⟩
  ·refine AJ rfl fun σ w1 hC h=> ?_;have e7:(fun x w' =>∃v,x = .tuple #[v,NI (Am z.1.branches y).1]/\NewOG 94 w0 f w' v ((Am z.1.branches y).2)) (σ 7) w1:=h 7 (by decide);obtain⟨v0,h1_,h2_⟩:=e7;exact AbP (vs:= [v0,_]) h1_ (show _=some v0 from rfl) ⟨AbN _,h2_⟩
  ·refine AJ rfl fun σ w1 hC h=> ?_;have e7:(fun x w' =>∃v,x = .tuple #[v,NI (Am z.1.branches y).1]/\NewOG 94 w0 f w' v ((Am z.1.branches y).2)) (σ 7) w1:=h 7 (by decide);obtain⟨v0,h1_,h2_⟩:=e7;exact AbP (vs:= [v0,NI (Am z.1.branches y).1]) h1_ (show _=some (NI (Am z.1.branches y).1:AcD)from rfl) ⟨AbN _,rfl⟩
  ·refine AJ rfl fun σ w1 hC h=> ?_;have a2:(fun x w' =>NewOG 94 w0 f w' x ((Am z.1.branches y).2)) (σ 14) w1:=h 14 (by decide);exact Ab6 rfl ⟨AbN _,a2⟩
  ·refine AJ rfl fun σ w1 hC h=> ?_;have a3:=AM (h 15 (by decide));exact Ab6 a3 ⟨AbN _,rfl⟩
 intro aj ao p he hf;obtain⟨-,-,-,-,-,-,-,-,-,k5,k6,-⟩:=hf;obtain⟨T0,T1,T3,T4,-⟩:=he.hold [(0,PQ g 0),(1, .agg (updC y).toArray),(3,PQ j 0),(4,NI 0)] ⟨rfl,rfl,rfl,rfl,trivial⟩ rfl;clear he;have hblk:=eb p hblk;have hbr:=hbr.keep p;have htg:=htg.keep p;have hlg:=hlg.keep p;have hgr:w.grownBy ao (some g):=Aa hgr p.grown (fun _ e=>by cases e);have hE:=hE.trans p;have c:=c.trans p;have r:=r.trans p;have n:=eb p n;have k5:(fun x w' =>NewOG 94 w0 f w' x ((Am z.1.branches y).2)) (aj 5) ao:=k5;obtain⟨t,T5⟩:∃v,aj 5=v:=⟨_,rfl⟩;rw[T5]at k5;have ad:=k5;clear k5;have ap:OB t g:=Acw ad (by omega);have b8:OB t j:=Acw ad (by omega);have a4:CP z.2.log t:=Aaf ad hlg0 (by omega);have u:=ad.1;clear ad;have T6:aj 6=NI ((Am z.1.branches y).1):=k6;clear k6;refine gX (gR ?_);refine Fj [Is (NI ((Am z.1.branches y).1)),Is (.bool (decide (((Am z.1.branches y).1:Nat)=(0)))),Is (.bool (decide (((Am z.1.branches y).1:Nat)=(0)))),Is (cond ((decide (((Am z.1.branches y).1:Nat)=(0)))) (PQ j 34) undef),Is (cond ((decide (((Am z.1.branches y).1:Nat)=(0)))) (AB y.new.1) undef),Is (cond ((decide (((Am z.1.branches y).1:Nat)=(0)))) (.bool (Ai y.new)) undef),Is (.bool ((decide (((Am z.1.branches y).1:Nat)=(0)))&&(Ai y.new))),Is (.bool ((decide (((Am z.1.branches y).1:Nat)=(0)))&&(Ai y.new))),Is (cond ((decide (((Am z.1.branches y).1:Nat)=(0)))&&(Ai y.new)) (PQ j 2) undef),Is (cond ((decide (((Am z.1.branches y).1:Nat)=(0)))&&(Ai y.new)) (AB y.old.1) undef),Is (cond ((decide (((Am z.1.branches y).1:Nat)=(0)))&&(Ai y.new)) (.bool (Ai y.old)) undef),Is (cond ((decide (((Am z.1.branches y).1:Nat)=(0)))&&(Ai y.new)) (.bool (!(Ai y.old))) undef),Is (.bool (((decide (((Am z.1.branches y).1:Nat)=(0)))&&(Ai y.new))&&(!(Ai y.old)))),Is (.bool (((decide (((Am z.1.branches y).1:Nat)=(0)))&&(Ai y.new))&&(!(Ai y.old)))),Is (cond (((decide (((Am z.1.branches y).1:Nat)=(0)))&&(Ai y.new))&&(!(Ai y.old))) (PQ g 0) undef),Is (cond (((decide (((Am z.1.branches y).1:Nat)=(0)))&&(Ai y.new))&&(!(Ai y.old))) (PQ g 0) undef),Is (cond (((decide (((Am z.1.branches y).1:Nat)=(0)))&&(Ai y.new))&&(!(Ai y.old))) (PQ g 2) undef),Is (cond (((decide (((Am z.1.branches y).1:Nat)=(0)))&&(Ai y.new))&&(!(Ai y.old))) (St (z.1.head)) undef),Is (cond (((decide (((Am z.1.branches y).1:Nat)=(0)))&&(Ai y.new))&&(!(Ai y.old))) (PQ j 1) undef),Is (cond (((decide (((Am z.1.branches y).1:Nat)=(0)))&&(Ai y.new))&&(!(Ai y.old))) (St (y.name)) undef),Is (cond (((decide (((Am z.1.branches y).1:Nat)=(0)))&&(Ai y.new))&&(!(Ai y.old))) (.bool (decide ((z.1.head:Aib)=(y.name:Aib)))) undef),Is (.bool ((((decide (((Am z.1.branches y).1:Nat)=(0)))&&(Ai y.new))&&(!(Ai y.old)))&&(decide ((z.1.head:Aib)=(y.name:Aib)))))] (by kernel_rfl) [16,17,18,19,20,21,22,23,24,25,26,27,28,29,30,31,32,33,34,35,36,37] (by kernel_rfl) (by kernel_rfl) (YJ (Ua trivial)) ?a5 ?hQ2002
 case a5=>
  refine⟨?_,?_,?_,?_,?_,?_,?_,?_,?_,?_,?_,?_,?_,?_,?_,?_,?_,?_,?_,?_,?_,?_,trivial⟩
  ·refine AJ rfl fun σ w1 hC h=> ?_;have e6:=(AM (h 6 (by decide))).trans T6;exact AbT e6 ⟨AbN _,rfl⟩
  ·refine AJ rfl fun σ w1 hC h=> ?_;have a7:=AM (h 16 (by decide));exact Y7 (a:=((Am z.1.branches y).1:Nat)) (b:=(0:Nat)) a7 rfl (AK _ _ _ _) ⟨AbN _,rfl⟩
  ·refine AJ rfl fun σ w1 hC h=> ?_;have a8:=AM (h 17 (by decide));exact AbT a8 ⟨AbN _,rfl⟩
  ·refine A8 2 true 18 (G:=(decide (((Am z.1.branches y).1:Nat)=(0)))) rfl rfl (fun x _ (h:x = .bool (decide (((Am z.1.branches y).1:Nat)=(0))))=>gT h) (fun hu_ _=>Bu hu_) fun hG σ w1 hC h=> ?_;have s:=(AM (h 3 (by decide))).trans T3;exact AbM Jx s ⟨AbN _,Bt hG⟩
  ·refine A8 2 true 18 (G:=(decide (((Am z.1.branches y).1:Nat)=(0)))) rfl rfl (fun x _ (h:x = .bool (decide (((Am z.1.branches y).1:Nat)=(0))))=>gT h) (fun hu_ _=>Bu hu_) fun hG σ w1 hC h=> ?_;have a9:=AM (h 19 (by decide));exact Zd (Ab1 (eb hC n) (C3 y) (Db y) (Ak a9 hG)) VZ rfl (As y.new.2) ⟨AbN _,Bt hG⟩
  ·refine A8 2 true 18 (G:=(decide (((Am z.1.branches y).1:Nat)=(0)))) rfl rfl (fun x _ (h:x = .bool (decide (((Am z.1.branches y).1:Nat)=(0))))=>gT h) (fun hu_ _=>Bu hu_) fun hG σ w1 hC h=> ?_;have ba:=AM (h 20 (by decide));refine Y9 ID (Ak ba hG) ((B3 _ y.new).mono ?_);rintro e w2 ⟨rfl,hx⟩;exact⟨_,rfl,hx,Bt hG⟩
  ·refine AJ rfl fun σ w1 hC h=> ?_;have bb:=AM (h 18 (by decide));have bc:=AM (h 21 (by decide));exact ZL bb (fun hA=>(Ak bc hA)) (vr (.bool (false)) rfl) ⟨AbN _,rfl⟩
  ·refine AJ rfl fun σ w1 hC h=> ?_;have bd:=AM (h 22 (by decide));exact AbT bd ⟨AbN _,rfl⟩
  ·refine A8 7 true 23 (G:=(decide (((Am z.1.branches y).1:Nat)=(0)))&&(Ai y.new)) rfl rfl (fun x _ (h:x = .bool ((decide (((Am z.1.branches y).1:Nat)=(0)))&&(Ai y.new)))=>gT h) (fun hu_ _=>Bu hu_) fun hG σ w1 hC h=> ?_;have s:=(AM (h 3 (by decide))).trans T3;exact AbM Jw s ⟨AbN _,Bt hG⟩
  ·refine A8 7 true 23 (G:=(decide (((Am z.1.branches y).1:Nat)=(0)))&&(Ai y.new)) rfl rfl (fun x _ (h:x = .bool ((decide (((Am z.1.branches y).1:Nat)=(0)))&&(Ai y.new)))=>gT h) (fun hu_ _=>Bu hu_) fun hG σ w1 hC h=> ?_;have be:=AM (h 24 (by decide));exact Zd (Ab1 (eb hC n) (Ev y) (E2 y) (Ak be hG)) VZ rfl (As y.old.2) ⟨AbN _,Bt hG⟩
  ·refine A8 7 true 23 (G:=(decide (((Am z.1.branches y).1:Nat)=(0)))&&(Ai y.new)) rfl rfl (fun x _ (h:x = .bool ((decide (((Am z.1.branches y).1:Nat)=(0)))&&(Ai y.new)))=>gT h) (fun hu_ _=>Bu hu_) fun hG σ w1 hC h=> ?_;have bf:=AM (h 25 (by decide));refine Y9 ID (Ak bf hG) ((B3 _ y.old).mono ?_);rintro e w2 ⟨rfl,hx⟩;exact⟨_,rfl,hx,Bt hG⟩
  ·refine A8 7 true 23 (G:=(decide (((Am z.1.branches y).1:Nat)=(0)))&&(Ai y.new)) rfl rfl (fun x _ (h:x = .bool ((decide (((Am z.1.branches y).1:Nat)=(0)))&&(Ai y.new)))=>gT h) (fun hu_ _=>Bu hu_) fun hG σ w1 hC h=> ?_;have bg:=AM (h 26 (by decide));exact Zn (Ak bg hG) ⟨AbN _,Bt hG⟩
  ·refine AJ rfl fun σ w1 hC h=> ?_;have bh:=AM (h 23 (by decide));have bi:=AM (h 27 (by decide));exact ZL bh (fun hA=>(Ak bi hA)) (vr (.bool (false)) rfl) ⟨AbN _,rfl⟩
  ·refine AJ rfl fun σ w1 hC h=> ?_;have bj:=AM (h 28 (by decide));exact AbT bj ⟨AbN _,rfl⟩
  ·refine A8 13 true 29 (G:=((decide (((Am z.1.branches y).1:Nat)=(0)))&&(Ai y.new))&&(!(Ai y.old))) rfl rfl (fun x _ (h:x = .bool (((decide (((Am z.1.branches y).1:Nat)=(0)))&&(Ai y.new))&&(!(Ai y.old))))=>gT h) (fun hu_ _=>Bu hu_) fun hG σ w1 hC h=> ?_;have e0:=(AM (h 0 (by decide))).trans T0;exact AbT e0 ⟨AbN _,Bt hG⟩
  ·refine A8 13 true 29 (G:=((decide (((Am z.1.branches y).1:Nat)=(0)))&&(Ai y.new))&&(!(Ai y.old))) rfl rfl (fun x _ (h:x = .bool (((decide (((Am z.1.branches y).1:Nat)=(0)))&&(Ai y.new))&&(!(Ai y.old))))=>gT h) (fun hu_ _=>Bu hu_) fun hG σ w1 hC h=> ?_;have bk:=AM (h 30 (by decide));exact AbO (Ak bk hG) ⟨AbN _,Bt hG⟩
  ·refine A8 13 true 29 (G:=((decide (((Am z.1.branches y).1:Nat)=(0)))&&(Ai y.new))&&(!(Ai y.old))) rfl rfl (fun x _ (h:x = .bool (((decide (((Am z.1.branches y).1:Nat)=(0)))&&(Ai y.new))&&(!(Ai y.old))))=>gT h) (fun hu_ _=>Bu hu_) fun hG σ w1 hC h=> ?_;have bm:=AM (h 31 (by decide));exact AbM GV (Ak bm hG) ⟨AbN _,Bt hG⟩
  ·refine A8 13 true 29 (G:=((decide (((Am z.1.branches y).1:Nat)=(0)))&&(Ai y.new))&&(!(Ai y.old))) rfl rfl (fun x _ (h:x = .bool (((decide (((Am z.1.branches y).1:Nat)=(0)))&&(Ai y.new))&&(!(Ai y.old))))=>gT h) (fun hu_ _=>Bu hu_) fun hG σ w1 hC h=> ?_;have bn:=AM (h 32 (by decide));exact Y6 EK rfl (Ak bn hG) (Ac (eb hC hblk) (EP z)) ⟨AbN _,Bt hG⟩
  ·refine A8 13 true 29 (G:=((decide (((Am z.1.branches y).1:Nat)=(0)))&&(Ai y.new))&&(!(Ai y.old))) rfl rfl (fun x _ (h:x = .bool (((decide (((Am z.1.branches y).1:Nat)=(0)))&&(Ai y.new))&&(!(Ai y.old))))=>gT h) (fun hu_ _=>Bu hu_) fun hG σ w1 hC h=> ?_;have s:=(AM (h 3 (by decide))).trans T3;exact AbM O2 s ⟨AbN _,Bt hG⟩
  ·refine A8 13 true 29 (G:=((decide (((Am z.1.branches y).1:Nat)=(0)))&&(Ai y.new))&&(!(Ai y.old))) rfl rfl (fun x _ (h:x = .bool (((decide (((Am z.1.branches y).1:Nat)=(0)))&&(Ai y.new))&&(!(Ai y.old))))=>gT h) (fun hu_ _=>Bu hu_) fun hG σ w1 hC h=> ?_;have bo:=AM (h 34 (by decide));exact Y6 EK rfl (Ak bo hG) (Ac (eb hC n) (D4 y)) ⟨AbN _,Bt hG⟩
  ·refine A8 13 true 29 (G:=((decide (((Am z.1.branches y).1:Nat)=(0)))&&(Ai y.new))&&(!(Ai y.old))) rfl rfl (fun x _ (h:x = .bool (((decide (((Am z.1.branches y).1:Nat)=(0)))&&(Ai y.new))&&(!(Ai y.old))))=>gT h) (fun hu_ _=>Bu hu_) fun hG σ w1 hC h=> ?_;have bp:=AM (h 33 (by decide));have bq:=AM (h 35 (by decide));exact Z0 (l:=z.1.head) (m:=y.name) (.inl rfl) (Ak bp hG) (Ak bq hG) (decide ((z.1.head:Aib)=(y.name:Aib))) rfl ⟨AbN _,Bt hG⟩
  ·refine AJ rfl fun σ w1 hC h=> ?_;have bs:=AM (h 29 (by decide));have bt:=AM (h 36 (by decide));exact ZL bs (fun hA=>(Ak bt hA)) (vr (.bool (false)) rfl) ⟨AbN _,rfl⟩
 intro bu bv o he hf;obtain⟨-,-,-,-,-,-,-,-,-,-,-,-,-,-,-,-,-,-,-,-,-,k37,-⟩:=hf;obtain⟨T0,T1,T3,T4,T5,T6,-⟩:=he.hold [(0,_),(1,_),(3,_),(4,_),(5,_),(6,_)] ⟨T0,T1,T3,T4,T5,T6,trivial⟩ rfl;clear he;have hblk:=eb o hblk;have hbr:=hbr.keep o;have htg:=htg.keep o;have hlg:=hlg.keep o;have hgr:w.grownBy bv (some g):=Aa hgr o.grown (fun _ e=>by cases e);have hE:=hE.trans o;have c:=c.trans o;have r:=r.trans o;have n:=eb o n;have u:=u.keep o;have bw:bu 37 = .bool ((((decide (((Am z.1.branches y).1:Nat)=(0)))&&(Ai y.new))&&(!(Ai y.old)))&&(decide ((z.1.head:Aib)=(y.name:Aib)))):=k37;clear k37;refine gX ?_;refine cB ((((decide (((Am z.1.branches y).1:Nat)=(0)))&&(Ai y.new))&&(!(Ai y.old)))&&(decide ((z.1.head:Aib)=(y.name:Aib)))) bw (fun ak=> ?_) fun ak=> ?_
 ·have h0c:NC z.1 y=true:=ak;refine AE rfl (vr (NI 16) rfl) ?_;exact⟨z,⟨by unfold CG;rw[if_pos h0c],by unfold CG;rw[if_pos h0c]⟩,⟨c,ag,hblk,hbr,htg,hlg,hab,hat,hal,hlb,hlt⟩,rfl,hgr⟩
 have h0c:NC z.1 y=false:=ak;refine gS (Y7 (a:=((Am z.1.branches y).1:Nat)) (b:=(0:Nat)) T6 rfl (AK _ _ _ _) ?_);refine cD rfl (fun am=> ?_) fun am=> ?_
 ·have h1c:=am;refine gS (AbO T0 (gS (AbM OW rfl (gS (Za (i:=0) (v:=t) rfl T5 hblk (by rw[An];decide) KK (AbS (Y8 u)).1 (AbS (Y8 u)).2 fun aq ar aa b9=> ?_)))));have hbr:=AbQ hbr aa hab;have htg:=AbQ htg aa hat;have hlg:=AbQ hlg aa hal;have hgr:w.grownBy aq (some g):=Aa hgr aa (fun _ e=> .inl e);clear hE;have c:=Ad c aa (AcG (AcI _) (by omega));clear r;have n:=kb aa n (by omega);have u:=AbQ u aa ap;clear hblk;have hblk:aq.heap[g]? =some (.cells (refsC ((⟨(Am z.1.branches y).2,z.1.tags,z.1.head,z.1.at_,z.1.log⟩,⟨t,z.2.tags,z.2.log⟩):Af)).toArray 36 (0,0)):=Az ar (Hg z t ((Am z.1.branches y).2));clear ar;have ca:=bl hblk;refine AE rfl T6 ?_;exact⟨((⟨(Am z.1.branches y).2,z.1.tags,z.1.head,z.1.at_,z.1.log⟩,⟨t,z.2.tags,z.2.log⟩):Af),⟨by unfold CG;rw[if_neg (by rw[h0c];decide),if_pos h1c,h1c],by unfold CG;rw[if_neg (by rw[h0c];decide),if_pos h1c]⟩,⟨c,ag,hblk,u,htg,hlg,ap,hat,hal,a4,hlt⟩,rfl,hgr⟩
 have h1c:=am;refine AE rfl T6 ?_;exact⟨z,⟨by unfold CG;rw[if_neg (by rw[h0c];decide),if_neg h1c],by unfold CG;rw[if_neg (by rw[h0c];decide),if_neg h1c]⟩,⟨c,ag,hblk,hbr,htg,hlg,hab,hat,hal,hlb,hlt⟩,rfl,hgr⟩
theorem Ws(w0 w:AcE)(g:Nat)(z:Af)(hA:AppAt w0 w g z)(hS:E8 z.1)(y:Aw):
  Calls AcF 90 #[PQ g 0, .agg (updC y).toArray] w fun e w' =>∃z',(e = .returned (NI (FV z.1 y).1)/\z'.1=(FV z.1 y).2)/\AppAt w0 w' g z' /\z'.2.log=z.2.log/\w.grownBy w' (some g):=by
 have hgr:=Adb w (some g);have c:=hA.ext;have ae:=hA.g0;have hblk:=hA.blk;have hbr:=hA.br;have htg:=hA.tg;have hlg:=hA.lg;have hab:=hA.ab;have hat:=hA.at_;have hal:=hA.al;have hlb:=hA.lb;have hlt:=hA.lt;have hlg0:=hA.lg;have hgl:=(bl hblk);refine gG (args:= [PQ g 0, .agg (updC y).toArray]) Tryz.func90 rfl 23 rfl rfl ?_;have hE:=AbN w;refine gS (Ab3 (vr (.agg (updC y).toArray) rfl) fun m f ak af l a1=> ?_);have p:=AbN w;have a2:=hE;have a3:=c;have a4:=hE.size;have a5:=c.size;have a6:=AR (bl hblk) ak;have a7:OB z.2.branches m:=B1 hbr.2 (by omega);have a8:OB z.2.tags m:=B1 htg.2 (by omega);have a9:OB z.2.log m:=B1 hlg.2 (by omega);have hblk:=eb l hblk;have hbr:=hbr.keep l;have htg:=htg.keep l;have hlg:=hlg.keep l;have hgr:w.grownBy f (some g):=Aa hgr l.grown (fun _ e=>by cases e);have hE:=hE.trans l;have c:=c.trans l;have p:=p.trans l;have q:=af;clear af;have ba:m<f.heap.size:=by omega
 refine gR ?_;refine Fj [Is (PQ g 0),Is (PQ g 0),Is (PQ g 1),Is (z.2.tags),Is (.agg (updC y).toArray),fun x w' =>∃v,x = .tuple #[v,NI (Am z.1.tags y).1]/\NewOG 94 w0 f w' v ((Am z.1.tags y).2),fun x w' =>∃v,x = .tuple #[v,NI (Am z.1.tags y).1]/\NewOG 94 w0 f w' v ((Am z.1.tags y).2),fun x w' =>NewOG 94 w0 f w' x ((Am z.1.tags y).2),Is (NI ((Am z.1.tags y).1)),fun x w' =>NewOG 94 w0 f w' x ((Am z.1.tags y).2),Is (NI ((Am z.1.tags y).1))] (by kernel_rfl) [8,9,10,11,12,13,7,14,15,5,6] (by kernel_rfl) (by kernel_rfl) (YD ⟨(fun _ _ _ ⟨v,h1,h2⟩ k=>⟨v,h1,h2.keep k⟩),(fun _ _ _ ⟨v,h1,h2⟩ k=>⟨v,h1,h2.keep k⟩),(fun _ _ _ h k=>Acy h k),Zc _,(fun _ _ _ h k=>Acy h k),Zc _,trivial⟩) ?am ?hQ1001
 case am=>
  refine⟨?_,?_,?_,?_,?_,?_,?_,?_,?_,?_,?_,trivial⟩
  ·refine AJ rfl fun σ w1 hC h=> ?_;have e0:σ 0=PQ g 0:=(AM (h 0 (by decide))).trans rfl;exact AbT e0 ⟨AbN _,rfl⟩
  ·refine AJ rfl fun σ w1 hC h=> ?_;have e8:=AM (h 8 (by decide));exact AbO e8 ⟨AbN _,rfl⟩
  ·refine AJ rfl fun σ w1 hC h=> ?_;have e9:=AM (h 9 (by decide));exact AbM OX e9 ⟨AbN _,rfl⟩
  ·refine AJ rfl fun σ w1 hC h=> ?_;have aq:=AM (h 10 (by decide));exact Y6 ES rfl aq (Ac (eb hC hblk) (Du z)) ⟨AbN _,rfl⟩
  ·refine AJ rfl fun σ w1 hC h=> ?_;have e3:σ 3=PQ m 0:=(AM (h 3 (by decide))).trans rfl;exact Zr L1 e3 (eb hC q) ⟨AbN _,rfl⟩
  ·refine AJ rfl fun σ w1 hC h=> ?_;have au:=AM (h 11 (by decide));have av:=AM (h 12 (by decide));refine Zb KJ au av ((KH _ z.2.tags z.1.tags (Y8 (htg.keep hC)) (by have:=hS.tl;omega) hS.tg y).mono ?_);rintro e w2 ⟨v,rfl,ho,hx⟩;exact⟨_,rfl,hx,v,rfl,AaL ho c.size hC.size⟩
  ·refine AJ rfl fun σ w1 hC h=> ?_;have aw:(fun x w' =>∃v,x = .tuple #[v,NI (Am z.1.tags y).1]/\NewOG 94 w0 f w' v ((Am z.1.tags y).2)) (σ 13) w1:=h 13 (by decide);exact AbT rfl ⟨AbN _,aw⟩
  ·refine AJ rfl fun σ w1 hC h=> ?_;have u:(fun x w' =>∃v,x = .tuple #[v,NI (Am z.1.tags y).1]/\NewOG 94 w0 f w' v ((Am z.1.tags y).2)) (σ 7) w1:=h 7 (by decide);obtain⟨t,h1_,h2_⟩:=u;exact AbP (vs:= [t,_]) h1_ (show _=some t from rfl) ⟨AbN _,h2_⟩
  ·refine AJ rfl fun σ w1 hC h=> ?_;have u:(fun x w' =>∃v,x = .tuple #[v,NI (Am z.1.tags y).1]/\NewOG 94 w0 f w' v ((Am z.1.tags y).2)) (σ 7) w1:=h 7 (by decide);obtain⟨t,h1_,h2_⟩:=u;exact AbP (vs:= [t,NI (Am z.1.tags y).1]) h1_ (show _=some (NI (Am z.1.tags y).1:AcD)from rfl) ⟨AbN _,rfl⟩
  ·refine AJ rfl fun σ w1 hC h=> ?_;have ax:(fun x w' =>NewOG 94 w0 f w' x ((Am z.1.tags y).2)) (σ 14) w1:=h 14 (by decide);exact Ab6 rfl ⟨AbN _,ax⟩
  ·refine AJ rfl fun σ w1 hC h=> ?_;have ay:=AM (h 15 (by decide));exact Ab6 ay ⟨AbN _,rfl⟩
 intro aa ag j he hf;obtain⟨-,-,-,-,-,-,-,-,-,k5,k6,-⟩:=hf;obtain⟨T0,T1,T3,T4,-⟩:=he.hold [(0,PQ g 0),(1, .agg (updC y).toArray),(3,PQ m 0),(4,NI 0)] ⟨rfl,rfl,rfl,rfl,trivial⟩ rfl;clear he;have hblk:=eb j hblk;have hbr:=hbr.keep j;have htg:=htg.keep j;have hlg:=hlg.keep j;have hgr:w.grownBy ag (some g):=Aa hgr j.grown (fun _ e=>by cases e);have hE:=hE.trans j;have c:=c.trans j;have p:=p.trans j;have q:=eb j q;have k5:(fun x w' =>NewOG 94 w0 f w' x ((Am z.1.tags y).2)) (aa 5) ag:=k5;obtain⟨n,T5⟩:∃v,aa 5=v:=⟨_,rfl⟩;rw[T5]at k5;have r:=k5;clear k5;have ah:OB n g:=Acw r (by omega);have bb:OB n m:=Acw r (by omega);have a0:CP z.2.log n:=Aaf r hlg0 (by omega);have s:=r.1;clear r;have T6:aa 6=NI ((Am z.1.tags y).1):=k6;clear k6;refine gX (gS (Y7 (a:=((Am z.1.tags y).1:Nat)) (b:=(0:Nat)) T6 rfl (AK _ _ _ _) ?_));refine cD rfl (fun ad=> ?_) fun ad=> ?_
 ·have h1c:=ad;refine gS (AbO T0 (gS (AbM OX rfl (gS (Za (i:=1) (v:=n) rfl T5 hblk (by rw[An];decide) KK (AbS (Y8 s)).1 (AbS (Y8 s)).2 fun ai aj o bc=> ?_)))));have hbr:=AbQ hbr o hab;have htg:=AbQ htg o hat;have hlg:=AbQ hlg o hal;have hgr:w.grownBy ai (some g):=Aa hgr o (fun _ e=> .inl e);clear hE;have c:=Ad c o (AcG (AcI _) (by omega));clear p;have q:=kb o q (by omega);have s:=AbQ s o ah;clear hblk;have hblk:ai.heap[g]? =some (.cells (refsC ((⟨z.1.branches,(Am z.1.tags y).2,z.1.head,z.1.at_,z.1.log⟩,⟨z.2.branches,n,z.2.log⟩):Af)).toArray 36 (0,0)):=Az aj (Hh z n ((Am z.1.tags y).2));clear aj;have bd:=bl hblk;refine AE rfl T6 ?_;exact⟨((⟨z.1.branches,(Am z.1.tags y).2,z.1.head,z.1.at_,z.1.log⟩,⟨z.2.branches,n,z.2.log⟩):Af),⟨by unfold FV;rw[if_pos h1c,h1c],by unfold FV;rw[if_pos h1c]⟩,⟨c,ae,hblk,hbr,s,hlg,hab,ah,hal,hlb,a0⟩,rfl,hgr⟩
 have h1c:=ad;refine AE rfl T6 ?_;exact⟨z,⟨by unfold FV;rw[if_neg h1c],by unfold FV;rw[if_neg h1c]⟩,⟨c,ae,hblk,hbr,htg,hlg,hab,hat,hal,hlb,hlt⟩,rfl,hgr⟩
theorem Ur(w0 w:AcE)(g:Nat)(z:Af)(hA:AppAt w0 w g z)(hS:E8 z.1)(y:Aw):
  Calls AcF 91 #[PQ g 0, .agg (updC y).toArray] w fun e w' =>∃z',(e = .returned (NI (M5 z.1 y).1)/\z'.1=(M5 z.1 y).2)/\AppAt w0 w' g z' /\z'.2.log=z.2.log/\w.grownBy w' (some g):=by
 have hgr:=Adb w (some g);have b:=hA.ext;have u:=hA.g0;have hblk:=hA.blk;have hbr:=hA.br;have htg:=hA.tg;have hlg:=hA.lg;have hab:=hA.ab;have hat:=hA.at_;have hal:=hA.al;have hlb:=hA.lb;have hlt:=hA.lt;have hlg0:=hA.lg;have hgl:=(bl hblk);refine gG (args:= [PQ g 0, .agg (updC y).toArray]) Tryz.func91 rfl 15 rfl rfl ?_;have hE:=AbN w;refine gS (Ab3 (vr (.agg (updC y).toArray) rfl) fun n o x p h ac=> ?_);have l:=AbN w;have ad:=hE;have ae:=b;have af:=hE.size;have ag:=b.size;have ah:=AR (bl hblk) x;have ai:OB z.2.branches n:=B1 hbr.2 (by omega);have aj:OB z.2.tags n:=B1 htg.2 (by omega);have ak:OB z.2.log n:=B1 hlg.2 (by omega);have hblk:=eb h hblk;have hbr:=hbr.keep h;have htg:=htg.keep h;have hlg:=hlg.keep h;have hgr:w.grownBy o (some g):=Aa hgr h.grown (fun _ e=>by cases e);have hE:=hE.trans h;have b:=b.trans h;have l:=l.trans h;have c:=p;clear p;have am:n<o.heap.size:=by omega
 refine Fg [0,1,2,3,4,5,6,7,8,9,10,11] [8,11] [4] [5] fun aa f=> ?_;have hblk:=eb f hblk;have hbr:=hbr.keep f;have htg:=htg.keep f;have hlg:=hlg.keep f;have hgr:w.grownBy aa (some g):=Aa hgr f.grown (fun _ e=>by cases e);have hE:=hE.trans f;have b:=b.trans f;have l:=l.trans f;have c:=eb f c;refine RR c ?_;refine ys (AbM O2 rfl zz) (ys (Y6 EK rfl rfl (Ac c (D4 y)) zz) (yp (AbM Jx rfl zz) (yf (fun _ ⟨c,_⟩=>Zd (Ab1 c (C3 y) (Db y) rfl) VZ rfl (As y.new.2) zz) (ys (AbO rfl zz) (ys (AbM GV rfl zz) (yI (Za (i:=2) (v:=St (y.name)) rfl rfl hblk (by rw[An];decide) Sz rfl rfl fun q r j an=> ?_)))))));have hbr:=AbQ hbr j hab;have htg:=AbQ htg j hat;have hlg:=AbQ hlg j hal;have hgr:w.grownBy q (some g):=Aa hgr j (fun _ e=> .inl e);clear hE;have b:=Ad b j (AcG (AcI _) (by omega));clear l;have c:=kb j c (by omega);clear hblk;have hblk:q.heap[g]? =some (.cells (refsC ((⟨z.1.branches,z.1.tags,y.name,z.1.at_,z.1.log⟩,⟨z.2.branches,z.2.tags,z.2.log⟩):Af)).toArray 36 (0,0)):=Az r (Ll z y.name);clear r;have ao:=bl hblk;refine⟨⟨c,trivial⟩,?_⟩;refine ys (AbO rfl zz) (ys (AbM Ju rfl zz) (yD rfl (ZG (a:=EQ ((⟨z.1.branches,z.1.tags,y.name,z.1.at_,z.1.log⟩,⟨z.2.branches,z.2.tags,z.2.log⟩):Af)) (m:=AcH z.1.at_.1) (z:=Gc ((⟨z.1.branches,z.1.tags,y.name,z.1.at_,z.1.log⟩,⟨z.2.branches,z.2.tags,z.2.log⟩):Af)) (cells:=AcH y.new.1) rfl rfl (DS ((⟨z.1.branches,z.1.tags,y.name,z.1.at_,z.1.log⟩,⟨z.2.branches,z.2.tags,z.2.log⟩):Af)▸hblk) (Ej ((⟨z.1.branches,z.1.tags,y.name,z.1.at_,z.1.log⟩,⟨z.2.branches,z.2.tags,z.2.log⟩):Af)) (by rw[AcS,AcS,z.1.at_.2,y.new.2]) (by rw[AcS,y.new.2];exact RX) (Ax _) fun s t k ap=> ?_)));have hbr:=AbQ hbr k hab;have htg:=AbQ htg k hat;have hlg:=AbQ hlg k hal;have hgr:w.grownBy s (some g):=Aa hgr k (fun _ e=> .inl e);have b:=Ad b k (AcG (AcI _) (by omega));have c:=kb k c (by omega);clear hblk;have hblk:s.heap[g]? =some (.cells (refsC ((⟨z.1.branches,z.1.tags,y.name,y.new,z.1.log⟩,⟨z.2.branches,z.2.tags,z.2.log⟩):Af)).toArray 36 (0,0)):=Az t (Lm ((⟨z.1.branches,z.1.tags,y.name,z.1.at_,z.1.log⟩,⟨z.2.branches,z.2.tags,z.2.log⟩):Af) y.new);clear t;have aq:=bl hblk;refine AE rfl (vr (NI 0) rfl) ?_;exact⟨((⟨z.1.branches,z.1.tags,y.name,y.new,z.1.log⟩,⟨z.2.branches,z.2.tags,z.2.log⟩):Af),⟨rfl,rfl⟩,⟨b,u,hblk,hbr,htg,hlg,hab,hat,hal,hlb,hlt⟩,rfl,hgr⟩
theorem QB(w:AcE):
  Calls AcF 38 #[] w fun e w' =>∃b,e = .returned (.map (some b))/\MapF B8 ND (fun _:UInt8=>True) w' b doG/\w.heap.size<=b/\Ext w w' :=by
 refine gG (args:= []) Tryz.func38 rfl 3 rfl rfl ?_;have hE:=AbN w;refine gS (Aab B8 ND (fun _:UInt8=>True) fun f k s i l t=> ?_);have hE:=hE.trans l;have u:f<k.heap.size:=by omega
 refine gS (Aax (ek:=B8) (ev:=ND) (D:=(fun _:UInt8=>True)) (a:=1) (c:=89) M3 M4 IH rfl rfl rfl i trivial fun m g n v=> ?_);have hE:=Ad hE n (AcG (AcI _) (by omega));clear i;have x:f<m.heap.size:=g.lt;refine gS (Aax (ek:=B8) (ev:=ND) (D:=(fun _:UInt8=>True)) (a:=2) (c:=90) M3 M4 IH rfl rfl rfl g trivial fun o h p y=> ?_);have hE:=Ad hE p (AcG (AcI _) (by omega));clear g;have z:f<o.heap.size:=h.lt;refine gS (Aax (ek:=B8) (ev:=ND) (D:=(fun _:UInt8=>True)) (a:=3) (c:=91) M3 M4 IH rfl rfl rfl h trivial fun q j r aa=> ?_);have hE:=Ad hE r (AcG (AcI _) (by omega));clear h;have ab:f<q.heap.size:=j.lt;refine AE rfl (vr (.map (some f)) rfl) ?_;exact⟨_,rfl,j,by omega,hE⟩
theorem L2{k:UInt8}{f:Nat}(h:doG k=some f):(k.toNat=1/\f=89)\/(k.toNat=2/\f=90)\/(k.toNat=3/\f=91):=by
 unfold doG updM at h;split at h
 ·rename_i e;subst e;exact .inr (.inr ⟨rfl,(Ac9 h).symm⟩)
 ·split at h
  ·rename_i e;subst e;exact .inr (.inl ⟨rfl,(Ac9 h).symm⟩)
  ·split at h
   ·rename_i e;subst e;exact .inl ⟨rfl,(Ac9 h).symm⟩
   ·cases h
theorem Us{k:UInt8}(h:DY k=true):∃f,doG k=some f:=by
 unfold DY at h;simp only[AdU,decide_eq_true_eq]at h;rcases h with (h | h) | h
 ·obtain rfl:k=1:=UInt8.toNat_inj.1 h;exact⟨_,rfl⟩
 ·obtain rfl:k=2:=UInt8.toNat_inj.1 h;exact⟨_,rfl⟩
 ·obtain rfl:k=3:=UInt8.toNat_inj.1 h;exact⟨_,rfl⟩
theorem YX:Plain AcF 89:=fun _ _=>by kernel_rfl
theorem YY:Plain AcF 90:=fun _ _=>by kernel_rfl
theorem YZ:Plain AcF 91:=fun _ _=>by kernel_rfl
theorem Ut{k:UInt8}{f:Nat}(h:doG k=some f):Plain AcF f:=by
 rcases L2 h with ⟨-,e⟩ | ⟨-,e⟩ | ⟨-,e⟩ <;> rw[e]
 ·exact YX
 ·exact YY
 ·exact YZ
theorem XD(w0 w:AcE)(g:Nat)(z:Af)(hA:AppAt w0 w g z)(hS:E8 z.1)(y:Aw){f:Nat}(hf:doG y.kind=some f):
  Calls AcF f #[PQ g 0, .agg (updC y).toArray] w fun e w' =>∃z',(e = .returned (NI (Ca z.1 y).1)/\z'.1=(Ca z.1 y).2)/\AppAt w0 w' g z' /\z'.2.log=z.2.log/\w.grownBy w' (some g):=by
 rcases L2 hf with ⟨hk,rfl⟩ | ⟨hk,rfl⟩ | ⟨hk,rfl⟩
 ·rw[show Ca z.1 y=CG z.1 y by unfold Ca;rw[if_pos hk]];exact QA w0 w g z hA hS y
 ·rw[show Ca z.1 y=FV z.1 y by unfold Ca;rw[if_neg (by omega),if_pos hk]];exact Ws w0 w g z hA hS y
 ·rw[show Ca z.1 y=M5 z.1 y by unfold Ca;rw[if_neg (by omega),if_neg (by omega)]];exact Ur w0 w g z hA hS y
section
variable {α β : Type} {b b' k k' g : Nat} {t t' : AcK} {enc : α -> List AcD} {enc' : β -> List AcD} {w : AcE} {u v : AcD} {l : List α} {m : List β}
theorem OG.off(h:OG b t k enc w v l){cs:Array AcD}{fr:Nat × Nat}(hb:w.heap[g]? =some (.cells cs t' fr))(hne:t≠t'):v.ownBlock≠some g:=by
 obtain⟨-,-,⟨rfl,-⟩ | ⟨g',c,cur,rfl,-,hg,-⟩⟩:=h
 ·simp[Adp]
 ·intro e;obtain rfl:g' =g:=by simpa [Adp] using e
  rw[hg]at hb;simp only[Aea,Obj.cells.injEq]at hb;exact hne hb.2.1
abbrev AbR:=@OG.off
theorem Abu{γ δ:Type}{ek:γ->AcD}{ev:δ->AcD}{D:γ->Prop}{G:γ->Option δ}(h:OG b t k enc w v l)(hb:MapF ek ev D w g G):v.ownBlock≠some g:=by
 obtain⟨es,c,hm,-⟩:=hb;obtain⟨-,-,⟨rfl,-⟩ | ⟨g',c,cur,rfl,-,hg,-⟩⟩:=h
 ·simp[Adp]
 ·intro e;obtain rfl:g' =g:=by simpa [Adp] using e
  rw[hg]at hm;cases hm
theorem OG.apart(hu:OG b t k enc w u l)(hv:OG b' t' k' enc' w v m)(hne:t≠t'):CP u v:=fun g h1 h2=>by
 obtain⟨-,-,⟨rfl,-⟩ | ⟨g',c,cur,rfl,-,hg,-⟩⟩:=hv
 ·simp[Adp]at h2
 ·obtain rfl:g' =g:=by simpa [Adp] using h2
  exact hu.off hg hne h1
abbrev Acp:=@OG.apart
end
structure RefsOw (b : Nat) (w : AcE) (z : Af) : Prop where
 br:OG b 94 33 nmdC w z.2.branches z.1.branches
 tg:OG b 94 33 nmdC w z.2.tags z.1.tags
 lg:OG b 97 67 entC w z.2.log z.1.log
theorem RefsOw.keep{b:Nat}{w w' :AcE}{z:Af}(h:RefsOw b w z)(k:Ext w w'):RefsOw b w' z:=⟨h.br.keep k,h.tg.keep k,h.lg.keep k⟩
theorem RefsOw.rd{b:Nat}{w:AcE}{z:Af}(h:RefsOw b w z):RefsAt w z:=⟨Y8 h.br,Y8 h.tg,Y8 h.lg⟩
theorem RefsOw.zero{b:Nat}{w:AcE}{z:Af}(h:RefsOw b w z):RefsOw 0 w z:=⟨h.br.low (AcZ _),h.tg.low (AcZ _),h.lg.low (AcZ _)⟩
theorem AbB{P:AcY}{K:AcD->AcE->Prop}{ρ:Aj}{w:AcE}{d:Option Tmp}{ty:AcK}{pos:String}{af:Array Edge}{gd:Option (Nat × Bool)}{t1 t2:AcK}{x y:AcO}{n m:Nat}(hx:Ab ρ x = .int .i64 ((n:Int)-(m:Int)))(hy:Ab ρ y=NI 0)(hk:K (NI (n-m)) w):
  Yk P K ((execOp (Ab ρ) ⟨d, .call ⟨.builtin .max,#[x,y],#[t1,t2]⟩,ty,pos,af,gd⟩).run P w):=by
 refine AbU (v:=NI (n-m)) (w' :=w) ?_ hk;unfold execOp;simp only[resolve,invoke,builtin,hx,hy,AcT,AcX,Ac2,AcN,AcR,AcM];have hr:(Builtin.max_ #[t1,t2] ty #[.int .i64 ((n:Int)-(m:Int)),NI 0]).run P w = .ok (NI (n-m)) w:=by
  simp only[Builtin.max_,List.foldlM_cons,List.foldlM_nil,AcN,Builtin.max2,AcR,AcM]
  congr 2
  simp only[Int.natCast_zero];split <;> omega
 rw[hr];rfl
abbrev EE:Ar:=⟨[],[],[],zid,[]⟩
def entOf(y:Aw)(note:Bs):A9:=⟨y.kind,y.name,y.old,y.new,note⟩
def FH(r:Ar)(e:A9):Ar:=⟨r.branches,r.tags,r.head,r.at_,r.log++ [e]⟩
def CT(note:Bs)(r:Ar)(y:Aw):Nat × Ar:=if Bl y≠0 then(Bl y,r)else if(Ca r y).1≠0 then((Ca r y).1,r)else(0,FH (Ca r y).2 (entOf y note))
def CU(note:Bs):Ar->List Aw->Nat × Ar
 | r,[]=>(0,r)
 | r,y :: l=>if(CT note r y).1≠0 then((CT note r y).1,EE)else CU note (CT note r y).2 l
def II(r:Ar):Ar:=⟨r.branches,r.tags,r.head,r.at_,r.log.drop (r.log.length-64)⟩
noncomputable def Ag(r:Ar)(l:List Aw)(note:Bs):Nat × Ar:=
 if((!AA r)||(!Cm note))=true then(1,EE)else if(CU note r l).1≠0 then((CU note r l).1,EE)else(0,II (CU note r l).2)
theorem Lr{note:Bs}{r:Ar}{l:List Aw}{i:Nat}(hi:i<l.length):CU note r (l.drop i)=if(CT note r (l.getD i Ay)).1≠0 then((CT note r (l.getD i Ay)).1,EE)else CU note (CT note r (l.getD i Ay)).2 (l.drop (i+1)):=by
 rw[Aew hi,AcL,AcQ hi];rfl
section
variable {note : Bs} {r r' : Ar} {l : List Aw} {i e : Nat}
theorem SA(hi:i<l.length)(h:Bl (l.getD i Ay)≠0):CU note r (l.drop i)=(Bl (l.getD i Ay),EE):=by
 rw[Lr hi,show CT note r (l.getD i Ay)=(Bl (l.getD i Ay),r) by unfold CT;rw[if_pos h],if_pos h]
theorem L3(hi:i<l.length)(h:Bl (l.getD i Ay)=0)(h2:(Ca r (l.getD i Ay)).1≠0):CU note r (l.drop i)=((Ca r (l.getD i Ay)).1,EE):=by
 rw[Lr hi,show CT note r (l.getD i Ay)=((Ca r (l.getD i Ay)).1,r) by unfold CT;rw[if_neg (fun k=>k h),if_pos h2],if_pos h2]
theorem L4(hi:i<l.length)(h:Bl (l.getD i Ay)=0)(h2:(Ca r (l.getD i Ay)).1=0):CU note r (l.drop i)=CU note (FH (Ca r (l.getD i Ay)).2 (entOf (l.getD i Ay) note)) (l.drop (i+1)):=by
 rw[Lr hi,show CT note r (l.getD i Ay)=(0,FH (Ca r (l.getD i Ay)).2 (entOf (l.getD i Ay) note)) by unfold CT;rw[if_neg (fun k=>k h),if_neg (fun k=>k h2)],if_neg (fun k=>k rfl)]
theorem NE(hi:l.length<=i):CU note r (l.drop i)=(0,r):=by rw[Aef hi];rfl
theorem QC(h:((!AA r)||(!Cm note))=true):Ag r l note=(1,EE):=by unfold Ag;rw[if_pos h]
theorem HN(h0:((!AA r)||(!Cm note))=false)(h:CU note r l=(e,EE))(he:e≠0):Ag r l note=(e,EE):=by unfold Ag;rw[h0,if_neg (by decide),h,if_pos he]
theorem L5(h0:((!AA r)||(!Cm note))=false)(h:CU note r l=(0,r')):Ag r l note=(0,II r'):=by unfold Ag;rw[h0,if_neg (by decide),h,if_neg (fun k=>k rfl)]
theorem GW{y:Aw}(h:Bl y=0):DY y.kind=true:=by
 unfold Bl at h;cases hk:DY y.kind with
 | true=>rfl
 | false=>rw[hk]at h;simp at h
end
theorem IJ{l:List AH}:DH l↔(l.map (·.name)).Pairwise (· < ·):=by
 rw[List.pairwise_map,List.pairwise_iff_getElem];unfold DH;constructor
 ·intro h i j hi hj hij;have:=h i j hij hj
  rwa [AcL,AcQ hi,AcL,AcQ hj]at this
 ·intro h i j hij hj;have:=h i j (by omega) hj hij;rw[AcL,AcQ (by omega),AcL,AcQ hj];exact this
theorem GX{a:AH}{l:List AH}{s:Bs}:BA (a :: l) s=if a.name<s then BA l s+1 else 0:=by
 unfold BA;rw[List.takeWhile_cons];by_cases h:a.name<s <;> simp[h]
theorem L6:∀(l:List AH) (s:Bs),BA l s<=l.length
 | [],s=>AcI _
 | a :: l,s=>by rw[GX];have:=L6 l s;split <;> simp <;> omega
theorem L7:∀ {l:List AH} {s:Bs} {j:Nat},j<BA l s->(l.getD j dNmd).name<s
 | [],s,j,h=>by simp[BA]at h
 | a :: l,s,j,h=>by
  rw[GX]at h;split at h
  ·cases j with
   | zero=>assumption
   | succ j=>exact L7 (l:=l) (by omega)
  ·omega
theorem L8:∀ {l:List AH} {s:Bs},BA l s<l.length->¬(l.getD (BA l s) dNmd).name<s
 | [],s,h=>by simp at h
 | a :: l,s,h=>by
  rw[GX]at h ⊢;split at h
  ·rename_i e
   rw[if_pos e];exact L8 (l:=l) (by simpa using h)
  ·rename_i e
   rw[if_neg e];exact e
theorem SC{l:List AH}{s:Bs}(hs:DH l):Jb l s (BA l s):=by
 refine⟨L6 l s,fun j hj=>L7 hj,fun j h1 h2=> ?_⟩;exact KD hs (L8 (by omega)) j h1 h2
theorem SD{a b:Bs}(h:¬a<b)(h2:a≠b):b<a:=by
 by_cases h3:b<a
 ·exact h3
 ·exact absurd (List.le_antisymm h3 h) h2
theorem MS{l:List AH}{i:Nat}:(l.getD i dNmd).name=(l.map (·.name)).getD i []:=by
 rw[AcL,AcL,List.getElem?_map];cases l[i]? <;> rfl
theorem Gq{l:List AH}{y:Aw}(hs:DH l)(hl:l.length<=64):DH (Am l y).2/\(Am l y).2.length<=64:=by
 have hp:=SC (s:=y.name) hs;have hnil:DH []:=fun i j _ h=>by simp at h
 unfold Am;rcases hf:BL l y.name (BA l y.name)with _ | _
 ·rw[Jc hf];split
  ·exact⟨hnil,by simp⟩
  ·split
   ·exact⟨hs,hl⟩
   ·split
    ·exact⟨hnil,by simp⟩
    ·refine⟨?_,by rw[AcJ,AcV,Ac4,Ac5];have:=hp.1;omega⟩;have b:=hs;rw[IJ]at hs ⊢;rw[List.map_append,AcX,List.pairwise_append,List.pairwise_cons];refine⟨?_,⟨?_,?_⟩,?_⟩
     ·rw[List.map_take];exact hs.sublist (List.take_sublist _ _)
     ·intro a ha;obtain⟨n,hn,rfl⟩:=AdC.1 ha;obtain⟨i,hi,rfl⟩:=AdM.1 hn;rw[Ac5]at hi;have h1:=hp.2.2 (BA l y.name+i) (by omega) (by omega);rw[AcL,AcQ (by omega)]at h1;rw[AgE];refine SD h1 fun e=> ?_;have hi0:i=0:=by
       refine Nat.eq_zero_of_not_pos fun h0=> ?_;have h2:=b (BA l y.name) (BA l y.name+i) (by omega) (by omega);rw[show l.getD (BA l y.name+i) dNmd=l[BA l y.name+i]'(by omega)from by rw[AcL,AcQ (by omega)];rfl]at h2;refine hp.2.2 (BA l y.name) (AcI _) (by omega) ?_;rw[e]at h2;exact h2
      subst hi0;unfold BL at hf;rw[AcL,AcQ (by omega)]at hf;simp only[Ae1,decide_eq_false_iff_not]at hf;rcases hf with hf | hf
      ·omega
      ·exact hf e
     ·rw[List.map_drop];exact hs.sublist (List.drop_sublist _ _)
     ·intro a ha c hc;obtain⟨n,hn,rfl⟩:=AdC.1 ha;obtain⟨i,hi,rfl⟩:=AdM.1 hn;rw[Ac4]at hi;rw[List.getElem_take];have h1:=hp.2.1 i (by omega);rw[AcL,AcQ (by omega)]at h1;rcases Adl.1 hc with rfl | hc
      ·exact h1
      ·obtain⟨m,hm,rfl⟩:=AdC.1 hc;obtain⟨j,hj,rfl⟩:=AdM.1 hm;rw[Ac5]at hj;rw[AgE];have h2:=b i (BA l y.name+j) (by omega) (by omega);rw[AcL,AcQ (by omega),AcL,AcQ (by omega)]at h2;exact h2
 ·rw[KG hf];have hlt:=JZ hf;split
  ·exact⟨hnil,by simp⟩
  ·split
   ·refine⟨?_,AcG (List.length_eraseIdx_le _ _) hl⟩;rw[IJ]at hs ⊢;exact hs.sublist ((List.eraseIdx_sublist _ _).map _)
   ·refine⟨?_,by rw[List.length_set];exact hl⟩;rw[IJ]at hs ⊢;rw[List.map_set,MS];rw[show(l.map (·.name)).set (BA l y.name) ((l.map (·.name)).getD (BA l y.name) [])=l.map (·.name)from by
     rw[AcL,AcQ (by rw[List.length_map];exact hlt)];exact List.set_getElem_self _]
    exact hs
theorem QD{r:Ar}{y:Aw}(h:E8 r):E8 (Ca r y).2:=by
 unfold Ca;split
 ·unfold CG;split
  ·exact h
  ·split
   ·have:=Gq (y:=y) h.br h.bl;exact⟨this.1,h.tg,this.2,h.tl⟩
   ·exact h
 ·split
  ·unfold FV;split
   ·have:=Gq (y:=y) h.tg h.tl;exact⟨h.br,this.1,h.bl,this.2⟩
   ·exact h
  ·exact⟨h.br,h.tg,h.bl,h.tl⟩
theorem Ls{r:Ar}{y:Aw}:(Ca r y).2.log=r.log:=by
 unfold Ca;split
 ·unfold CG;split
  ·rfl
  ·split <;> rfl
 ·split
  ·unfold FV;split <;> rfl
  ·rfl
theorem DP{l:List AH}(h:BW l=true):DH l/\l.length<=64:=by
 classical
 unfold BW at h;have h:=of_decide_eq_true h;refine⟨?_,h.2⟩;have step:∀j,j+1<l.length->(l.getD j dNmd).name<(l.getD (j+1) dNmd).name:=fun j hj=>by
  have:=h.1 (j+1) hj;unfold nE at this;simp only[Adx,Ae1,decide_eq_false_iff_not,AdS,Nat.add_sub_cancel]at this;rcases this.2 with h1 | h1
  ·omega
  ·rw[bytesLess_eq]at h1;exact of_decide_eq_true h1
 intro i j hij hj
 induction j with
 | zero=>omega
 | succ j ih=>
  by_cases e:i=j
  ·subst e;exact step i hj
  ·exact List.lt_trans (ih (by omega) (by omega)) (step j hj)
theorem Gr{r:Ar}(h:AA r=true):BW r.branches=true/\BW r.tags=true/\r.log.length<=64:=by
 unfold AA at h;simp only[Ada]at h;have h1:=h.1;unfold IC at h1;simp only[Bool.not_eq_true',Adx,AdS,decide_eq_false_iff_not]at h1;exact⟨h1.1.1,h1.1.2,by omega⟩
theorem MT{r:Ar}(h:AA r=true):E8 r:=by
 obtain⟨h1,h2,-⟩:=Gr h;exact⟨(DP h1).1,(DP h2).1,(DP h1).2,(DP h2).2⟩
theorem Gs{r:Ar}{l:List Aw}{note:Bs}(h:(Ag r l note).1=0):((!AA r)||(!Cm note))=false/\(CU note r l).1=0/\(Ag r l note).2=II (CU note r l).2:=by
 unfold Ag at h ⊢;split
 ·rename_i h1;rw[if_pos h1]at h;simp at h
 ·rename_i h1
  rw[if_neg h1]at h;split
  ·rename_i h2;rw[if_pos h2]at h;exact absurd h h2
  ·rename_i h2;exact⟨by simpa using h1,Ael.1 h2,rfl⟩
structure GK (r : Ar) : Prop where
 br:BW r.branches=true
 tg:BW r.tags=true
 hd:Hm r=false
 lg:∀e∈r.log,DY e.kind=true/\Cm e.note=true/\e.name.length<=32
theorem Df{l:List AH}:BW l=true↔(∀n∈l,Av n.name=true/\Ai n.id=false)/\DH l/\l.length<=64:=by
 classical
 constructor
 ·intro h;refine⟨fun n hn=> ?_,DP h⟩;unfold BW at h;have h:=(of_decide_eq_true h).1;obtain⟨i,hi,rfl⟩:=AdM.1 hn;have:=h i hi;unfold nE at this;rw[AcL,AcQ hi]at this;simp only[Adx,AdS,AeU]at this;exact this.1
 ·rintro⟨h1,h2,h3⟩;unfold BW;refine decide_eq_true ⟨fun j hj=> ?_,h3⟩;unfold nE;have:=h1 (l.getD j dNmd) (Cd dNmd hj);rw[this.1,this.2];simp only[Bool.not_true,Bool.false_or,Ae1,decide_eq_false_iff_not,AdS];by_cases h0:0<j
  ·right;rw[bytesLess_eq];exact decide_eq_true (h2 (j-1) j (by omega) hj)
  ·exact .inl h0
theorem E9{r:Ar}:AA r=true↔GK r/\r.log.length<=64:=by
 classical
 constructor
 ·intro h;obtain⟨h1,h2,h3⟩:=Gr h;unfold AA at h;simp only[Ada,Bool.not_eq_true',decide_eq_true_eq]at h;refine⟨⟨h1,h2,h.2.1,fun e he=> ?_⟩,h3⟩;obtain⟨i,hi,rfl⟩:=AdM.1 he;have:=h.2.2 i hi;unfold GT at this;rw[AcL,AcQ hi]at this;simp only[Adx,AdS,AeU,decide_eq_false_iff_not]at this;exact⟨this.1.1,this.1.2,by omega⟩
 ·rintro⟨h,h3⟩;refine F8 (i:=r.log.length) ?_ h.hd (AcI _) fun j hj=> ?_
  ·unfold IC;rw[h.br,h.tg];simp;omega
  ·have:=h.lg _ (Cd Au hj);unfold GT;rw[this.1,this.2.1,decide_eq_false (by omega)];rfl
theorem Uu{r:Ar}(h:GK r):AA (II r)=true:=by
 refine E9.2 ⟨⟨h.br,h.tg,h.hd,fun e he=>h.lg e (AfG he)⟩,?_⟩;show(r.log.drop (r.log.length-64)).length<=64;rw[Ac5];omega
theorem KM{l:List AH}{y:Aw}(h:BW l=true)(hn:Av y.name=true):BW (Am l y).2=true:=by
 obtain⟨h1,h2,h3⟩:=Df.1 h;obtain⟨h4,h5⟩:=Gq (y:=y) h2 h3;refine Df.2 ⟨fun n hm=> ?_,h4,h5⟩;unfold Am at hm;cases hf:BL l y.name (BA l y.name)with
 | true=>
  have hlt:=JZ hf;rw[KG hf]at hm;split at hm
  ·cases hm
  ·split at hm
   ·exact h1 n (List.mem_of_mem_eraseIdx hm)
   ·rename_i hz
    rcases List.mem_or_eq_of_mem_set hm with hm | rfl
    ·exact h1 n hm
    ·exact⟨(h1 _ (Cd dNmd hlt)).1,by simpa using hz⟩
 | false=>
  rw[Jc hf]at hm;split at hm
  ·cases hm
  ·split at hm
   ·exact h1 n hm
   ·rename_i hz
    split at hm
    ·cases hm
    ·rcases Adt.1 hm with hm | hm
     ·exact h1 n (AeN hm)
     ·rcases Adl.1 hm with rfl | hm
      ·exact⟨hn,by simpa using hz⟩
      ·exact h1 n (AfG hm)
theorem upd_facts{y:Aw}(h:Bl y=0):DY y.kind=true/\PA y=false/\PB y=false/\PC y=false:=by
 refine⟨GW h,?_⟩;unfold Bl at h;rw[GW h]at h;simp only[Bool.not_true,Aec,if_false]at h;cases h1:PA y with
 | true=>rw[h1]at h;simp at h
 | false=>
  rw[h1]at h;simp only[Aec,if_false]at h;cases h2:PB y with
  | true=>rw[h2]at h;simp at h
  | false=>
   rw[h2]at h;simp only[Aec,if_false]at h;cases h3:PC y with
   | true=>rw[h3]at h;simp at h
   | false=>exact⟨rfl,rfl,rfl⟩
theorem HP{y:Aw}(h:Bl y=0):(y.kind.toNat≠3->Av y.name=true)/\(y.name≠ []->Av y.name=true)/\y.name.length<=32:=by
 obtain⟨-,-,-,h3⟩:=upd_facts h;unfold PC at h3;simp only[Ae1,AdS,Adx,decide_eq_false_iff_not]at h3;refine⟨fun hk=> ?_,fun hn=> ?_,?_⟩
 ·rcases h3 with h3 | h3
  ·exact h3
  ·exact absurd hk h3.1
 ·rcases h3 with h3 | h3
  ·exact h3
  ·exact absurd hn h3.2
 ·rcases h3 with h3 | h3
  ·exact(Ea h3).2
  ·rw[Ael.1 h3.2];simp
theorem Uv{r:Ar}{y:Aw}(h:GK r)(hu:Bl y=0)(_h0:(Ca r y).1=0):GK (Ca r y).2:=by
 obtain⟨hk,-,h2,h3⟩:=upd_facts hu;obtain⟨a,b,-⟩:=HP hu;unfold Ca;split
 ·rename_i c
  have hn:=a (by omega);unfold CG;split
  ·exact h
  ·split
   ·exact⟨KM h.br hn,h.tg,h.hd,h.lg⟩
   ·exact h
 ·split
  ·rename_i e
   have hn:=a (by omega);unfold FV;split
   ·exact⟨h.br,KM h.tg hn,h.hd,h.lg⟩
   ·exact h
  ·rename_i c e
   refine⟨h.br,h.tg,?_,h.lg⟩;have f:y.kind.toNat=3:=by
    unfold DY at hk;simp only[AdU,decide_eq_true_eq]at hk;omega
   unfold PB at h2;rw[f]at h2;simp only[decide_true,Agz,Adx,AdS]at h2;show Hm ⟨r.branches,r.tags,y.name,y.new,r.log⟩=false;unfold Hm;by_cases hy:y.name= []
   ·have h4:=h2.2;rw[decide_eq_true hy]at h4;simp only[hy];cases hz:Ai y.new with
    | true=>rw[hz]at h4;simp at h4
    | false=>simp
   ·have h4:=h2.2;rw[decide_eq_false hy]at h4;simp only[b hy];cases hz:Ai y.new with
    | false=>rw[hz]at h4;simp at h4
    | true=>simp[hy]
theorem SE{note:Bs}{r:Ar}{y:Aw}(hn:Cm note=true)(h:GK r)(h0:(CT note r y).1=0):GK (CT note r y).2/\Bl y=0/\(Ca r y).1=0/\(CT note r y).2=FH (Ca r y).2 (entOf y note):=by
 unfold CT at h0 ⊢;split
 ·rename_i h1;rw[if_pos h1]at h0;exact absurd h0 h1
 ·rename_i h1
  rw[if_neg h1]at h0;have h1:=Ael.1 h1;split
  ·rename_i h2;rw[if_pos h2]at h0;exact absurd h0 h2
  ·rename_i h2
   have h2:=Ael.1 h2;have h3:=Uv h h1 h2;refine⟨⟨h3.br,h3.tg,h3.hd,fun e he=> ?_⟩,h1,h2,rfl⟩;rcases Adt.1 he with he | he
   ·exact h3.lg e he
   ·rw[Adn.1 he];exact⟨(upd_facts h1).1,hn,(HP h1).2.2⟩
theorem NF{note:Bs}(hn:Cm note=true):∀ {l:List Aw} {r:Ar},GK r->(CU note r l).1=0->GK (CU note r l).2
 | [],r,h,_=>h
 | y :: l,r,h,h0=>by
  unfold CU at h0 ⊢;split
  ·rename_i h1;rw[if_pos h1]at h0;exact absurd h0 h1
  ·rename_i h1;rw[if_neg h1]at h0;exact NF hn (SE hn h (Ael.1 h1)).1 h0
theorem O5{note:Bs}{r:Ar}{l:List Aw}(h:(Ag r l note).1=0):AA (Ag r l note).2=true:=by
 obtain⟨h1,h2,h3⟩:=Gs h;simp only[Adx,AdS]at h1;rw[h3];exact Uu (NF h1.2 (E9.1 h1.1).1 h2)
abbrev GL:Bs:= [109,97,105,110]
abbrev IK:B7:=⟨1 :: AdK 31 0,rfl⟩
abbrev u1:Aw:=⟨1,GL,zid,IK⟩
theorem L9:Av GL=true:=by decide
theorem SF{l:Bs}{a:Nat}(h:∀x∈l,x.toNat<128)(ha:a<l.length):Et l a=some (a+1):=by
 have hx:(l.getD a 0).toNat<128:=h _ (Cd 0 ha);have hl:Dq (l.getD a 0)=some (0,(l.getD a 0).toNat,0):=by unfold Dq;rw[if_pos hx]
 unfold Et;rw[hl];simp only[Fz];rw[if_neg (by omega),if_pos ⟨AcZ _,by unfold Nn;simp only[AcZ,decide_true,Agz,Ada,AdU,decide_eq_true_eq];omega⟩]
theorem Ma{l:Bs}(h:∀x∈l,x.toNat<128):∀(n a:Nat),l.length<=a+n->Eu l a=true
 | 0,a,hn=>JW (by omega)
 | n+1,a,hn=>by
  by_cases ha:a<l.length
  ·rw[LM ha (SF h ha)];exact Ma h n _ (by omega)
  ·exact JW ha
theorem KN{l:Bs}(h:∀x∈l,x.toNat<128)(hl:l.length<=256):Cm l=true:=by unfold Cm;rw[decide_eq_true hl,Ma h l.length 0 (by omega)];rfl
theorem Uw:Cm []=true:=KN (by decide) (by decide)
theorem NG:BW []=true:=by rw[HJ (i:=0) (AcI _) (fun j hj=>absurd hj (AdN _))];rfl
theorem Ux:BW [⟨GL,IK⟩]=true:=by
 rw[HJ (i:=1) (AcI _) (fun j hj=>by cases j with
  | zero=>rfl
  | succ j=>omega)];rfl
theorem IL:AA B4.1=true:=F8 (i:=0) (by unfold IC;rw[NG];rfl) (by unfold Hm;rw[show B4.1.head=GL from rfl,L9];rfl) (AcI _) (fun j hj=>absurd hj (AdN _))
theorem PF:Bl u1=0:=by decide
theorem YI:Ca B4.1 u1=(0,⟨[⟨GL,IK⟩],[],GL,zid,[]⟩):=rfl
/-! ### Numbers below 0; a literal of bytes (any program) -/
theorem SG(t:AcK)(a b:Int)(h: -9223372036854775808<=a+b/\a+b<=9223372036854775807):Go.binOp .add t (.int .i64 a) (.int .i64 b)=pure (.int .i64 (a+b)):=by
 show pure (Value.int .i64 (IntKind.i64.wrap (a+b)))=_;rw[IntWalk.i64_in _ h]
theorem NH(t:AcK)(a b:Int)(h: -9223372036854775808<=a-b/\a-b<=9223372036854775807):Go.binOp .sub t (.int .i64 a) (.int .i64 b)=pure (.int .i64 (a-b)):=by
 show pure (Value.int .i64 (IntKind.i64.wrap (a-b)))=_;rw[IntWalk.i64_in _ h]
section
variable {P : AcY} {K : AcD -> AcE -> Prop} {ρ : Aj} {w : AcE} {d : Option Tmp} {ty : AcK} {pos : String} {af : Array Edge} {gd : Option (Nat × Bool)}
theorem ZW{α:Type}{enc:α->List AcD}{t e:AcK}{x:AcO}{a:α}{u:AcD}(hx:Ab ρ x=u)(hu:enc a= [u]) 
  (hr:∀w:AcE,(Adc t 1 #[(0,u)]).run P w = .ok (.slice (some ⟨w.heap.size,0,none⟩) 1 1) (w.alloc (.cells #[u] e)))
  (hk:∀v w',RG 1 enc w' v [a]->Ext w w' ->K v w'):Yk P K ((execOp (Ab ρ) ⟨d, .buildSlice t 1 #[(0,x)],ty,pos,af,gd⟩).run P w):=by
 have hE:Ext w (w.alloc (.cells #[u] e)):=(Below.refl _ _).alloc (AcI _) _;have hb:(w.alloc (.cells #[u] e)).heap[w.heap.size]? =some (.cells ([u]:List AcD).toArray e (0,0)):=heap_alloc_new w _;refine AbU (v:= .slice (some ⟨w.heap.size,0,none⟩) 1 1) (w' :=w.alloc (.cells #[u] e)) ?_ (hk _ _ ⟨fun y hy=>by rw[Adn.1 hy,hu];rfl,by simp[hu],_,1,rfl,AcI _,by simp[maxLen],(fun h=>by cases h),fun q hq j z hz=> ?_⟩ hE)
 ·unfold execOp;simp only[AcT,AcX,Ac2,hx,AcN,hr,AcM,AcR]
 ·cases hq;rw[Addr.add_lit,Aem];exact Ac hb (by simpa [hu] using hz)
end
theorem Wt(y:Aw)(note:Bs):updC y++ [AhW ⟨note.toArray⟩]=entC (entOf y note):=by simp[entC,updC,entOf]
theorem ET:Ew AcF 36 refsC:=⟨⟨_,(L0).choose_spec⟩,fun x=>AO (An x) KI⟩
theorem SH:Plain AcF 34:=fun _ _=>by kernel_rfl
theorem Mb:Plain AcF 37:=fun _ _=>by kernel_rfl
theorem HQ:(Tryz.prog.info? 34).map (·.size)=some 1:=by kernel_rfl
theorem SI:Plain AcF 38:=fun _ _=>by kernel_rfl
theorem Mc:Tryz.prog.underlying 41=some (.slice 77):=by kernel_rfl
theorem QE:∀w' :AcE,(sizeOf 77).run AcF w' = .ok 66 w' :=fun _=>by kernel_rfl
theorem SJ{d:Option Tmp}{ty:AcK}{pos:String}{af:Array Edge}{gd:Option (Nat × Bool)}(σ:AcO->AcD)(w:AcE):(execOp σ ⟨d, .alloc 77,ty,pos,af,gd⟩).run AcF w = .ok (.value (PQ w.heap.size 0)) (w.alloc (.cells (updC (⟨0,[],zid,zid⟩:Aw)).toArray 77)):=by kernel_rfl
theorem GM:Ew AcF 77 updC:=⟨⟨_,(Sy).choose_spec⟩,fun x=>AO (CE x) Qz⟩
theorem SK:Plain AcF 39:=fun _ _=>by kernel_rfl
theorem Uy:∀(cs:Array AcD),cs.size=66->∀(s:ByteArray) (w:AcE),(AdI 97 #[(0,Value.agg cs),(1,AhW s)]).run AcF w = .ok (.agg (cs.toList++ [AhW s]).toArray) w
 | ⟨c0 :: c1 :: c2 :: c3 :: c4 :: c5 :: c6 :: c7 :: c8 :: c9 :: c10 :: c11 :: c12 :: c13 :: c14 :: c15 :: c16 :: c17 :: c18 :: c19 :: c20 :: c21 :: c22 :: c23 :: c24 :: c25 :: c26 :: c27 :: c28 :: c29 :: c30 :: c31 :: c32 :: c33 :: c34 :: c35 :: c36 :: c37 :: c38 :: c39 :: c40 :: c41 :: c42 :: c43 :: c44 :: c45 :: c46 :: c47 :: c48 :: c49 :: c50 :: c51 :: c52 :: c53 :: c54 :: c55 :: c56 :: c57 :: c58 :: c59 :: c60 :: c61 :: c62 :: c63 :: c64 :: c65 :: []⟩,_,s,w=>by kernel_rfl
theorem SL(c0 c1 c2 c3 c4 c5 c6 c7 c8 c9 c10 c11 c12 c13 c14 c15 c16 c17 c18 c19 c20 c21 c22 c23 c24 c25 c26 c27 c28 c29 c30 c31 c32 c33 c34 c35 c36 c37 c38 c39 c40 c41 c42 c43 c44 c45 c46 c47 c48 c49 c50 c51 c52 c53 c54 c55 c56 c57 c58 c59 c60 c61 c62 c63 c64 c65 c66:AcD)(w:AcE):(Adc 34 1 #[(0, .agg #[c0,c1,c2,c3,c4,c5,c6,c7,c8,c9,c10,c11,c12,c13,c14,c15,c16,c17,c18,c19,c20,c21,c22,c23,c24,c25,c26,c27,c28,c29,c30,c31,c32,c33,c34,c35,c36,c37,c38,c39,c40,c41,c42,c43,c44,c45,c46,c47,c48,c49,c50,c51,c52,c53,c54,c55,c56,c57,c58,c59,c60,c61,c62,c63,c64,c65,c66])]).run AcF w = .ok (.slice (some ⟨w.heap.size,0,none⟩) 1 1) (w.alloc (.cells #[c0,c1,c2,c3,c4,c5,c6,c7,c8,c9,c10,c11,c12,c13,c14,c15,c16,c17,c18,c19,c20,c21,c22,c23,c24,c25,c26,c27,c28,c29,c30,c31,c32,c33,c34,c35,c36,c37,c38,c39,c40,c41,c42,c43,c44,c45,c46,c47,c48,c49,c50,c51,c52,c53,c54,c55,c56,c57,c58,c59,c60,c61,c62,c63,c64,c65,c66] 97)):=by kernel_rfl
theorem SM:∀(cs:Array AcD),cs.size=67->∀w:AcE,(Adc 34 1 #[(0, .agg cs)]).run AcF w = .ok (.slice (some ⟨w.heap.size,0,none⟩) 1 1) (w.alloc (.cells cs 97))
 | ⟨c0 :: c1 :: c2 :: c3 :: c4 :: c5 :: c6 :: c7 :: c8 :: c9 :: c10 :: c11 :: c12 :: c13 :: c14 :: c15 :: c16 :: c17 :: c18 :: c19 :: c20 :: c21 :: c22 :: c23 :: c24 :: c25 :: c26 :: c27 :: c28 :: c29 :: c30 :: c31 :: c32 :: c33 :: c34 :: c35 :: c36 :: c37 :: c38 :: c39 :: c40 :: c41 :: c42 :: c43 :: c44 :: c45 :: c46 :: c47 :: c48 :: c49 :: c50 :: c51 :: c52 :: c53 :: c54 :: c55 :: c56 :: c57 :: c58 :: c59 :: c60 :: c61 :: c62 :: c63 :: c64 :: c65 :: c66 :: []⟩,_,w=>SL c0 c1 c2 c3 c4 c5 c6 c7 c8 c9 c10 c11 c12 c13 c14 c15 c16 c17 c18 c19 c20 c21 c22 c23 c24 c25 c26 c27 c28 c29 c30 c31 c32 c33 c34 c35 c36 c37 c38 c39 c40 c41 c42 c43 c44 c45 c46 c47 c48 c49 c50 c51 c52 c53 c54 c55 c56 c57 c58 c59 c60 c61 c62 c63 c64 c65 c66 w
theorem GY(w:AcE)(z0:Af)(hm:RefsAt w z0)(hL:E7 z0.1)(lv:AcD)(l:List Aw)(hr:RG 66 updC w lv l)(hl:l.length<=1000)(hln:∀u∈l,u.name.length<=9223372036854775807)(note:Bs):
  Calls AcF 13 #[.agg (refsC z0).toArray,lv,St note] w fun e w' =>∃v,e = .returned (.tuple #[.agg (refsC ((Ag z0.1 l note).2,v)).toArray,NI (Ag z0.1 l note).1])/\RefsOw w.heap.size w' ((Ag z0.1 l note).2,v)/\Ext w w' :=by
 have hmt:=hm.branches;have hmg:=hm.tags;have hml:=hm.log;refine F2 (args:= [.agg (refsC z0).toArray,lv,St (note)]) Tryz.func13 rfl 77 rfl rfl ?_;have hE:=AbN w;refine gS (Ab3 (vr (.agg (refsC z0).toArray) rfl) fun q w3 dt bu cp du=> ?_);have g:=bu;clear bu;have dv:q<w3.heap.size:=by omega
 refine gS (AbV Sv fun af cq cr bv bw dw=> ?_);have hE:=hE.trans cp;have a8:=hE.size;have c:=bv;clear bv;have dx:af<cq.heap.size:=by omega
 have dy:=AR (bl g) cr;have g:=eb bw g;have hE:=hE.trans bw;refine gS (Zr ET rfl g (gS (Y9 SH rfl ((HK _ z0 ⟨(hmt.keep hE),(hmg.keep hE),(hml.keep hE)⟩ hL).mono ?_))));rintro e dz ⟨rfl,bx⟩;refine⟨_,rfl,?_⟩;refine gS (Zn rfl (gO fun _=>Ae (St (note)) rfl rfl (gF rfl) (fun hG26=>AbT rfl ⟨rfl,rfl⟩) (At (gO fun _=>Ci (.bool (Cm note)) rfl rfl (gF rfl) (fun hG27=>Y9 Sf (Ak rfl hG27) ((Nt _ note).mono (by rintro e w2 ⟨rfl,hx⟩;exact⟨_,rfl,rfl,hx⟩))) fun d0 bz=>At (gO fun _=>Ae (.bool (!(Cm note))) rfl rfl (gF rfl) (fun hG31=>Zn (Ak rfl hG31) ⟨rfl,rfl⟩) (At (gS (Zp rfl rfl (fun hA=>(Ak rfl (BI hA))) fun bb32 hbb33=> ?_))))))));refine cB (bb32) rfl (fun bf=> ?_) fun bf=> ?_
 ·subst hbb33;have h0c:((!AA z0.1)||(!Cm note))=true:=bf;have hZ1:=bx.trans bz;have c:=eb hZ1 c;refine gS (Ace (v:= .agg (refsC ((⟨[],[],[],zid,[]⟩,⟨.slice none 0 0, .slice none 0 0, .slice none 0 0⟩):Af)).toArray) (by kernel_rfl) (gS (Zj ET (vr (PQ af 0) rfl) (vr (.agg (refsC ((⟨[],[],[],zid,[]⟩,⟨.slice none 0 0, .slice none 0 0, .slice none 0 0⟩):Af)).toArray) rfl) c (Ba rfl rfl rfl) fun cs b0 ct d1=> ?_)));clear c;have c:cs.heap[af]? =some (.cells (refsC ((⟨[],[],[],zid,[]⟩,⟨.slice none 0 0, .slice none 0 0, .slice none 0 0⟩):Af)).toArray 36 (0,0)):=b0;clear b0;have d2:=bl c;refine VX rfl (Ab0 rfl c (L0).choose_spec rfl (AO (An _) KI)) (vr (NI 1) rfl) ?_;have hAp:=QC (l:=l) h0c;have hE:=hE.trans hZ1;have hE:=Ad hE ct (AcG a8 (by omega));exact⟨⟨.slice none 0 0, .slice none 0 0, .slice none 0 0⟩,by rw[hAp],by rw[hAp];exact⟨AbZ _ _ _ _ _,AbZ _ _ _ _ _,AbZ _ _ _ _ _⟩,hE⟩
 subst hbb33;have h0c:((!AA z0.1)||(!Cm note))=false:=bf;have hrt:AA z0.1=true:=by simp only[Adx,AdS]at h0c;exact h0c.1
 have ap:=MT hrt;have hlg:=(Gr hrt).2.2;have cu:=ap.bl;have ht0:=ap.tl;refine Fg [0,1,3,4,6,7,2,5,8,9,10,11,12,13,14] [2,5,8,10,12,14] [3,6] [4,7] fun cv cw=> ?_;have a9:=AbN cv;have hZ2:=(bx.trans bz).trans cw;have g:=eb hZ2 g;refine Fm a9 ?_;refine ys (AbM OW rfl zz) (ys (Y6 ES rfl rfl (Ac g (C1 z0)) zz) (yp (AbM OX rfl zz) (yf (fun _ ⟨hZ,_⟩=>Y6 ES rfl rfl (Ac (eb hZ g) (Du z0)) zz) (yp (AbM Jt rfl zz) (yf (fun _ ⟨hZ,_⟩=>Y6 FG rfl rfl (Ac (eb hZ g) (B2 z0)) zz) ?_)))));have hE:=hE.trans hZ2;have hz_:=hE.size;refine yE (Y9 LZ rfl ((Dw _ z0.2.branches (z0.1.branches) (hmt.keep hE) (by have:=cu;omega)).mono ?_));rintro e cx ⟨ab,rfl,h,ba⟩;refine⟨_,rfl,?_⟩;have h:=AbY h hz_;have g:=eb ba g;have bg:=AbR h g (by decide);have c:=eb (hZ2.trans ba) c;have a9:=a9.trans ba;refine⟨a9,?_⟩;have bh:=AbN cx;have hE:=hE.trans ba;have hz_:=hE.size;refine yE (Y9 LZ rfl ((Dw _ z0.2.tags (z0.1.tags) (hmg.keep hE) (by have:=ht0;omega)).mono ?_));rintro e d3 ⟨aj,rfl,j,ay⟩;refine⟨_,rfl,?_⟩;have j:=AbY j hz_;have g:=eb ay g;have bi:=AbR j g (by decide);have c:=eb ay c;have bh:=bh.trans ay;refine⟨bh,?_⟩;have hE:=hE.trans ay;have hz_:=hE.size;refine yD rfl (Y9 Mb rfl ((Gp _ z0.2.log (z0.1.log) (hml.keep hE) (by have:=hlg;omega)).mono ?_));rintro e d4 ⟨aq,rfl,p,az⟩;refine⟨_,rfl,?_⟩;have p:=AbY p hz_;have g:=eb az g;have bj:=AbR p g (by decide);have c:=eb az c;have h:=h.keep (ay.trans az);refine ys (AbM OW rfl zz) (yD rfl (Za (i:=0) (v:=ab) rfl rfl g (by rw[An];decide) KK (AbS (Y8 h)).1 (AbS (Y8 h)).2 fun cy b1 a0 d5=> ?_));clear g;have g:cy.heap[q]? =some (.cells (refsC ((⟨z0.1.branches,z0.1.tags,z0.1.head,z0.1.at_,z0.1.log⟩,⟨ab,z0.2.tags,z0.2.log⟩):Af)).toArray 36 (0,0)):=Az b1 (Hg z0 ab (z0.1.branches));clear b1;have d6:=bl g;have j:=j.keep az;have j:=AbQ j a0 bi;refine ys (AbM OX rfl zz) (yD rfl (Za (i:=1) (v:=aj) rfl rfl g (by rw[An];decide) KK (AbS (Y8 j)).1 (AbS (Y8 j)).2 fun cz b2 a1 d7=> ?_));clear g;have g:cz.heap[q]? =some (.cells (refsC ((⟨z0.1.branches,z0.1.tags,z0.1.head,z0.1.at_,z0.1.log⟩,⟨ab,aj,z0.2.log⟩):Af)).toArray 36 (0,0)):=Az b2 (Hh ((⟨z0.1.branches,z0.1.tags,z0.1.head,z0.1.at_,z0.1.log⟩,⟨ab,z0.2.tags,z0.2.log⟩):Af) aj (z0.1.tags));clear b2;have d8:=bl g;have p:=AbQ p a0 bj;have p:=AbQ p a1 bj;refine ys (AbM Jt rfl zz) (yD rfl (Za (i:=35) (v:=aq) rfl rfl g (by rw[An];decide) HQ (AbS (Y8 p)).1 (AbS (Y8 p)).2 fun c0 b3 a2 d9=> ?_));clear g;have g:c0.heap[q]? =some (.cells (refsC ((⟨z0.1.branches,z0.1.tags,z0.1.head,z0.1.at_,z0.1.log⟩,⟨ab,aj,aq⟩):Af)).toArray 36 (0,0)):=Az b3 (Gd ((⟨z0.1.branches,z0.1.tags,z0.1.head,z0.1.at_,z0.1.log⟩,⟨ab,aj,z0.2.log⟩):Af) aq (z0.1.log));clear b3;have ea:=bl g;refine gS (Z2 SI ((QB _).mono ?_));rintro e a3 ⟨gm,rfl,hmp,hgm,ar⟩;refine⟨_,rfl,?_⟩;have c:=kb a0 c (by omega);have c:=kb a1 c (by omega);have c:=kb a2 c (by omega);have ec:af<gm:=Ad3 (bl c) hgm;have ed:q<gm:=Ad3 (bl g) hgm;have hgl:gm<a3.heap.size:=hmp.lt;have hE:=hE.trans az;have hE:=Ad hE a0 (AcG (AcI _) (by omega));have hE:=Ad hE a1 (AcG (AcI _) (by omega));have hE:=Ad hE a2 (AcG (AcI _) (by omega));have hE:=hE.trans ar;refine gS (Zh Mc (Zf (hr.keep hE) rfl) ?_);have h:=AbQ h a0 bg;have h:=AbQ h a1 bg;have h:=AbQ h a2 bg;have h:=h.keep ar;have bk:OG w.heap.size 94 33 nmdC a3 ab (z0.1.branches):=h;have j:=AbQ j a1 bi;have j:=AbQ j a2 bi;have j:=j.keep ar;have bm:OG w.heap.size 94 33 nmdC a3 aj (z0.1.tags):=j;have p:=AbQ p a2 bj;have p:=p.keep ar;have bb:OG w.heap.size 97 67 entC a3 aq (z0.1.log):=p;have g:=eb ar g;have hP:AppAt w a3 q ((⟨z0.1.branches,z0.1.tags,z0.1.head,z0.1.at_,z0.1.log⟩,⟨ab,aj,aq⟩):Af):=⟨hE,by omega,g,bk,bm,bb,(AbR bk g (by decide)),(AbR bm g (by decide)),(AbR bb g (by decide)),Acp bb bk (by decide),Acp bb bm (by decide)⟩;have c:=eb ar c;refine gL (fun(ρ:Aj) (wz:AcE)=>∃i:Nat,∃z:Af,ρ 0=(.agg (refsC z0).toArray:AcD)/\ρ 1=(lv:AcD)/\ρ 2=(St (note):AcD)/\ρ 3=(PQ q 0:AcD)/\ρ 6=(PQ af 0:AcD)/\ρ 8=(.map (some gm):AcD)/\ρ 35=(lv:AcD)/\ρ 36=(NI l.length:AcD)/\ρ 37=(NI i:AcD)/\Ext w wz/\wz.heap[af]? =some (.cells (refsC ((⟨[],[],[],zid,[]⟩,⟨.slice none 0 0, .slice none 0 0, .slice none 0 0⟩):Af)).toArray 36 (0,0))/\MapF B8 ND (fun _:UInt8=>True) wz gm doG/\AppAt w wz q z/\(i<=l.length)/\(CU note z0.1 l=CU note z.1 (l.drop i))/\(E8 z.1)/\(z.1.log.length<=64+i)/\True) (fun ρ _=>l.length-(intOf (ρ 37)).toNat) ⟨0,((⟨z0.1.branches,z0.1.tags,z0.1.head,z0.1.at_,z0.1.log⟩,⟨ab,aj,aq⟩):Af),rfl,rfl,rfl,rfl,rfl,rfl,rfl,rfl,rfl,hE,c,hmp,hP,AcZ _,rfl,⟨ap.br,ap.tg,ap.bl,ap.tl⟩,(show z0.1.log.length<=64+0 by omega),trivial⟩ ?_;clear h;clear j;clear p;clear g;clear hP;clear hE c hmp;rintro c1 c2 ⟨i,z,T0,T1,T2,T3,T6,T8,b5,b6,bc,hE,c,hmp,hQ,hi,hrun,hS,hlog,-⟩;have q37:=bc;refine gS (Y7 (a:=(i:Nat)) (b:=(l.length:Nat)) bc b6 (Bf _ _ _ _) ?_);refine cD rfl (fun b7=> ?_) fun b7=> ?_
 ·have hlt:i<l.length:=b7;have ee:(updC (l.getD (i) Ay)).length=66:=(AbX (hr.keep hE) Ay (by omega));refine gS (Zk Mc QE (by decide) Ay (Zf (hr.keep hE) b5) bc (by omega) fun ef b8=>(gS (Zd (Zs b8 rfl) (Sy).choose_spec rfl (by rw[CE];exact Qz) (gS (AbV SJ fun bn c4 b9 ca an eg=> ?_)))));have s:=AbN c2;have bo:=hE.size;have eh:=AR hmp.lt b9;have k:=ca;clear ca;have ei:bn<c4.heap.size:=by omega
  refine gS (Zj GM (vr (PQ bn 0) rfl) (vr (.agg (updC (l.getD (i) Ay)).toArray) rfl) k (G9) fun c5 cb ao ej=> ?_);have hmp:=hmp.keep an;have hmp:=Ab2 hmp ao (Co (by omega));clear k;have k:c5.heap[bn]? =some (.cells (updC (l.getD (i) Ay)).toArray 77 (0,0)):=cb;clear cb;have el:=bl k;clear b8;refine gS (Zr GM rfl k (gS (Y9 SK rfl ((Qs _ (l.getD i Ay) (hln _ (Cd Ay hlt))).mono ?_))));rintro e em ⟨rfl,ag⟩;refine⟨_,rfl,?_⟩;refine gS (Y7 (a:=(Bl (l.getD i Ay):Nat)) (b:=(0:Nat)) rfl rfl (AX _ _ _ _) ?_);refine cD rfl (fun bp=> ?_) fun bp=> ?_
  ·have hU:Bl (l.getD i Ay)≠0:=bp;have s:=s.trans an;have s:=Ad s ao (AcG (AcI _) (by omega));have s:=s.trans ag;have c:=eb s c;refine gS (Ace (v:= .agg (refsC ((⟨[],[],[],zid,[]⟩,⟨.slice none 0 0, .slice none 0 0, .slice none 0 0⟩):Af)).toArray) (by kernel_rfl) (gS (Zj ET T6 (vr (.agg (refsC ((⟨[],[],[],zid,[]⟩,⟨.slice none 0 0, .slice none 0 0, .slice none 0 0⟩):Af)).toArray) rfl) c (Ba rfl rfl rfl) fun c6 cc cd en=> ?_)));have hmp:=hmp.keep ag;have hmp:=Ab2 hmp cd (Co (by omega));clear c;have c:c6.heap[af]? =some (.cells (refsC ((⟨[],[],[],zid,[]⟩,⟨.slice none 0 0, .slice none 0 0, .slice none 0 0⟩):Af)).toArray 36 (0,0)):=cc;clear cc;have eo:=bl c;refine VX rfl (Ab0 T6 c (L0).choose_spec rfl (AO (An _) KI)) (vr (NI (Bl (l.getD i Ay))) rfl) ?_;have hAp:=HN h0c (hrun.trans (SA hlt hU)) hU;have hE:=hE.trans an;have hE:=Ad hE ao (AcG bo (by omega));have hE:=hE.trans ag;have hE:=Ad hE cd (AcG a8 (by omega));exact⟨⟨.slice none 0 0, .slice none 0 0, .slice none 0 0⟩,by rw[hAp],by rw[hAp];exact⟨AbZ _ _ _ _ _,AbZ _ _ _ _ _,AbZ _ _ _ _ _⟩,hE⟩
  have hU:Bl (l.getD i Ay)=0:=by simpa using bp
  obtain⟨f,hF⟩:=Us (GW hU);have s:=s.trans an;have s:=Ad s ao (AcG (AcI _) (by omega));have s:=s.trans ag;have hmp:=hmp.keep ag;have k:=eb ag k;refine gS (AbM OY rfl (gS (Y6 u5 rfl rfl (Ac k (FD (l.getD (i) Ay))) (gS (ZX (ek:=B8) (ev:=ND) (D:=fun _:UInt8=>True) M3 M4 (fun _ _=>Xv) IH (z:=Value.nilFunc) XC T8 rfl hmp trivial hF (gS (Zr GM rfl k (gS (ZA (Ut hF) (caps:= #[]) rfl #[PQ q 0, .agg (updC (l.getD (i) Ay)).toArray] (by simp only[AcT,AcX,Ac2,List.append_toArray,Ade,Adm];exact congrArg List.toArray (B6 T3 rfl)) ((XD w _ q z (hQ.keep s) hS (l.getD i Ay) hF).mono ?_))))))))));rintro e ep ⟨z1,⟨rfl,bd⟩,hR,eq,a4⟩;refine⟨_,rfl,?_⟩;have hmp:=Ab2 hmp a4 (Co (by omega));have o:=hR.blk;have ah:=hR.br;have ai:=hR.tg;have aa:=hR.lg;have er:=AR (bl c) b9;have c:=eb an c;have c:=kb ao c (by omega);have c:=eb ag c;have c:=kb a4 c (by omega);have c7:=AbR aa c (by decide);have c8:=Abu aa hmp;have k:=kb a4 k (by omega);have c9:=AbR aa k (by decide);have da:=AbR ah o (by decide);have db:=AbR ai o (by decide);have ce:=AbR aa o (by decide);have dc:=Acp aa ah (by decide);have dd:=Acp aa ai (by decide);clear hR;refine gS (Y7 (a:=((Ca z.1 (l.getD i Ay)).1:Nat)) (b:=(0:Nat)) rfl rfl (AX _ _ _ _) ?_);refine cD rfl (fun bq=> ?_) fun bq=> ?_
  ·have hD:(Ca z.1 (l.getD i Ay)).1≠0:=bq;refine gS (Ace (v:= .agg (refsC ((⟨[],[],[],zid,[]⟩,⟨.slice none 0 0, .slice none 0 0, .slice none 0 0⟩):Af)).toArray) (by kernel_rfl) (gS (Zj ET T6 (vr (.agg (refsC ((⟨[],[],[],zid,[]⟩,⟨.slice none 0 0, .slice none 0 0, .slice none 0 0⟩):Af)).toArray) rfl) c (Ba rfl rfl rfl) fun de cf cg es=> ?_)));have hmp:=Ab2 hmp cg (Co (by omega));clear c;have c:de.heap[af]? =some (.cells (refsC ((⟨[],[],[],zid,[]⟩,⟨.slice none 0 0, .slice none 0 0, .slice none 0 0⟩):Af)).toArray 36 (0,0)):=cf;clear cf;have et:=bl c;refine VX rfl (Ab0 T6 c (L0).choose_spec rfl (AO (An _) KI)) (vr (NI ((Ca z.1 (l.getD i Ay)).1)) rfl) ?_;have hAp:=HN h0c (hrun.trans (L3 hlt hU hD)) hD;have hE:=hE.trans an;have hE:=Ad hE ao (AcG bo (by omega));have hE:=hE.trans ag;have hE:=Ad hE a4 (AcG (AcI _) (by omega));have hE:=Ad hE cg (AcG a8 (by omega));exact⟨⟨.slice none 0 0, .slice none 0 0, .slice none 0 0⟩,by rw[hAp],by rw[hAp];exact⟨AbZ _ _ _ _ _,AbZ _ _ _ _ _,AbZ _ _ _ _ _⟩,hE⟩
  have hD:(Ca z.1 (l.getD i Ay)).1=0:=by simpa using bq
  refine gS (AbM Jt T3 (gS (Y6 FG rfl rfl (Ac o (B2 z1)) (gS (Zr GM rfl k (gS (ZU (vr (.agg (updC (l.getD (i) Ay)).toArray) rfl) T2 (fun w=>(Uy _ (by rw[List.size_toArray];exact CE _) _ w).trans (by rw[List.toList_toArray,Wt])) (gS (Z1 (a:=(entOf (l.getD i Ay) note)) (enc:=entC) (vr (.agg (entC (entOf (l.getD i Ay) note)).toArray) rfl) (C8 _) SM fun df dg ch ak=> ?_)))))))));have hE:=hE.trans an;have hE:=Ad hE ao (AcG bo (by omega));have hE:=hE.trans ag;have hE:=Ad hE a4 (AcG (AcI _) (by omega));have hE:=hE.trans ak;have aa:=aa.keep ak;refine gS (ZB _ _ w.heap.size _ 104 FG wr30_ig97.choose_spec.1 wr30_ig97.choose_spec.2 FG (z1.1.log) ([(entOf (l.getD i Ay) note)]) (ZY aa (vr z1.2.log rfl)) (Zf ch (vr df rfl)) (fun _ _=>Gb) (by have h_:=congrArg (fun r=>r.log.length) bd;simp only[Ls]at h_;simp only[AcV,Ac1];omega) (by have h_:=congrArg (fun r=>r.log.length) bd;simp only[Ls]at h_;simp only[AcV,Ac1];omega) hE.size fun al dh a5 ac=> ?_);have ac:Grew dg dh z1.2.log al:=ac;have c:=eb ak c;have hmp:=hmp.keep ak;have k:=eb ak k;have o:=eb ak o;have di:OB al q:=Cc ac ce (bl o);have ah:=ah.keep ak;have ai:=ai.keep ak;have hE:=Br hE ac aa.2 (AcI _);have c:=AW c ac c7;have hmp:=Abp hmp ac c8;have k:=AW k ac c9;have o:=AW o ac ce;have ah:=Hl ah ac dc;have ai:=Hl ai ac dd;clear ch;clear aa;refine gS (AbM Jt T3 (gS (Za (i:=35) (v:=al) rfl rfl o (by rw[An];decide) HQ (AbS (Y8 a5)).1 (AbS (Y8 a5)).2 fun a6 ci au eu=> ?_)));have hmp:=Ab2 hmp au (Co (by omega));clear o;have o:a6.heap[q]? =some (.cells (refsC ((⟨z1.1.branches,z1.1.tags,z1.1.head,z1.1.at_,(z1.1.log)++ [(entOf (l.getD i Ay) note)]⟩,⟨z1.2.branches,z1.2.tags,al⟩):Af)).toArray 36 (0,0)):=Az ci (Gd z1 al ((z1.1.log)++ [(entOf (l.getD i Ay) note)]));clear ci;have ew:=bl o;refine gS (Ze (xv:=NI i) (yv:=NI 1) bc rfl rfl (AD _ _ _ (by omega)) ?_);have ah:=AbQ ah au da;have bs:OG w.heap.size 94 33 nmdC a6 z1.2.branches (z1.1.branches):=ah;have ai:=AbQ ai au db;have bt:OG w.heap.size 94 33 nmdC a6 z1.2.tags (z1.1.tags):=ai;have a5:=AbQ a5 au di;have be:OG w.heap.size 97 67 entC a6 al ((z1.1.log)++ [(entOf (l.getD i Ay) note)]):=a5;have hE:=Ad hE au (AcG (AcI _) (by omega));have hP:AppAt w a6 q ((⟨z1.1.branches,z1.1.tags,z1.1.head,z1.1.at_,(z1.1.log)++ [(entOf (l.getD i Ay) note)]⟩,⟨z1.2.branches,z1.2.tags,al⟩):Af):=⟨hE,by omega,o,bs,bt,be,(AbR bs o (by decide)),(AbR bt o (by decide)),(AbR be o (by decide)),Acp be bs (by decide),Acp be bt (by decide)⟩;have cj:E8 (FH (Ca z.1 (l.getD i Ay)).2 (entOf (l.getD i Ay) note)):=by have h_:=QD (y:=(l.getD i Ay)) hS;exact⟨h_.br,h_.tg,h_.bl,h_.tl⟩
  have hlog2:(FH (Ca z.1 (l.getD i Ay)).2 (entOf (l.getD i Ay) note)).log.length<=64+(i+1):=by simp only[FH,AcJ,AcV,Ac1,Ls];omega
  rw[<-bd]at cj hlog2;have c:=kb au c (by omega);refine gK (And.intro ⟨i+1,((⟨z1.1.branches,z1.1.tags,z1.1.head,z1.1.at_,(z1.1.log)++ [(entOf (l.getD i Ay) note)]⟩,⟨z1.2.branches,z1.2.tags,al⟩):Af),T0,T1,T2,T3,T6,T8,b5,b6,rfl,hE,c,hmp,hP,by omega,(hrun.trans (L4 hlt hU hD)).trans (by rw[bd];rfl),cj,hlog2,trivial⟩ ?_);show l.length-(intOf (NI ((i)+(1)))).toNat<l.length-(intOf (c1 37)).toNat;rw[q37];simp only[intOf,Int.toNat_natCast];omega
 have t:=hQ.blk;have ad:=hQ.br;have ae:=hQ.tg;have ck:=hQ.lg;have dj:=AbR ad c (by decide);have dk:=AbR ae c (by decide);have dl:=AbR ad t (by decide);have dm:=AbR ae t (by decide);clear hQ;refine gS (AbM Jt T3 (gS (Y6 FG rfl rfl (Ac t (B2 z)) (gS (AbM Jt T3 (gS (Y6 FG rfl rfl (Ac t (B2 z)) (gS (Zh FG (Zf (Y8 ck) rfl) (gS (Ze (xv:= .int .i64 ((((z.1.log).length:Nat):Int))) (yv:= .int .i64 (((64:Nat):Int))) rfl rfl rfl (NH _ ((((z.1.log).length:Nat):Int)) (((64:Nat):Int)) (by omega)) (gS (AbB (n:=z.1.log.length) (m:=64) rfl rfl (gS (Aak FG Qm rfl (Y8 ck) rfl (by omega) fun dn cl ha194=> ?_)))))))))))))));have hz_:=hE.size;refine gS (Y9 Mb rfl ((Gp _ dn ((z.1.log).drop (z.1.log.length-64)) cl (by rw[Ac5];omega)).mono ?_));rintro e ex ⟨av,rfl,x,aw⟩;refine⟨_,rfl,?_⟩;have x:=AbY x hz_;have t:=eb aw t;have dp:=AbR x t (by decide);have c:=eb aw c;have dq:=AbR x c (by decide);refine gS (AbM Jt T3 (gS (Za (i:=35) (v:=av) rfl rfl t (by rw[An];decide) HQ (AbS (Y8 x)).1 (AbS (Y8 x)).2 fun dr cm ax ey=> ?_)));have hmp:=hmp.keep aw;have hmp:=Ab2 hmp ax (Co (by omega));clear cl;clear t;have t:dr.heap[q]? =some (.cells (refsC ((⟨z.1.branches,z.1.tags,z.1.head,z.1.at_,(z.1.log).drop (z.1.log.length-64)⟩,⟨z.2.branches,z.2.tags,av⟩):Af)).toArray 36 (0,0)):=Az cm (Gd z av ((z.1.log).drop (z.1.log.length-64)));clear cm;have ez:=bl t;have ad:=ad.keep aw;have ad:=AbQ ad ax dl;have ae:=ae.keep aw;have ae:=AbQ ae ax dm;have c:=kb ax c (by omega);have x:=AbQ x ax dp;refine gS (Zr ET T3 t (gS (Zj ET T6 (vr (.agg (refsC ((⟨z.1.branches,z.1.tags,z.1.head,z.1.at_,(z.1.log).drop (z.1.log.length-64)⟩,⟨z.2.branches,z.2.tags,av⟩):Af)).toArray) rfl) c (Ba (AbS (Y8 ad)).2 (AbS (Y8 ae)).2 (AbS (Y8 x)).2) fun ds cn a7 e0=> ?_)));have hmp:=Ab2 hmp a7 (Co (by omega));clear c;have c:ds.heap[af]? =some (.cells (refsC ((⟨z.1.branches,z.1.tags,z.1.head,z.1.at_,(z.1.log).drop (z.1.log.length-64)⟩,⟨z.2.branches,z.2.tags,av⟩):Af)).toArray 36 (0,0)):=cn;clear cn;have e1:=bl c;refine VX rfl (Ab0 T6 c (L0).choose_spec rfl (AO (An _) KI)) (vr (NI 0) rfl) ?_;have hAp:=L5 h0c (hrun.trans (NE (show l.length<=i by omega)));have hE:=hE.trans aw;have hE:=Ad hE ax (AcG (AcI _) (by omega));have hE:=Ad hE a7 (AcG a8 (by omega));have ad:=AbQ ad a7 dj;have ae:=AbQ ae a7 dk;have x:=AbQ x a7 dq;exact⟨⟨z.2.branches,z.2.tags,av⟩,by rw[hAp];rfl,by rw[hAp];exact⟨ad,ae,x⟩,hE⟩
section
variable {P : AcY} {l : List AcW} {kill : Nat -> List Nat} {C : Nat -> AcE -> Prop} {R : Nat -> AcE -> AcE -> Prop} {Φ : Nat -> Bx} {a0 : Act}
theorem SN{z:Nat}(g:JT l z){k:Nat}(ht:∀i,k<=i->i<l.length->∀m,k<=m->m<i->((AQ l []).getD i 0).testBit m=true){Q:Exit->Act->AcE->Prop}:
  ∀(fuel m:Nat) (listed:Array Bool) (a:Act) (w:AcE),listed.size=l.length->(∀i,On listed i↔i<m)->k<=m->m<=l.length->l.length<=m+fuel->wpList P l.toArray Q (l.drop m) a w->wpAny P .any l.toArray Q fuel listed a w:=by
 have noReady:∀(m:Nat) (listed:Array Bool),listed.size=l.length->(∀i,On listed i↔i<m)->l.length<=m->Ad6 .any l.toArray listed= []:=by
  intro m listed hsz hon hm;cases hr:Ad6 .any l.toArray listed with
  | nil=>rfl
  | cons x xs=>
   exfalso;have hmem:x∈Ad6 .any l.toArray listed:=by rw[hr];simp
   obtain⟨h1,o,ho,_⟩:=mem_ready.1 hmem;have hx:x<l.length:=by simpa using (Array.getElem?_eq_some_iff.1 ho).1
   have h2:=(hon x).2 (by omega);have hx' :x<listed.size:=h2.lt;unfold On at h2;simp[hx']at h1 h2;rw[h1]at h2;cases h2
 intro fuel
 induction fuel with
 | zero=>
  intro m listed a w hsz hon hk hm hf hw;rw[Aef (by omega)]at hw;exact⟨noReady m listed hsz hon (by omega),hw⟩
 | succ fuel ih=>
  intro m listed a w hsz hon hk hm hf hw;by_cases hml:m=l.length
  ·have hr:=noReady m listed hsz hon (by omega);rw[Aef (by omega)]at hw;exact⟨fun _=>hw,fun i hi=>by rw[hr]at hi;cases hi⟩
  ·have hlt:m<l.length:=by omega
   have hoff:¬On listed m:=fun x=>by have:=(hon m).1 x;omega
   have hI:Inv l (fun _=> []) (fun _ _=>True) (fun _ _=>True) (fun _ _ _=>True) a listed a w:=
    ⟨hsz,fun i o ho hi e he hb=>(hon _).2 (by have:=g.back i o ho e he hb;have:=(hon i).1 hi;omega),rfl,rfl,fun _ _ _=>trivial,trivial,fun _ _=>rfl,fun _ _ _ _ _ _ _ _=>trivial⟩
   refine⟨fun hr=> ?_,fun i hi=> ?_⟩
   ·exfalso;have ho:l[m]? =some l[m]:=AcQ hlt;have:m∈Ad6 .any l.toArray listed:=by
     refine mem_ready.2 ⟨?_,l[m],by rw[Ads];exact ho,fun e he hb=>(hon _).2 (g.back m _ ho e he hb)⟩;have hm' :m<listed.size:=by omega
     unfold On at hoff;simp[hm']at hoff ⊢;exact hoff
    rw[hr]at this;cases this
   ·obtain⟨h1,o,ho,hall⟩:=mem_ready.1 hi;have ho' :l[i]? =some o:=by simpa using ho
    have hil:i<l.length:=(Ac3.1 ho').1;have hno:¬On listed i:=fun x=>by
     have hx:i<listed.size:=by omega
     unfold On at x;simp[hx]at h1 x;rw[h1]at x;cases x
    have him:i=m:=by
     by_cases h2:i<m
     ·exact absurd ((hon i).2 h2) hno
     ·by_cases h3:i=m
      ·exact h3
      ·exact absurd (hI.maskReady ho' (fun e he hb=>hall e he hb) (ht i (by omega) hil m hk (by omega))) hoff
    subst him;rw[Aew hlt]at hw;obtain rfl:l[i]=o:=by rw[AcQ hlt]at ho';exact Ac9 ho'
    have nxt:∀a' w',wpList P l.toArray Q (l.drop (i+1)) a' w' ->wpAny P .any l.toArray Q fuel (listed.setIfInBounds i true) a' w' :=fun a' w' hw' =>
     ih (i+1) _ a' w' (by simpa using hsz) (fun j=>by rw[AP (by omega),hon j];omega) (by omega) (by omega) (by omega) hw'
    unfold wpOp;simp only[Ads,ho'];unfold wpList at hw;split at hw
    ·rename_i hwt
     rw[if_pos hwt];exact hw.imp (fun h=>Oper.wp_mono nxt h) (fun h=>h)
    ·rename_i hwt
     rw[if_neg hwt];exact nxt _ _ hw
end
def QG(l:List AcW)(oe:AcW)(e:Nat):Bool:=
 (Aev l.length).all fun j=>match l[j]? with
  | some o=>Nat.beq j e||(o.after.any (fun x=>AdG .any x&&x.on==e)||(oe.apart l.toArray o||((AQ l []).getD e 0).testBit j))
  | none=>true
def KO(l:List AcW)(k e:Nat):Bool:=Aeh e k&&(Aev l.length).all fun i=>Aeh i k||(Aev i).all fun m=>Nat.beq m e||((AQ l []).getD i 0).testBit m
theorem SO{l:List AcW}{k e:Nat}(h:KO l k e=true):e<k/\∀i,k<=i->i<l.length->∀m,m<i->m≠e->((AQ l []).getD i 0).testBit m=true:=by
 unfold KO at h;rw[Ada]at h;refine⟨AcP h.1,fun i hi hl m hm hne=> ?_⟩;have h1:=Ady.1 h.2 i (by simpa using hl);rcases AdU _ _▸h1 with h2 | h2
 ·have:=AcP h2;omega
 ·have h3:=Ady.1 h2 m (by simpa using hm);rcases AdU _ _▸h3 with h4 | h4
  ·exact absurd (Afz h4) hne
  ·exact h4
section
variable {P : AcY} {l : List AcW} {Φ : Nat -> Bx} {a0 : Act} {w0 : AcE} {Q : Exit -> Act -> AcE -> Prop} {e k : Nat} {oe : AcW}
def Jd(P:AcY)(op:Op):Prop:=∀(ev:AcO->AcD) dst ty pos af,(∃x,∀w:AcE,(execOp ev ⟨dst,op,ty,pos,af,none⟩).run P w = .ok (.value x) w)\/∀w:AcE,∃s,(execOp ev ⟨dst,op,ty,pos,af,none⟩).run P w = .halt (.stuck s) w
theorem MU(o:AcO)(n:Nat):Jd P (.extract o n):=by
 intro ev dst ty pos af;have hr:∀v:AcD,(∃x,∀w:AcE,(AfK v n).run P w = .ok x w)\/∀w:AcE,∃s,(AfK v n).run P w = .halt (.stuck s) w:=by
  intro v;cases v with
  | tuple vs=>
   cases hx:vs[n]? with
   | some x=>exact .inl ⟨x,fun w=>by simp[AfK,hx]⟩
   | none=>exact .inr fun w=>⟨_,by simp only[AfK,hx];rfl⟩
  | _=>exact .inr fun w=>⟨_,by simp only[AfK];rfl⟩
 rcases hr (ev o)with ⟨x,hx⟩ | hx
 ·exact .inl ⟨x,fun w=>by
   unfold execOp;simp only[AcN,hx,AcM,AcR]⟩
 ·refine .inr fun w=> ?_;obtain⟨s,hs⟩:=hx w;exact⟨s,by
   unfold execOp;simp only[AcN,hs];rfl⟩
theorem NJ{dst:Option Tmp}{op:Op}(hst:Jd P op){ty:AcK}{pos:String}{af:Array Edge}(he:l[e]? =some ⟨dst,op,ty,pos,af,none⟩){K:Act->AcE->Prop}{a:Act}{w:AcE} 
  (h:wpOp P l.toArray (fun _ _ _=>False) e K a w):∃x,Yields P l.toArray ⟨dst,op,ty,pos,af,none⟩ x a/\K (a.put dst x) w:=by
 unfold wpOp at h;simp only[Ads,he,AdL,if_true]at h;rcases h with h | ⟨-,-,-,h⟩
 ·unfold Oper.wp at h;rcases hst a.eval dst ty pos af with ⟨x,hx⟩ | hx
  ·rw[hx]at h;exact⟨x, .inl ⟨rfl,hx⟩,h⟩
  ·obtain⟨s,hs⟩:=hx w;rw[hs]at h;exact h.elim
 ·exact h.elim
theorem Wu(g:JT l a0.tmps.size)(hsel:Ahd l.toArray=true){d:Tmp}{op:Op}(hso:Jd P op){ty:AcK}{pos:String}{af:Array Edge}(he:l[e]? =some ⟨some d,op,ty,pos,af,none⟩) 
  (hte:KO l k e=true) (hfr:QG l ⟨some d,op,ty,pos,af,none⟩ e=true) (hk:k<=l.length) (hst:∀i,Stab Ext (Φ i))
  (hs:∀i o,l[i]? =some o->i<k->Ik P l (fun _=>Ext w0) (fun _=>Ext) Φ a0.tmps i o) (hQp:∀v c a w,Q (.panic c) (a.put (some d) v) w->Q (.panic c) a w)
  (hQ:∀listed a' w',(∀i,On listed i↔i<k)->Inv l (fun _=> []) (fun _=>Ext w0) (fun _ _=>True) Φ a0 listed a' w' ->wpList P l.toArray Q (l.drop k) a' w'):
  ∀(fuel:Nat) (listed:Array Bool) (a:Act) (w:AcE),(listed.toList.filter (!·)).length=fuel->(∀i,On listed i->i<k)->e∉Ad6 .any l.toArray listed->Inv l (fun _=> []) (fun _=>Ext w0) (fun _ _=>True) Φ a0 listed a w->wpAny P .any l.toArray Q fuel listed a w:=by
 obtain⟨hek,hte⟩:=SO hte;have ht:∀i,k<=i->i<l.length->∀m,k<=m->m<i->((AQ l []).getD i 0).testBit m=true:=fun i hi hl m hkm hm=>hte i hi hl m hm (by omega);have hkl:EZ l (fun _=> [])=true:=by unfold EZ;simp
 have hC:∀n m,n<l.length->m<l.length->n≠m->((AQ l []).getD n 0).testBit m=false->∀w w',Ext w0 w->Ext w w' ->Ext w0 w' :=fun _ _ _ _ _ _ _ _ hc hr=>hc.trans hr;have hE:∀n listed (w w' :AcE),n<l.length->listed.size=l.length->¬On listed n->(∀i k,On listed i\/i=n->((AQ l []).getD i 0).testBit k=true->On listed k)->True->Ext w w' ->True:=fun _ _ _ _ _ _ _ _ _ _=>trivial;have hΦ:∀n i,n<l.length->i<l.length->i∉([]:List Nat)->i≠n->((AQ l []).getD i 0).testBit n=false->∀v w w',Φ i v w->Ext w w' ->Φ i v w' :=fun _ i _ _ _ _ _ v w w' =>hst i v w w';have hRr:∀(n:Nat) o (w:AcE),l[n]? =some o->o.guard.isSome=true->Ext w w:=fun _ _ w _ _=>AbN w;intro fuel
 induction fuel using Afn with
 | _ fuel ih=>
 intro listed a w hf hoff hre h;by_cases hfull:∀i,i<k->On listed i
 ·have hon:∀i,On listed i↔i<k:=fun i=>⟨hoff i,hfull i⟩;refine SN g ht fuel k listed a w h.size hon (AcI _) hk ?_ (hQ listed a w hon h);have f:=AdX k listed.toList;rw[<-f,List.filter_append,AcJ]at hf;have p:(listed.toList.drop k).filter (!·)=listed.toList.drop k:=List.filter_eq_self.2 fun b hb=>by
   obtain⟨j,hj,rfl⟩:=List.getElem_of_mem hb;rw[AgE];have hno:¬On listed (k+j):=fun x=>by have:=hoff _ x;omega
   rw[Ac5]at hj;have hlt:k+j<listed.size:=by rw[<-Ad0];omega
   unfold On at hno;simp[hlt]at hno;simp[hno]
  rw[p,Ac5]at hf;have hz:listed.toList.length=l.length:=by rw[Ad0];exact h.size
  omega
 ·have hunl:∀i,i<l.length->¬On listed i->listed.getD i true=false:=fun i hi hno=>by
   have hi' :i<listed.size:=by rw[h.size];exact hi
   unfold On at hno;simp[hi']at hno ⊢;exact hno
  have hlow:∃j,j<k/\j≠e/\¬On listed j:=by
   refine AdQ fun hn=>hfull fun i hi=>AdQ fun hx=> ?_;have hall:∀j,j<k->j≠e->On listed j:=fun j hj hje=>AdQ fun hx=>hn ⟨j,hj,hje,hx⟩;have hie:i=e:=AdQ fun hne=>hx (hall i hi hne);subst hie;refine hre (mem_ready.2 ⟨hunl i (by omega) hx,_,by rw[Ads];exact he,fun x hxm hb=> ?_⟩);have:=g.back i _ he x hxm hb;exact hall x.on (by omega) (by omega)
  obtain⟨j0,hj0,hj0e,hoff0⟩:=hlow;have hpos:∀(L:Array Bool) i,L.size=l.length->i<l.length->L.getD i true=false->∃m,(L.toList.filter (!·)).length=m+1/\((L.setIfInBounds i true).toList.filter (!·)).length=m:=fun L i hL hi hx=>by
   have hi' :i<L.size:=by omega
   have:=FC L.toList i (by simp[hi']at hx;simp[hi',hx]);exact⟨_,this.symm,by rw[Ae3]⟩
  obtain⟨f0,hf0,-⟩:=hpos listed j0 h.size (by omega) (hunl j0 (by omega) hoff0);obtain rfl:fuel=f0+1:=by omega
  refine⟨fun hr=> ?_,fun i hi=> ?_⟩
  ·exfalso;have full:∀i,i<l.length->On listed i:=by
    intro i
    induction i using Afn with
    | _ i ih2=>
     intro hi;refine AdQ fun hno=> ?_;have ho:l[i]? =some l[i]:=AcQ hi;have:i∈Ad6 .any l.toArray listed:=mem_ready.2 ⟨hunl i hi hno,l[i],by rw[Ads];exact ho,fun x hx hb=>by
      have hlt:=g.back i _ ho x hx hb;exact ih2 x.on hlt (by omega)⟩
     rw[hr]at this;cases this
   exact hoff0 (full j0 (by omega))
  ·have hie:i≠e:=fun x=>hre (x▸hi);obtain⟨h1,o,ho,hall0⟩:=mem_ready.1 hi;have ho' :l[i]? =some o:=by simpa using ho
   have hilt:i<l.length:=(Ac3.1 ho').1;have hil:i<listed.size:=by rw[h.size];exact hilt
   have hno:¬On listed i:=by
    unfold On;simp[hil]at h1 ⊢;exact h1
   have hall:∀x∈o.after,AdG .any x=true->On listed x.on:=fun x hx hb=>hall0 x hx hb;have hik:i<k:=by
    by_cases h2:i<k
    ·exact h2
    ·exact absurd (h.maskReady ho' hall (hte i (by omega) hilt j0 (by omega) hj0e)) hoff0
   obtain⟨f1,hf1,hcnt⟩:=hpos listed i h.size hilt h1;obtain rfl:f1=f0:=by omega
   refine h.step g hkl hC hE hΦ hRr ho' hno hall (hs i o ho' hik) fun a' w' h' => ?_;have hoff' :∀j,On (listed.setIfInBounds i true) j->j<k:=fun j hx=>by
    rcases(AP hil).1 hx with rfl | h3
    ·exact hik
    ·exact hoff j h3
   by_cases hre' :e∈Ad6 .any l.toArray (listed.setIfInBounds i true)
   ·obtain⟨q1,oe',hoe,hq⟩:=mem_ready.1 hre';have hoe' :l[e]? =some oe' :=by simpa using hoe
    obtain rfl:=Ac9 (he.symm.trans hoe');have helt:e<l.length:=by omega
    have hel:e<(listed.setIfInBounds i true).size:=by rw[h'.size];exact helt
    have hnoe:¬On (listed.setIfInBounds i true) e:=by
     unfold On;rw[Adk]at q1 ⊢;rw[Ae8 hel]at q1 ⊢;simp only[AeU]at q1 ⊢;rw[q1];decide
    have hw:=h'.step g hkl hC hE hΦ hRr he hnoe (fun x hx hb=>hq x hx hb) (hs e _ he hek) (K:=fun a2 w2=>Inv l (fun _=> []) (fun _=>Ext w0) (fun _ _=>True) Φ a0 ((listed.setIfInBounds i true).setIfInBounds e true) a2 w2) (Q:=fun _ _ _=>False) (fun _ _ hx=>hx);obtain⟨x,hy,hK⟩:=NJ hso he hw;obtain⟨f2,hf2,hcnt2⟩:=hpos _ e h'.size helt q1;obtain rfl:f1=f2+1:=by omega
    refine wpAny_first hoe (Region.noSelect_spec hsel) (hQp x) f2 _ a' w' (fun j oj hoj hje hjun hjno=> ?_) hre' hy (ih f2 (by omega) _ _ _ hcnt2 (fun j hx=> ?_) (fun hx=> ?_) hK)
    ·have hoj' :l[j]? =some oj:=by simpa using hoj
     have hjl:j<l.length:=(Ac3.1 hoj').1;have hfj:=Ady.1 hfr j (by simpa using hjl);rw[hoj']at hfj;simp only[AdU]at hfj;rcases hfj with h3 | h3 | h3 | h3
     ·exact absurd (Afz h3) hje
     ·obtain⟨y,hy1,hy2⟩:=Array.any_eq_true'.1 h3;simp only[Ada,beq_iff_eq]at hy2;exact absurd hy2.2 (hjno y hy1 hy2.1)
     ·exact h3
     ·have hon:=h'.maskReady he (fun x hx hb=>hq x hx hb) h3;have hjl' :=hon.lt;unfold On at hon;rw[Adk,Ae8 hjl']at hon hjun;simp only[AeU]at hon hjun;rw[hon]at hjun;cases hjun
    ·rcases(AP hel).1 hx with rfl | h3
     ·exact hek
     ·exact hoff' j h3
    ·have:=(mem_ready.1 hx).1;simp[hel]at this
   ·exact ih f1 (by omega) _ _ _ hcnt hoff' hre' h'
end
section
variable {P : AcY} {n : Nat} {ρ : Aj} {w : AcE} {Q : Bd}
theorem Lt{l r:List AcW}(e k0:Nat)(Φs:List Bx){id:Nat}(hm:P.follows .mixedOrders=true)(ds:List Tmp)(hg:Dn l n=true){d:Tmp}{op:Op}(hso:Jd P op){ty:AcK}{pos:String}{af:Array Edge}(he:l[e]? =some ⟨some d,op,ty,pos,af,none⟩)(hsel:Ahd l.toArray=true) 
  (hn:KO l k0 e=true) (hfr:QG l ⟨some d,op,ty,pos,af,none⟩ e=true) (haf:af.any (fun x=>AdG .any x)=true) (f:Nat.ble Φs.length k0=true) (hds:slotsW l=ds) (hr:(l.drop k0)=r) (hlt:Aeh k0 l.length=true) (hst:AllStab Ext Φs)
  (hQp:∀c ρ ρ' w,Q (.panic c) ρ w->Q (.panic c) ρ' w)
  (hs:StepsFC P l k0 (fun _=>Ext w) (fun _=>Ext) (CB Φs) ρ 0 l)
  (hQ:∀(ρ' :Aj) w1,Ext w w1->EndF ds ρ ρ' ->CI l (fun _=> []) (CB Φs) ρ' w1 ds->BP P l.toArray n Q r ρ' w1):B9 P n (.region id l.toArray true) Q ρ w:=by
 intro a ha;obtain⟨T,df⟩:=a;have hz:T.size=n:=ha.size;subst hz;have b:k0<l.length:=AcP hlt;have g:=G4 hg;have hno0:∀i,¬On (Aeo l.toArray.size false) i:=fun i h=>by
  unfold On at h;rw[Adk,Array.getElem?_replicate]at h;split at h <;> simp at h
 refine wp_region_any hm (Wu (a0:= { tmps:=T,defers:=df }) (w0:=w) (Φ:=CB Φs) g hsel hso he hn hfr (Nat.le_of_lt b) (fun i=>hst.get Φs i) (fun i o ho hi=> ?_) (fun v c a' w' hx=> ?_) (fun listed a' w' hon h=> ?_) _ _ _ _ (by simp) (fun i h=>absurd h (hno0 i)) ?_ ?_)
 ·have hst:=StepsFC.get l 0 hs i o ho (by omega);rw[Aem]at hst;have h2:=StepsF.ok (P:=P) (l:=l) (C:=fun _=>Ext w) (R:=fun _=>Ext) (Φ:=CB Φs) (T:=T) ha.get [o] i ⟨hst,trivial⟩;exact h2.1
 ·obtain⟨ρ',hf,hq⟩:=hx;exact⟨fun t=>a'.tmps.getD t undef,⟨by have:=hf.size;simpa [Act.put] using this,by have:=hf.defers;simpa [Act.put] using this,fun _=>rfl⟩,hQp _ _ _ _ hq⟩
 ·have hw:∀d k,Dt l d l.length=some k->(Aev l.length).all (fun n=> !([]:List Nat).contains k)=true->CB Φs k (a'.tmps.getD d undef) w' :=fun d k hk hall=>by
   obtain⟨h1,⟨o,ho,hd'⟩,h3⟩:=Fv _ hk;by_cases hkL:k0<=k
   ·have e:CB Φs k=fun _ _=>True:=by
     have:=AcP f;unfold CB;rw[AcL,List.getElem?_eq_none (by omega)];rfl
    rw[e];trivial
   exact h.new d k o ho hd' ((hon k).2 (by omega)) (fun k' o' hkk ho' hd'' _=>h3 k' o' hkk (Ac3.1 ho').1 ho' hd'') (fun n hn=>by simp)
  have hget:∀t,a'.tmps.getD t undef=if t∈ds then a'.tmps.getD t undef else ρ t:=fun t=>by
   by_cases hn:t∈ds
   ·rw[if_pos hn]
   ·rw[if_neg hn,<-ha.get];exact h.old t fun k o ho hd _=>hn (by
     rw[<-hds];unfold slotsW;rw[List.mem_eraseDups,List.mem_filterMap];exact⟨o,AeM ho,hd⟩)
  have hcl:=h.cls k0 b (fun x=>by have:=(hon k0).1 x;omega);have hend:EndF ds ρ (fun t=>a'.tmps.getD t undef):=⟨fun t ht=>by rw[hget t,if_neg (by simpa using ht)]⟩;have:=hQ (fun t=>a'.tmps.getD t undef) w' hcl hend (GR hw ds);rw[hr];exact this a' ⟨h.tmps,h.defers.trans ha.defers,fun t=>rfl⟩
 ·intro hx;obtain⟨-,o,ho,hall⟩:=mem_ready.1 hx;obtain rfl:=Ac9 (he.symm.trans (by simpa using ho));obtain⟨x,j,m⟩:=Array.any_eq_true'.1 haf;exact hno0 _ (hall x j m)
 ·exact⟨Array.size_replicate,fun i o _ h=>absurd h (hno0 i),rfl,rfl,fun n hn _=>(Below.refl _ _).drew,trivial,fun t _=>rfl,fun t k o _ _ h=>absurd h (hno0 k)⟩
theorem MV{l r:List AcW}(e k0:Nat)(Φs:List Bx){id:Nat}(hm:P.follows .mixedOrders=true)(ds:List Tmp)(hg:Dn l n=true){d t:Tmp}{m:Nat}{ty:AcK}{pos:String}{af:Array Edge}(he:l[e]? =some ⟨some d, .extract (.tmp t) m,ty,pos,af,none⟩)(hsel:Ahd l.toArray=true) 
  (hn:KO l k0 e=true) (hfr:QG l ⟨some d, .extract (.tmp t) m,ty,pos,af,none⟩ e=true) (haf:af.any (fun x=>AdG .any x)=true) (a:Nat.ble Φs.length k0=true) (hds:slotsW l=ds) (hr:(l.drop k0)=r) (hlt:Aeh k0 l.length=true) (hst:AllStab Ext Φs)
  (hQp:∀c ρ ρ' w,Q (.panic c) ρ w->Q (.panic c) ρ' w)
  (hs:StepsFC P l k0 (fun _=>Ext w) (fun _=>Ext) (CB Φs) ρ 0 l)
  (hQ:∀(ρ' :Aj) w1,Ext w w1->EndF ds ρ ρ' ->CI l (fun _=> []) (CB Φs) ρ' w1 ds->BP P l.toArray n Q r ρ' w1):B9 P n (.region id l.toArray true) Q ρ w:=
 Lt e k0 Φs hm ds hg (MU _ _) he hsel hn hfr haf a hds hr hlt hst hQp hs hQ
end
def XE(f:Field)(x:Nat × Nat):Bool:=f.name != "_" && (f.type==x.1&&f.offset==x.2)
def KP:List Field->List (Nat × Nat)->Bool
 | [],[]=>true
 | f :: fs,x :: r=>XE f x&&KP fs r
 | _,_=>false
section
variable {P : AcY} {w : AcE} {d : Nat} {xs ys : Array AcD}
theorem Lu{fs:List Field}(h:KP fs []=true):(Agq d xs ys fs).run P w = .ok true w:=by
 cases fs with
 | nil=>simp[Agq,AcR]
 | cons f fs=>cases h
theorem Eb{fs:List Field}{t o:Nat}{r:List (Nat × Nat)}{a b:AcD}{q q2:Bool}(h:KP fs ((t,o) :: r)=true)(ha:(part t xs o).run P w = .ok a w)(hb:(part t ys o).run P w = .ok b w)(he:(AeF d t a b).run P w = .ok q w) 
  (hr:∀fs',KP fs' r=true->(Agq d xs ys fs').run P w = .ok q2 w):(Agq d xs ys fs).run P w = .ok (q&&q2) w:=by
 cases fs with
 | nil=>cases h
 | cons f fs=>
  simp only[KP,XE,Ada,bne_iff_ne,beq_iff_eq]at h;obtain⟨⟨hn,ht,ho⟩,h2⟩:=h;have hr:=hr fs h2;simp only[Agq,if_pos hn,AcN,ht,ho,ha,hb,he,AcM];cases q
  ·simp[AcR]
  ·simpa using hr
theorem Ec{t o:Nat}{cs:List AcD}{v:AcD}(h:(isAgg t).run P w = .ok false w)(hv:cs[o]? =some v):(part t cs.toArray o).run P w = .ok v w:=by
 unfold part;rw[AcN,h];simp[hv,AcR]
theorem Ge{t o:Nat}{cs a z:List AcD}{l:Aib}(h:(isAgg t).run P w = .ok true w)(hs:(sizeOf t).run P w = .ok 32 w)(hc:cs=a++AcH l++z)(ha:a.length=o)(hl:l.length=32):(part t cs.toArray o).run P w = .ok (.agg (AcH l).toArray) w:=by
 unfold part;have e:(cs.drop o).take 32=AcH l:=by
  rw[hc,Ac7,<-ha,AfA,AdW (by rw[AcS,hl])]
 rw[AcN,h];simp[hs,e]
theorem XF{t:Nat}{a b:UInt8}(h:P.underlying t=some (.int .u8)):(AeF (d+1) t (B8 a) (B8 b)).run P w = .ok (decide (a=b)) w:=by
 rw[run_equalIn_int w d t .u8 .u8 _ _ h,byte_eq]
theorem Lv{t:Nat}{a b:Bs}(h:P.underlying t=some .string):(AeF (d+1) t (St a) (St b)).run P w = .ok (decide (a=b)) w:=by
 have e:=run_equalIn_string (P:=P) w d t ⟨a.toArray⟩ ⟨b.toArray⟩ h;rw[Fl,Fl]at e;refine e.trans ?_
 congr 1
 rw[Bool.eq_iff_iff];simp
theorem NK{t e:Nat}{a b:B7}(ht:P.underlying t=some (.array 32 e))(he:P.underlying e=some (.int .u8))(hs:(sizeOf e).run P w = .ok 1 w):(AeF (d+1+1) t (.agg (AcH a.1).toArray) (.agg (AcH b.1).toArray)).run P w = .ok (decide (a=b)) w:=by
 rw[run_eqArray w ht he hs a.1 b.1 a.2 b.2]
 congr 1
 exact decide_eq_decide.2 ⟨fun h=>Subtype.ext h,fun h=>by rw[h]⟩
end
section
variable {P : AcY} {K : AcD -> AcE -> Prop} {ρ : Aj} {w : AcE} {d : Option Tmp} {ty : AcK} {pos : String} {af : Array Edge} {gd : Option (Nat × Bool)}
theorem AaM{t ty2:AcK}{x y:AcO}{cx cy:Array AcD}{b:Bool}(hg:P.eqGuardType P.depth t=false)(hx:Ab ρ x = .agg cx)(hy:Ab ρ y = .agg cy)(h:(AeF 10000 t (.agg cx) (.agg cy)).run P w = .ok b w)(hk:K (.bool (!b)) w):Yk P K ((execOp (Ab ρ) ⟨d, .binOp .neq t x y ty2,ty,pos,af,gd⟩).run P w):=by
 refine AbU (v:= .bool (!b)) (w' :=w) ?_ hk;unfold execOp;simp only[hx,hy,AcN,run_eqGuard_agg w .neq t x y cx cy hg,AcM,run_neq_struct,h];rfl
end
theorem NL{P:AcY}{w:AcE}{t o n:Nat}{cs a m z:List AcD}(h:(isAgg t).run P w = .ok true w)(hs:(sizeOf t).run P w = .ok n w)(hc:cs=a++m++z)(ha:a.length=o)(hl:m.length=n):(part t cs.toArray o).run P w = .ok (.agg m.toArray) w:=by
 unfold part;have e:(cs.drop o).take n=m:=by rw[hc,Ac7,<-ha,AfA,AdW hl]
 rw[AcN,h];simp[hs,e]
theorem XG(w:AcE)(d:Nat)(x:Aw):(AeF (d+3) 77 (.agg (updC x).toArray) (.agg (updC x).toArray)).run AcF w = .ok true w:=by
 refine(run_equalIn_struct w (d+2) _ _ _ (by kernel_rfl) (by kernel_rfl)).trans ?_;rw[show true=(decide (x.kind=x.kind)&&(decide (x.name=x.name)&&(decide (x.old=x.old)&&(decide (x.new=x.new)&&true)))) by simp];exact Eb (t:=5) (o:=0) (r:= [(9,1),(33,2),(33,34)]) (by kernel_rfl) (Ec (by kernel_rfl) (FD x)) (Ec (by kernel_rfl) (FD x)) (XF (d:=d+1) (by kernel_rfl)) fun _ h=>
  Eb h (Ec (by kernel_rfl) (D4 x)) (Ec (by kernel_rfl) (D4 x)) (Lv (d:=d+1) (by kernel_rfl)) fun _ h=>
  Eb h (Ge (by kernel_rfl) (by kernel_rfl) (Ev x) (E2 x) x.old.2) (Ge (by kernel_rfl) (by kernel_rfl) (Ev x) (E2 x) x.old.2) (NK (d:=d) (e:=5) (by kernel_rfl) (by kernel_rfl) (by kernel_rfl)) fun _ h=>
  Eb h (Ge (by kernel_rfl) (by kernel_rfl) (C3 x) (Db x) x.new.2) (Ge (by kernel_rfl) (by kernel_rfl) (C3 x) (Db x) x.new.2) (NK (d:=d) (e:=5) (by kernel_rfl) (by kernel_rfl) (by kernel_rfl)) fun _ h=>Lu h
theorem XH(w:AcE)(x:AH):(AeF 10000 159 (.agg (nmdC x).toArray) (.agg (nmdC x).toArray)).run AcF w = .ok true w:=by
 refine(run_equalIn_struct w 9999 _ _ _ (by kernel_rfl) (by kernel_rfl)).trans ?_;rw[show true=(decide (x.name=x.name)&&(decide (x.id=x.id)&&true)) by simp];exact Eb (t:=9) (o:=0) (r:= [(33,1)]) (by kernel_rfl) (Ec (by kernel_rfl) (E3 x)) (Ec (by kernel_rfl) (E3 x)) (Lv (d:=9998) (by kernel_rfl)) fun _ h=>
  Eb h (Ge (by kernel_rfl) (by kernel_rfl) (He x) (Hf x) x.id.2) (Ge (by kernel_rfl) (by kernel_rfl) (He x) (Hf x) x.id.2) (NK (d:=9997) (e:=5) (by kernel_rfl) (by kernel_rfl) (by kernel_rfl)) fun _ h=>Lu h
theorem Md(x:A9):entC x= []++updC ⟨x.kind,x.name,x.old,x.new⟩++ [St x.note]:=by simp[entC,updC]
theorem Yl(w:AcE)(x:A9):(AeF 10000 97 (.agg (entC x).toArray) (.agg (entC x).toArray)).run AcF w = .ok true w:=by
 refine(run_equalIn_struct w 9999 _ _ _ (by kernel_rfl) (by kernel_rfl)).trans ?_;rw[show true=(true&&(decide (x.note=x.note)&&true)) by simp];exact Eb (t:=77) (o:=0) (r:= [(9,66)]) (by kernel_rfl) (NL (by kernel_rfl) (by kernel_rfl) (Md x) rfl (CE _)) (NL (by kernel_rfl) (by kernel_rfl) (Md x) rfl (CE _)) (XG w 9996 _) fun _ h=>
  Eb h (Ec (by kernel_rfl) (Ko x)) (Ec (by kernel_rfl) (Ko x)) (Lv (d:=9998) (by kernel_rfl)) fun _ h=>Lu h
theorem Dg:Tryz.prog.underlying 67=some (.slice 159):=by kernel_rfl
theorem Jy:∀w' :AcE,(sizeOf 159).run AcF w' = .ok 33 w' :=fun _=>by kernel_rfl
theorem KQ:∃fs,Tryz.prog.underlying 159=some (.struct fs):=Dz (by kernel_rfl)
theorem Jz:(Tryz.prog.info? 159).map (·.size)=some 33:=by kernel_rfl
theorem QH:Tryz.prog.eqGuardType Tryz.prog.depth 159=false:=by kernel_rfl
theorem JB:AC AcF 69 0 0:=fun b o w=>by simp[go_sem]
theorem Me:Plain AcF 97:=fun _ _=>by kernel_rfl
theorem JC:AC AcF 69 1 1:=fun b o w=>by simp[go_sem]
theorem JD:AC AcF 69 2 2:=fun b o w=>by simp[go_sem]
theorem JE:AC AcF 69 3 3:=fun b o w=>by simp[go_sem]
theorem Ez:AC AcF 69 4 35:=fun b o w=>by simp[go_sem]
theorem SP:Tryz.prog.eqGuardType Tryz.prog.depth 97=false:=by kernel_rfl
theorem KR(w:AcE)(v f:AcD)(l:List AH)(hr:RG 33 nmdC w v l)(c:RG 33 nmdC w f l)(hl:l.length<9223372036854775807):
  Calls AcF 97 #[v,f] w fun e w' =>e = .returned (.bool true)/\Ext w w' :=by
 refine gG (args:= [v,f]) Tryz.func97 rfl 26 rfl rfl ?_;have hE:=AbN w;refine gS (Zh Dg (Zf hr rfl) (gS (Zh Dg (Zf c rfl) (gS (Y7 (a:=(l.length:Nat)) (b:=(l.length:Nat)) rfl rfl (AX _ _ _ _) (kF (fun h=>h rfl) (cF rfl (gL (fun(ρ:Aj) (wz:AcE)=>∃i:Nat,ρ 0=(v:AcD)/\ρ 1=(f:AcD)/\ρ 10=(.bool (false):AcD)/\ρ 5=(NI i:AcD)/\RG 33 nmdC wz v l/\RG 33 nmdC wz f l/\Ext w wz/\(i<=l.length)/\True) (fun ρ _=>l.length-(intOf (ρ 5)).toNat) ⟨0,rfl,rfl,rfl,rfl,hr,c,hE,AcZ _,trivial⟩ ?_))))))));clear hr c hE;rintro o q ⟨i,g,T1,p,T5,hr,c,hE,hi,-⟩;have q5:=T5;refine gS (Zh Dg (Zf hr g) (gS (Y7 (a:=(i:Nat)) (b:=(l.length:Nat)) T5 rfl (Bf _ _ _ _) ?_)));refine cD rfl (fun k=> ?_) fun k=> ?_
 ·have hlt:i<l.length:=k;refine gM0 [0,1,2,3,4,5,6,7,8] [] [] fun r j=> ?_;have hr:=hr.keep j;have s:(nmdC (l.getD (i) dNmd)).length=33:=(AbX hr dNmd (by omega));refine yA (Zk Dg Jy (by decide) dNmd (Zf hr g) T5 (by omega) fun t m=>(ys (Zd (Zs m rfl) (KQ).choose_spec rfl (by rw[BG];exact Jz) zz) ?_));have c:=c.keep j;have u:(nmdC (l.getD (i) dNmd)).length=33:=(AbX c dNmd (by omega));refine yA (Zk Dg Jy (by decide) dNmd (Zf c T1) T5 (by omega) fun x n=>(ys (Zd (Zs n rfl) (KQ).choose_spec rfl (by rw[BG];exact Jz) zz) (ys (AaM QH rfl rfl (XH _ (l.getD i dNmd)) zz) ?_)));clear m;clear n;have hE:=hE.trans j;refine cF rfl (gS (Ze (xv:=NI i) (yv:=NI 1) T5 rfl rfl (AD _ _ _ (by omega)) (gK (And.intro ⟨i+1,g,T1,p,rfl,hr,c,hE,by omega,trivial⟩ ?_))));show l.length-(intOf (NI ((i)+(1)))).toNat<l.length-(intOf (o 5)).toNat;rw[q5];simp only[intOf,Int.toNat_natCast];omega
 refine AE rfl (vr (.bool (true)) rfl) ?_;exact⟨rfl,hE⟩
theorem O6(w:AcE)(y z:Af)(hm:RefsAt w y)(hn:RefsAt w z)(he:z.1=y.1)(hL:E7 y.1):
  Calls AcF 47 #[.agg (refsC y).toArray, .agg (refsC z).toArray] w fun e w' =>e = .returned (.bool true)/\Ext w w' :=by
 have hmt:=hm.branches;have hmg:=hm.tags;have hml:=hm.log;have hnt:=he▸hn.branches;have hng:=he▸hn.tags;have hnl:=he▸hn.log;refine gG (args:= [.agg (refsC y).toArray, .agg (refsC z).toArray]) Tryz.func47 rfl 61 rfl rfl ?_;have hE:=AbN w;refine gS (Ab3 (vr (.agg (refsC y).toArray) rfl) fun o p ag s aa ah=> ?_);have c:=s;clear s;have ai:o<p.heap.size:=by omega
 refine gS (Ab3 (vr (.agg (refsC z).toArray) rfl) fun q ab ac t r aj=> ?_);have g:=AbN p;have hE:=hE.trans aa;have ak:=hE.size;have f:=t;clear t;have al:q<ab.heap.size:=by omega
 have am:=AR (bl c) ac;have c:=eb r c;have hE:=hE.trans r;refine gS (AbM JB rfl (gS (Y6 Dg rfl rfl (Ac c (C1 y)) (gS (AbM JB rfl (gS (Y6 Dg rfl rfl (Ac f (C1 z)) (gS (Zb Me rfl rfl ((KR _ y.2.branches z.2.branches y.1.branches (hmt.keep hE) (hnt.keep hE) hL.branches).mono ?_))))))))));rintro e an ⟨rfl,j⟩;refine⟨_,rfl,?_⟩;have hE:=hE.trans j;have c:=eb j c;have f:=eb j f;refine gS (Zn rfl (gS (AbM JC rfl (gS (Y6 Dg rfl rfl (Ac c (Du y)) (gS (AbM JC rfl (gS (Y6 Dg rfl rfl (Ac f (Du z)) (gS (Zb Me rfl rfl ((KR _ y.2.tags z.2.tags y.1.tags (hmg.keep hE) (hng.keep hE) hL.tags).mono ?_))))))))))));rintro e ao ⟨rfl,k⟩;refine⟨_,rfl,?_⟩;have g:=g.trans ((r.trans j).trans k);have hE:=hE.trans k;have c:=eb k c;have f:=eb k f;refine gS (Zn rfl (gS (Zo rfl rfl (gS (AbM JD rfl (gS (Y6 EK rfl rfl (Ac c (EP y)) (gS (AbM JD rfl (gS (Y6 EK rfl rfl (Ac f (EP z)) (gS (Z0 (l:=y.1.head) (m:=z.1.head) (.inr rfl) rfl rfl (decide ((y.1.head:Aib)≠(z.1.head:Aib))) rfl (kF (fun h=>h (by rw[he])) (gS (Zo rfl rfl (gS (AbM JE rfl (gS (Zd (Ab1 c (DS y) (Ej y) rfl) VZ rfl (As y.1.at_.2) (gS (AbM JE rfl (gS (Zd (Ab1 f (DS z) (Ej z) rfl) VZ rfl (As z.1.at_.2) (gS (Aao (l1:=y.1.at_.1) (l2:=z.1.at_.1) VZ u5 Qd R9 rfl rfl (y.1.at_.2) (z.1.at_.2) (kF (fun h=>h (by rw[he])) (gS (Zo rfl rfl (gS (AbM Ez rfl (gS (Y6 FG rfl rfl (Ac c (B2 y)) ?_)))))))))))))))))))))))))))))))));refine gS (Zh FG (Zf (hml.keep hE) rfl) (gS (AbM Ez rfl (gS (Y6 FG rfl rfl (Ac f (B2 z)) (gS (Zh FG (Zf (hnl.keep hE) rfl) (gS (Y7 (a:=((y.1.log).length:Nat)) (b:=((y.1.log).length:Nat)) rfl rfl (AX _ _ _ _) (kF (fun h=>h rfl) (gS (Zo rfl rfl (cF rfl (gL (fun(ρ:Aj) (wz:AcE)=>∃i:Nat,ρ 0=(.agg (refsC y).toArray:AcD)/\ρ 1=(.agg (refsC z).toArray:AcD)/\ρ 2=(PQ o 0:AcD)/\ρ 3=(PQ q 0:AcD)/\ρ 42=(.bool (false):AcD)/\ρ 5=(NI i:AcD)/\Ext w wz/\wz.heap[o]? =some (.cells (refsC y).toArray 69 (0,0))/\Ext p wz/\wz.heap[q]? =some (.cells (refsC z).toArray 69 (0,0))/\(i<=y.1.log.length)/\True) (fun ρ _=>y.1.log.length-(intOf (ρ 5)).toNat) ⟨0,rfl,rfl,rfl,rfl,rfl,rfl,hE,c,g,f,AcZ _,trivial⟩ ?_))))))))))))));clear hE c f;rintro ad ap ⟨i,T0,T1,T2,T3,af,T5,hE,c,g,f,hi,-⟩;have q5:=T5;refine gS (AbM Ez T2 (gS (Y6 FG rfl rfl (Ac c (B2 y)) (gS (Zh FG (Zf (hml.keep hE) rfl) (gS (Y7 (a:=(i:Nat)) (b:=((y.1.log).length:Nat)) T5 rfl (Bf _ _ _ _) ?_)))))));refine cD rfl (fun u=> ?_) fun u=> ?_
 ·have hlt:i<y.1.log.length:=u;have hll:=hL.log;refine gM0 [0,1,2,3,4,5,6,7,8,9,10] [] [] fun aq n=> ?_;have c:=eb n c;refine ys (AbM Ez T2 zz) (ys (Y6 FG rfl rfl (Ac c (B2 y)) zz) ?_);have hE:=hE.trans n;have ar:(entC ((y.1.log).getD (i) Au)).length=67:=(AbX (hml.keep hE) Au (by omega));have f:=eb n f;refine yA (Zk FG Qm (by decide) Au (Zf (hml.keep hE) rfl) T5 (by omega) fun au v=>(ys (Zd (Zs v rfl) (LT).choose_spec rfl (by rw[C8];exact KC) zz) (ys (AbM Ez T3 zz) (ys (Y6 FG rfl rfl (Ac f (B2 z)) zz) ?_))));have av:(entC ((y.1.log).getD (i) Au)).length=67:=(AbX (hnl.keep hE) Au (by omega));refine yA (Zk FG Qm (by decide) Au (Zf (hnl.keep hE) rfl) T5 (by omega) fun aw x=>(ys (Zd (Zs x rfl) (LT).choose_spec rfl (by rw[C8];exact KC) zz) (ys (AaM SP rfl rfl (Yl _ (y.1.log.getD i Au)) zz) ?_)));clear v;clear x;have g:=g.trans n;refine cF rfl (gS (Ze (xv:=NI i) (yv:=NI 1) T5 rfl rfl (AD _ _ _ (by have:=hL.log;omega)) (gK (And.intro ⟨i+1,T0,T1,T2,T3,af,rfl,hE,c,g,f,by omega,trivial⟩ ?_))));show y.1.log.length-(intOf (NI ((i)+(1)))).toNat<y.1.log.length-(intOf (ad 5)).toNat;rw[q5];simp only[intOf,Int.toNat_natCast];omega
 refine AE rfl (vr (.bool (true)) rfl) ?_;exact⟨rfl,hE⟩
theorem EU{r:Ar}(h:AA r=true):r.branches.length<=80/\r.tags.length<=80/\r.log.length<=80:=by
 obtain⟨h1,h2⟩:=E9.1 h;have h3:=(Df.1 h1.br).2.2;have h4:=(Df.1 h1.tg).2.2;omega
theorem DI{r:Ar}(h:AA r=true):E7 r:=by
 obtain⟨h1,h2⟩:=E9.1 h;have h3:=Df.1 h1.br;have h4:=Df.1 h1.tg;refine⟨by have:=h3.2.2;omega,by have:=h4.2.2;omega,by omega,fun u hu=>by have:=(Ea (h3.1 u hu).1).2;omega,fun u hu=>by have:=(Ea (h4.1 u hu).1).2;omega,?_⟩;have hh:=h1.hd;unfold Hm at hh;by_cases h0:r.head= []
 ·rw[h0];simp
 ·simp only[decide_eq_true h0,Agz,Adx,AdS]at hh;have:=(Ea hh.1.1).2;omega
theorem Em{α β:Type}{f:α->List β}{l:List α}{i:Nat}(d:α)(h:i<l.length):(l.take (i+1)).flatMap f=(l.take i).flatMap f++f (l.getD i d):=by
 rw[List.take_succ_eq_append_getElem h,Aei,Adz,List.flatMap_nil,Afp,AcL,AcQ h];rfl
def CL(n:AH):Bs:=AF n.name++n.id.1
def EA(l:List AH):Bs:=Ac6 l.length++l.flatMap CL
def Cp(e:A9):Bs:=(((([e.kind]++AF e.name)++e.old.1)++e.new.1))++AF e.note
def DU(r:Ar):Bs:=((((EA r.branches++EA r.tags)++AF r.head)++r.at_.1)++Ac6 r.log.length)++r.log.flatMap Cp
def lsB(r:Ar)(i:Nat):Bs:=if i=0 then []else if i=1 then EA r.branches else EA r.branches++EA r.tags
theorem V0{r:Ar}{i:Nat}(h:i=0):lsB r i= []:=if_pos h
theorem V2{r:Ar}{i:Nat}(h:i=1):lsB r i=EA r.branches:=by subst h;rfl
theorem V3{r:Ar}{i:Nat}(h:i=2):lsB r i=EA r.branches++EA r.tags:=by subst h;rfl
theorem BM{s:Bs}{n:Nat}(h:s.length<=n)(hn:n<=4611686018427387904):(AF s).length<=n+9:=by
 have:=BX (n:=s.length) (by omega);unfold AF;rw[AcJ];omega
theorem Ed{α:Type}{f:α->Bs}{c:Nat}:∀ {l:List α},(∀a∈l,(f a).length<=c)->(l.flatMap f).length<=c*l.length
 | [],_=>AcZ _
 | a :: l,h=>by
  have h1:=h a (by simp);have h2:=Ed (l:=l) (fun x hx=>h x (by simp[hx]));rw[Adz,AcJ,AcV,Nat.mul_add,Nat.mul_one];omega
theorem NM{n:AH}(h:n.name.length<=32):(CL n).length<=73:=by
 unfold CL;have:=BM h (by omega);rw[AcJ,n.id.2];omega
theorem Uz{e:A9}(h:e.name.length<=32)(h2:e.note.length<=256):(Cp e).length<=371:=by
 unfold Cp;have:=BM h (by omega);have:=BM h2 (by omega);simp only[AcJ,Adh,e.old.2,e.new.2];omega
structure UA (r : Ar) : Prop where
 bl:r.branches.length<=64
 tl:r.tags.length<=64
 ll:r.log.length<=64
 bn:∀n∈r.branches,n.name.length<=32
 tn:∀n∈r.tags,n.name.length<=32
 hd:r.head.length<=32
 ln:∀e∈r.log,e.name.length<=32/\e.note.length<=256
theorem IM{r:Ar}(h:AA r=true):UA r:=by
 obtain⟨h1,h2⟩:=E9.1 h;have h3:=Df.1 h1.br;have h4:=Df.1 h1.tg;refine⟨h3.2.2,h4.2.2,h2,fun n hn=>(Ea (h3.1 n hn).1).2,fun n hn=>(Ea (h4.1 n hn).1).2,?_,fun e he=>⟨(h1.lg e he).2.2,?_⟩⟩
 ·have hh:=h1.hd;unfold Hm at hh;by_cases h0:r.head= []
  ·rw[h0];simp
  ·simp only[decide_eq_true h0,Agz,Adx,AdS]at hh;exact(Ea hh.1.1).2
 ·have h5:=(h1.lg e he).2.1;unfold Cm at h5;rw[Ada]at h5;exact of_decide_eq_true h5.1
theorem KS{l:List AH}(h:l.length<=64)(hn:∀n∈l,n.name.length<=32):(EA l).length<=4681:=by
 unfold EA;have h1:=Ed (f:=CL) (c:=73) (l:=l) (fun n hm=>NM (hn n hm));have h2:=BX (n:=l.length) (by omega);rw[AcJ];omega
theorem PG{r:Ar}(h:UA r)(i:Nat):(lsB r i).length<=9362:=by
 have h1:=KS h.bl h.bn;have h2:=KS h.tl h.tn;unfold lsB;split
 ·simp
 ·split
  ·omega
  ·rw[AcJ];omega
theorem NN{l:List AH}(h:l.length<=64)(hn:∀n∈l,n.name.length<=32)(i:Nat):((l.take i).flatMap CL).length<=4672:=by
 have h1:=Ed (f:=CL) (c:=73) (l:=l.take i) (fun n hm=>NM (hn n (AeN hm)));have h2:=List.length_take_le i l;have h3:(l.take i).length<=l.length:=by rw[Ac4];omega
 omega
theorem NO{r:Ar}(h:UA r)(i:Nat):((r.log.take i).flatMap Cp).length<=23744:=by
 have h1:=Ed (f:=Cp) (c:=371) (l:=r.log.take i) (fun e hm=>Uz (h.ln e (AeN hm)).1 (h.ln e (AeN hm)).2);have h3:(r.log.take i).length<=r.log.length:=by rw[Ac4];omega
 have:=h.ll;omega
theorem SQ:Plain AcF 103:=fun _ _=>by kernel_rfl
theorem IN(w:AcE)(v:AcD)(l:Bs)(hr:RB w v l)(hl:l.length+64<=140737488355328)(id:B7):
  Calls AcF 60 #[v,AB id.1] w fun e w' =>∃v',e = .returned v' /\NewB 5 w w' v' (l++id.1):=by
 refine gG (args:= [v,AB id.1]) Tryz.func60 rfl 9 rfl rfl ?_;have hE:=AbN w;refine gS (Ab3 (vr (AB id.1) rfl) fun h o x j p y=> ?_);have a:=j;clear j;have z:h<o.heap.size:=by omega
 refine gM0 [0,2,1,3,4] [1,3] [2] fun k m=> ?_;have hE:=hE.trans (p.trans m);refine yp (AaU VZ Qd rfl zz) (yC (Y9 SQ rfl ((Lk _ v (l) (hr.keep hE) (by omega)).mono ?_)));rintro e q ⟨i,rfl,b⟩;refine⟨_,rfl,?_⟩;have c:=AbN k;have r:=hE.size;have a:=eb m a;have s:OB i h:=Be b.own (bl a);have g:=b.own;have a:=eb b.ext a;have c:=c.trans b.ext;refine yC (ZR _ _ k.heap.size (.int .u8 0) G8 P5 rfl G8 (l) (id.1) (G7 g (vr i rfl)) (Zx (Abr a id.2 (by decide)) (vr (.slice (some ⟨h,0,none⟩) 32 32) rfl)) (by rw[id.2];omega) c.size fun n t u f=> ?_);have f:Grew q t i n:=f;have hE:=hE.trans b.ext;have hE:=Br hE f g r;have a:=AW a f s;have c:=Br c f g (AcI _);clear g;refine AE rfl (vr n rfl) ?_;exact⟨_,rfl,⟨AI u (by omega),hE.grown⟩⟩
abbrev AU(v:AcD)(b:Bs)(i:Nat):Dv:=(⟨b,((i:Nat):Int)⟩,⟨v⟩)
def DJ(b:Bs)(i:Nat):Option (UInt8 × Nat):=if i<b.length then some (b.getD i 0,i+1)else none
def Cu(b:Bs)(i:Nat):Option (Nat × Nat):=(AS 0 (b.drop i)).map fun x=>(x.1,i+x.2)
def AY(b:Bs)(i most:Nat):Option (Bs × Nat):=match AS 0 (b.drop i)with
 | none=>none
 | some x=>if most<x.1 then none else if b.length<i+x.2+x.1 then none else some ((b.drop (i+x.2)).take x.1,i+x.2+x.1)
def DA(b:Bs)(i:Nat):Option (B7 × Nat):=if h:i+32<=b.length then some (⟨(b.drop i).take 32,by rw[Ac4,Ac5];omega⟩,i+32)else none
theorem UB{b:Bs}{i n:Nat}{c:UInt8}(h:DJ b i=some (c,n)):n<=b.length:=by
 unfold DJ at h;split at h
 ·cases h;omega
 ·cases h
theorem PH{b:Bs}{i n k:Nat}(hi:i<=b.length)(h:Cu b i=some (k,n)):n<=b.length:=by
 unfold Cu at h;cases hd:AS 0 (b.drop i)with
 | none=>rw[hd]at h;cases h
 | some x=>
  rw[hd]at h;cases h;have:=(HE _ _ _ hd).2.1;rw[Ac5]at this;omega
theorem txtP_le{b:Bs}{i most n:Nat}{s:Bs}(h:AY b i most=some (s,n)):n<=b.length/\s.length<=most:=by
 unfold AY at h;split at h
 ·cases h
 ·split at h
  ·cases h
  ·split at h
   ·cases h
   ·cases h;rw[Ac4,Ac5];omega
theorem Ho{b:Bs}{i n:Nat}{x:B7}(h:DA b i=some (x,n)):n<=b.length:=by
 unfold DA at h;split at h
 ·cases h;omega
 ·cases h
theorem ZQ{w w' :AcE}{v:AcD}{l:Aib}(h:RB w v l){row:Option Nat}(hg:w.grownBy w' row)(hv:l= []\/v.ownBlock≠row):RB w' v l:=by
 rcases hv with rfl | hv
 ·obtain⟨h1,ao,cap,rfl,h2,h3,h4,h5⟩:=h;exact⟨h1,ao,cap,rfl,h2,h3,h4,fun a ha j u hu=>by simp[AcH]at hu⟩
 ·exact RB.kept h hg (.inr hv)
def Cb{σ:Type}(f:σ->Option σ):Nat->σ->Option σ
 | 0,s=>some s
 | n+1,s=>(Cb f n s).bind f
theorem HT{σ:Type}{f:σ->Option σ}{s:σ}{j:Nat}(h:Cb f j s=none):∀n,j<=n->Cb f n s=none
 | 0,hn=>by(have:j=0:=by omega);rw[this]at h;exact h
 | n+1,hn=>by
  by_cases e:j=n+1
  ·rw[<-e];exact h
  ·show(Cb f n s).bind f=none;rw[HT h n (by omega)];rfl
theorem Fo{σ:Type}{f:σ->Option σ}{s t:σ}{j:Nat}(h:Cb f j s=some t):Cb f (j+1) s=f t:=by
 show(Cb f j s).bind f=_;rw[h];rfl
def Cn{σ:Type}(b:Bs)(i most:Nat)(st:σ × Nat->Option (σ × Nat))(s:σ):Option (σ × Nat):=
 (Cu b i).bind fun x=>if x.1<=most then Cb st x.1 (s,x.2)else none
theorem QI{σ:Type}{b:Bs}{i most n j:Nat}{st:σ × Nat->Option (σ × Nat)}{s:σ}(h:Cu b i=some (n,j))(hn:n<=most):Cn b i most st s=Cb st n (s,j):=by
 unfold Cn;rw[h];exact if_pos hn
theorem HU{σ:Type}{f:σ->Option σ}{s t:σ}{n:Nat}(h:Cb f (n+1) s=some t):∃u,Cb f n s=some u/\f u=some t:=by
 have h:(Cb f n s).bind f=some t:=h;exact Aer.1 h
theorem Je{σ:Type}{f:List σ × Nat->Option (List σ × Nat)}(hf:∀s t,f s=some t->t.1.length=s.1.length+1):∀(n:Nat) {s t:List σ × Nat},Cb f n s=some t->t.1.length=s.1.length+n
 | 0,s,t,h=>by cases h;rfl
 | n+1,s,t,h=>by
  obtain⟨u,h1,h2⟩:=HU h;rw[hf u t h2,Je hf n h1];omega
theorem SR{σ:Type}{b:Bs}{i most:Nat}{st:σ × Nat->Option (σ × Nat)}{s:σ}{t:σ × Nat}(h:Cn b i most st s=some t):∃n j,Cu b i=some (n,j)/\n<=most/\Cb st n (s,j)=some t:=by
 unfold Cn at h;rw[Aer]at h;obtain⟨x,h1,h2⟩:=h;split at h2
 ·rename_i hn
  exact⟨x.1,x.2,h1,hn,h2⟩
 ·cases h2
theorem Cf{α:Type}{b u r:List α}{i:Nat}(h:b.drop i=u++r):b.drop (i+u.length)=r:=by
 rw[<-Afe,h,AfA]
theorem QJ{α:Type}{b u r:List α}{i:Nat}(h:b.drop i=u++r)(hu:0<u.length):i+u.length+r.length=b.length:=by
 have h1:=congrArg Ahl h;rw[Ac5,AcJ]at h1;omega
theorem PI{b r:Bs}{c:UInt8}{i:Nat}(h:b.drop i=c :: r):DJ b i=some (c,i+1):=by
 have h0:=QJ (u:= [c]) h (by simp);have h1:b[i]? =some c:=by have:=congrArg (fun l:Bs=>l[0]?) h;simpa using this
 unfold DJ;rw[if_pos (by simp only[Adh]at h0;omega),AcL,h1];rfl
theorem XI{b r:Bs}{n i:Nat}(h:b.drop i=Ac6 n++r)(hn:n<9223372036854775808):Cu b i=some (n,i+(Ac6 n).length):=by
 have h4:(128:Nat)^(8+1)=9223372036854775808:=by decide
 unfold Cu;rw[h,El r 8 n 0 (by omega) (by omega) (by omega)];rfl
theorem Jf{b r:Bs}{x:B7}{i:Nat}(h:b.drop i=x.1++r):DA b i=some (x,i+x.1.length):=by
 have hx:=x.2;have h0:=QJ h (by omega);unfold DA;rw[dif_pos (by omega),hx]
 congr 2
 refine Subtype.ext ?_;show(b.drop i).take 32=x.1;rw[h];exact AdW hx
theorem FI{b r s:Bs}{most i:Nat}(h:b.drop i=AF s++r)(hs:s.length<=most)(hm:most<9223372036854775808):AY b i most=some (s,i+(AF s).length):=by
 have h4:(128:Nat)^(8+1)=9223372036854775808:=by decide
 have h' :b.drop i=Ac6 s.length++(s++r):=by rw[h];unfold AF;rw[Ac7]
 have h0:=QJ h' (Ag5 _);have h2:=Cf h';unfold AY;rw[h',El (s++r) 8 s.length 0 (by omega) (by omega) (by omega)];simp only;rw[AcJ]at h0;rw[if_neg (by omega),if_neg (by omega),h2,List.take_left];unfold AF;rw[AcJ,AeG]
theorem NP{σ:Type}{f:σ->Option σ}:∀(n:Nat) (s:σ),Cb f (n+1) s=(f s).bind (Cb f n)
 | 0,s=>by
  show f s=_;cases f s <;> rfl
 | n+1,s=>by
  show(Cb f (n+1) s).bind f=_;rw[NP n s];cases f s with
  | none=>rfl
  | some t=>rfl
theorem V4{α:Type}(f:α->Bs){b:Bs}(st:List α × Nat->Option (List α × Nat)):∀(l:List α) (a:List α) (r:Bs) (i:Nat),b.drop i=l.flatMap f++r ->
  (∀x∈l,∀(a:List α) (i:Nat) (r:Bs),b.drop i=f x++r->st (a,i)=some (a++ [x],i+(f x).length))->Cb st l.length (a,i)=some (a++l,i+(l.flatMap f).length)
 | [],a,r,i,_,_=>by simp[Cb]
 | x :: l,a,r,i,h,hst=>by
  rw[Adz,Ac7]at h;rw[AcV,NP,hst x (by simp) a i _ h,Ac0,V4 f st l (a++ [x]) r _ (Cf h) (fun y hy=>hst y (by simp[hy]))];simp[AeG]
theorem Lw{α:Type}(f:α->Bs){b:Bs}{most:Nat}(st:List α × Nat->Option (List α × Nat)){l:List α}{r:Bs}{i:Nat}(h:b.drop i=Ac6 l.length++(l.flatMap f++r))(hl:l.length<=most)(hm:most<9223372036854775808) 
  (hst:∀x∈l,∀(a:List α) (i:Nat) (r:Bs),b.drop i=f x++r->st (a,i)=some (a++ [x],i+(f x).length)):Cn b i most st []=some (l,i+(Ac6 l.length).length+(l.flatMap f).length):=by
 rw[QI (XI h (by omega)) hl,V4 f st l [] r _ (Cf h) hst,Adm]
theorem GZ:∀(l:Bs) (k:Nat) (x:Nat × Nat),AS k l=some x->l=Ac6 x.1++l.drop x.2/\(0<k->0<x.1)
 | [],k,x,h=>by simp[AS]at h
 | c :: r,k,x,h=>by
  have hc:=c.toNat_lt;unfold AS at h;split at h
  ·split at h
   ·cases h
   ·obtain⟨y,hy,rfl⟩:=AeC.1 h;obtain⟨h1,h2⟩:=GZ r (k+1) y hy;have h2:=h2 (by omega);have a:(c.toNat-128+128*y.1)%128+128=c.toNat:=by omega
    have b:(c.toNat-128+128*y.1)/128=y.1:=by omega
    refine⟨?_,fun _=>by simp only;omega⟩;simp only;rw[Lib.uvarint_big (by omega),a,b,List.drop_succ_cons,Ade,<-h1];simp
  ·split at h
   ·cases h
   ·rename_i h1 h2
    cases h;refine⟨?_,fun _=>by simp only;omega⟩;simp only;rw[Lib.uvarint_small (by omega)];simp
theorem Wv{b:Bs}{i n:Nat}{c:UInt8}(h:DJ b i=some (c,n)):b.drop i= [c]++b.drop n:=by
 unfold DJ at h;split at h
 ·cases h
  rename_i hi
  rw[R7 0 hi];rfl
 ·cases h
theorem XJ{b:Bs}{i n k:Nat}(h:Cu b i=some (k,n)):b.drop i=Ac6 k++b.drop n:=by
 unfold Cu at h;obtain⟨x,hx,h2⟩:=AeC.1 h;cases h2;have:=(GZ _ _ _ hx).1
 rwa [Afe]at this
theorem M6{b:Bs}{i n:Nat}{x:B7}(h:DA b i=some (x,n)):b.drop i=x.1++b.drop n:=by
 unfold DA at h;split at h
 ·cases h;show b.drop i=(b.drop i).take 32++b.drop (i+32);rw[<-Afe,AdX]
 ·cases h
theorem IO{b s:Bs}{i n most:Nat}(h:AY b i most=some (s,n)):b.drop i=AF s++b.drop n:=by
 unfold AY at h;split at h
 ·cases h
 ·rename_i x hx
  split at h
  ·cases h
  ·split at h
   ·cases h
   ·cases h;have h1:=(GZ _ _ _ hx).1;rw[Afe]at h1;have hl:((b.drop (i+x.2)).take x.1).length=x.1:=by rw[Ac4,Ac5];omega
    unfold AF;rw[hl,Ac7,<-Afe (i:=x.1),AdX];exact h1
theorem V5{α:Type}{f:α->Bs}{Q:α->Prop}{b:Bs}{st:List α × Nat->Option (List α × Nat)}(hst:∀a i t,st (a,i)=some t->∃x,t.1=a++ [x]/\Q x/\b.drop i=f x++b.drop t.2):∀(n:Nat) (a:List α) (i:Nat) (t:List α × Nat),Cb st n (a,i)=some t->∃l,t.1=a++l/\l.length=n/\(∀x∈l,Q x)/\b.drop i=l.flatMap f++b.drop t.2
 | 0,a,i,t,h=>by cases h;exact⟨[],by simp,rfl,(fun x hx=>by cases hx),rfl⟩
 | n+1,a,i,t,h=>by
  obtain⟨u,h1,h2⟩:=HU h;obtain⟨l,c,e,g,j⟩:=V5 hst n a i u h1;obtain⟨x,f1,f2,f3⟩:=hst u.1 u.2 t h2;refine⟨l++ [x],by rw[f1,c,Ac7],by simp[e],fun y hy=> ?_,?_⟩
  ·rcases Adt.1 hy with hy | hy
   ·exact g y hy
   ·rw[Adn.1 hy];exact f2
  ·rw[j,f3,Aei,List.flatMap_singleton,Ac7]
theorem PJ{α:Type}{f:α->Bs}{Q:α->Prop}{b:Bs}{most i:Nat}{st:List α × Nat->Option (List α × Nat)}{t:List α × Nat}(hst:∀a i t,st (a,i)=some t->∃x,t.1=a++ [x]/\Q x/\b.drop i=f x++b.drop t.2)(h:Cn b i most st []=some t):b.drop i=(Ac6 t.1.length++t.1.flatMap f)++b.drop t.2/\∀x∈t.1,Q x:=by
 obtain⟨n,j,h1,-,h2⟩:=SR h;obtain⟨l,c,e,g,k⟩:=V5 hst n [] j t h2;rw[Adm]at c;rw[c,XJ h1,e,k,Ac7];exact⟨rfl,g⟩
def HV(P:AcY)(l:List AcW)(cs pf fl:List Nat)(J:List PanicEntry->AcE->Prop)(K:Aj->AcE->Prop)(a:Nat)(da:Tmp)(o0:Obj)(post:List Nat):List Nat->AcE->(Nat->Prop)->Aj->Prop
 | [],wk,N,ρ=>∀m w,Ext wk w->N m->m<w.heap.size->w.heap[m]? =some o0->DF P l cs pf (a :: fl) J K post (fun x=>Ext w x/\True) (updO ρ (some da) (PQ m 0)) w
 | i :: r,wk,N,ρ=>match l[i]? with
  | none=>False
  | some o=>
   if i∈cs then ∀w,Ext wk w->Yk P (fun v w' =>(Ext w w' \/((w.heap.size<=w'.heap.size/\∀m,N m->w.heap[m]? =some o0->w'.heap[m]? =some o0)/\P9 l fl r i=true))/\HV P l cs pf fl J K a da o0 post r w' (fun m=>N m/\(m<w.heap.size\/w'.heap.size<=m)) (updO ρ o.dst v)) ((execOp (Ab ρ) o).run P w)
   else ∃v,(∀w',Dp l pf i=true\/Ext wk w' ->Yk P (fun x w'' =>x=v/\w'' =w') ((execOp (Ab ρ) o).run P w'))/\HV P l cs pf fl J K a da o0 post r wk N (updO ρ o.dst v)
def XK(l:List AcW)(cs:List Nat)(a:Nat)(da:Tmp)(pre post:List Nat):Bool:=
 (l.all fun o=>o.guard.isNone)&&(!cs.contains a&&((pre.all fun i=> !(looksL l i).contains da&&CR l i != some da)&&post.all fun i=>((AQ l []).getD i 0).testBit a))
section
variable {P : AcY} {n : Nat} {Q : Bd} {l : List AcW} {cs pf fl pre post : List Nat} {a : Nat} {da : Tmp} {o0 : Obj} {oa : AcW} {J : List PanicEntry -> AcE -> Prop} {K : Aj -> AcE -> Prop}
def PendA(P:AcY)(l:List AcW)(cs pf:List Nat)(wk:AcE)(ρ:Aj)(i:Nat):Prop:=
 ∃o,l[i]? =some o/\i∉cs/\(∀d,o.dst=some d->d∉o.looksAt l.toArray)/\(∀cs b,o.op ≠ .select cs b)/\∃d,o.dst=some d/\∀w',Dp l pf i=true\/Ext wk w' ->Yk P (fun x w'' =>x=ρ d/\w'' =w') ((execOp (Ab ρ) o).run P w')
theorem PendA.upd{wk wk' :AcE}{ρ ρ' :Aj}{i:Nat}(h:PendA P l cs pf wk ρ i)(he:Dp l pf i=true\/Ext wk wk')(hl:∀t∈looksL l i,ρ' t=ρ t)(hd:∀t,CR l i=some t->ρ' t=ρ t):PendA P l cs pf wk' ρ' i:=by
 obtain⟨o,ho,h1,h2,h3,d,hd0,c⟩:=h;have hl' :∀t∈o.looksAt l.toArray,ρ' t=ρ t:=fun t ht=>hl t (by unfold looksL;rw[ho];exact ht);refine⟨o,ho,h1,h2,h3,d,hd0,fun w' hw' => ?_⟩;rw[hd d (by unfold CR;rw[ho];exact hd0),Dd h3 hl'];exact c w' (hw'.elim .inl fun x=>he.imp id fun y=>y.trans x)
structure AInv (P : AcY) (l : List AcW) (cs pf fl : List Nat) (n : Nat) (J : List PanicEntry -> AcE -> Prop) (K : Aj -> AcE -> Prop) (a : Nat) (da : Tmp) (o0 : Obj) (pre post u r : List Nat) (wk : AcE) (N : Nat -> Prop) (ρ : Aj) (listed : Array Bool) (x : Act) (w : AcE) : Prop where
 size:listed.size=l.length
 closed:∀i o,l[i]? =some o->On listed i->∀e∈o.after,AdG .any e=true->On listed e.on
 tmps:x.tmps.size=n
 defers:x.defers= []
 split:pre=u++r
 rest:∀i∈r,¬On listed i
 last:∀i∈post,¬On listed i
 pend:∀i∈u,¬On listed i->PendA P l cs pf wk ρ i
 agree:∀t,t≠da->(∀i∈u,¬On listed i->CR l i≠some t)->x.tmps.getD t undef=ρ t
 ext:Ext wk w
 done:On listed a->∃m,x.tmps.getD da undef=PQ m 0/\N m/\m<w.heap.size/\w.heap[m]? =some o0
 todo:¬On listed a->∀m,w.heap.size<=m->N m
 run:HV P l cs pf fl J K a da o0 post r wk N ρ
theorem AInv.place(hb:E4 l cs pf (a :: fl) (a :: (pre++post))=true){wk:AcE}{N:Nat->Prop}{listed:Array Bool}{x:Act}{w:AcE}:∀(r u:List Nat) (ρ:Aj),AInv P l cs pf fl n J K a da o0 pre post u r wk N ρ listed x w ->
  ∃u' r' ρ',AInv P l cs pf fl n J K a da o0 pre post u' r' wk N ρ' listed x w/\(r' = []\/∃c q,r' =c :: q/\c∈cs)
 | [],u,ρ,h=>⟨u,[],ρ,h, .inl rfl⟩
 | i :: r,u,ρ,h=>by
  obtain⟨o,ho,hm⟩:=D8 (u:=a :: u) (i:=i) (v:=r++post) (by have h2:=hb;rw[h.split]at h2;simpa using h2);by_cases hc:i∈cs
  ·exact⟨u,i :: r,ρ,h, .inr ⟨i,r,rfl,hc⟩⟩
  ·have hrun:=h.run;unfold HV at hrun;rw[ho]at hrun;simp only at hrun;rw[if_neg hc]at hrun;obtain⟨v,hv,hrun⟩:=hrun;have hown:=hm.own (.inl hc);obtain⟨d,hd⟩:=hm.has hc;have hno:¬On listed i:=h.rest i (by simp);have hne:∀t,o.dst≠some t->updO ρ o.dst v t=ρ t:=fun t ht=>by rw[hd,AZ,CO (fun e=>ht (by rw[hd,e]))]
   refine AInv.place hb r (u++ [i]) _ ⟨h.size,h.closed,h.tmps,h.defers,by rw[h.split];simp,fun j hj=>h.rest j (by simp[hj]),h.last,fun j hj hnj=> ?_,fun t htd ht=> ?_,h.ext,h.done,h.todo,hrun⟩
   ·rcases Adt.1 hj with hj | hj
    ·have hpj:=h.pend j hj hnj;obtain⟨oj,hoj,hcj,-⟩:=hpj;refine(h.pend j hj hnj).upd (.inr (AbN _)) (fun t ht=>hne t fun e=>(hm.sep j (by simp[hj]) (.inl hcj) (.inl hc) t e).1 ht) fun t ht=>hne t fun e=>(hm.sep j (by simp[hj]) (.inl hcj) (.inl hc) t e).2 ht
    ·rw[Adn.1 hj];have hag:∀t∈o.looksAt l.toArray,updO ρ o.dst v t=ρ t:=fun t ht=>hne t fun e=>hown t e ht;refine⟨o,ho,hc,hown,hm.sel,d,hd,fun w' hw' => ?_⟩;rw[Dd hm.sel hag,hd,AZ,D7];exact hv w' hw'
   ·have h1:=h.agree t htd fun j hj=>ht j (by simp[hj]);rw[h1,hne t fun e=>ht i (by simp) hno (by unfold CR;rw[ho];exact e)]
theorem UC(hg:Dn l n=true)(hb:E4 l cs pf (a :: fl) (a :: (pre++post))=true)(hab:XK l cs a da pre post=true)(hoa:l[a]? =some oa)(hda:oa.dst=some da) 
  (hal:∀(ρ:Aj) (w:AcE) (K:AcD->AcE->Prop),(∀w',w'.heap[w.heap.size]? =some o0->Ext w w' ->w.heap.size<w'.heap.size->K (PQ w.heap.size 0) w')->Yk P K ((execOp (Ab ρ) oa).run P w)):
  ∀(fuel:Nat) (listed:Array Bool) (x:Act) (w:AcE) (u r:List Nat) (wk:AcE) (N:Nat->Prop) (ρ:Aj),(listed.toList.filter (!·)).length=fuel->AInv P l cs pf fl n (fun ch w' =>∀ρ',Q (.panic ch) ρ' w') (fun ρ w=>Q .normal ρ w) a da o0 pre post u r wk N ρ listed x w->((r= []/\¬On listed a)\/∃c q,r=c :: q/\c∈cs) ->
   wpAny P .any l.toArray (fun e x' w' =>∃ρ',Fits n ρ' x' /\Q e ρ' w') fuel listed x w:=by
 have g:=G4 hg;unfold XK at hab;simp only[Ada]at hab;obtain⟨hgu,hac,hpre,hpost⟩:=hab;have hgu' :∀(i:Nat) (o:AcW),l[i]? =some o->o.guard=none:=fun i o ho=>by
  have:=Ady.1 hgu o (AeM ho)
  simpa using this
 have hac' :a∉cs:=by simpa using hac
 have hpre' :∀i∈pre,da∉looksL l i/\CR l i≠some da:=fun i hi=>by
  have:=Ady.1 hpre i hi
  simpa using this
 have hpost' :∀i∈post,((AQ l []).getD i 0).testBit a=true:=fun i hi=>Ady.1 hpost i hi;have hall:∀i,i<l.length->i∈a :: (pre++post):=fun i hi=>by
  unfold E4 at hb;rw[Ada,Ada]at hb;have:=Ady.1 hb.2.1 i (by simpa using hi);exact AdZ.1 this
 have hnd:(a :: (pre++post)).Nodup:=by
  unfold E4 at hb;rw[Ada]at hb;exact IB hb.1
 have hlt:∀(i:Nat) (o:AcW),l[i]? =some o->i<l.length:=fun i o ho=>(Ac3.1 ho).1
 -- the memory is made, and all ahead of it is walked
 have two:∀(fuel:Nat) (listed:Array Bool) (x:Act) (w:AcE) (u:List Nat) (wk:AcE) (N:Nat->Prop) (ρ:Aj),(listed.toList.filter (!·)).length=fuel->AInv P l cs pf fl n (fun ch w' =>∀ρ',Q (.panic ch) ρ' w') (fun ρ w=>Q .normal ρ w) a da o0 pre post u [] wk N ρ listed x w->On listed a->wpAny P .any l.toArray (fun e x' w' =>∃ρ',Fits n ρ' x' /\Q e ρ' w') fuel listed x w:=fun fuel listed x w u wk N ρ hfu h hon=>by
  obtain⟨m,hm1,hm2,hm3,hm4⟩:=h.done hon;have hsp:pre=u:=by rw[h.split,Afp]
  have hrun:=h.run;unfold HV at hrun;have h0:MInv P l cs pf (a :: fl) (a :: (pre++post)) n (fun ch w' =>∀ρ',Q (.panic ch) ρ' w') (fun ρ w=>Q .normal ρ w) (a :: pre) post (fun x=>Ext w x/\True) (updO ρ (some da) (PQ m 0)) listed x w:=by
   refine⟨h.size,h.closed,h.tmps,h.defers,by simp,h.last,fun i hi hno=> ?_,fun t ht=> ?_,⟨AbN _,trivial⟩,hrun m w h.ext hm2 hm3 hm4⟩
   ·rcases Adl.1 hi with rfl | hi
    ·exact absurd hon hno
    ·obtain⟨o,ho,h1,h2,h3,d,hd,c⟩:=h.pend i (hsp▸hi) hno;have hq:=hpre' i hi;have hag:∀t∈o.looksAt l.toArray,updO ρ (some da) (PQ m 0) t=ρ t:=fun t ht=>by
      rw[AZ,CO];rintro rfl;exact hq.1 (by unfold looksL;rw[ho];exact ht)
     refine⟨o,ho, .inl h1,h2,h3, .inr ⟨by unfold A0;rw[hgu' i o ho],h1,d,hd,fun w' hw' => ?_⟩⟩;rw[Dd h3 hag,AZ,CO (fun e=>hq.2 (by unfold CR;rw[ho];exact hd.trans (by rw[e])))];refine c w' (hw'.imp id fun z=> ?_);split at z
     ·exact h.ext.trans z.1
     ·rw[z];exact h.ext
   ·by_cases e:t=da
    ·subst e;rw[AZ,D7];exact hm1
    ·rw[AZ,CO e];exact h.agree t e fun i hi=>ht i (by simp[hsp,hi])
  obtain⟨u',r',ρ',hp,hr⟩:=h0.place hb;exact Pw hg hb _ _ _ _ u' r' _ ρ' hfu hp hr
 intro fuel
 induction fuel with
 | zero=>
  intro listed x w u r wk N ρ hfu h hr;have full:∀i,i<l.length->On listed i:=fun i hi=>by
   have:=F5 _ hfu i (by rw[Ad0,h.size];omega);unfold On;simp at this;simp[this]
  exfalso;rcases hr with ⟨-,hna⟩ | ⟨c,q,rfl,hc⟩
  ·exact hna (full a (hlt a oa hoa))
  ·obtain⟨o,ho,-⟩:=D8 (u:=a :: u) (i:=c) (v:=q++post) (by have h2:=hb;rw[h.split]at h2;simpa using h2);exact h.rest c (by simp) (full c (hlt c o ho))
 | succ fuel ih=>
  intro listed x w u r wk N ρ hfu h hr;have again:∀(listed:Array Bool) (x:Act) (w:AcE) (u r:List Nat) (wk:AcE) (N:Nat->Prop) (ρ:Aj),(listed.toList.filter (!·)).length=fuel->AInv P l cs pf fl n (fun ch w' =>∀ρ',Q (.panic ch) ρ' w') (fun ρ w=>Q .normal ρ w) a da o0 pre post u r wk N ρ listed x w->wpAny P .any l.toArray (fun e x' w' =>∃ρ',Fits n ρ' x' /\Q e ρ' w') fuel listed x w:=fun listed x w u r wk N ρ hfu h=>by
   obtain⟨u',r',ρ',hp,hr'⟩:=h.place hb;rcases hr' with rfl | hr'
   ·by_cases hon:On listed a
    ·exact two _ _ _ _ _ _ _ _ hfu hp hon
    ·exact ih _ _ _ _ _ _ _ _ hfu hp (.inl ⟨rfl,hon⟩)
   ·exact ih _ _ _ _ _ _ _ _ hfu hp (.inr hr')
  refine⟨fun hrd=> ?_,fun i hi=> ?_⟩
  ·exfalso;have full:∀i,i<l.length->On listed i:=fun i=>by
    induction i using Afn with
    | _ i ih2=>
     intro hi;refine AdQ fun hno=> ?_;have ho:l[i]? =some l[i]:=AcQ hi;have:i∈Ad6 .any l.toArray listed:=by
      refine mem_ready.2 ⟨?_,l[i],by rw[Ads];exact ho,fun e he hb=> ?_⟩
      ·have hi' :i<listed.size:=by rw[h.size];exact hi
       unfold On at hno;simp[hi']at hno ⊢;exact hno
      ·have hlt:=g.back i _ ho e he hb;exact ih2 e.on hlt (by omega)
     rw[hrd]at this;cases this
   rcases hr with ⟨-,hna⟩ | ⟨c,q,rfl,hc⟩
   ·exact hna (full a (hlt a oa hoa))
   ·obtain⟨o,ho,-⟩:=D8 (u:=a :: u) (i:=c) (v:=q++post) (by have h2:=hb;rw[h.split]at h2;simpa using h2);exact h.rest c (by simp) (full c (hlt c o ho))
  ·obtain⟨h1,o,ho,hall0⟩:=mem_ready.1 hi;have ho' :l[i]? =some o:=by simpa using ho
   have hilt:i<l.length:=hlt i o ho';have hil:i<listed.size:=by rw[h.size];exact hilt
   have hno:¬On listed i:=by
    unfold On;simp[hil]at h1 ⊢;exact h1
   have hball:∀e∈o.after,AdG .any e=true->On listed e.on:=fun e he hb=>hall0 e he hb;have hI:Inv l (fun _=> []) (fun _ _=>True) (fun _ _=>True) (fun _ _ _=>True) x listed x w:=
    ⟨h.size,h.closed,rfl,rfl,fun _ _ _=>trivial,trivial,fun _ _=>rfl,fun _ _ _ _ _ _ _ _=>trivial⟩
   have hmr:∀k,((AQ l []).getD i 0).testBit k=true->On listed k:=fun k hk=>hI.maskReady ho' hball hk;have hcnt:((listed.setIfInBounds i true).toList.filter (!·)).length=fuel:=by
    rw[Ae3];have:=FC listed.toList i (by
     simp[hil]at h1;simp[hil,h1])
    omega
   have hcl:∀j oj,l[j]? =some oj->On (listed.setIfInBounds i true) j->∀e∈oj.after,AdG .any e=true->On (listed.setIfInBounds i true) e.on:=fun j oj hj hon e he hb=>by
    rcases(AP hil).1 hon with rfl | hon
    ·obtain rfl:o=oj:=by rw[ho']at hj;exact Ac9 hj
     exact(AP hil).2 (.inr (hball e he hb))
    ·exact(AP hil).2 (.inr (h.closed j oj hj hon e he hb))
   have hF:Fits n (fun t=>x.tmps.getD t undef) x:=⟨h.tmps,h.defers,fun t=>rfl⟩;have hroom:∀t,o.dst=some t->t<n:=fun t ht=>g.room i o t ho' ht;have hun:∀j,¬On (listed.setIfInBounds i true) j->¬On listed j/\j≠i:=fun j hj=>⟨fun x=>hj ((AP hil).2 (.inr x)),fun x=>hj ((AP hil).2 (.inl x))⟩;have hw:AdL o (yielded l.toArray x.tmps)=true:=by unfold AdL;rw[hgu' i o ho']
   unfold wpOp;simp only[Ads,ho'];rw[if_pos hw];refine .inl (IA ?_);rw[hF.eval];by_cases hia:i=a
   ·-- memory is made
    subst hia;obtain rfl:oa=o:=by rw[hoa]at ho';exact Ac9 ho'
    refine hal _ w _ fun w' hm4 hE hlt' => ?_;refine again _ _ _ u r wk N ρ hcnt ⟨by simpa using h.size,hcl,(hF.put oa.dst hroom _).size,(hF.put oa.dst hroom _).defers,h.split,fun j hj hx=> ?_,fun j hj hx=> ?_,fun j hj hnj=>h.pend j hj (hun j hnj).1,fun t htd ht=> ?_,h.ext.trans hE,fun _=>⟨w.heap.size,?_,h.todo hno _ (AcI _),hlt',hm4⟩,fun hx=>absurd ((AP hil).2 (.inl rfl)) hx,h.run⟩
    ·rcases(AP hil).1 hx with rfl | hx
     ·exact(AdY.1 hnd).1 (by rw[h.split];simp[hj])
     ·exact h.rest j hj hx
    ·rcases(AP hil).1 hx with rfl | hx
     ·exact(AdY.1 hnd).1 (by simp[hj])
     ·exact h.last j hj hx
    ·rw[(hF.put oa.dst hroom _).get t,hda,AZ,CO htd];refine h.agree t htd fun j hj hnj=>ht j hj fun x=> ?_;rcases(AP hil).1 x with rfl | x
     ·exact(AdY.1 hnd).1 (by rw[h.split];simp[hj])
     ·exact hnj x
    ·rw[(hF.put oa.dst hroom _).get da,hda,AZ,D7]
   ·-- what stands behind what asks for the memory, or behind the chain's next operation, is not to be met yet
    have hip:i∈pre:=by
     rcases Adl.1 (hall i hilt)with e | e
     ·exact absurd e hia
     ·rcases Adt.1 e with e | e
      ·exact e
      ·exfalso;have hona:=hmr a (hpost' i e);rcases hr with ⟨-,hna⟩ | ⟨c,q,rfl,hc⟩
       ·exact hna hona
       ·obtain⟨p1,p2,hp⟩:=Aeq e;obtain⟨o2,f,hm⟩:=D8 (u:=a :: (pre++p1)) (i:=i) (v:=p2) (by have h2:=hb;rw[hp]at h2;simpa using h2);exact h.rest c (by simp) (hmr c (hm.chain c (by rw[h.split];simp) hc))
    have hwhere:∃u1 b,pre=u1++i :: b/\(i∈r->u1=u/\r=i :: b/\i∈cs):=by
     by_cases hir:i∈r
     ·rcases hr with ⟨rfl,-⟩ | ⟨c,q,rfl,hc⟩
      ·cases hir
      ·have:i=c:=by
        rcases Adl.1 hir with x | x
        ·exact x
        ·exfalso;obtain⟨q1,q2,hq⟩:=Aeq x;obtain⟨o2,f,hm⟩:=D8 (u:=a :: (u++c :: q1)) (i:=i) (v:=q2++post) (by have h2:=hb;rw[h.split,hq]at h2;simpa using h2);exact h.rest c (by simp) (hmr c (hm.chain c (by simp) hc))
       subst this;exact⟨u,q,h.split,fun _=>⟨rfl,rfl,hc⟩⟩
     ·obtain⟨u1,s,hu⟩:=Aeq hip;exact⟨u1,s,hu,fun x=>absurd x hir⟩
    obtain⟨u1,b,hord,hin⟩:=hwhere;obtain⟨o2,f,hm⟩:=D8 (u:=a :: u1) (i:=i) (v:=b++post) (by have h2:=hb;rw[hord]at h2;simpa using h2);obtain rfl:o=o2:=by rw[ho']at f;exact Ac9 f
    have hndp:pre.Nodup:=(AeP.1 (AdY.1 hnd).2).1;have hlda:∀t∈o.looksAt l.toArray,t≠da:=fun t ht e=>(hpre' i hip).1 (by unfold looksL;rw[ho',<-e];exact ht);have hlook:∀t∈o.looksAt l.toArray,x.tmps.getD t undef=ρ t:=fun t ht=>h.agree t (hlda t ht) fun q hq hnq e=>by
     obtain⟨oq,hoq,hcq,hownq,-⟩:=h.pend q hq hnq;have hdq:oq.dst=some t:=by unfold CR at e;rw[hoq]at e;exact e
     rcases Nat.lt_trichotomy q i with hqi | hqi | hqi
     ·exact hnq (hmr q (g.tied i o q oq t ho' hoq hqi (.inl ⟨hdq,Ad9 _ ht⟩)))
     ·subst hqi;rw[ho']at hoq;cases hoq;exact hownq t hdq ht
     ·have hmq:=g.tied q oq i o t hoq ho' hqi (.inr ⟨hdq,Ad9 _ ht⟩);obtain⟨s1,s2,hs⟩:=Aeq hq;obtain⟨oq2,hoq2,hmq2⟩:=D8 (u:=a :: s1) (i:=q) (v:=s2++(r++post)) (by have h2:=hb;rw[h.split,hs]at h2;simpa using h2);rw[hoq]at hoq2;cases hoq2;have hip2:=hmq2.lin i hilt hmq;rcases Adl.1 hip2 with e3 | hip2
      ·exact hia e3
      by_cases hic:i∈cs
      ·have hiu:i∈u:=by rw[hs];simp[hip2]
       exact(h.pend i hiu hno).choose_spec.2.1 hic
      ·exact(hmq2.sep i (by simp[hip2]) (.inl hic) (.inl hcq) t hdq).1 (by unfold looksL;rw[ho'];exact ht)
    rw[Dd (ρ:=ρ) hm.sel hlook];have hne:∀(v:AcD) (t:Tmp),o.dst≠some t->updO ρ o.dst v t=ρ t:=fun v t ht=>by
     cases hd:o.dst with
     | none=>rfl
     | some d=>rw[AZ,CO (fun e=>ht (by rw[hd,e]))]
    have hdda:o.dst≠some da:=fun e=>(hpre' i hip).2 (by unfold CR;rw[ho'];exact e);have hput:∀v:AcD,(x.put o.dst v).tmps.getD da undef=x.tmps.getD da undef:=fun v=>by
     rw[(hF.put o.dst hroom v).get da];cases hd:o.dst with
     | none=>rfl
     | some d=>rw[AZ,CO (fun e=>hdda (by rw[hd,e]))]
    by_cases hir:i∈r
    ·-- the chain's next operation
     obtain⟨rfl,rfl,hc⟩:=hin hir;have hrun:=h.run;unfold HV at hrun;rw[ho']at hrun;simp only at hrun;rw[if_pos hc]at hrun;refine Acn (hrun w h.ext) ?_;rintro v w' ⟨hE,hrun'⟩;have hsz:w.heap.size<=w'.heap.size:=hE.elim (fun e=>e.size) (·.1.1);refine again _ _ _ (u1++ [i]) b w' _ _ hcnt ⟨by simpa using h.size,hcl,(hF.put o.dst hroom _).size,(hF.put o.dst hroom _).defers,by rw[hord];simp,fun j hj hx=> ?_,fun j hj hx=> ?_,fun j hj hnj=> ?_,fun t htd ht=> ?_,AbN _,fun hx=> ?_,fun hx m hm' =>⟨h.todo (fun y=>hx ((AP hil).2 (.inr y))) m (by omega), .inr hm'⟩,hrun'⟩
     ·rcases(AP hil).1 hx with rfl | hx
      ·have:=hord▸hndp;exact(AdY.1 (AeP.1 this).2.1).1 hj
      ·exact h.rest j (by simp[hj]) hx
     ·rcases(AP hil).1 hx with rfl | hx
      ·exact(AeP.1 (AdY.1 hnd).2).2.2 j hip j hj rfl
      ·exact h.last j hj hx
     ·obtain⟨hnj,hjc⟩:=hun j hnj;have hju:j∈u1:=(Adt.1 hj).elim id fun x=>absurd (Adn.1 x) hjc;have hpj:=h.pend j hju hnj;have hcj:=hpj.choose_spec.2.1;have hmj:((AQ l []).getD i 0).testBit j=false:=by
       cases hx:((AQ l []).getD i 0).testBit j with
       | false=>rfl
       | true=>exact absurd (hmr j hx) hnj
      refine hpj.upd ?_ (fun t ht=>hne v t fun e=>(hm.sep j (by simp[hju]) (.inl hcj) (.inr (.inr hmj)) t e).1 ht) fun t ht=>hne v t fun e=>(hm.sep j (by simp[hju]) (.inl hcj) (.inr (.inr hmj)) t e).2 ht;rcases hE with hE | ⟨-,hclr⟩
      ·exact .inr (h.ext.trans hE)
      ·rcases hm.loc hc j (by simp[hju]) hcj with hz | hz | hz
       ·exact .inl hz
       ·exfalso;rcases Adl.1 hz with rfl | hz
        ·exact(AdY.1 hnd).1 (by rw[hord];simp[hju])
        ·have:=Ady.1 hclr j hz;rw[AdU]at this;rcases this with y | y
         ·have hy:j∈b:=by simpa using y
          exact Nj (hord▸hndp) hju (by simp[hy])
         ·exact hnj (hmr j y)
       ·exact absurd (hmr j hz) hnj
     ·rw[(hF.put o.dst hroom _).get t];have hag' :=fun(hd:o.dst≠some t)=>h.agree t htd fun j hj hnj=>ht j (by simp[hj]) fun x=>by
       rcases(AP hil).1 x with rfl | x
       ·exact Nj (hord▸hndp) hj (by simp)
       ·exact hnj x
      by_cases e:o.dst=some t
      ·rw[e,AZ,AZ,D7,D7]
      ·rw[hne v t e,<-hag' e];cases hd:o.dst with
       | none=>rfl
       | some d=>rw[AZ,CO (fun y=>e (by rw[hd,y]))]
     ·have hona:On listed a:=by
       rcases(AP hil).1 hx with e | e
       ·exact absurd e.symm hia
       ·exact e
      obtain⟨m,q1,q2,q3,q4⟩:=h.done hona;exact⟨m,(hput v).trans q1,⟨q2, .inl q3⟩,by omega,hE.elim (fun e=>ZP e q4) fun e=>e.1.2 m q2 q4⟩
    ·-- one that was walked
     have hiu:i∈u:=by
      rw[h.split]at hip;exact(Adt.1 hip).elim id fun x=>absurd x hir
     obtain⟨o3,p,hci,hown,hsel,d,hd,hp⟩:=h.pend i hiu hno;rw[ho']at p;cases p;refine Acn (hp w (.inr h.ext)) ?_;rintro v w' ⟨rfl,rfl⟩;refine again _ _ _ u r wk N ρ hcnt ⟨by simpa using h.size,hcl,(hF.put o.dst hroom _).size,(hF.put o.dst hroom _).defers,h.split,fun j hj hx=> ?_,fun j hj hx=> ?_,fun j hj hnj=>h.pend j hj (hun j hnj).1,fun t htd ht=> ?_,h.ext,fun hx=> ?_,fun hx=>h.todo fun y=>hx ((AP hil).2 (.inr y)),h.run⟩
     ·rcases(AP hil).1 hx with rfl | hx
      ·exact hir hj
      ·exact h.rest j hj hx
     ·rcases(AP hil).1 hx with rfl | hx
      ·exact(AeP.1 (AdY.1 hnd).2).2.2 j hip j hj rfl
      ·exact h.last j hj hx
     ·rw[(hF.put o.dst hroom _).get t];by_cases e:o.dst=some t
      ·rw[e,AZ,D7];rw[hd]at e;cases e;rfl
      ·have hx:updO (fun t=>x.tmps.getD t undef) o.dst (ρ d) t=x.tmps.getD t undef:=by rw[hd,AZ,CO (fun y=>e (by rw[hd,y]))]
       rw[hx];refine h.agree t htd fun j hj hnj=> ?_;by_cases hji:j=i
       ·subst hji;unfold CR;rw[ho'];exact e
       ·exact ht j hj fun x=>by
         rcases(AP hil).1 x with x | x
         ·exact hji x
         ·exact hnj x
     ·have hona:On listed a:=by
       rcases(AP hil).1 hx with e | e
       ·exact absurd e.symm hia
       ·exact e
      obtain⟨m,q1,q2,q3,q4⟩:=h.done hona;exact⟨m,(hput _).trans q1,q2,q3,q4⟩
end
section
variable {P : AcY} {n : Nat} {u : Bool} {Q : Bd} {ρ : Aj} {w wk : AcE} {k : List Fr} {l : List AcW} {cs pf fl pre post r : List Nat} {a i : Nat} {da : Tmp} {o0 : Obj} {N : Nat -> Prop} {o : AcW} {v : AcD}
def GN(P:AcY)(n:Nat)(_:Bool)(Q:Bd)(k:List Fr)(l:List AcW)(cs pf fl:List Nat)(a:Nat)(da:Tmp)(o0:Obj)(post r:List Nat)(wk:AcE)(N:Nat->Prop)(ρ:Aj):Prop:=
 HV P l cs pf fl (JK P n Q k) (fun ρ w=>BY P n Q k .normal ρ w) a da o0 post r wk N ρ
theorem V6{id:Nat}{e:AcK}{cells:Array AcD}{ty:AcK}{pos:String}{af:Array Edge}{gd:Option (Nat × Bool)}(a:Nat)(pre post cs pf fl:List Nat)(hz:∀(σ:AcO->AcD) (w:AcE),(execOp σ ⟨some da, .alloc e,ty,pos,af,gd⟩).run P w = .ok (.value (.pointer (some ⟨w.heap.size,0,none⟩))) (w.alloc (.cells cells e))) 
  (h:∀w1,Ext w w1->GN P n u Q k l cs pf fl a da (.cells cells e (0,0)) post pre w1 (fun m=>w1.heap.size<=m) ρ) (hoa:l[a]? =some ⟨some da, .alloc e,ty,pos,af,gd⟩:=by rfl)
  (hm:P.follows .mixedOrders=true:=by kernel_rfl) (hg:Dn l n=true:=by kernel_rfl) (hb:E4 l cs pf (a :: fl) (a :: (pre++post))=true:=by kernel_rfl) (hab:XK l cs a da pre post=true:=by kernel_rfl):AV P n u Q w (.code (.region id l.toArray true) k ρ):=fun x hx=>by
 have h0:AInv P l cs pf fl n (JK P n Q k) (fun ρ w=>BY P n Q k .normal ρ w) a da (.cells cells e (0,0)) pre post [] pre w.drew (fun m=>w.drew.heap.size<=m) ρ (Aeo l.length false) x w.drew:=
  ⟨by simp,fun i o _ h=>absurd h ZE,hx.size,hx.defers,rfl,fun i _=>ZE,fun i _=>ZE,(fun i hi=>by cases hi),fun t _ _=>hx.get t,AbN _,fun h=>absurd h ZE,fun _ m hm=>hm,h _ (Below.refl _ _).drew⟩
 have hal:∀(ρ:Aj) (w:AcE) (K:AcD->AcE->Prop),(∀w',w'.heap[w.heap.size]? =some (.cells cells e (0,0))->Ext w w' ->w.heap.size<w'.heap.size->K (PQ w.heap.size 0) w')->Yk P K ((execOp (Ab ρ) ⟨some da, .alloc e,ty,pos,af,gd⟩).run P w):=fun ρ w K hk=>
  AbV hz fun m w' hn hb hx hs=>by subst hn;exact hk w' hb hx (by omega)
 obtain⟨u',r',ρ',hp,hr⟩:=h0.place hb;refine wp_region_any hm (UC hg hb hab hoa rfl hal _ _ _ _ u' r' _ _ ρ' (by simp) hp ?_);rcases hr with rfl | hr
 ·exact .inl ⟨rfl,ZE⟩
 ·exact .inr hr
theorem aX(ho:l[i]? =some o)(hc:cs.contains i=false)(v:AcD)(hv:∀w',Dp l pf i=true\/Ext wk w' ->Yk P (fun x w'' =>x=v/\w'' =w') ((execOp (Ab ρ) o).run P w'))(h:GN P n u Q k l cs pf fl a da o0 post r wk N (updO ρ o.dst v)):GN P n u Q k l cs pf fl a da o0 post (i :: r) wk N ρ:=by
 unfold GN HV;rw[ho];simp only;rw[if_neg (fun x=>by rw[AdZ.2 x]at hc;cases hc)];exact⟨v,hv,h⟩
theorem aP(ho:l[i]? =some o)(hc:cs.contains i=false)(hv:∀(w' :AcE) (_:True),Yk P (fun x w'' =>x=v/\w'' =w') ((execOp (Ab ρ) o).run P w'))(h:GN P n u Q k l cs pf fl a da o0 post r wk N (updO ρ o.dst v)):GN P n u Q k l cs pf fl a da o0 post (i :: r) wk N ρ:=aX ho hc v (fun w' _=>hv w' trivial) h
theorem aM{d:Option Tmp}{x:AcO}{ty:AcK}{pos:String}{af:Array Edge}{gd:Option (Nat × Bool)}(ho:l[i]? =some ⟨d, .move x,ty,pos,af,gd⟩)(hc:cs.contains i=false)(h:GN P n u Q k l cs pf fl a da o0 post r wk N (updO ρ d (Ab ρ x))):GN P n u Q k l cs pf fl a da o0 post (i :: r) wk N ρ:=aX ho hc _ (fun w' _=>AbT rfl ⟨rfl,rfl⟩) h
theorem aF(ho:l[i]? =some o)(hc:(cs.contains i||Dp l pf i)=false)(hv:∀w',Ext wk w' ->Yk P (fun x w'' =>x=v/\w'' =w') ((execOp (Ab ρ) o).run P w'))(h:GN P n u Q k l cs pf fl a da o0 post r wk N (updO ρ o.dst v)):GN P n u Q k l cs pf fl a da o0 post (i :: r) wk N ρ:=by
 rw[Adx]at hc;exact aX ho hc.1 v (fun w' hw' =>hv w' (hw'.resolve_left (by rw[hc.2];exact Bool.false_ne_true))) h
theorem aC(ho:l[i]? =some o)(hc:cs.contains i=true)(h:∀w,Ext wk w->Yk P (fun v w' =>Ext w w' /\GN P n u Q k l cs pf fl a da o0 post r w' (fun m=>N m/\(m<w.heap.size\/w'.heap.size<=m)) (updO ρ o.dst v)) ((execOp (Ab ρ) o).run P w)):GN P n u Q k l cs pf fl a da o0 post (i :: r) wk N ρ:=by
 unfold GN HV;rw[ho];simp only;rw[if_pos (AdZ.1 hc)];exact fun w hw=>Acn (h w hw) fun v w' hx=>⟨.inl hx.1,hx.2⟩
theorem aE(h:∀m w2,Ext wk w2->N m->m<w2.heap.size->w2.heap[m]? =some o0->AV P n u Q w2 (A7 n u 1000 (.mix l cs pf (a :: fl) (fun x=>Ext w2 x/\True) post) k (updO ρ (some da) (PQ m 0)))):GN P n u Q k l cs pf fl a da o0 post [] wk N ρ:=fun m w2 h1 h2 h3 h4=>adv_ok _ _ _ _ (h m w2 h1 h2 h3 h4)
end
def C4:PanicEntry:= { v:= .iface 212 (.agg #[]),recovered:=false }
def CV(b:Bs)(i most:Nat):Option (Nat × Nat):=(Cu b i).bind fun x=>if x.1<=most then some x else none
theorem QK:∃fs,Tryz.prog.underlying 212=some (.struct fs):=Dz (by kernel_rfl)
theorem AT:AC AcF 216 1 1:=fun b o w=>by simp[go_sem]
theorem BB:AC AcF 216 0 0:=fun b o w=>by simp[go_sem]
theorem Cg:Plain AcF 182:=fun _ _=>by kernel_rfl
theorem DB:(Tryz.prog.info? 3).map (·.size)=some 1:=by kernel_rfl
theorem HW:Plain AcF 121:=fun _ _=>by kernel_rfl
theorem GO:Plain AcF 76:=fun _ _=>by kernel_rfl
theorem KT:Plain AcF 183:=fun _ _=>by kernel_rfl
theorem B5(w:AcE)(b:Bool):
  Calls AcF 182 #[.bool b] w fun r w' =>(∃v,r = .returned v/\v = .tuple #[]/\b=true/\Ext w w')\/∃ch,r = .panicked ch/\ch= [C4]/\b=false/\Ext w w' :=by
 refine gG (args:= [.bool (b)]) Tryz.func182 rfl 6 rfl rfl ?_;have hE:=AbN w;refine gS (Zn rfl ?_);refine cB (!(b)) rfl (fun a=> ?_) fun a=> ?_
 ·refine gS (Ace (v:= .agg #[]) (by kernel_rfl) (gS (Aas (QK).choose_spec (vr (.agg #[]) rfl) (gP (Yp.panic rfl (Ap ?_))))));exact .inr ⟨_,rfl,rfl,by simpa using a,hE⟩
 refine Gm rfl ?_;exact .inl ⟨_,rfl,rfl,by simpa using a,hE⟩
theorem SS(w:AcE)(r:Nat)(v:AcD)(b:Bs)(i:Nat)(hb:w.heap[r]? =some (.cells (BO (AU v b (i))).toArray 216 (0,0)))(hr:RB w v b)(hap:b= []\/OB v r)(hi:i<=b.length)(hl:b.length<=4611686018427387904):
  Calls AcF 181 #[PQ r 0] w fun e w' =>(∃x,e = .returned x/\∃c n,DJ b i=some (c,n)/\x=B8 c/\w'.heap[r]? =some (.cells (BO (AU v b (n))).toArray 216 (0,0))/\w.grownBy w' (some r))\/∃ch,e = .panicked ch/\DJ b i=none/\ch= [C4]/\w.grownBy w' (some r):=by
 have hlr:=(bl hb);have hgr:=Adb w (some r);refine gG (args:= [PQ r 0]) Tryz.func181 rfl 32 rfl rfl ?_;have hE:=AbN w;by_cases hlt:i<b.length
 ·have hP:DJ b i=some (b.getD i 0,i+1):=if_pos hlt;refine gM0 [0,1,2,3,4,5,6,7,8,9,10] [10] [] fun q f=> ?_;have hgr:w.grownBy q (some r):=Aa hgr f.grown (fun _ e=>by cases e);have hb:=eb f hb;have hE:=hE.trans f;refine ys (AbO rfl zz) (ys (AbM AT rfl zz) (ys (Y6 Nw rfl rfl (Ac hb (BT (AU v b (i)))) zz) (ys (AbO rfl zz) (ys (AbM BB rfl zz) (ys (Y6 G8 rfl rfl (Ac hb (Ce (AU v b (i)))) zz) (ys (Zw G8 (Zx (hr.keep hE) rfl) zz) (ys (Y7 (a:=(i:Nat)) (b:=(b.length:Nat)) rfl rfl (Bf _ _ _ _) zz) (kT ((by omega)) (Px (Zg Cg rfl ?_))))))))));refine Ao (B5 _ (true)) ?_ ?_;rotate_left
  ·rintro ch z ⟨rfl,hb,hx⟩;refine Ap ?_;cases hb
  rintro v_ s ⟨rfl,aa,g⟩;have hgr:w.grownBy s (some r):=Aa hgr g.grown (fun _ e=>by cases e);have hE:=hE.trans g;have hb:=eb g hb;refine gS (AbO rfl (gS (AbM AT rfl (gS (Y6 Nw rfl rfl (Ac hb (BT (AU v b (i)))) (gS (Ze (xv:=NI i) (yv:=NI 1) rfl rfl rfl (AD _ _ _ (by omega)) (gS (AbO rfl (gS (AbM AT rfl (gS (Za (i:=1) (v:=NI ((i)+(1))) rfl rfl hb (by rw[CM];decide) DB rfl rfl fun k m o ab=> ?_)))))))))))));have hr:=hr.keep hE;have hr:=ZQ hr o hap;have hgr:w.grownBy k (some r):=Aa hgr o (fun _ e=> .inl e);clear hE;clear hb;have hb:k.heap[r]? =some (.cells (BO ((⟨b,(((i)+(1):Nat):Int)⟩,⟨v⟩):Dv)).toArray 216 (0,0)):=Az m (Do (AU v b (i)) (((i)+(1):Nat):Int));clear m;have ac:=bl hb;refine gM0 [0,1,2,3,4,5,6,7,8,9,10,11] [] [] fun t h=> ?_;have hgr:w.grownBy t (some r):=Aa hgr h.grown (fun _ e=>by cases e);have hr:=hr.keep h;have hb:=eb h hb;refine ys (AbO rfl zz) (ys (AbM BB rfl zz) (ys (Y6 G8 rfl rfl (Ac hb (Ce ((⟨b,(((i)+(1):Nat):Int)⟩,⟨v⟩):Dv))) zz) (ys (AbO rfl zz) (ys (AbM AT rfl zz) (ys (Y6 Nw rfl rfl (Ac hb (BT ((⟨b,(((i)+(1):Nat):Int)⟩,⟨v⟩):Dv))) zz) (ys (Ze (xv:=NI ((i)+(1))) (yv:=NI 1) rfl rfl rfl (Fk _ _ _ (by omega) (by omega)) zz) (yA (Aah (l:=b) (i:=((i)+(1))-(1)) G8 Qd (Zx hr rfl) rfl (by omega) fun ad p=>(ys (Zt u5 rfl (ZF p rfl) zz) ?_)))))))));clear p;refine AE rfl (vr (B8 (b.getD (((i)+(1))-(1)) 0)) rfl) ?_;exact .inl ⟨_,rfl,_,_,hP,rfl,hb,hgr⟩
 have hP:DJ b i=none:=if_neg hlt;refine gM0 [0,1,2,3,4,5,6,7,8,9,10] [10] [] fun u j=> ?_;have hgr:w.grownBy u (some r):=Aa hgr j.grown (fun _ e=>by cases e);have hb:=eb j hb;have hE:=hE.trans j;refine ys (AbO rfl zz) (ys (AbM AT rfl zz) (ys (Y6 Nw rfl rfl (Ac hb (BT (AU v b (i)))) zz) (ys (AbO rfl zz) (ys (AbM BB rfl zz) (ys (Y6 G8 rfl rfl (Ac hb (Ce (AU v b (i)))) zz) (ys (Zw G8 (Zx (hr.keep hE) rfl) zz) (ys (Y7 (a:=(i:Nat)) (b:=(b.length:Nat)) rfl rfl (Bf _ _ _ _) zz) (kF ((by omega)) (Px (Zg Cg rfl ?_))))))))));refine Ao (B5 _ (false)) ?_ ?_;rotate_left
 ·rintro ch ae ⟨rfl,hb,hx⟩;refine Ap ?_;exact .inr ⟨_,rfl,hP,rfl,(Aa hgr hx.grown (fun _ e=>by cases e))⟩
 rintro v_ af ⟨rfl,y,ag⟩;cases y
theorem JF(w:AcE)(r:Nat)(v:AcD)(b:Bs)(i:Nat)(hb:w.heap[r]? =some (.cells (BO (AU v b (i))).toArray 216 (0,0)))(hr:RB w v b)(hap:b= []\/OB v r)(hi:i<=b.length)(hl:b.length<=4611686018427387904)(most:Nat):
  Calls AcF 180 #[PQ r 0,NI most] w fun e w' =>(∃x,e = .returned x/\∃c n,CV b i most=some (c,n)/\x=NI c/\w'.heap[r]? =some (.cells (BO (AU v b (n))).toArray 216 (0,0))/\w.grownBy w' (some r))\/∃ch,e = .panicked ch/\CV b i most=none/\ch= [C4]/\w.grownBy w' (some r):=by
 have hlr:=(bl hb);have hgr:=Adb w (some r);refine gG (args:= [PQ r 0,NI most]) Tryz.func180 rfl 34 rfl rfl ?_;have hE:=AbN w;rcases hd:AS 0 (b.drop i)with _ | ⟨xn,xk⟩
 ·have hP:CV b i most=none:=by unfold CV Cu;rw[hd];rfl
  refine gM0 [0,1,2,3,4,5,6,7,8,9,10,11,12,13,14,15] [8] [] fun q f=> ?_;have hgr:w.grownBy q (some r):=Aa hgr f.grown (fun _ e=>by cases e);have hb:=eb f hb;have hE:=hE.trans f;refine ys (AbO rfl zz) (ys (AbM BB rfl zz) (ys (Y6 G8 rfl rfl (Ac hb (Ce (AU v b (i)))) zz) (ys (AbO rfl zz) (ys (AbM AT rfl zz) (ys (Y6 Nw rfl rfl (Ac hb (BT (AU v b (i)))) zz) (yC (Zb HW rfl rfl ?_)))))));refine((show Calls _ _ _ _ (fun e w2=>e = .returned (.tuple #[NI 0,NI 0,NI 6])/\Ext _ w2)from(Hk _ v b (hr.keep hE) i hi).mono fun e w2 ⟨h1,h2⟩=>by subst h2;subst h1;refine⟨?_,AbN _⟩;rw[hd];rfl)).mono ?_;rintro e s ⟨rfl,k⟩;refine⟨_,rfl,?_⟩;have hgr:w.grownBy s (some r):=Aa hgr k.grown (fun _ e=>by cases e);refine ys (AbP (vs:= [NI 0,NI 0,NI 6]) rfl rfl zz) (ys (AbP (vs:= [NI 0,NI 0,NI 6]) rfl rfl zz) (ys (AbP (vs:= [NI 0,NI 0,NI 6]) rfl rfl zz) (gS (Y7 (a:=(6:Nat)) (b:=(0:Nat)) rfl rfl (AK _ _ _ _) (kF (by decide) (gS (Zo rfl rfl (gP (Zg Cg rfl ?_)))))))));refine Ao (B5 _ (false)) ?_ ?_;rotate_left
  ·have hb:=eb k hb;rintro ch ae ⟨rfl,hb,hx⟩;refine Ap ?_;exact .inr ⟨_,rfl,hP,rfl,(Aa hgr hx.grown (fun _ e=>by cases e))⟩
  rintro v_ af ⟨rfl,t,ag⟩;cases t
 by_cases hm:xn<=most
 ·have hP:CV b i most=some (xn,i+xk):=by unfold CV Cu;rw[hd];exact if_pos hm
  refine gM0 [0,1,2,3,4,5,6,7,8,9,10,11,12,13,14,15] [8] [] fun u g=> ?_;have hgr:w.grownBy u (some r):=Aa hgr g.grown (fun _ e=>by cases e);have hb:=eb g hb;have hE:=hE.trans g;refine ys (AbO rfl zz) (ys (AbM BB rfl zz) (ys (Y6 G8 rfl rfl (Ac hb (Ce (AU v b (i)))) zz) (ys (AbO rfl zz) (ys (AbM AT rfl zz) (ys (Y6 Nw rfl rfl (Ac hb (BT (AU v b (i)))) zz) (yC (Zb HW rfl rfl ?_)))))));refine((show Calls _ _ _ _ (fun e w2=>e = .returned (.tuple #[NI xn,NI (i+xk),NI 0])/\Ext _ w2)from(Hk _ v b (hr.keep hE) i hi).mono fun e w2 ⟨h1,h2⟩=>by subst h2;subst h1;refine⟨?_,AbN _⟩;rw[hd];rfl)).mono ?_;rintro e y ⟨rfl,h⟩;refine⟨_,rfl,?_⟩;have hgr:w.grownBy y (some r):=Aa hgr h.grown (fun _ e=>by cases e);refine ys (AbP (vs:= [NI xn,NI (i+xk),NI 0]) rfl rfl zz) (ys (AbP (vs:= [NI xn,NI (i+xk),NI 0]) rfl rfl zz) (ys (AbP (vs:= [NI xn,NI (i+xk),NI 0]) rfl rfl zz) (gS (Y7 (a:=(0:Nat)) (b:=(0:Nat)) rfl rfl (AK _ _ _ _) (kT (rfl) (gS (Y7 (a:=(xn:Nat)) (b:=(most:Nat)) rfl rfl (E1 _ _ _ _) (kT (hm) (gS (Zy rfl rfl (gP (Zg Cg rfl ?_))))))))))));refine Ao (B5 _ (true)) ?_ ?_;rotate_left
  ·have hb:=eb h hb;rintro ch ah ⟨rfl,hb,hx⟩;refine Ap ?_;cases hb
  rintro v_ z ⟨rfl,ai,l⟩;have hgr:w.grownBy z (some r):=Aa hgr l.grown (fun _ e=>by cases e);have hZ1:=h.trans l;have hb:=eb hZ1 hb;refine gS (AbO rfl (gS (AbM AT rfl (gS (Za (i:=1) (v:=NI (i+xk)) rfl rfl hb (by rw[CM];decide) DB rfl rfl fun m o aa aj=> ?_)))));have hgr:w.grownBy m (some r):=Aa hgr aa (fun _ e=> .inl e);clear hE;clear hb;have hb:m.heap[r]? =some (.cells (BO ((⟨b,((i+xk:Nat):Int)⟩,⟨v⟩):Dv)).toArray 216 (0,0)):=Az o (Do (AU v b (i)) ((i+xk:Nat):Int));clear o;have ak:=bl hb;refine AE rfl (vr (NI xn) rfl) ?_;exact .inl ⟨_,rfl,_,_,hP,rfl,hb,hgr⟩
 have hP:CV b i most=none:=by unfold CV Cu;rw[hd];exact if_neg hm
 refine gM0 [0,1,2,3,4,5,6,7,8,9,10,11,12,13,14,15] [8] [] fun ab j=> ?_;have hgr:w.grownBy ab (some r):=Aa hgr j.grown (fun _ e=>by cases e);have hb:=eb j hb;have hE:=hE.trans j;refine ys (AbO rfl zz) (ys (AbM BB rfl zz) (ys (Y6 G8 rfl rfl (Ac hb (Ce (AU v b (i)))) zz) (ys (AbO rfl zz) (ys (AbM AT rfl zz) (ys (Y6 Nw rfl rfl (Ac hb (BT (AU v b (i)))) zz) (yC (Zb HW rfl rfl ?_)))))));refine((show Calls _ _ _ _ (fun e w2=>e = .returned (.tuple #[NI xn,NI (i+xk),NI 0])/\Ext _ w2)from(Hk _ v b (hr.keep hE) i hi).mono fun e w2 ⟨h1,h2⟩=>by subst h2;subst h1;refine⟨?_,AbN _⟩;rw[hd];rfl)).mono ?_;rintro e ac ⟨rfl,p⟩;refine⟨_,rfl,?_⟩;have hgr:w.grownBy ac (some r):=Aa hgr p.grown (fun _ e=>by cases e);refine ys (AbP (vs:= [NI xn,NI (i+xk),NI 0]) rfl rfl zz) (ys (AbP (vs:= [NI xn,NI (i+xk),NI 0]) rfl rfl zz) (ys (AbP (vs:= [NI xn,NI (i+xk),NI 0]) rfl rfl zz) (gS (Y7 (a:=(0:Nat)) (b:=(0:Nat)) rfl rfl (AK _ _ _ _) (kT (rfl) (gS (Y7 (a:=(xn:Nat)) (b:=(most:Nat)) rfl rfl (E1 _ _ _ _) (kF (hm) (gS (Zy rfl rfl (gP (Zg Cg rfl ?_))))))))))));refine Ao (B5 _ (false)) ?_ ?_;rotate_left
 ·have hb:=eb p hb;rintro ch al ⟨rfl,hb,hx⟩;refine Ap ?_;exact .inr ⟨_,rfl,hP,rfl,(Aa hgr hx.grown (fun _ e=>by cases e))⟩
 rintro v_ am ⟨rfl,ad,an⟩;cases ad
theorem GP(w:AcE)(r:Nat)(v:AcD)(b:Bs)(i:Nat)(hb:w.heap[r]? =some (.cells (BO (AU v b (i))).toArray 216 (0,0)))(hr:RB w v b)(hap:b= []\/OB v r)(hi:i<=b.length)(hl:b.length<=4611686018427387904):
  Calls AcF 178 #[PQ r 0] w fun e w' =>(∃x,e = .returned x/\∃c n,AY b i 256=some (c,n)/\x=St c/\w'.heap[r]? =some (.cells (BO (AU v b (n))).toArray 216 (0,0))/\w.grownBy w' (some r))\/∃ch,e = .panicked ch/\AY b i 256=none/\ch= [C4]/\w.grownBy w' (some r):=by
 have hlr:=(bl hb);have hgr:=Adb w (some r);refine gG (args:= [PQ r 0]) Tryz.func178 rfl 27 rfl rfl ?_;have hE:=AbN w;rcases hd:AS 0 (b.drop i)with _ | ⟨xn,xk⟩
 ·have hP:AY b i 256=none:=by unfold AY;rw[hd]
  refine gM0 [0,1,2,3,4,5,6,7,8,9,10,11,12,13,14,15] [8] [] fun w3 g=> ?_;have hgr:w.grownBy w3 (some r):=Aa hgr g.grown (fun _ e=>by cases e);have hb:=eb g hb;have hE:=hE.trans g;refine ys (AbO rfl zz) (ys (AbM BB rfl zz) (ys (Y6 G8 rfl rfl (Ac hb (Ce (AU v b (i)))) zz) (ys (AbO rfl zz) (ys (AbM AT rfl zz) (ys (Y6 Nw rfl rfl (Ac hb (BT (AU v b (i)))) zz) (yC (Zi GO rfl rfl rfl ?_)))))));refine((show Calls _ _ _ _ (fun e w2=>e = .returned (.tuple #[St (([]:Aib)),NI 0,NI 6])/\Ext _ w2)from(CS _ v b (hr.keep hE) i hi 256).mono fun e w2 ⟨h1,h2⟩=>by subst h2;subst h1;refine⟨?_,AbN _⟩;unfold Bm;rw[hd];simp only;rfl)).mono ?_;rintro e w6 ⟨rfl,h⟩;refine⟨_,rfl,?_⟩;have hgr:w.grownBy w6 (some r):=Aa hgr h.grown (fun _ e=>by cases e);refine ys (AbP (vs:= [St (([]:Aib)),NI 0,NI 6]) rfl rfl zz) (ys (AbP (vs:= [St (([]:Aib)),NI 0,NI 6]) rfl rfl zz) (ys (AbP (vs:= [St (([]:Aib)),NI 0,NI 6]) rfl rfl zz) (gS (Y7 (a:=(6:Nat)) (b:=(0:Nat)) rfl rfl (AK _ _ _ _) (gP (Zg Cg rfl ?_))))));refine Ao (B5 _ (decide ((6:Nat)=(0)))) ?_ ?_;rotate_left
  ·have hb:=eb h hb;rintro ch a2 ⟨rfl,hb,hx⟩;refine Ap ?_;have hno:=of_decide_eq_false hb;exact .inr ⟨_,rfl,hP,rfl,(Aa hgr hx.grown (fun _ e=>by cases e))⟩
  rintro v_ ai ⟨rfl,aj,q⟩;have hgr:w.grownBy ai (some r):=Aa hgr q.grown (fun _ e=>by cases e);have a3:=of_decide_eq_true aj;have hZ1:=h.trans q;have hb:=eb hZ1 hb;refine gS (AbO rfl (gS (AbM AT rfl (gS (Za (i:=1) (v:=NI 0) rfl rfl hb (by rw[CM];decide) DB rfl rfl fun s t ak a4=> ?_)))));have hgr:w.grownBy s (some r):=Aa hgr ak (fun _ e=> .inl e);clear hE;clear hb;have hb:s.heap[r]? =some (.cells (BO ((⟨b,((0:Nat):Int)⟩,⟨v⟩):Dv)).toArray 216 (0,0)):=Az t (Do (AU v b (i)) ((0:Nat):Int));clear t;have a5:=bl hb;refine AE rfl (vr (St (([]:Aib))) rfl) ?_;omega
 by_cases hm:256<xn
 ·have hP:AY b i 256=none:=by unfold AY;rw[hd];exact if_pos hm
  refine gM0 [0,1,2,3,4,5,6,7,8,9,10,11,12,13,14,15] [8] [] fun al j=> ?_;have hgr:w.grownBy al (some r):=Aa hgr j.grown (fun _ e=>by cases e);have hb:=eb j hb;have hE:=hE.trans j;refine ys (AbO rfl zz) (ys (AbM BB rfl zz) (ys (Y6 G8 rfl rfl (Ac hb (Ce (AU v b (i)))) zz) (ys (AbO rfl zz) (ys (AbM AT rfl zz) (ys (Y6 Nw rfl rfl (Ac hb (BT (AU v b (i)))) zz) (yC (Zi GO rfl rfl rfl ?_)))))));refine((show Calls _ _ _ _ (fun e w2=>e = .returned (.tuple #[St (([]:Aib)),NI 0,NI 2])/\Ext _ w2)from(CS _ v b (hr.keep hE) i hi 256).mono fun e w2 ⟨h1,h2⟩=>by subst h2;subst h1;refine⟨?_,AbN _⟩;unfold Bm;rw[hd];simp only;rw[if_pos (by omega)];rfl)).mono ?_;rintro e am ⟨rfl,k⟩;refine⟨_,rfl,?_⟩;have hgr:w.grownBy am (some r):=Aa hgr k.grown (fun _ e=>by cases e);refine ys (AbP (vs:= [St (([]:Aib)),NI 0,NI 2]) rfl rfl zz) (ys (AbP (vs:= [St (([]:Aib)),NI 0,NI 2]) rfl rfl zz) (ys (AbP (vs:= [St (([]:Aib)),NI 0,NI 2]) rfl rfl zz) (gS (Y7 (a:=(2:Nat)) (b:=(0:Nat)) rfl rfl (AK _ _ _ _) (gP (Zg Cg rfl ?_))))));refine Ao (B5 _ (decide ((2:Nat)=(0)))) ?_ ?_;rotate_left
  ·have hb:=eb k hb;rintro ch a6 ⟨rfl,hb,hx⟩;refine Ap ?_;have hno:=of_decide_eq_false hb;exact .inr ⟨_,rfl,hP,rfl,(Aa hgr hx.grown (fun _ e=>by cases e))⟩
  rintro v_ an ⟨rfl,ao,u⟩;have hgr:w.grownBy an (some r):=Aa hgr u.grown (fun _ e=>by cases e);have a7:=of_decide_eq_true ao;have hZ2:=k.trans u;have hb:=eb hZ2 hb;refine gS (AbO rfl (gS (AbM AT rfl (gS (Za (i:=1) (v:=NI 0) rfl rfl hb (by rw[CM];decide) DB rfl rfl fun y z ap a8=> ?_)))));have hgr:w.grownBy y (some r):=Aa hgr ap (fun _ e=> .inl e);clear hE;clear hb;have hb:y.heap[r]? =some (.cells (BO ((⟨b,((0:Nat):Int)⟩,⟨v⟩):Dv)).toArray 216 (0,0)):=Az z (Do (AU v b (i)) ((0:Nat):Int));clear z;have a9:=bl hb;refine AE rfl (vr (St (([]:Aib))) rfl) ?_;omega
 by_cases f:b.length<i+xk+xn
 ·have hP:AY b i 256=none:=by unfold AY;rw[hd];exact(if_neg hm).trans (if_pos f)
  refine gM0 [0,1,2,3,4,5,6,7,8,9,10,11,12,13,14,15] [8] [] fun aq l=> ?_;have hgr:w.grownBy aq (some r):=Aa hgr l.grown (fun _ e=>by cases e);have hb:=eb l hb;have hE:=hE.trans l;refine ys (AbO rfl zz) (ys (AbM BB rfl zz) (ys (Y6 G8 rfl rfl (Ac hb (Ce (AU v b (i)))) zz) (ys (AbO rfl zz) (ys (AbM AT rfl zz) (ys (Y6 Nw rfl rfl (Ac hb (BT (AU v b (i)))) zz) (yC (Zi GO rfl rfl rfl ?_)))))));refine((show Calls _ _ _ _ (fun e w2=>e = .returned (.tuple #[St (([]:Aib)),NI 0,NI 6])/\Ext _ w2)from(CS _ v b (hr.keep hE) i hi 256).mono fun e w2 ⟨h1,h2⟩=>by subst h2;subst h1;refine⟨?_,AbN _⟩;unfold Bm;rw[hd];simp only;rw[if_neg (by omega),if_pos f];rfl)).mono ?_;rintro e ar ⟨rfl,m⟩;refine⟨_,rfl,?_⟩;have hgr:w.grownBy ar (some r):=Aa hgr m.grown (fun _ e=>by cases e);refine ys (AbP (vs:= [St (([]:Aib)),NI 0,NI 6]) rfl rfl zz) (ys (AbP (vs:= [St (([]:Aib)),NI 0,NI 6]) rfl rfl zz) (ys (AbP (vs:= [St (([]:Aib)),NI 0,NI 6]) rfl rfl zz) (gS (Y7 (a:=(6:Nat)) (b:=(0:Nat)) rfl rfl (AK _ _ _ _) (gP (Zg Cg rfl ?_))))));refine Ao (B5 _ (decide ((6:Nat)=(0)))) ?_ ?_;rotate_left
  ·have hb:=eb m hb;rintro ch ba ⟨rfl,hb,hx⟩;refine Ap ?_;have hno:=of_decide_eq_false hb;exact .inr ⟨_,rfl,hP,rfl,(Aa hgr hx.grown (fun _ e=>by cases e))⟩
  rintro v_ au ⟨rfl,av,aa⟩;have hgr:w.grownBy au (some r):=Aa hgr aa.grown (fun _ e=>by cases e);have bb:=of_decide_eq_true av;have hZ3:=m.trans aa;have hb:=eb hZ3 hb;refine gS (AbO rfl (gS (AbM AT rfl (gS (Za (i:=1) (v:=NI 0) rfl rfl hb (by rw[CM];decide) DB rfl rfl fun ab ac aw bc=> ?_)))));have hgr:w.grownBy ab (some r):=Aa hgr aw (fun _ e=> .inl e);clear hE;clear hb;have hb:ab.heap[r]? =some (.cells (BO ((⟨b,((0:Nat):Int)⟩,⟨v⟩):Dv)).toArray 216 (0,0)):=Az ac (Do (AU v b (i)) ((0:Nat):Int));clear ac;have bd:=bl hb;refine AE rfl (vr (St (([]:Aib))) rfl) ?_;omega
 have hP:AY b i 256=some ((b.drop (i+xk)).take xn,i+xk+xn):=by unfold AY;rw[hd];exact(if_neg hm).trans (if_neg f)
 refine gM0 [0,1,2,3,4,5,6,7,8,9,10,11,12,13,14,15] [8] [] fun ax o=> ?_;have hgr:w.grownBy ax (some r):=Aa hgr o.grown (fun _ e=>by cases e);have hb:=eb o hb;have hE:=hE.trans o;refine ys (AbO rfl zz) (ys (AbM BB rfl zz) (ys (Y6 G8 rfl rfl (Ac hb (Ce (AU v b (i)))) zz) (ys (AbO rfl zz) (ys (AbM AT rfl zz) (ys (Y6 Nw rfl rfl (Ac hb (BT (AU v b (i)))) zz) (yC (Zi GO rfl rfl rfl ?_)))))));refine((show Calls _ _ _ _ (fun e w2=>e = .returned (.tuple #[St (((b.drop (i+xk)).take xn)),NI (i+xk+xn),NI 0])/\Ext _ w2)from(CS _ v b (hr.keep hE) i hi 256).mono fun e w2 ⟨h1,h2⟩=>by subst h2;subst h1;refine⟨?_,AbN _⟩;unfold Bm;rw[hd];simp only;rw[if_neg (by omega),if_neg f];rfl)).mono ?_;rintro e ay ⟨rfl,p⟩;refine⟨_,rfl,?_⟩;have hgr:w.grownBy ay (some r):=Aa hgr p.grown (fun _ e=>by cases e);refine ys (AbP (vs:= [St (((b.drop (i+xk)).take xn)),NI (i+xk+xn),NI 0]) rfl rfl zz) (ys (AbP (vs:= [St (((b.drop (i+xk)).take xn)),NI (i+xk+xn),NI 0]) rfl rfl zz) (ys (AbP (vs:= [St (((b.drop (i+xk)).take xn)),NI (i+xk+xn),NI 0]) rfl rfl zz) (gS (Y7 (a:=(0:Nat)) (b:=(0:Nat)) rfl rfl (AK _ _ _ _) (gP (Zg Cg rfl ?_))))));refine Ao (B5 _ (decide ((0:Nat)=(0)))) ?_ ?_;rotate_left
 ·have hb:=eb p hb;rintro ch be ⟨rfl,hb,hx⟩;refine Ap ?_;have hno:=of_decide_eq_false hb;exact absurd rfl hno
 rintro v_ az ⟨rfl,a0,ad⟩;have hgr:w.grownBy az (some r):=Aa hgr ad.grown (fun _ e=>by cases e);have bf:=of_decide_eq_true a0;have hZ4:=p.trans ad;have hb:=eb hZ4 hb;refine gS (AbO rfl (gS (AbM AT rfl (gS (Za (i:=1) (v:=NI (i+xk+xn)) rfl rfl hb (by rw[CM];decide) DB rfl rfl fun ae af a1 bg=> ?_)))));have hgr:w.grownBy ae (some r):=Aa hgr a1 (fun _ e=> .inl e);clear hE;clear hb;have hb:ae.heap[r]? =some (.cells (BO ((⟨b,((i+xk+xn:Nat):Int)⟩,⟨v⟩):Dv)).toArray 216 (0,0)):=Az af (Do (AU v b (i)) ((i+xk+xn:Nat):Int));clear af;have bh:=bl hb;refine AE rfl (vr (St (((b.drop (i+xk)).take xn))) rfl) ?_;exact .inl ⟨_,rfl,_,_,hP,rfl,hb,hgr⟩
theorem Jg(w:AcE)(r:Nat)(v:AcD)(b:Bs)(i:Nat)(hb:w.heap[r]? =some (.cells (BO (AU v b (i))).toArray 216 (0,0)))(hr:RB w v b)(hap:b= []\/OB v r)(hi:i<=b.length)(hl:b.length<=4611686018427387904):
  Calls AcF 179 #[PQ r 0] w fun e w' =>(∃x,e = .returned x/\∃c n,DA b i=some (c,n)/\x=AB c.1/\w'.heap[r]? =some (.cells (BO (AU v b (n))).toArray 216 (0,0))/\w.grownBy w' (some r))\/∃ch,e = .panicked ch/\DA b i=none/\ch= [C4]/\w.grownBy w' (some r):=by
 have hlr:=(bl hb);have hgr:=Adb w (some r);refine gG (args:= [PQ r 0]) Tryz.func179 rfl 27 rfl rfl ?_;have hE:=AbN w;refine gS (AbV LY fun t w3 ah ai u be=> ?_);have hgr:w.grownBy w3 (some r):=Aa hgr u.grown (fun _ e=>by cases e);have f:=ai;clear ai;have bf:t<w3.heap.size:=by omega
 by_cases hle:i+32<=b.length
 ·have hQ:((b.drop i).take 32).length=32:=by rw[Ac4,Ac5];omega
  have hP:DA b i=some (⟨(b.drop i).take 32,hQ⟩,i+32):=dif_pos hle;refine V6 13 [0,1,2,3,4,5,6,7,8,9,10,11,12] [14,15,16] [8,14] [11,12] [] (cells:=(AcH (AdK 32 0)).toArray) LY fun aw y=> ?_;have hgr:w.grownBy aw (some r):=Aa hgr y.grown (fun _ e=>by cases e);have hZ1:=u.trans y;have hE:=hE.trans hZ1;have bg:=hE.size;have ax:=AR (bl hb) ah;have hb:=eb hZ1 hb;have bh:=(bl hb);have f:=eb y f;have bi:=(bl f);refine aM rfl rfl (aP rfl rfl (fun _ _=>AbO rfl zz) (aP rfl rfl (fun _ _=>AbM BB rfl zz) (aF rfl rfl (fun _ hZ=>Y6 G8 rfl rfl (Ac (eb hZ hb) (Ce (AU v b (i)))) zz) (aM rfl rfl (aP rfl rfl (fun _ _=>AbO rfl zz) (aP rfl rfl (fun _ _=>AbM AT rfl zz) (aF rfl rfl (fun _ hZ=>Y6 Nw rfl rfl (Ac (eb hZ hb) (BT (AU v b (i)))) zz) (aC rfl rfl fun aj j=> ?_))))))));have hgr:w.grownBy aj (some r):=Aa hgr j.grown (fun _ e=>by cases e);have z:=AbN aj;have hE:=hE.trans j;refine id (Zb KT (vr v rfl) (vr (NI i) rfl) ?_);refine((show Calls _ _ _ _ (fun e w2=>e = .returned (.tuple #[AB ((b.drop i).take 32),NI (i+32),NI 0])/\Ext _ w2)from(HH _ v b (hr.keep hE) i hi).mono fun e w2 ⟨h1,h2⟩=>by subst h1;refine⟨?_,h2⟩;unfold DG;rw[if_neg (by omega)];rfl)).mono ?_;rintro e ay ⟨rfl,k⟩;refine⟨_,rfl,?_⟩;have hgr:w.grownBy ay (some r):=Aa hgr k.grown (fun _ e=>by cases e);have z:=z.trans k;refine⟨z,?_⟩;refine aM rfl rfl (aP rfl rfl (fun _ _=>AbP (vs:= [AB ((b.drop i).take 32),NI (i+32),NI 0]) rfl rfl zz) (aP rfl rfl (fun _ _=>AbP (vs:= [AB ((b.drop i).take 32),NI (i+32),NI 0]) rfl rfl zz) (aP rfl rfl (fun _ _=>AbP (vs:= [AB ((b.drop i).take 32),NI (i+32),NI 0]) rfl rfl zz) (aE fun az a0 aa ⟨bj,bk⟩ bm g=> ?_))));have hgr:w.grownBy a0 (some r):=Aa hgr aa.grown (fun _ e=>by cases e);refine yD rfl (Zl (vr (PQ az 0) rfl) (vr (AB ((b.drop i).take 32)) rfl) g (by exact D3 hQ Adq) (by exact As hQ) (Ax _) fun a1 ak l bn=> ?_);have hgr:w.grownBy a1 (some r):=Aa hgr l (fun _ e=> .inr (by cases e;omega));clear g;have g:=ak;clear ak;have bo:=bl g;refine gS (Y7 (a:=(0:Nat)) (b:=(0:Nat)) rfl rfl (AK _ _ _ _) (gP (Zg Cg rfl ?_)));refine Ao (B5 _ (decide ((0:Nat)=(0)))) ?_ ?_;rotate_left
  ·have hZ2:=(j.trans k).trans aa;have hb:=eb hZ2 hb;have hb:=kb l hb (by omega);rintro ch bp ⟨rfl,hb,hx⟩;refine Ap ?_;have hno:=of_decide_eq_false hb;exact absurd rfl hno
  rintro v_ a2 ⟨rfl,a3,m⟩;have hgr:w.grownBy a2 (some r):=Aa hgr m.grown (fun _ e=>by cases e);have bq:=of_decide_eq_true a3;have hZ3:=(j.trans k).trans aa;have hb:=eb hZ3 hb;have hb:=kb l hb (by omega);have hb:=eb m hb;refine gS (AbO rfl (gS (AbM AT rfl (gS (Za (i:=1) (v:=NI (i+32)) rfl rfl hb (by rw[CM];decide) DB rfl rfl fun al am ab br=> ?_)))));have hgr:w.grownBy al (some r):=Aa hgr ab (fun _ e=> .inl e);clear hE;clear hb;have hb:al.heap[r]? =some (.cells (BO ((⟨b,((i+32:Nat):Int)⟩,⟨v⟩):Dv)).toArray 216 (0,0)):=Az am (Do (AU v b (i)) ((i+32:Nat):Int));clear am;have bs:=bl hb;have f:=eb hZ3 f;have f:=kb l f (by omega);have f:=eb m f;have f:=kb ab f (by omega);have g:=eb m g;have g:=kb ab g (by omega);refine gS (ZC rfl g VZ rfl (by exact As hQ) (gS (Zl (vr (PQ t 0) rfl) (vr (AB ((b.drop i).take 32)) rfl) f (by exact D3 hQ Adq) (by exact As hQ) (Ax _) fun a4 an ao bt=> ?_)));have hgr:w.grownBy a4 (some r):=Aa hgr ao (fun _ e=> .inr (by cases e;omega));clear f;have f:=an;clear an;have bu:=bl f;refine Ig rfl (Ab0 rfl f VZ rfl (by exact As hQ)) ?_;have hb:=kb ao hb (by omega);exact .inl ⟨_,rfl,_,_,hP,rfl,hb,hgr⟩
 have hP:DA b i=none:=dif_neg hle;refine V6 13 [0,1,2,3,4,5,6,7,8,9,10,11,12] [14,15,16] [8,14] [11,12] [] (cells:=(AcH (AdK 32 0)).toArray) LY fun a5 ac=> ?_;have hgr:w.grownBy a5 (some r):=Aa hgr ac.grown (fun _ e=>by cases e);have hZ4:=u.trans ac;have hE:=hE.trans hZ4;have bv:=hE.size;have ax:=AR (bl hb) ah;have hb:=eb hZ4 hb;have bw:=(bl hb);have f:=eb ac f;have bx:=(bl f);refine aM rfl rfl (aP rfl rfl (fun _ _=>AbO rfl zz) (aP rfl rfl (fun _ _=>AbM BB rfl zz) (aF rfl rfl (fun _ hZ=>Y6 G8 rfl rfl (Ac (eb hZ hb) (Ce (AU v b (i)))) zz) (aM rfl rfl (aP rfl rfl (fun _ _=>AbO rfl zz) (aP rfl rfl (fun _ _=>AbM AT rfl zz) (aF rfl rfl (fun _ hZ=>Y6 Nw rfl rfl (Ac (eb hZ hb) (BT (AU v b (i)))) zz) (aC rfl rfl fun ap o=> ?_))))))));have hgr:w.grownBy ap (some r):=Aa hgr o.grown (fun _ e=>by cases e);have ad:=AbN ap;have hE:=hE.trans o;refine id (Zb KT (vr v rfl) (vr (NI i) rfl) ?_);refine((show Calls _ _ _ _ (fun e w2=>e = .returned (.tuple #[AB zero32,NI 0,NI 6])/\Ext _ w2)from(HH _ v b (hr.keep hE) i hi).mono fun e w2 ⟨h1,h2⟩=>by subst h1;refine⟨?_,h2⟩;unfold DG;rw[if_pos (by omega)];rfl)).mono ?_;rintro e a6 ⟨rfl,p⟩;refine⟨_,rfl,?_⟩;have hgr:w.grownBy a6 (some r):=Aa hgr p.grown (fun _ e=>by cases e);have ad:=ad.trans p;refine⟨ad,?_⟩;refine aM rfl rfl (aP rfl rfl (fun _ _=>AbP (vs:= [AB zero32,NI 0,NI 6]) rfl rfl zz) (aP rfl rfl (fun _ _=>AbP (vs:= [AB zero32,NI 0,NI 6]) rfl rfl zz) (aP rfl rfl (fun _ _=>AbP (vs:= [AB zero32,NI 0,NI 6]) rfl rfl zz) (aE fun a7 a8 ae ⟨bz,b0⟩ b1 h=> ?_))));have hgr:w.grownBy a8 (some r):=Aa hgr ae.grown (fun _ e=>by cases e);refine yD rfl (Zl (vr (PQ a7 0) rfl) (vr (AB zero32) rfl) h (by exact D3 (by decide) Adq) (by exact As (by decide)) (Ax _) fun a9 aq q b2=> ?_);have hgr:w.grownBy a9 (some r):=Aa hgr q (fun _ e=> .inr (by cases e;omega));clear h;have h:=aq;clear aq;have b3:=bl h;refine gS (Y7 (a:=(6:Nat)) (b:=(0:Nat)) rfl rfl (AK _ _ _ _) (gP (Zg Cg rfl ?_)));refine Ao (B5 _ (decide ((6:Nat)=(0)))) ?_ ?_;rotate_left
 ·have hZ5:=(o.trans p).trans ae;have hb:=eb hZ5 hb;have hb:=kb q hb (by omega);rintro ch b4 ⟨rfl,hb,hx⟩;refine Ap ?_;have hno:=of_decide_eq_false hb;exact .inr ⟨_,rfl,hP,rfl,(Aa hgr hx.grown (fun _ e=>by cases e))⟩
 rintro v_ ba ⟨rfl,bb,s⟩;have hgr:w.grownBy ba (some r):=Aa hgr s.grown (fun _ e=>by cases e);have b5:=of_decide_eq_true bb;have hZ6:=(o.trans p).trans ae;have hb:=eb hZ6 hb;have hb:=kb q hb (by omega);have hb:=eb s hb;refine gS (AbO rfl (gS (AbM AT rfl (gS (Za (i:=1) (v:=NI 0) rfl rfl hb (by rw[CM];decide) DB rfl rfl fun ar au af b6=> ?_)))));have hgr:w.grownBy ar (some r):=Aa hgr af (fun _ e=> .inl e);clear hE;clear hb;have hb:ar.heap[r]? =some (.cells (BO ((⟨b,((0:Nat):Int)⟩,⟨v⟩):Dv)).toArray 216 (0,0)):=Az au (Do (AU v b (i)) ((0:Nat):Int));clear au;have b7:=bl hb;have f:=eb hZ6 f;have f:=kb q f (by omega);have f:=eb s f;have f:=kb af f (by omega);have h:=eb s h;have h:=kb af h (by omega);refine gS (ZC rfl h VZ rfl (by exact As (by decide)) (gS (Zl (vr (PQ t 0) rfl) (vr (AB zero32) rfl) f (by exact D3 (by decide) Adq) (by exact As (by decide)) (Ax _) fun bc av bd b8=> ?_)));have hgr:w.grownBy bc (some r):=Aa hgr bd (fun _ e=> .inr (by cases e;omega));clear f;have f:=av;clear av;have b9:=bl f;refine Ig rfl (Ab0 rfl f VZ rfl (by exact As (by decide))) ?_;omega
def F3(b:Bs)(i:Nat):Option (AH × Nat):=(AY b i 256).bind fun s=>(DA b s.2).bind fun x=>some (⟨s.1,x.1⟩,x.2)
def Cv(b:Bs)(s:List AH × Nat):Option (List AH × Nat):=(F3 b s.2).map fun x=>(s.1++ [x.1],x.2)
def FJ(b:Bs)(i:Nat):Option (List AH × Nat):=(CV b i 64).bind fun x=>Cb (Cv b) x.1 ([],x.2)
def C7(b:Bs)(i:Nat):Option (A9 × Nat):=(DJ b i).bind fun k=>(AY b k.2 256).bind fun s=>(DA b s.2).bind fun o=>(DA b o.2).bind fun n=>(AY b n.2 256).bind fun t=>some (⟨k.1,s.1,o.1,n.1,t.1⟩,t.2)
def Cw(b:Bs)(s:List A9 × Nat):Option (List A9 × Nat):=(C7 b s.2).map fun x=>(s.1++ [x.1],x.2)
def Hp(b:Bs)(i:Nat):Option (List A9 × Nat):=(CV b i 64).bind fun x=>Cb (Cw b) x.1 ([],x.2)
noncomputable def Cx(b:Bs):Option Ar:=(FJ b 0).bind fun x=>(FJ b x.2).bind fun y=>(AY b y.2 256).bind fun h=>(DA b h.2).bind fun a=>(Hp b a.2).bind fun l=>
 if l.2=b.length/\AA ⟨x.1,y.1,h.1,a.1,l.1⟩=true then some ⟨x.1,y.1,h.1,a.1,l.1⟩else none
theorem Jh{b:Bs}{i n k most:Nat}(hi:i<=b.length)(h:CV b i most=some (k,n)):n<=b.length/\k<=most/\Cu b i=some (k,n):=by
 unfold CV at h;cases hn:Cu b i with
 | none=>rw[hn]at h;cases h
 | some x=>
  rw[hn,Ac0]at h;split at h
  ·rename_i h1
   cases h;exact⟨PH hi hn,h1,rfl⟩
  ·cases h
theorem UD{b:Bs}{i:Nat}(h:CV b i 64=none):FJ b i=none:=by unfold FJ;rw[h];rfl
theorem NQ{b:Bs}{i n j:Nat}(h:CV b i 64=some (n,j)):FJ b i=Cb (Cv b) n ([],j):=by unfold FJ;rw[h];rfl
theorem UE{b:Bs}{i:Nat}(h:CV b i 64=none):Hp b i=none:=by unfold Hp;rw[h];rfl
theorem NR{b:Bs}{i n j:Nat}(h:CV b i 64=some (n,j)):Hp b i=Cb (Cw b) n ([],j):=by unfold Hp;rw[h];rfl
theorem ST{b:Bs}{i n j k j' :Nat}{o:List AH}(h:CV b i 64=some (n,j))(hk:k<n)(hit:Cb (Cv b) k ([],j)=some (o,j'))(hx:F3 b j' =none):FJ b i=none:=by
 rw[NQ h];refine HT (j:=k+1) ?_ n hk;rw[Fo hit];unfold Cv;rw[hx];rfl
theorem Ww{b:Bs}{j k j' j2:Nat}{o:List AH}{x:AH}(hit:Cb (Cv b) k ([],j)=some (o,j'))(hx:F3 b j' =some (x,j2)):Cb (Cv b) (k+1) ([],j)=some (o++ [x],j2):=by
 rw[Fo hit];unfold Cv;rw[hx];rfl
theorem IP{b:Bs}{i n j k j' :Nat}{o:List A9}(h:CV b i 64=some (n,j))(hk:k<n)(hit:Cb (Cw b) k ([],j)=some (o,j'))(hx:C7 b j' =none):Hp b i=none:=by
 rw[NR h];refine HT (j:=k+1) ?_ n hk;rw[Fo hit];unfold Cw;rw[hx];rfl
theorem Wx{b:Bs}{j k j' j2:Nat}{o:List A9}{x:A9}(hit:Cb (Cw b) k ([],j)=some (o,j'))(hx:C7 b j' =some (x,j2)):Cb (Cw b) (k+1) ([],j)=some (o++ [x],j2):=by
 rw[Fo hit];unfold Cw;rw[hx];rfl
theorem Ym{b:Bs}{i:Nat}(h:AY b i 256=none):F3 b i=none:=by unfold F3;rw[h];rfl
theorem Yn{b s:Bs}{i j:Nat}(h:AY b i 256=some (s,j))(h2:DA b j=none):F3 b i=none:=by unfold F3;rw[h,Ac0,h2];rfl
theorem V7{b s:Bs}{i j k:Nat}{x:B7}(h:AY b i 256=some (s,j))(h2:DA b j=some (x,k)):F3 b i=some (⟨s,x⟩,k):=by unfold F3;rw[h,Ac0,h2];rfl
theorem Mf{σ:Type}{b:Bs}{i:Nat}{f:Nat × Nat->Option σ}{t:σ}(h:(CV b i 64).bind f=some t):∃n j,CV b i 64=some (n,j)/\n<=64/\f (n,j)=some t:=by
 cases hn:CV b i 64 with
 | none=>rw[hn]at h;cases h
 | some x=>
  rw[hn]at h;refine⟨x.1,x.2,rfl,?_,h⟩;unfold CV at hn;cases hp:Cu b i with
  | none=>rw[hp]at hn;cases hn
  | some y=>
   rw[hp,Ac0]at hn;split at hn
   ·cases hn;assumption
   ·cases hn
theorem PK{b:Bs}{i j:Nat}{x:AH}(h:F3 b i=some (x,j)):∃k,AY b i 256=some (x.name,k)/\DA b k=some (x.id,j):=by
 unfold F3 at h;cases h1:AY b i 256 with
 | none=>rw[h1]at h;cases h
 | some s=>
  rw[h1,Ac0]at h;cases h2:DA b s.2 with
  | none=>rw[h2]at h;cases h
  | some y=>rw[h2]at h;cases h;exact⟨s.2,rfl,h2⟩
theorem KU{b:Bs}{s t:List AH × Nat}(h:Cv b s=some t):∃x,t.1=s.1++ [x]/\F3 b s.2=some (x,t.2):=by
 unfold Cv at h;cases hn:F3 b s.2 with
 | none=>rw[hn]at h;cases h
 | some x=>rw[hn]at h;cases h;exact⟨x.1,rfl,rfl⟩
theorem IQ{b:Bs}:∀(n:Nat) {s t:List AH × Nat},Cb (Cv b) n s=some t->(∀u∈s.1,u.name.length<=256)->(∀u∈t.1,u.name.length<=256)/\t.1.length=s.1.length+n
 | 0,s,t,h,hs=>by cases h;exact⟨hs,rfl⟩
 | n+1,s,t,h,hs=>by
  obtain⟨u,h1,h2⟩:=HU h;obtain⟨h3,h4⟩:=IQ n h1 hs;obtain⟨x,h5,h6⟩:=KU h2;obtain⟨k,h7,_⟩:=PK h6;rw[h5];refine⟨fun q hq=> ?_,by rw[AcJ,h4];rfl⟩;rcases Adt.1 hq with hq | hq
  ·exact h3 q hq
  ·rw[Adn.1 hq];exact(txtP_le h7).2
theorem nlP_lt{b:Bs}{i:Nat}{t:List AH × Nat}(h:FJ b i=some t):t.1.length<=64/\∀u∈t.1,u.name.length<=256:=by
 obtain⟨n,j,h1,h2,h3⟩:=Mf h;obtain⟨h4,h5⟩:=IQ n h3 (by simp);simp only[Ac1]at h5;exact⟨by omega,h4⟩
theorem KV{b:Bs}{s t:List A9 × Nat}(h:Cw b s=some t):∃x,t.1=s.1++ [x]/\C7 b s.2=some (x,t.2):=by
 unfold Cw at h;cases hn:C7 b s.2 with
 | none=>rw[hn]at h;cases h
 | some x=>rw[hn]at h;cases h;exact⟨x.1,rfl,rfl⟩
theorem XL{b:Bs}{i:Nat}{t:List A9 × Nat}(h:Hp b i=some t):t.1.length<=64:=by
 obtain⟨n,j,h1,h2,h3⟩:=Mf h;have:=Je (f:=Cw b) (fun s t h=>by obtain⟨x,h5,_⟩:=KV h;rw[h5,AcJ];rfl) n h3;simp only[Ac1]at this;omega
theorem UF{b:Bs}{i j k m i1 i2 i3 i5:Nat}{l1 l2:List AH}{lo:List A9}{d3:Bs}{d4:B7}(h1:FJ b i=some (l1,i1))(h2:FJ b j=some (l2,i2))(h3:AY b k 256=some (d3,i3))(h4:Hp b m=some (lo,i5)):E7 (⟨l1,l2,d3,d4,lo⟩:Ar):=by
 have q1:=nlP_lt h1;have q2:=nlP_lt h2;have q3:=(txtP_le h3).2;have q4:=XL h4;exact⟨by have:=q1.1;simp only at this ⊢;omega,by have:=q2.1;simp only at this ⊢;omega,by simp only at q4 ⊢;omega,fun u hu=>by have:=q1.2 u hu;omega,fun u hu=>by have:=q2.2 u hu;omega,by simp only;omega⟩
theorem NS(b:Bs)(i:Nat):FJ b i=Cn b i 64 (Cv b) []:=by
 unfold FJ Cn CV;cases Cu b i with
 | none=>rfl
 | some x=>
  simp only[Ac0];split <;> rfl
theorem NT(b:Bs)(i:Nat):Hp b i=Cn b i 64 (Cw b) []:=by
 unfold Hp Cn CV;cases Cu b i with
 | none=>rfl
 | some x=>
  simp only[Ac0];split <;> rfl
theorem Yo{b r:Bs}{n:AH}{i:Nat}(h:b.drop i=CL n++r)(hn:n.name.length<=256):F3 b i=some (n,i+(CL n).length):=by
 have a:b.drop i=AF n.name++(n.id.1++r):=by rw[h];unfold CL;rw[Ac7]
 rw[V7 (FI a hn (by omega)) (Jf (Cf a))];unfold CL;rw[AcJ,AeG]
theorem V8{b r:Bs}{l:List AH}{i:Nat}(h:b.drop i=EA l++r)(hl:l.length<=64)(hn:∀n∈l,n.name.length<=256):FJ b i=some (l,i+(EA l).length):=by
 have h' :b.drop i=Ac6 l.length++(l.flatMap CL++r):=by rw[h];unfold EA;rw[Ac7]
 rw[NS,Lw CL (Cv b) h' hl (by omega) (fun x hx a i r hr=>by unfold Cv;rw[Yo hr (hn x hx)];rfl)];unfold EA;rw[AcJ,AeG]
theorem XM{b r:Bs}{e:A9}{i:Nat}(h:b.drop i=Cp e++r)(hn:e.name.length<=256)(ht:e.note.length<=256):C7 b i=some (e,i+(Cp e).length):=by
 have a:b.drop i=e.kind :: (AF e.name++(e.old.1++(e.new.1++(AF e.note++r)))):=by rw[h];unfold Cp;simp
 have c:b.drop (i+1)=AF e.name++(e.old.1++(e.new.1++(AF e.note++r))):=Cf (u:= [e.kind]) a;have f:=Cf c;have g:=Cf f;have j:=Cf g;unfold C7;simp only[PI a,Ac0,FI c hn (by omega),Jf f,Jf g,FI j ht (by omega),Aea,Prod.mk.injEq,true_and];unfold Cp;simp only[AcJ,Adh];omega
theorem elP_d{b r:Bs}{l:List A9}{i:Nat}(h:b.drop i=Ac6 l.length++(l.flatMap Cp++r))(hl:l.length<=64)(hn:∀e∈l,e.name.length<=256/\e.note.length<=256):Hp b i=some (l,i+(Ac6 l.length).length+(l.flatMap Cp).length):=by
 rw[NT,Lw Cp (Cw b) h hl (by omega) (fun x hx a i r hr=>by unfold Cw;rw[XM hr (hn x hx).1 (hn x hx).2];rfl)]
theorem UG{r:Ar}(h:AA r=true):Cx (DU r)=some r:=by
 have hR:=IM h;have a:(DU r).drop 0=EA r.branches++(EA r.tags++(AF r.head++(r.at_.1++(Ac6 r.log.length++(r.log.flatMap Cp++ []))))):=by unfold DU;simp only[AeV,Ac7,Afp]
 have b:=Cf a;have c:=Cf b;have f:=Cf c;have g:=Cf f;have i:=Cf (Cf g);unfold Cx;rw[V8 a hR.bl (fun n hn=>by have:=hR.bn n hn;omega),Ac0];simp only;rw[V8 b hR.tl (fun n hn=>by have:=hR.tn n hn;omega),Ac0];simp only;rw[FI c (by have:=hR.hd;omega) (by omega),Ac0];simp only;rw[Jf f,Ac0];simp only;rw[elP_d g hR.ll (fun e he=>by have:=hR.ln e he;omega),Ac0];refine if_pos ⟨?_,h⟩;unfold DU;simp only[AcJ];omega
theorem Yq{b:Bs}{i n:Nat}{x:AH}(h:F3 b i=some (x,n)):b.drop i=CL x++b.drop n:=by
 obtain⟨k,h1,h2⟩:=PK h;rw[IO h1,M6 h2];unfold CL;rw[Ac7]
theorem XN{b:Bs}{i n:Nat}{e:A9}(h:C7 b i=some (e,n)):b.drop i=Cp e++b.drop n:=by
 unfold C7 at h;simp only[Aer]at h;obtain⟨⟨c,j1⟩,h1,⟨s,j2⟩,h2,⟨o,j3⟩,h3,⟨x,j4⟩,h4,⟨t,j5⟩,h5,h6⟩:=h;cases h6;rw[Wv h1,IO h2,M6 h3,M6 h4,IO h5];unfold Cp;simp only[Ac7]
theorem V9{b:Bs}{i:Nat}{t:List AH × Nat}(h:FJ b i=some t):b.drop i=EA t.1++b.drop t.2:=by
 rw[NS]at h;exact(PJ (Q:=fun _=>True) (f:=CL) (fun a i t h=>by
  obtain⟨x,h1,h2⟩:=KU h;exact⟨x,h1,trivial,Yq h2⟩) h).1
theorem Yr{b:Bs}{i:Nat}{t:List A9 × Nat}(h:Hp b i=some t):b.drop i=(Ac6 t.1.length++t.1.flatMap Cp)++b.drop t.2:=by
 rw[NT]at h;exact(PJ (Q:=fun _=>True) (f:=Cp) (fun a i t h=>by
  obtain⟨x,h1,h2⟩:=KV h;exact⟨x,h1,trivial,XN h2⟩) h).1
theorem SU{b:Bs}{r:Ar}(h:Cx b=some r):AA r=true/\DU r=b:=by
 unfold Cx at h;simp only[Aer]at h;obtain⟨⟨l1,j1⟩,h1,⟨l2,j2⟩,h2,⟨hd,j3⟩,h3,⟨a,j4⟩,h4,⟨lo,j5⟩,h5,h6⟩:=h;split at h6
 ·rename_i hq
  cases h6;refine⟨hq.2,?_⟩;have e:b.drop 0=EA l1++(EA l2++(AF hd++(a.1++((Ac6 lo.length++lo.flatMap Cp)++b.drop j5)))):=by rw[V9 h1,V9 h2,IO h3,M6 h4,Yr h5]
  rw[show j5=b.length from hq.1,List.drop_length,Afp,AeV]at e;rw[e];unfold DU;simp only[Ac7]
 ·cases h6
def Cl(u:Aw):Bs:=(([u.kind]++AF u.name)++u.old.1)++u.new.1
def tranB(l:List Aw)(note:Bs):Bs:=(Ac6 l.length++l.flatMap Cl)++AF note
def recB(k:UInt8)(b:Bs):Bs:=AF ([k]++b)
def FK(b:Bs)(i:Nat):Option (Aw × Nat):=(DJ b i).bind fun k=>(AY b k.2 256).bind fun s=>(DA b s.2).bind fun o=>(DA b o.2).bind fun n=>some (⟨k.1,s.1,o.1,n.1⟩,n.2)
def CW(b:Bs)(s:List Aw × Nat):Option (List Aw × Nat):=(FK b s.2).map fun x=>(s.1++ [x.1],x.2)
noncomputable def EF(was:Ar)(b:Bs)(l:List Aw)(i:Nat):Option Ar:=(AY b i 256).bind fun t=>if t.2=b.length then(if(Ag was l t.1).1=0 then some (Ag was l t.1).2 else none)else none
noncomputable def BJ(was:Ar)(b:Bs):Option Ar:=
 if 0<b.length then(if(b.getD 0 0).toNat=83 then Cx (b.drop 1)else if(b.getD 0 0).toNat=84 then(Cn b 1 b.length (CW b) []).bind fun x=>EF was b x.1 x.2 else none)else none
noncomputable def KW(b:Bs):Nat->Ar->Nat->Option (Ar × Bool)
 | 0,r,_=>some (r,false)
 | f+1,r,i=>if i<b.length then(match AY b i b.length with
  | none=>some (r,true)
  | some x=>(BJ r x.1).bind fun q=>KW b f q x.2)else some (r,false)
noncomputable def F4(b:Bs)(r:Ar)(i:Nat):Option (Ar × Bool):=KW b (b.length-i) r i
noncomputable def BU(b:Bs):Option (Ar × Bool):=F4 b B4.1 0
theorem SV(s:Bs):0<(AF s).length:=by
 have:=Ag5 s.length;unfold AF;rw[AcJ];omega
theorem EV{b s:Bs}{i m n:Nat}(h:AY b i m=some (s,n)):i<n/\n<=b.length:=by
 have h1:=(txtP_le h).1;have h2:=IO h;have h3:=SV s;have h4:=congrArg Ahl h2;rw[AcJ,Ac5,Ac5]at h4;omega
theorem goJ_fuel{b:Bs}:∀(f g:Nat) (r:Ar) (i:Nat),b.length-i<=f->b.length-i<=g->KW b f r i=KW b g r i
 | 0,0,r,i,_,_=>rfl
 | 0,g+1,r,i,h,_=>by
  unfold KW;rw[if_neg (by omega)]
 | f+1,0,r,i,_,h=>by
  unfold KW;rw[if_neg (by omega)]
 | f+1,g+1,r,i,h,k=>by
  unfold KW;split
  ·cases ht:AY b i b.length with
   | none=>rfl
   | some x=>
    have:=EV (s:=x.1) (n:=x.2) ht;simp only
    congr 1
    funext q
    exact goJ_fuel f g q x.2 (by omega) (by omega)
  ·rfl
theorem rdJ_end{b:Bs}{r:Ar}{i:Nat}(h:¬i<b.length):F4 b r i=some (r,false):=by
 unfold F4;rw[show b.length-i=0 by omega];rfl
theorem Gt{b:Bs}{r:Ar}{i:Nat}(h:i<b.length)(ht:AY b i b.length=none):F4 b r i=some (r,true):=by
 unfold F4;rw[show b.length-i=(b.length-i-1)+1 by omega];unfold KW;rw[if_pos h,ht]
theorem Gu{b s:Bs}{r:Ar}{i n:Nat}(ht:AY b i b.length=some (s,n)):F4 b r i=(BJ r s).bind fun q=>F4 b q n:=by
 have h:=EV ht;unfold F4;rw[show b.length-i=(b.length-i-1)+1 by omega]
 conv=>lhs;unfold KW
 rw[if_pos (by omega),ht];simp only
 congr 1
 funext q
 exact goJ_fuel _ _ q n (by omega) (by omega)
theorem rdJ_bad{b s:Bs}{r:Ar}{i n:Nat}(ht:AY b i b.length=some (s,n))(hb:BJ r s=none):F4 b r i=none:=by
 rw[Gu ht,hb];rfl
theorem NU{b s:Bs}{r q:Ar}{i n:Nat}(ht:AY b i b.length=some (s,n))(hb:BJ r s=some q):F4 b r i=F4 b q n:=by
 rw[Gu ht,hb];rfl
theorem HX:∀(l r:Aib) (k:Nat) (x:Nat × Nat),AS k l=some x->AS k (l++r)=some x
 | [],r,k,x,h=>by simp[AS]at h
 | c :: l,r,k,x,h=>by
  rw[Ade];unfold AS at h ⊢;split at h
  ·rename_i q
   rw[if_pos q];split at h
   ·cases h
   ·rename_i q2
    rw[if_neg q2];cases e:AS (k+1) l with
    | none=>rw[e]at h;cases h
    | some y=>rw[e]at h;rw[HX l r (k+1) y e];exact h
  ·rename_i q
   rw[if_neg q];exact h
theorem NV{c p s:Bs}{i m m' n:Nat}(h:AY c i m=some (s,n))(hm:m<=m'):AY (c++p) i m' =some (s,n):=by
 have hn:=EV h;unfold AY at h;split at h
 ·cases h
 ·rename_i x hx
  split at h
  ·cases h
  ·rename_i h1
   split at h
   ·cases h
   ·rename_i h2
    cases h;have hd:(c++p).drop i=c.drop i++p:=Agd (by omega);unfold AY;rw[hd,HX _ p 0 x hx];simp only;rw[if_neg (by omega),if_neg (by rw[AcJ];omega),Agd (by omega),List.take_append_of_le_length (by rw[Ac5];omega)]
theorem Lx{c p:Bs}{q:Ar}:∀(n:Nat) (r:Ar) (i:Nat),c.length-i<=n->i<=c.length->F4 c r i=some (q,false)->F4 (c++p) r i=F4 (c++p) q c.length
 | n,r,i,hn,hi,h=>by
  by_cases hlt:i<c.length
  ·cases ht:AY c i c.length with
   | none=>rw[Gt hlt ht]at h;cases h
   | some x=>
    have hx:=EV (s:=x.1) (n:=x.2) ht;rw[Gu (s:=x.1) (n:=x.2) ht]at h;cases hb:BJ r x.1 with
    | none=>rw[hb]at h;cases h
    | some r' =>
     rw[hb]at h;rw[NU (NV (p:=p) (s:=x.1) (n:=x.2) ht (by rw[AcJ];omega)) hb];cases n with
     | zero=>omega
     | succ n=>exact Lx n r' x.2 (by omega) hx.2 h
  ·rw[rdJ_end hlt]at h;cases h;rw[show i=c.length by omega]
theorem QL{c s:Bs}(hs:s.length<9223372036854775808):AY (c++AF s) c.length (c++AF s).length=some (s,(c++AF s).length):=by
 have h:(c++AF s).drop c.length=AF s++ []:=by rw[AfA,Afp]
 have hl:s.length<=(AF s).length:=by unfold AF;rw[AcJ];omega
 by_cases hm:(c++AF s).length<9223372036854775808
 ·rw[FI h (by rw[AcJ];omega) hm,AcJ]
 ·have h2:=FI h (AcI s.length) hs;have h3:=NV (p:= []) h2 (m' :=(c++AF s).length) (by rw[AcJ];omega);rw[Afp]at h3;rw[h3,AcJ]
theorem Mg{c s:Bs}{r:Ar}(h:BU c=some (r,false))(hs:s.length<9223372036854775808):BU (c++AF s)=(BJ r s).map fun q=>(q,false):=by
 unfold BU at h ⊢;rw[Lx c.length _ 0 (by omega) (AcZ _) h,Gu (QL hs)];cases BJ r s with
 | none=>rfl
 | some q=>exact rdJ_end (AgA _)
theorem SW{c s:Bs}{r:Ar}{n:Nat}(h:BU c=some (r,false))(hs:s.length<9223372036854775808)(hn:n<(AF s).length):BU (c++(AF s).take n)=some (r,decide (0<n)):=by
 have hl:((AF s).take n).length=n:=by rw[Ac4];omega
 unfold BU at h ⊢;rw[Lx c.length _ 0 (by omega) (AcZ _) h];by_cases h0:0<n
 ·rw[decide_eq_true h0];refine Gt (by rw[AcJ];omega) ?_;unfold AY;rw[AfA];cases hd:AS 0 ((AF s).take n)with
  | none=>rfl
  | some x=>
   have h1:=HX _ ((AF s).drop n) 0 x hd;rw[AdX]at h1;have h4:(128:Nat)^(8+1)=9223372036854775808:=by decide
   unfold AF at h1;rw[El s 8 s.length 0 (by omega) (by omega) (by omega)]at h1;cases h1;have h5:(AF s).length=(Ac6 s.length).length+s.length:=by unfold AF;rw[AcJ]
   simp only;split
   ·rfl
   ·rw[if_pos (by rw[AcJ,hl];omega)]
 ·rw[decide_eq_false h0];exact rdJ_end (by rw[AcJ,hl];omega)
theorem FL:BU []=some (B4.1,false):=rdJ_end (AgA _)
theorem Ys{b r:Bs}{u:Aw}{i:Nat}(h:b.drop i=Cl u++r)(hu:u.name.length<=256):FK b i=some (u,i+(Cl u).length):=by
 have a:b.drop i=u.kind :: (AF u.name++(u.old.1++(u.new.1++r))):=by rw[h];unfold Cl;simp
 have c:b.drop (i+1)=AF u.name++(u.old.1++(u.new.1++r)):=Cf (u:= [u.kind]) a;have e:=Cf c;have f:=Cf e;unfold FK;simp only[PI a,Ac0,FI c hu (by omega),Jf e,Jf f,Aea,Prod.mk.injEq,true_and];unfold Cl;simp only[AcJ,Adh];omega
theorem behindJ_tran{was:Ar}{l:List Aw}{note:Bs}(hl:l.length<9223372036854775808)(hu:∀u∈l,u.name.length<=256)(hn:note.length<=256)(h0:(Ag was l note).1=0):BJ was ([84]++tranB l note)=some (Ag was l note).2:=by
 have b:([84]++tranB l note).drop 1=Ac6 l.length++(l.flatMap Cl++(AF note++ [])):=by
  unfold tranB;simp
 have c:=Cf (Cf b);have hll:l.length<=([84]++tranB l note).length:=by
  have h1:∀m:List Aw,m.length<=(m.flatMap Cl).length:=fun m=>by
   induction m with
   | nil=>exact AcI _
   | cons a m ih=>
    have:1<=(Cl a).length:=by unfold Cl;simp only[AcJ,Adh];omega
    rw[Adz,AcJ,AcV];omega
  have:=h1 l;unfold tranB;simp only[AcJ];omega
 have hp:Cn ([84]++tranB l note) 1 l.length (CW ([84]++tranB l note)) []=some (l,1+(Ac6 l.length).length+(l.flatMap Cl).length):=
  Lw Cl _ b (AcI _) hl fun x hx a i r hr=>by unfold CW;rw[Ys hr (hu x hx)];rfl
 have e:Cn ([84]++tranB l note) 1 ([84]++tranB l note).length (CW ([84]++tranB l note)) []=some (l,1+(Ac6 l.length).length+(l.flatMap Cl).length):=by
  unfold Cn at hp ⊢;cases hn:Cu ([84]++tranB l note) 1 with
  | none=>rw[hn]at hp;cases hp
  | some x=>
   rw[hn,Ac0]at hp;rw[Ac0];split at hp
   ·rw[if_pos (by omega)];exact hp
   ·cases hp
 unfold BJ;rw[if_pos (by simp),show List.getD ([84]++tranB l note) 0 (0:UInt8)=84 from rfl,if_neg (by decide),if_pos (by decide),e,Ac0];unfold EF;rw[FI c hn (by omega),Ac0];rw[if_pos (by unfold tranB;simp only[AcJ,Adh];omega),if_pos h0]
theorem MW{was r:Ar}(h:AA r=true):BJ was ([83]++DU r)=some r:=by
 unfold BJ;rw[if_pos (by simp),if_pos (by rfl)];show Cx (DU r)=some r;exact UG h
theorem IR{note:Bs}:∀ {l:List Aw} {r:Ar},(CU note r l).1=0->∀u∈l,Bl u=0
 | [],r,_,u,hu=>by cases hu
 | y :: l,r,h,u,hu=>by
  unfold CU at h;split at h
  ·rename_i h1;exact absurd h h1
  ·rename_i h1
   have h1:=Ael.1 h1;rcases Adl.1 hu with rfl | hu
   ·unfold CT at h1;split at h1
    ·rename_i h2;exact absurd h1 h2
    ·rename_i h2;exact Ael.1 h2
   ·exact IR h u hu
theorem FA{note:Bs}{r:Ar}{l:List Aw}(h:(Ag r l note).1=0):(∀u∈l,u.name.length<=256)/\note.length<=256/\AA r=true:=by
 obtain⟨h1,h2,-⟩:=Gs h;simp only[Adx,AdS]at h1;refine⟨fun u hu=> ?_,?_,h1.1⟩
 ·have h3:=(HP (IR h2 u hu)).2.2;omega
 ·have h5:=h1.2;unfold Cm at h5;rw[Ada]at h5;exact of_decide_eq_true h5.1
theorem NW{u:Aw}(h:u.name.length<=256):(Cl u).length<=330:=by
 have:=BM h (by omega);unfold Cl;simp only[AcJ,Adh,u.old.2,u.new.2];omega
theorem IS{l:List Aw}{note:Bs}{k:Nat}(hu:∀u∈l,u.name.length<=256)(hn:note.length<=k)(hk:k<=1000000)(hl:l.length<=1000000):(tranB l note).length<=330*l.length+k+18:=by
 have h1:=Ed (f:=Cl) (c:=330) (l:=l) fun u hm=>NW (hu u hm);have h2:=BM hn (by omega);have h3:=BX (n:=l.length) (by omega);unfold tranB;simp only[AcJ];omega
theorem J1{k:UInt8}{b:Bs}{n:Nat}(h:b.length<=n)(hn:n<=1000000000):(recB k b).length<=n+10:=by
 have:=BM (s:= [k]++b) (n:=n+1) (by rw[AcJ,Adh];omega) (by omega);unfold recB;omega
theorem readJ_tran{c:Bs}{r:Ar}{l:List Aw}{note:Bs}(h:BU c=some (r,false))(hl:l.length<=1000000)(h0:(Ag r l note).1=0):BU (c++recB 84 (tranB l note))=some ((Ag r l note).2,false):=by
 obtain⟨h1,h2,-⟩:=FA h0;have h3:=IS h1 h2 (by omega) hl;unfold recB;rw[Mg h (by rw[AcJ,Adh];omega),behindJ_tran (by omega) h1 h2 h0];rfl
theorem QM{c:Bs}{r:Ar}{l:List Aw}{note:Bs}{n:Nat}(h:BU c=some (r,false))(hl:l.length<=1000000)(h0:(Ag r l note).1=0):∃q t,BU (c++(recB 84 (tranB l note)).take n)=some (q,t)/\(q=r\/q=(Ag r l note).2):=by
 obtain⟨h1,h2,-⟩:=FA h0;have h3:=IS h1 h2 (by omega) hl;by_cases hn:n<(recB 84 (tranB l note)).length
 ·unfold recB at hn ⊢;exact⟨_,_,SW h (by rw[AcJ,Adh];omega) hn, .inl rfl⟩
 ·rw[List.take_of_length_le (by omega)];exact⟨_,_,readJ_tran h hl h0, .inr rfl⟩
theorem J2{r:Ar}(h:AA r=true):(DU r).length<=40000:=by
 have hR:=IM h;have h1:=KS hR.bl hR.bn;have h2:=KS hR.tl hR.tn;have h3:=BM hR.hd (by omega);have h4:=BX (n:=r.log.length) (by have:=hR.ll;omega);have h5:=NO hR r.log.length;rw[List.take_length]at h5;have h6:r.at_.1.length=32:=r.at_.2;unfold DU;simp only[AcJ];omega
theorem JG{r:Ar}(h:AA r=true):BU (recB 83 (DU r))=some (r,false):=by
 have h1:=J2 h;have h2:=Mg (s:= [83]++DU r) FL (by rw[AcJ,Adh];omega);rw[Adm,MW h]at h2;exact h2
end Go.Proofs.YtbbbblinjomajaaGreatDoor
