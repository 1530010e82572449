/- Part 7 of what stands behind these statements: laws and walks of the functions that are reached. Conditions: those that each theorem names. -/
import Derived.Test.YtfpekahfdalfkaaGreatDoorE6
set_option linter.unusedVariables false
set_option linter.unusedSimpArgs false
namespace Go.Proofs.YtfpekahfdalfkaaGreatDoor
open _root_.Go renaming World->AbJ,Value->AbI
open _root_.Nat renaming not_lt_zero->Ads,zero_le->Ack,le_trans->AbM,le_refl->AbO,min_le_left->AfZ,sub_self->Ady
open _root_.List renaming getD_eq_getElem?_getD->AbN,getElem?_eq_getElem->AbT,map_append->Adc,length_map->Ab9,mem_append->Acb,mem_singleton->AbW,map_map->AeB,mem_map->Acw,mem_of_getElem?->AcV,getElem?_map->Adn,eq_nil_of_length_eq_zero->Acv,mem_cons->Acy,not_mem_nil->Adz,length_take->Ab5,length_replicate->Ab8,mem_cons_self->AcT,length_singleton->Ab7,take_length->Adt,mem_cons_of_mem->AcW,length_nil->Acl,length_filter_le->AdD,length_append->AbP,perm_ext_iff_of_nodup->Aer,pairwise_append->Ac6,takeWhile_sublist->AeU,dropWhile_sublist->AeV,mem_filter->Adr,getElem?_append_right->AcA,length_cons->Ach
open _root_.Decidable renaming byContradiction->AgF,not_not->Aes
open _root_.Go.Instr renaming buildSlice->Acq,build->AdF
open _root_.Go.Proofs.Tryz renaming prog->AbL,underlying181->Agl
open _root_.Go.Lib renaming byteCells->AbK
open _root_.Exists renaming elim->Adj
open _root_.Go.Value renaming slice->AbR,ownBlock->AbS,int->Adm,cells->Aff
open _root_.And renaming intro->Acr
open _root_.Int renaming toNat_natCast->Ab0,tmod->Ac0,emod->AdW
open _root_.Prod renaming fst->Aci
open _root_.List.Pairwise renaming nil->AdJ,of_map->Aev,map->AfE,sublist->Ahj
open Go.RowKit
set_option maxRecDepth 100000
structure AllN (n : Nat) (w : AbJ) (us : List AbI) (bs : List Bs) : Prop where
 len:us.length=bs.length
 rb:∀i,i<bs.length->RB w (us.getD i undef) (bs.getD i [])
 new:∀i,i<bs.length->NewI n w (us.getD i undef)
theorem AllN.keep{n:Nat}{w w' :AbJ}{us:List AbI}{bs:List Bs}(h:AllN n w us bs)(k:Ext w w'):AllN n w' us bs:=⟨h.len,fun i hi=>(h.rb i hi).keep k,fun i hi=>(h.new i hi).keep k⟩
theorem AllN.nil(n:Nat)(w:AbJ):AllN n w [] []:=⟨rfl,fun i hi=>absurd hi (Ads _),fun i hi=>absurd hi (Ads _)⟩
section
variable {D : Af} {L : AP} {ids : List Bs} {i : Nat}
theorem HN{α:Type}{l:List α}{i:Nat}(d:α)(h:i<l.length):l.take (i+1)=l.take i++ [l.getD i d]:=by
 rw[List.take_succ_eq_append_getElem h,AbN,AbT h];rfl
theorem Mk(h:i<ids.length):Bw D L (ids.take i)++ [(getV D L (ids.getD (i) ([]:Ah5))).1]=Bw D L (ids.take (i+1)):=by
 unfold Bw;rw[HN ([]:Ah5) h,Adc];rfl
theorem Us(h:i<ids.length):szV D L (ids.take i)++ [(((getV D L (ids.getD (i) ([]:Ah5))).1.length:Nat):Int)]=szV D L (ids.take (i+1)):=by
 unfold szV;rw[<-Mk h,Adc];rfl
theorem Dq(D:Af)(L:AP)(ids:List Bs):(Bw D L ids).length=ids.length:=Ab9 ..
theorem F1(D:Af)(L:AP)(ids:List Bs):(szV D L ids).length=ids.length:=by unfold szV;rw[Ab9,Dq]
theorem Ut(D:Af)(L:AP):¬DX D L (ids.take 0):=fun⟨id,h,_⟩=>by simp at h
theorem Wg(h:i<ids.length)(hn:¬DX D L (ids.take i))(hc:¬(getV D L (ids.getD (i) ([]:Ah5))).2≠0):¬DX D L (ids.take (i+1)):=fun⟨id,h1,h2⟩=>by
 rw[HN ([]:Ah5) h]at h1;rcases Acb.1 h1 with h1 | h1
 ·exact hn ⟨id,h1,h2⟩
 ·rw[AbW.1 h1]at h2;exact hc h2
theorem miss_yes(h:i<ids.length)(hc:(getV D L (ids.getD (i) ([]:Ah5))).2≠0):DX D L ids:=⟨_,AO _ h,hc⟩
theorem S0(hs:∀id∈ids,(getV D L id).2=0->(getV D L id).1.length<=200)(hn:¬DX D L ids):∀z∈szV D L ids,0<=z/\z<=200:=fun z hz=>by
 unfold szV Bw at hz;rw[AeB]at hz;obtain⟨id,hid,rfl⟩:=Acw.1 hz;have h0:(getV D L id).2=0:=AgF fun q=>hn ⟨id,hid,q⟩;have:=hs id hid h0;show(0:Int)<=(((getV D L id).1.length:Nat):Int)/\(((getV D L id).1.length:Nat):Int)<=200;omega
end
theorem Wh{w w' :AbJ}{v v' x:AbI}{m:Ah5}(h:RB w x m)(gr:Grew w w' v v')(ha:Ae v x):RB w' x m:=Hv h (fun k hk e=>ha k e hk) gr
theorem Xs{l:List Int}(h:∀p∈l,p=0)(i j:Nat):l.getD i 0=l.getD j 0:=by
 have k:∀i,l.getD i 0=0:=fun i=>by
  rw[AbN];cases e:l[i]? with
  | none=>rfl
  | some x=>exact h x (AcV e)
 rw[k,k]
theorem Wi{l:List Int}(h:∀b∈l,-1<=b/\b<=60)(i:Nat): -9223372036854775808<=l.getD (i) (0:Int)/\l.getD (i) (0:Int)<=9223372036854775807:=by
 rw[AbN];cases e:l[i]? with
 | none=>simp
 | some x=>have:=h x (AcV e);simp only[Option.getD_some];omega
section
variable {D : Af} {L : AP} {ids : List Bs} {ch : List Int}
theorem FY(hbl:(BI D L ids ch).bases.length=ids.length):(AM D L ids ch).length=ids.length:=by
 unfold AM;rw[Ab9,List.length_zip,Dq,hbl,Nat.min_self]
theorem Q1{qs:List Pt}{us:List AbI}{j:Nat}(hbl:(BI D L ids ch).bases.length=ids.length)(hj:j<ids.length)(hq:qs.map Et=((AM D L ids ch).take j).map Et):(qs++ [(⟨us.getD (j) undef,(Bw D L ids).getD (j) ([]:Ah5),(BI D L ids ch).bases.getD (j) (0:Int)⟩:Pt)]).map Et=((AM D L ids ch).take (j+1)).map Et:=by
 rw[HN AA (by rw[FY hbl];exact hj),Adc,Adc,hq];have h1:j<(Bw D L ids).length:=by rw[Dq];exact hj
 have h2:j<(BI D L ids ch).bases.length:=by rw[hbl];exact hj
 have e:(AM D L ids ch).getD j AA=⟨.slice none 0 0,(Bw D L ids).getD (j) ([]:Ah5),(BI D L ids ch).bases.getD (j) (0:Int)⟩:=by
  unfold AM;rw[AbN,Adn,(List.getElem?_zip_eq_some (z:=((Bw D L ids)[j],(BI D L ids ch).bases[j]))).2 ⟨AbT h1,AbT h2⟩,AbN,AbN,AbT h1,AbT h2];rfl
 rw[e];rfl
theorem IQ(hbl:(BI D L ids ch).bases.length=ids.length)(hn:ids.length<=60)(hs:∀id∈ids,(getV D L id).2=0->(getV D L id).1.length<=200)(hm:¬DX D L ids):Cl (AM D L ids ch):=by
 refine⟨by rw[FY hbl];exact hn,fun p hp=> ?_⟩;unfold AM at hp;obtain⟨x,hx,rfl⟩:=Acw.1 hp;have h1:=(List.of_mem_zip hx).1;unfold Bw at h1;obtain⟨id,hid,h2⟩:=Acw.1 h1;show x.1.length<=200;rw[<-h2];exact hs id hid (AgF fun q=>hm ⟨id,hid,q⟩)
theorem Uu(hm:¬DX D L ids)(hp:0<ids.length)(hc:(AU (AM D L ids ch)).2≠0):AL D L ids ch=([],(AU (AM D L ids ch)).2):=by
 unfold AL;rw[if_neg hm,if_neg (fun q=>by rw[q]at hp;cases hp),if_neg hc]
theorem S1{f:Nat}(hm:¬DX D L ids)(hf:f=0\/(f=ids.length/\0<ids.length/\(AU (AM D L ids ch)).2=0))(hfe:¬f<ids.length):AL D L ids ch=((if f=0 then []else [(AU (AM D L ids ch)).1]),0):=by
 unfold AL;rw[if_neg hm];rcases hf with h | ⟨h1,h2,h3⟩
 ·have:ids= []:=Acv (by omega);rw[if_pos this,if_pos h]
 ·rw[if_neg (fun q=>by rw[q]at h2;cases h2),if_pos h3,if_neg (by omega)]
end
theorem Uv{n:Nat}{w w0:AbJ}{R:List AbI}{v:AbI}{b:Bs}(h:AllIn w R [v] [b])(hN:NewI n w0 v):AllN n w ([]++ [v]) [b]:=by
 refine⟨rfl,h.rb,fun i hi k hk=> ?_⟩;have h0:i=0:=by simp at hi;omega
 subst h0;exact⟨(hN k hk).1,h.lt 0 hi k hk⟩
theorem Wj{w w2:AbJ}{v a b:AbI}{m1 m2 c f z1 z2:Nat}{g h:TypeId}{xs ys:List AbI}(hN:NewI w.heap.size w2 v)(ha:w.ownsRow m1 g z1 a c xs)(hb:w.ownsRow m2 h z2 b f ys):∀k,v.ownBlock=some k->∀u∈ [a,b],u.ownBlock≠some k:=fun k hk u hu e=>by
 have h1:=(hN k hk).1;simp only[Acy,Adz,or_false]at hu;rcases hu with rfl | rfl
 ·have:=(ha.lt k e).2;omega
 ·have:=(hb.lt k e).2;omega
theorem N9(ao:Option Addr)(n:Nat)(c:Nat)(w:AbJ):(Acq 38 1 #[(0, .slice ao n c)]).run AbL w = .ok (.slice (some ⟨w.heap.size,0,none⟩) 1 1) (w.alloc (.cells #[.slice ao n c] 27)):=by kernel_rfl
theorem va7_ig27:∃z,(Tryz.prog.info? 27).map (fun i=>(i.zero,i.size,i.bytes))=some (some z,1,24)/\z.cells.size=1:=E8 (by kernel_rfl)
theorem Wk:Plain AbL 9:=fun _ _=>by kernel_rfl
theorem Wl{v:AbI}(h:∃ao n c,v = .slice ao n c)(z:Int)(w:AbJ):(AdF 156 #[(0,v),(1, .int .i64 z)]).run AbL w = .ok (.agg ([v, .int .i64 z]:List AbI).toArray) w:=by obtain⟨_,_,_,rfl⟩:=h;kernel_rfl
theorem S2(c0 c1:AbI)(w:AbJ):(Acq 154 1 #[(0, .agg #[c0,c1])]).run AbL w = .ok (.slice (some ⟨w.heap.size,0,none⟩) 1 1) (w.alloc (.cells #[c0,c1] 156)):=by kernel_rfl
theorem S3:∀(cs:Array AbI),cs.size=2->∀w:AbJ,(Acq 154 1 #[(0, .agg cs)]).run AbL w = .ok (.slice (some ⟨w.heap.size,0,none⟩) 1 1) (w.alloc (.cells cs 156))
 | ⟨[c0,c1]⟩,_,w=>S2 c0 c1 w
theorem va7_ig156:∃z,(Tryz.prog.info? 156).map (fun i=>(i.zero,i.size,i.bytes))=some (some z,2,32)/\z.cells.size=2:=E8 (by kernel_rfl)
theorem Uw:Plain AbL 91:=fun _ _=>by kernel_rfl
set_option maxHeartbeats 1600000
theorem Ux(wb w:AbJ)(g:Nat)(H:Dk)(D:Af)(hD:DkG wb w g H D)(hG:Laid wb)(hL:DN D)(n:Nat)(gv bm:Nat)(L:AP)(ptr:Bs->Nat)(hV:VtAt n (Cg H D) w gv g bm L ptr)(hgL:GoodL L)(hLn:L.length<=100000)(vi:AbI)(ids:List Bs)(hid_:RG 32 AbK w vi ids)(hi32a:∀id∈ids,id.length=32)(bp:ids.length<=60)(hsmall:∀id∈ids,(getV D L id).2=0->(getV D L id).1.length<=200)(vc:AbI)(ch:List Int)(hch:RG 1 A1 w vc ch)(hchl:ch.length<=1099511627776):
  Calls AbL 49 #[PQ gv 0,vi,vc] w fun e w' =>∃v us,e = .returned (.tuple #[v,NI (AL D L ids ch).2])/\OG w.heap.size 27 1 E1 w' v us/\AllN w.heap.size w' us (AL D L ids ch).1/\Ext w w' :=by
 have hvb:=hV.blk;have hvm:=hV.map;have hpk:=hV.pk;have hsrt:=hV.sort;have hV0:=hV;refine gG (args:= [PQ gv 0,vi,vc]) Tryz.func49 rfl 100 rfl rfl ?_;have hE:=AaY w;refine Adj (⟨_,rfl⟩:∃v:AbI,(AbR none 0 0)=v) fun nv8 hnv8=> ?_;have hrow8:OG w.heap.size 27 1 E1 w nv8 ([]:List AbI):=hnv8▸Abg _ _ _ _ _;have cf:OB nv8 gv:=fun e_=>by rw[<-hnv8]at e_;cases e_
 have cg:OB nv8 bm:=fun e_=>by rw[<-hnv8]at e_;cases e_
 refine Adj (⟨_,rfl⟩:∃v:AbI,(AbR none 0 0)=v) fun nv9 hnv9=> ?_;have hrow9:OG w.heap.size 3 1 A1 w nv9 ([]:List Int):=hnv9▸Abg _ _ _ _ _;have ci:Ae nv9 nv8:=fun k h=>by rw[<-hnv9]at h;cases h
 have cj:Ae nv8 nv9:=fun k _ h=>by rw[<-hnv9]at h;cases h
 have ck:OB nv9 gv:=fun e_=>by rw[<-hnv9]at e_;cases e_
 have cl:OB nv9 bm:=fun e_=>by rw[<-hnv9]at e_;cases e_
 refine gS (X6 Nd (XW (hid_.keep hE) rfl) (gL (fun(ρ:Ac) (wz:AbJ)=>∃i:Nat,∃us:List AbI,∃r8:AbI,∃r9:AbI,ρ 0=(PQ gv 0:AbI)/\ρ 1=(vi:AbI)/\ρ 2=(vc:AbI)/\ρ 22=(vi:AbI)/\ρ 23=(NI ids.length:AbI)/\ρ 24=(NI i:AbI)/\ρ 8=(r8:AbI)/\ρ 9=(r9:AbI)/\wz.heap[gv]? =some (.cells ([PQ g 0, .map (some bm)]).toArray 86 (0,0))/\MapF St pN Nm wz bm (pkG L ptr)/\Ext w wz/\AllIn wz [r8,r9] us (Bw D L (ids.take i))/\OG w.heap.size 27 1 (E1) wz r8 (us)/\OG w.heap.size 3 1 (A1) wz r9 (szV D L (ids.take i))/\(i<=ids.length)/\(¬DX D L (ids.take i))/\(OB r8 gv)/\(OB r8 bm)/\(Ae r8 r9)/\(Ae r9 r8)/\(OB r9 gv)/\(OB r9 bm)/\True) (fun ρ _=>ids.length-(intOf (ρ 24)).toNat) ⟨0,[],nv8,nv9,rfl,rfl,rfl,rfl,rfl,rfl,((show _=(AbR none 0 0)from rfl).trans hnv8),((show _=(AbR none 0 0)from rfl).trans hnv9),hvb,hvm,hE,AllIn.nil _ _,Bc hrow8 (rfl),Bc hrow9 (rfl),Ack _,Ut _ _,cf,cg,cj,ci,ck,cl,trivial⟩ ?_));clear hrow8;clear hrow9;clear hvb hvm hE;rintro cm aw ⟨i,us,r8,r9,T0,T1,T2,ao,ap,ac,r,T9,hvb,hvm,hE,hAl,hr_r8,hr_r9,hil,hnm,hap_r8_gv,hap_r8_bm,hap_r8_r9,hap_r9_r8,hap_r9_gv,hap_r9_bm,-⟩;have q24:=ac;refine gS (XQ (a:=(i:Nat)) (b:=(ids.length:Nat)) ac ap (AK _ _ _ _) ?_);refine cD rfl (fun bf=> ?_) fun bf=> ?_
 ·have hlt:i<ids.length:=bf;have hi32:(ids.getD (i) ([]:Ah5)).length=32:=hi32a _ (AO _ hlt);have hsl:(szV D L (ids.take i)).length=i:=by rw[F1,Ab5];omega
  have hul:us.length=i:=by rw[hAl.len,Dq,Ab5];omega
  have a8:(AbK (ids.getD (i) ([]:Ah5))).length=32:=(Aa6 (hid_.keep hE) ([]:Ah5) (hlt));refine gS (X9 Nd RA (by decide) ([]:Ah5) (XW (hid_.keep hE) ao) ac (hlt) fun d6 bq=>(gS (Yg (Yc bq rfl) U7 rfl (by rw[a8];exact Rl) (gS (Aa3 Tn fun a9 cn co br bs d7=> ?_)))));have aa:=AaY aw;have d8:=hE.size;have d9:=As hvm.lt co;have cp:OB r8 a9:=A9 hr_r8.2 (by omega);have cq:OB r9 a9:=A9 hr_r9.2 (by omega);have q:=br;clear br;have ea:a9<cn.heap.size:=by omega
  refine gS (XT (vr (PQ a9 0) rfl) (vr (AB (ids.getD (i) ([]:Ah5))) rfl) q (by exact BC (AC (a8)) Ab8) (by exact Ad (AC (a8))) (Ag _) fun ec bt bu ed=> ?_);have hvm:=hvm.keep bs;have hvm:=Aa2 hvm bu (Am (by omega));clear q;have q:=bt;clear bt;have ee:=bl q;clear bq;have aa:=aa.trans bs;have aa:=Ab aa bu (AbM (AbO _) (by omega));have hE:=hE.trans aa;refine gS (XU rfl q U7 rfl (by exact Ad (AC (a8))) (gS (XS Up T0 rfl ((Lv wb _ g H D (hD.keep hE) hG hL n gv bm L ptr (hV0.keep hE) hgL hLn (ids.getD (i) ([]:Ah5)) hi32).mono ?_))));rintro e ef ⟨ae,rfl,af,bv,bw⟩;refine⟨_,rfl,?_⟩;have hvb:=eb aa hvb;have hr_r8:=hr_r8.keep aa;have hr_r9:=hr_r9.keep aa;have hoff8:∀k,AbS ae=some k->∀u∈ [r8,r9],u.ownBlock≠some k:=Wj bw hr_r8.2 hr_r9.2;have hap8v:Ae r8 ae:=fun k h1 h2=>hoff8 k h2 _ AcT h1;have hvn:=bw;refine gS (AaZ (vs:= [ae,NI ((getV D L (ids.getD (i) ([]:Ah5))).2)]) rfl rfl (gS (AaZ (vs:= [ae,NI ((getV D L (ids.getD (i) ([]:Ah5))).2)]) rfl rfl (gS (XQ (a:=((getV D L (ids.getD (i) ([]:Ah5))).2:Nat)) (b:=(0:Nat)) rfl rfl (AV _ _ _ _) ?_)))));refine cD rfl (fun ba=> ?_) fun ba=> ?_
  ·refine BA rfl (vr (AbR none 0 0) rfl) (vr (NI 12) rfl) ?_;have hV:AL D L ids ch=([],12):=if_pos (miss_yes hlt ba);have hE:=hE.trans bv;exact⟨_,[],by rw[hV],Abg _ _ _ _ _,by rw[hV];exact AllN.nil _ _,hE⟩
  have hve:=Abr af;have hve1:=(Aa8 af).2;have cr:(getV D L (ids.getD (i) ([]:Ah5))).2=0:=Aes.1 ba;have hgb:=hsmall _ (AO _ hlt) cr;refine gS (Yi (a:=(ae)) (enc:=E1) (vr ae rfl) rfl (fun w=>by obtain⟨_,_,_,rfl⟩:=hve;exact N9 _ _ _ w) fun cs ct bx bg=> ?_);have hZ1:=bv.trans bg;have aa:=aa.trans hZ1;have hvn:=hvn.keep bg;have af:=af.keep bg;have hAl:=Zq (hAl.keep aa) af (fun k hk=>⟨(hvn k hk).2,hoff8 k hk⟩);have hE:=hE.trans hZ1;have hr_r8:=hr_r8.keep hZ1;refine gS (X7 _ _ w.heap.size _ 24 LS va7_ig27.choose_spec.1 va7_ig27.choose_spec.2 LS (us) ([(ae)]) (Abf hr_r8 r) (XW bx (vr cs rfl)) (fun y hy u hu=>by rw[AbW.1 hu,AbW.1 hy];exact hve1) (by simp only[Ab7];omega) (by simp only[Ab7];omega) hE.size fun ag cu ax s=> ?_);have hAl_:=hAl;have s:Grew ct cu r8 ag:= .eqv r s;have hvb:=eb hZ1 hvb;have cv:OB ag gv:=Ap s hap_r8_gv (bl hvb);have hvm:=hvm.keep hZ1;have cw:OB ag bm:=Ap s hap_r8_bm hvm.lt;have hr_r9:=hr_r9.keep hZ1;have cx:Ae ag r9:=Az s hap_r8_r9 hr_r9.2;have bz:Ae r9 ag:=fun k h1 h2=>cx k h2 h1;have q:=eb hZ1 q;have hvb:=Ar hvb s hap_r8_gv;have hvm:=Aba hvm s hap_r8_bm;have hE:=Ao hE s hr_r8.2 (AbO _);have hr_r9:=AZ hr_r9 s hap_r8_r9;have q:=Ar q s cp;clear hvn;have af:=Wh af s hap8v;clear bx;clear hr_r8;have hAl:=AllIn.swap (Abw hAl_ s);clear hAl_;refine gS (XZ F7 (XV af rfl) (gS (Yi (a:=((getV D L (ids.getD (i) ([]:Ah5))).1:Ah5).length) (enc:=A1) (vr (NI (((getV D L (ids.getD (i) ([]:Ah5))).1:Ah5).length)) rfl) rfl (fun w=>P3 _ w) fun cy b0 b1 au=> ?_)));have hAl:AllIn b0 [r9,ag] (us++ [ae]) (Bw D L (ids.take i)++ [(getV D L (ids.getD (i) ([]:Ah5))).1]):=(hAl.keep au);have hAl:=hAl;have hE:=hE.trans au;have hr_r9:=hr_r9.keep au;refine gS (X7 _ _ w.heap.size _ 8 LL va5_ig3.choose_spec.1 va5_ig3.choose_spec.2 LL (szV D L (ids.take i)) ([((getV D L (ids.getD (i) ([]:Ah5))).1:Ah5).length]) (Abf hr_r9 T9) (XW b1 (vr cy rfl)) (fun y hy u hu=>by rw[AbW.1 hu];rfl) (by simp only[Ab7];omega) (by simp only[Ab7];omega) hE.size fun ay cz c0 ab=> ?_);have hAl_:=hAl;have ab:Grew b0 cz r9 ay:= .eqv T9 ab;have hvb:=eb au hvb;have c1:OB ay gv:=Ap ab hap_r9_gv (bl hvb);have hvm:=hvm.keep au;have c2:OB ay bm:=Ap ab hap_r9_bm hvm.lt;have q:=eb au q;have ax:=ax.keep au;have b2:Ae ay ag:=Az ab bz ax.2;have c3:Ae ag ay:=fun k h1 h2=>b2 k h2 h1;have hvb:=Ar hvb ab hap_r9_gv;have hvm:=Aba hvm ab hap_r9_bm;have hE:=Ao hE ab hr_r9.2 (AbO _);have q:=Ar q ab cq;clear af;have ax:=AZ ax ab bz;clear b1;clear hr_r9;have hAl:=AllIn.swap (Abw hAl_ ab);clear hAl_;refine gS (XR (xv:=NI i) (yv:=NI 1) ac rfl rfl (Ah _ _ _ (by omega)) (gK (Acr ⟨i+1,us++ [ae],ag,ay,T0,T1,T2,ao,ap,rfl,rfl,rfl,hvb,hvm,hE,(Mk (D:=D) (L:=L) hlt)▸hAl,Bc ax (rfl),Bc c0 ((Us hlt)),by omega,Wg hlt hnm ba,cv,cw,c3,b2,c1,c2,trivial⟩ ?_)));show ids.length-(intOf (NI ((i)+(1)))).toNat<ids.length-(intOf (cm 24)).toNat;rw[q24];simp only[intOf,Ab0];omega
 have hie:i=ids.length:=by have h:=bf;omega
 rw[hie,Adt]at hAl hnm hr_r9;have hul:us.length=ids.length:=by rw[hAl.len,Dq]
 have hzr:=J4 ch (S0 hsmall hnm) _ (show(szV D L ids).length<=60 by rw[F1];exact bp);have hbl:(BI D L ids ch).bases.length=ids.length:=(DD ch (szV D L ids) (szV D L ids).length).lb.trans (F1 D L ids);have hpl:(BI D L ids ch).packs.length=ids.length:=(DD ch (szV D L ids) (szV D L ids).length).lp.trans (F1 D L ids);refine gS (XS Wk T9 T2 ((N8 _ r9 vc (szV D L ids) ch (X1 hr_r9) (hch.keep hE) (by rw[F1];omega) (AbM hchl (by decide))).mono ?_));rintro e c4 ⟨t,z,rfl,c,l,az⟩;refine⟨_,rfl,?_⟩;have bh:=AaY aw;have eg:=hE.size;refine gS (AaZ (vs:= [t,z]) rfl rfl (gS (AaZ (vs:= [t,z]) rfl rfl (Adj (⟨_,rfl⟩:∃v:AbI,(AbR none 0 0)=v) fun nv16 hnv16=> ?_))));have hrow16:OG w.heap.size 27 1 E1 c4 nv16 ([]:List AbI):=hnv16▸Abg _ _ _ _ _;have c5:Ae nv16 r8:=fun k h=>by rw[<-hnv16]at h;cases h
 have c6:Ae nv16 r9:=fun k h=>by rw[<-hnv16]at h;cases h
 have c7:Ae nv16 t:=fun k h=>by rw[<-hnv16]at h;cases h
 have c8:Ae nv16 z:=fun k h=>by rw[<-hnv16]at h;cases h
 have c9:OB nv16 gv:=fun e_=>by rw[<-hnv16]at e_;cases e_
 have da:OB nv16 bm:=fun e_=>by rw[<-hnv16]at e_;cases e_
 have bh:=bh.trans az;have b3:=((hAl.keep bh)).sub (S:= [nv16]) (fun v hv=> .inr (by rw[AbW.1 hv,<-hnv16];rfl));have hvb:=eb az hvb;have hvm:=hvm.keep az;have hE:=hE.trans az;have hr_r8:=hr_r8.keep az;have hr_r9:=hr_r9.keep az;refine gL (fun(ρ:Ac) (wz:AbJ)=>∃f:Nat,∃ou:List AbI,∃r16:AbI,ρ 0=(PQ gv 0:AbI)/\ρ 1=(vi:AbI)/\ρ 2=(vc:AbI)/\ρ 8=(r8:AbI)/\ρ 9=(r9:AbI)/\ρ 14=(t:AbI)/\ρ 15=(z:AbI)/\ρ 22=(vi:AbI)/\ρ 23=(NI ids.length:AbI)/\ρ 24=(NI i:AbI)/\ρ 17=(NI f:AbI)/\ρ 16=(r16:AbI)/\wz.heap[gv]? =some (.cells ([PQ g 0, .map (some bm)]).toArray 86 (0,0))/\MapF St pN Nm wz bm (pkG L ptr)/\Ext w wz/\OG w.heap.size 27 1 (E1) wz r8 (us)/\OG w.heap.size 3 1 (A1) wz r9 (szV D L ids)/\OG aw.heap.size 3 1 A1 wz t (BI D L ids ch).packs/\OG aw.heap.size 3 1 A1 wz z (BI D L ids ch).bases/\AllIn wz [r16] us (Bw D L ids)/\AllN w.heap.size wz ou (if f=0 then []else [(AU (AM D L ids ch)).1])/\OG w.heap.size 27 1 (E1) wz r16 (ou)/\(f=0\/(f=ids.length/\0<ids.length/\(AU (AM D L ids ch)).2=0))/\(Ae r16 r8)/\(Ae r16 r9)/\(Ae r16 t)/\(Ae r16 z)/\(OB r16 gv)/\(OB r16 bm)/\True) (fun ρ _=>ids.length-(intOf (ρ 17)).toNat) ⟨0,[],nv16,T0,T1,T2,r,T9,rfl,rfl,ao,ap,ac,rfl,((show _=(AbR none 0 0)from rfl).trans hnv16),hvb,hvm,hE,hr_r8,hr_r9,c,l,b3,AllN.nil _ _,Bc hrow16 (rfl), .inl rfl,c5,c6,c7,c8,c9,da,trivial⟩ ?_;clear hrow16;clear b3;clear hvb hvm hE hr_r8 hr_r9 c l;rintro db dc ⟨f,ou,r16,T0,T1,T2,r,T9,a0,a4,ao,ap,ac,av,a1,hvb,hvm,hE,hr_r8,hr_r9,c,l,bi,hO,hr_r16,hf,hap_r16_r8,hap_r16_r9,hap_r16_v80,hap_r16_v81,hap_r16_gv,hap_r16_bm,-⟩;have q17:=av;refine gS (X6 LS (XW (X1 hr_r8) r) (gS (XQ (a:=(f:Nat)) (b:=(us.length:Nat)) av rfl (AK _ _ _ _) ?_)));refine cD rfl (fun bb=> ?_) fun bb=> ?_
 ·have hf0:f=0:=by rcases hf with h | h;exact h;(have:=bb;omega)
  have hpos:0<ids.length:=by have:=bb;omega
  have hou:ou= []:=by have h:=(hO).len;rw[if_pos hf0]at h;exact Acv h
  refine Adj (⟨_,rfl⟩:∃v:AbI,(AbR none 0 0)=v) fun nv19 hnv19=> ?_;have hrow19:OG w.heap.size 156 2 partC dc nv19 ([]:List Pt):=hnv19▸Abg _ _ _ _ _;have dd:Ae nv19 r8:=fun k h=>by rw[<-hnv19]at h;cases h
  have de:Ae nv19 r9:=fun k h=>by rw[<-hnv19]at h;cases h
  have df:Ae nv19 t:=fun k h=>by rw[<-hnv19]at h;cases h
  have dh:Ae nv19 z:=fun k h=>by rw[<-hnv19]at h;cases h
  have di:Ae nv19 r16:=fun k h=>by rw[<-hnv19]at h;cases h
  have dj:OB nv19 gv:=fun e_=>by rw[<-hnv19]at e_;cases e_
  have dk:OB nv19 bm:=fun e_=>by rw[<-hnv19]at e_;cases e_
  have b4:=(bi).sub (S:= [nv19,r16]) (fun v hv=>by rcases Acy.1 hv with h | h;(exact .inr (by rw[h,<-hnv19];rfl));exact .inl h);refine gL (fun(ρ:Ac) (wz:AbJ)=>∃j:Nat,∃qs:List Pt,∃r19:AbI,ρ 0=(PQ gv 0:AbI)/\ρ 1=(vi:AbI)/\ρ 2=(vc:AbI)/\ρ 8=(r8:AbI)/\ρ 9=(r9:AbI)/\ρ 14=(t:AbI)/\ρ 15=(z:AbI)/\ρ 16=(r16:AbI)/\ρ 17=(NI 0:AbI)/\ρ 22=(vi:AbI)/\ρ 23=(NI ids.length:AbI)/\ρ 24=(NI i:AbI)/\ρ 18=(NI j:AbI)/\ρ 19=(r19:AbI)/\wz.heap[gv]? =some (.cells ([PQ g 0, .map (some bm)]).toArray 86 (0,0))/\MapF St pN Nm wz bm (pkG L ptr)/\Ext w wz/\OG w.heap.size 27 1 (E1) wz r8 (us)/\OG w.heap.size 3 1 (A1) wz r9 (szV D L ids)/\OG aw.heap.size 3 1 A1 wz t (BI D L ids ch).packs/\OG aw.heap.size 3 1 A1 wz z (BI D L ids ch).bases/\OG w.heap.size 27 1 (E1) wz r16 (ou)/\PartsIn wz r19 qs/\AllIn wz [r19,r16] us (Bw D L ids)/\OG w.heap.size 156 2 (partC) wz r19 (qs)/\(j<=ids.length)/\(qs.map Et=((AM D L ids ch).take j).map Et)/\(Ae r19 r8)/\(Ae r19 r9)/\(Ae r19 t)/\(Ae r19 z)/\(Ae r19 r16)/\(OB r19 gv)/\(OB r19 bm)/\True) (fun ρ _=>ids.length-(intOf (ρ 18)).toNat) ⟨0,[],nv19,T0,T1,T2,r,T9,a0,a4,a1,(av.trans (congrArg (fun n:Nat=>NI n) hf0)),ao,ap,ac,(av.trans (congrArg (fun n:Nat=>NI n) hf0)),((show _=(AbR none 0 0)from rfl).trans hnv19),hvb,hvm,hE,hr_r8,hr_r9,c,l,hr_r16,PartsIn.nil _ _,b4,Bc hrow19 (rfl),Ack _,rfl,dd,de,df,dh,di,dj,dk,trivial⟩ ?_;clear hO;clear hrow19;clear b4;clear hvb hvm hE hr_r8 hr_r9 c l hr_r16;rintro b5 eh ⟨j,qs,r19,T0,T1,T2,r,T9,a0,a4,a1,av,ao,ap,ac,ah,bj,hvb,hvm,hE,hr_r8,hr_r9,c,l,hr_r16,hIn,m,hr_r19,hj,hq,hap_r19_r8,hap_r19_r9,hap_r19_v80,hap_r19_v81,hap_r19_r16,hap_r19_gv,hap_r19_bm,-⟩;have q18:=ah;by_cases hjl:j<ids.length
  ·have hje:=(m).rb j (by rw[Dq];exact hjl);have hjk:=(m).lt j (by rw[Dq];exact hjl);have hjo:=(m).off j (by rw[Dq];exact hjl);have hql:qs.length=j:=by have h:=congrArg List.length hq;simp only[Ab9,Ab5,FY hbl]at h;omega
   have hbb:=Wi hzr.2.2.2.2 j;refine CA [0,1,2,3,4,5,6,7,8,9,10,11,12,13,14] [] [] fun b6 a5=> ?_;have hIn:PartsIn b6 r19 qs:=(hIn.keep a5);have m:AllIn b6 [r19,r16] us (Bw D L ids):=(m.keep a5);have hr_r8:=hr_r8.keep a5;refine ys (X6 LS (XW (X1 hr_r8) r) zz) (ys (XQ (a:=(j:Nat)) (b:=(us.length:Nat)) ah rfl (AK _ _ _ _) zz) (kT (by omega) ?_));have c:=c.keep a5;have ei:(A1 (((BI D L ids ch).packs).getD (j) (0:Int))).length=1:=(Aa6 (X1 c) (0:Int) (by omega));refine yA (X9 LL G2 (by decide) (0:Int) (XW (X1 c) a0) ah (by omega) fun ej b7=>(ys (X4 Tk rfl (Abd (Yc b7 rfl) rfl) zz) ?_));have el:(A1 (((BI D L ids ch).packs).getD (0) (0:Int))).length=1:=(Aa6 (X1 c) (0:Int) (by omega));refine yA (X9 LL G2 (by decide) (0:Int) (XW (X1 c) a0) av (by omega) fun em b8=>(ys (X4 Tk rfl (Abd (Yc b8 rfl) rfl) zz) (ys (XQ rfl rfl (W9 _ .i64 (((BI D L ids ch).packs).getD (j) (0:Int):Int) (((BI D L ids ch).packs).getD (0) (0:Int):Int)) zz) (kT ((Xs hzr.2.2.2.1 _ _)) (ys (XY rfl rfl zz) ?_)))));clear b7;clear b8;refine cT rfl (CA [0,1,2,3,4,5,6,7,8,9,10,11,12] [10,11,12] [] fun b9 a6=> ?_);have hIn:PartsIn b9 r19 qs:=(hIn.keep a6);have m:AllIn b9 [r19,r16] us (Bw D L ids):=(m.keep a6);have hr_r8:=hr_r8.keep a6;have en:(E1 (us.getD (j) undef)).length=1:=(Aa6 (X1 hr_r8) undef (by omega));refine yA (X9 LS RV (by decide) undef (XW (X1 hr_r8) r) ah (by omega) fun eo bc=>(ys (X4 F7 rfl (Abd (Yc bc rfl) rfl) zz) ?_));have hZ2:=a5.trans a6;have l:=l.keep hZ2;have ep:(A1 (((BI D L ids ch).bases).getD (j) (0:Int))).length=1:=(Aa6 (X1 l) (0:Int) (by omega));have hje:=hje.keep hZ2;refine yA (X9 LL G2 (by decide) (0:Int) (XW (X1 l) a4) ah (by omega) fun eq bd=>(ys (X4 Tk rfl (Abd (Yc bd rfl) rfl) zz) (ys (YD (vr (us.getD (j) undef) rfl) (vr (.int .i64 (((BI D L ids ch).bases).getD (j) (0:Int):Int)) rfl) (fun w=>Wl (Abr hje) _ w) zz) (yC (Yu (a:=(⟨us.getD (j) undef,(Bw D L ids).getD (j) ([]:Ah5),(BI D L ids ch).bases.getD (j) (0:Int)⟩:Pt)) (enc:=partC) (vr (.agg (partC (⟨us.getD (j) undef,(Bw D L ids).getD (j) ([]:Ah5),(BI D L ids ch).bases.getD (j) (0:Int)⟩:Pt)).toArray) rfl) (rfl) S3 fun dl bk ca ai=> ?_)))));have hIn:PartsIn bk r19 qs:=(hIn.keep ai);have m:AllIn bk [r19,r16] us (Bw D L ids):=(m.keep ai);have bc:=Abm bc ai;have bd:=Abm bd ai;have m:=m;have hje:=hje.keep ai;have hIn:=ZN (x:=(⟨us.getD (j) undef,(Bw D L ids).getD (j) ([]:Ah5),(BI D L ids ch).bases.getD (j) (0:Int)⟩:Pt)) hIn hje hbb (fun k hk=>⟨m.lt j (by rw[Dq];exact hjl) k hk,hjo k hk _ AcT⟩);have hZ3:=hZ2.trans ai;have hE:=hE.trans hZ3;have hr_r19:=hr_r19.keep hZ3;refine yC (X7 _ _ w.heap.size _ 32 Fw va7_ig156.choose_spec.1 va7_ig156.choose_spec.2 Fw (qs) ([(⟨us.getD (j) undef,(Bw D L ids).getD (j) ([]:Ah5),(BI D L ids ch).bases.getD (j) (0:Int)⟩:Pt)]) (Abf hr_r19 bj) (XW ca (vr dl rfl)) (fun y hy=>by rw[AbW.1 hy];exact partC_one (Aa8 hje)) (by simp only[Ab7];omega) (by simp only[Ab7];omega) hE.size fun aj dm dn o=> ?_);have hIn_:=hIn;have hA5_:=m;have o:Grew bk dm r19 aj:= .eqv bj o;have hr_r8:=hr_r8.keep ai;have dp:Ae aj r8:=Az o hap_r19_r8 hr_r8.2;have hr_r9:=hr_r9.keep hZ3;have dq:Ae aj r9:=Az o hap_r19_r9 hr_r9.2;have c:=c.keep (a6.trans ai);have dr:Ae aj t:=Az o hap_r19_v80 c.2;have l:=l.keep ai;have ds:Ae aj z:=Az o hap_r19_v81 l.2;have hr_r16:=hr_r16.keep hZ3;have dt:Ae aj r16:=Az o hap_r19_r16 hr_r16.2;have hvb:=eb hZ3 hvb;have du:OB aj gv:=Ap o hap_r19_gv (bl hvb);have hvm:=hvm.keep hZ3;have dv:OB aj bm:=Ap o hap_r19_bm hvm.lt;have hvb:=Ar hvb o hap_r19_gv;have hvm:=Aba hvm o hap_r19_bm;have hE:=Ao hE o hr_r19.2 (AbO _);have hr_r8:=AZ hr_r8 o hap_r19_r8;have hr_r9:=AZ hr_r9 o hap_r19_r9;have c:=AZ c o hap_r19_v80;have l:=AZ l o hap_r19_v81;have hr_r16:=AZ hr_r16 o hap_r19_r16;clear hje;clear bc;clear bd;clear ca;clear hr_r19;have hIn:=PartsIn.grew hIn_ o;clear hIn_;have m:=Abw hA5_ o;clear hA5_;refine yC (Abb rfl (gS (XR (xv:=NI j) (yv:=NI 1) ah rfl rfl (Ah _ _ _ (by omega)) (gK (Acr ⟨j+1,qs++ [(⟨us.getD (j) undef,(Bw D L ids).getD (j) ([]:Ah5),(BI D L ids ch).bases.getD (j) (0:Int)⟩:Pt)],aj,T0,T1,T2,r,T9,a0,a4,a1,av,ao,ap,ac,rfl,rfl,hvb,hvm,hE,hr_r8,hr_r9,c,l,hr_r16,hIn,m,Bc dn (rfl),by omega,Q1 hbl hjl hq,dp,dq,dr,ds,dt,du,dv,trivial⟩ ?_)))));show ids.length-(intOf (NI ((j)+(1)))).toNat<ids.length-(intOf (b5 18)).toNat;rw[q18];simp only[intOf,Ab0];omega
  refine CA [0,1,2,3,4,5,6,7,8,9,10,11,12,13,14] [] [] fun cb ak=> ?_;have hIn:PartsIn cb r19 qs:=(hIn.keep ak);have m:AllIn cb [r19,r16] us (Bw D L ids):=(m.keep ak);have hr_r8:=hr_r8.keep ak;refine ys (X6 LS (XW (X1 hr_r8) r) zz) (ys (XQ (a:=(j:Nat)) (b:=(us.length:Nat)) ah rfl (AK _ _ _ _) zz) (kF (by omega) (ys (X2 rfl rfl zz) (cF rfl ?_))));have hje2:j=ids.length:=by omega
  have hqs:qs.map Et=(AM D L ids ch).map Et:=by rw[hje2,<-FY (ch:=ch) hbl,Adt]at hq;exact hq
  have hLp:Cl (AM D L ids ch):=IQ hbl bp hsmall hnm;have hE:=hE.trans ak;have hr_r19:=hr_r19.keep ak;refine gS (XX Uw bj ((Ly _ (hG.keep ((hD.keep hE)).ext) r19 (AM D L ids ch) qs (X1 hr_r19) (hIn).ok hqs hLp).mono ?_));rintro e cc ⟨al,rfl,bn,a7⟩;refine⟨_,rfl,?_⟩;have hvb:=eb ak hvb;have hvm:=hvm.keep ak;have hr_r16:=hr_r16.keep ak;have hvo:∀k,AbS al=some k->∀u∈ [r16],u.ownBlock≠some k:=fun k hk u hu e=>by have h1:=(bn.lt k hk).1;rw[AbW.1 hu]at e;have h2:=(hr_r16.2.lt k e).2;omega
  have hszb:=(hE).size;have hIn:PartsIn cc r19 qs:=(hIn.keep a7);have m:AllIn cc [r19,r16] us (Bw D L ids):=(m.keep a7);have hvn:=(Zd bn).low hszb;have a2:=Ya bn;refine gS (AaZ (vs:= [al,NI ((AU (AM D L ids ch)).2)]) rfl rfl (gS (AaZ (vs:= [al,NI ((AU (AM D L ids ch)).2)]) rfl rfl (gS (XQ (a:=((AU (AM D L ids ch)).2:Nat)) (b:=(0:Nat)) rfl rfl (AV _ _ _ _) ?_)))));refine cD rfl (fun bo=> ?_) fun bo=> ?_
  ·refine BA rfl (vr (AbR none 0 0) rfl) (vr (NI ((AU (AM D L ids ch)).2)) rfl) ?_;have hV:AL D L ids ch=([],(AU (AM D L ids ch)).2):=Uu hnm hpos bo;have hE:=hE.trans a7;exact⟨_,[],by rw[hV],Abg _ _ _ _ _,by rw[hV];exact AllN.nil _ _,hE⟩
  have hbz:=Aes.1 bo;have hve:=Abr a2;have hve1:=(Aa8 a2).2;refine gS (Yi (a:=(al)) (enc:=E1) (vr al rfl) rfl (fun w=>by obtain⟨_,_,_,rfl⟩:=hve;exact N9 _ _ _ w) fun dw be cd a3=> ?_);have hIn:PartsIn be r19 qs:=(hIn.keep a3);have m:AllIn be [r19,r16] us (Bw D L ids):=(m.keep a3);have dx:=(m).sub (S:= [r16]) (fun u hu=> .inl (AcW _ hu));have hvn:=hvn.keep a3;have a2:=a2.keep a3;have hO1:AllIn be [r16] [al] [(AU (AM D L ids ch)).1]:=Zq (AllIn.nil _ _) a2 (fun k hk=>⟨(hvn k hk).2,hvo k hk⟩);have dy:=hvn;have hZ4:=a7.trans a3;have hE:=hE.trans hZ4;have hr_r16:=hr_r16.keep hZ4;refine gS (X7 _ _ w.heap.size _ 24 LS va7_ig27.choose_spec.1 va7_ig27.choose_spec.2 LS (ou) ([(al)]) (Abf hr_r16 a1) (XW cd (vr dw rfl)) (fun y hy u hu=>by rw[AbW.1 hu,AbW.1 hy];exact hve1) (by rw[hou];simp only[Acl,Ab7];omega) (by rw[hou];simp only[Acl,Ab7];omega) hE.size fun aq ce dz p=> ?_);have hA6_:=dx;have hO1_:=hO1;have p:Grew be ce r16 aq:= .eqv a1 p;have hr_r8:=hr_r8.keep hZ4;have d0:Ae aq r8:=Az p hap_r16_r8 hr_r8.2;have hZ5:=(ak.trans a7).trans a3;have hr_r9:=hr_r9.keep hZ5;have d1:Ae aq r9:=Az p hap_r16_r9 hr_r9.2;have c:=c.keep hZ5;have d2:Ae aq t:=Az p hap_r16_v80 c.2;have l:=l.keep hZ5;have d3:Ae aq z:=Az p hap_r16_v81 l.2;have hvb:=eb hZ4 hvb;have d4:OB aq gv:=Ap p hap_r16_gv (bl hvb);have hvm:=hvm.keep hZ4;have d5:OB aq bm:=Ap p hap_r16_bm hvm.lt;have hr_r19:=hr_r19.keep hZ4;have hvb:=Ar hvb p hap_r16_gv;have hvm:=Aba hvm p hap_r16_bm;have hE:=Ao hE p hr_r16.2 (AbO _);have hr_r8:=AZ hr_r8 p hap_r16_r8;have hr_r9:=AZ hr_r9 p hap_r16_r9;have c:=AZ c p hap_r16_v80;have l:=AZ l p hap_r16_v81;have hr_r19:=AZ hr_r19 p (fun k h1 h2=>hap_r19_r16 k h2 h1);clear a2;clear cd;clear hr_r16;have bi:=Abw hA6_ p;clear hA6_;have hO2:=Abw hO1_ p;clear hO1_;have hO:AllN w.heap.size ce (ou++ [al]) (if j=0 then []else [(AU (AM D L ids ch)).1]):=by rw[hou,if_neg (by omega)];exact Uv hO2 dy
  refine gK (Acr ⟨j,ou++ [al],aq,T0,T1,T2,r,T9,a0,a4,ao,ap,ac,ah,rfl,hvb,hvm,hE,hr_r8,hr_r9,c,l,bi,hO,Bc dz (rfl), .inr ⟨hje2,hpos,hbz⟩,d0,d1,d2,d3,d4,d5,trivial⟩ ?_);show ids.length-(intOf (b5 18)).toNat<ids.length-(intOf (db 17)).toNat;rw[ah,q17];simp only[intOf,Ab0];omega
 refine BA rfl a1 (vr (NI 0) rfl) ?_;have hfe:¬f<ids.length:=by have:=bb;omega
 have hV:AL D L ids ch=((if f=0 then []else [(AU (AM D L ids ch)).1]),0):=S1 hnm hf hfe;exact⟨_,_,by rw[hV],hr_r16,by rw[hV];exact hO,hE⟩
def AX(D:Af)(L:AP)(o:List Bs)(ch:List Int)(i:Nat):Bs:=(AL D L o ch).1.getD i []
theorem AaI{wb w w1 w2:AbJ}{g b:Nat}{H H1:Dk}{D D1:Af}{α β:Type}{ek:α->AbI}{ev:β->AbI}{E:α->Prop}{G:α->Option β}(h:DkW wb w g H D w1 H1 D1)(hg:w1.grownBy w2 (some b))(hm:MapF ek ev E w1 b G)(ho:Cg H1 D1 b)(hw:w.heap.size<=b)(hwb:wb.heap.size<=w.heap.size):DkW wb w g H D w2 H1 D1:=by
 obtain⟨es,c,hb,-⟩:=hm;have hc:Chg (fun i=>i=b) w1 w2:=Yj hg fun i e=> .inl (Option.some.inj e).symm;exact⟨⟨hc.ext h.g.ext (fun i q=>by have q:i=b:=q;omega),h.g.st.keepB hc (fun i q e=>ho (e▸q)) (fun i _ e=>by subst e;exact .inl ⟨_,_,hb⟩),h.g.hg⟩,h.chg.set hg (.inr hw),h.foot⟩
def KSt(D:Af)(L:AP)(o:List Bs)(ch:List Int)(H:Dk)(i:Nat)(Hi:Dk)(Di:Af)(M:AP)(r:AbI):Prop:=
 (i=0/\Di=D/\Hi=H/\M= []/\r = .slice none 0 0)\/(i=(AL D L o ch).1.length/\∃p,(AL D L o ch).1= [AX D L o ch 0]/\BY (AX D L o ch 0) = .ok p/\M= [(Ax (AX D L o ch 0),p)]/\Di=(AE D (AX D L o ch 0)).1/\(AE D (AX D L o ch 0)).2.2=0)
section
variable {D Di : Af} {L M : AP} {o : List Bs} {ch : List Int} {H Hi : Dk} {i : Nat} {r : AbI}
theorem KSt.zero(h:KSt D L o ch H i Hi Di M r)(hi:i<(AL D L o ch).1.length):i=0/\Di=D/\Hi=H/\M= []/\r = .slice none 0 0:=h.resolve_right fun q=>by have:=q.1;omega
theorem IR(hm:¬DX D L o->Cl (AM D L o ch))(h0:¬(AL D L o ch).2≠0):(AL D L o ch).1= []\/∃p,(AL D L o ch).1= [AX D L o ch 0]/\BY (AX D L o ch 0) = .ok p/\(AX D L o ch 0).length<=40000:=by
 have h0:(AL D L o ch).2=0:=Aes.1 h0;have hmi:¬DX D L o:=fun q=>by
  unfold AL at h0;rw[if_pos q]at h0;cases h0
 have hL:=hm hmi;rcases QZ hL h0 with h | ⟨p,h1,h2⟩
 ·exact .inl h
 ·have e:AX D L o ch 0=(AU (AM D L o ch)).1:=by unfold AX;rw[h1];rfl
  rw[e];refine .inr ⟨p,h1,h2,?_⟩;cases hb:CW (AM D L o ch) (AM D L o ch).length with
  | error x=>
   rw[N6 hb]at h2;cases h2
  | ok s=>exact Mj hL hb
theorem Xt{p:A0}(h1:(AL D L o ch).1= []\/∃p,(AL D L o ch).1= [AX D L o ch 0]/\BY (AX D L o ch 0) = .ok p/\(AX D L o ch 0).length<=40000)(hi:i<(AL D L o ch).1.length)(h0:i=0):(AL D L o ch).1= [AX D L o ch i]/\(∃p,BY (AX D L o ch i) = .ok p)/\(AX D L o ch i).length<=40000:=by
 subst h0;rcases h1 with h | ⟨p,h1,h2,h3⟩
 ·rw[h]at hi;cases hi
 ·exact⟨h1,⟨p,h2⟩,h3⟩
theorem KSt.next(hs:i=0/\Di=D/\Hi=H/\M= []/\r = .slice none 0 0){H2:Dk}{r2:AbI}{p:A0}(h1:(AL D L o ch).1= [AX D L o ch i])(h2:BY (AX D L o ch i) = .ok p)(hc:(AE Di (AX D L o ch i)).2.2=0):KSt D L o ch H (i+1) H2 (AE Di (AX D L o ch i)).1 (M++ [(Ax (AX D L o ch i),p)]) r2:=by
 obtain⟨rfl,rfl,rfl,rfl,rfl⟩:=hs;exact .inr ⟨by rw[h1];rfl,p,h1,h2,rfl,rfl,hc⟩
theorem KSt.one(hs:i=0/\Di=D/\Hi=H/\M= []/\r = .slice none 0 0){p:A0}(h0:¬(AL D L o ch).2≠0)(h1:(AL D L o ch).1= [AX D L o ch i])(h2:BY (AX D L o ch i) = .ok p):BE D L o ch=EB L (AX D L o ch i) p (AE Di (AX D L o ch i)):=by
 obtain⟨rfl,rfl,rfl,rfl,rfl⟩:=hs;exact J5 h0 h1 h2
theorem KSt.done(h:KSt D L o ch H i Hi Di M r)(hi:¬i<(AL D L o ch).1.length)(h0:¬(AL D L o ch).2≠0):BE D L o ch=EI Di L M:=by
 rcases h with ⟨h1,h2,h3,h4,h5⟩ | ⟨h1,p,h2,h3,h4,h5,h6⟩
 ·rw[IM h0 (Acv (by omega)),h2,h4]
 ·rw[J5 h0 h2 h3];unfold EB;rw[h6,if_neg (by decide),if_neg (by decide),if_neg (fun q=>q rfl),h4,h5]
theorem KSt.sort(h:KSt D L o ch H i Hi Di M r):SortS (M.map Aci):=by
 rcases h with ⟨h1,h2,h3,h4,h5⟩ | ⟨h1,p,h2,h3,h4,h5,h6⟩
 ·rw[h4];exact AdJ
 ·rw[h4];exact List.pairwise_singleton _ _
end
theorem DBd.write{m:Nat}{D:Af}(h:DBd m D){b:Bs}(hb:b.length<=60000):DBd (m+202) (AE D b).1:=by
 have h3:∀E:Af,DBd (m+1) E->DBd (m+202) (FG E b).1:=fun E hE=>by
  have ha:=hE.appendK (Ax b) (b:=b) (k:=200) (by omega) (by omega);unfold FG;split
  ·exact ha.mono (by omega)
  ·exact(ha.sync (Ax b)).mono (by omega)
 have h2:∀x:Af × Nat,DBd (m+1) x.1->DBd (m+202) (Gl x b).1:=fun x hx=>by
  unfold Gl;split
  ·exact hx.mono (by omega)
  ·exact h3 _ hx
 unfold AE;split
 ·exact(h.sync _).mono (by omega)
 ·split
  ·exact h.mono (by omega)
  ·refine h2 _ ?_;split
   ·exact h.drop _
   ·exact h.mono (by omega)
theorem KSt.bd{D Di:Af}{L M:AP}{o:List Bs}{ch:List Int}{H Hi:Dk}{i m:Nat}{r:AbI}(h:KSt D L o ch H i Hi Di M r)(hB:DBd m D)(hp:(AL D L o ch).1= []\/∃p,(AL D L o ch).1= [AX D L o ch 0]/\BY (AX D L o ch 0) = .ok p/\(AX D L o ch 0).length<=40000):DBd (m+202) Di:=by
 rcases h with ⟨h1,h2,h3,h4,h5⟩ | ⟨h1,p,h2,h3,h4,h5,h6⟩
 ·rw[h2];exact hB.mono (by omega)
 ·rw[h5];refine hB.write ?_;rcases hp with hp | ⟨q,q1,q2,q3⟩
  ·rw[hp]at h2;cases h2
  ·omega
theorem WW{D:Af}{s:Bs}:(BD D s).2=0\/(BD D s).2=9\/(BD D s).2=10\/(BD D s).2=4:=by
 unfold BD;split
 ·rename_i e he
  unfold FE at he;split at he
  ·cases he;unfold CB;split
   ·exact .inr (.inl rfl)
   ·split
    ·exact .inl rfl
    ·exact .inr (.inr (.inl rfl))
  ·split at he
   ·cases he
   ·cases he;exact .inr (.inr (.inr rfl))
 ·unfold DV;split
  ·exact .inr (.inl rfl)
  ·exact .inl rfl
theorem OW{D:Af}{b:Bs}(h:(AE D b).2.1=true):(AE D b).2.2≠8/\(AE D b).2.2≠7:=by
 have h3:∀E:Af,(FG E b).2.1=true->(FG E b).2.2≠8/\(FG E b).2.2≠7:=fun E hE=>by
  unfold FG at hE ⊢;split at hE
  ·cases hE
  ·rename_i q
   rw[if_neg q];show(BD _ _).2≠8/\(BD _ _).2≠7;have:=WW (D:=(A2 E (Ax b) b).1) (s:=Ax b);omega
 have h2:∀x:Af × Nat,(Gl x b).2.1=true->(Gl x b).2.2≠8/\(Gl x b).2.2≠7:=fun x hx=>by
  unfold Gl at hx ⊢;split at hx
  ·cases hx
  ·rename_i q
   rw[if_neg q];exact h3 _ hx
 unfold AE at h ⊢;split at h
 ·cases h
 ·rename_i q
  rw[if_neg q];split at h
  ·cases h
  ·rename_i q2
   rw[if_neg q2];exact h2 _ h
section
variable {L : AP} {b : Bs} {p : A0} {x : Af × Bool × Nat}
theorem Ml(h8:¬x.2.2=8)(h7:¬x.2.2=7)(h:x.2.2≠0):EB L b p x=(x.1,L,[],x.2.2):=(if_neg h8).trans ((if_neg h7).trans (if_pos h))
theorem Q2(h:x.2.2=7):EB L b p x=(x.1,L,[b,(An x.1 (Ax b)).1],7):=(if_neg (by omega)).trans (if_pos h)
theorem K4(hf:x.2.1=false)(h:x.2.2=8):EB L b p x=(x.1,L,[],8):=by
 unfold EB;rw[if_pos h,hf];exact if_neg fun q=>q rfl
end
def PlZ(i n:Nat)(w:AbJ)(v:AbI)(us:List AbI)(bs:List Bs):Prop:=i=0->OG n 27 1 E1 w v us/\AllN n w us bs
theorem PlZ.done{i n:Nat}{w:AbJ}{v:AbI}{us:List AbI}{bs:List Bs}:PlZ (i+1) n w v us bs:=fun q=>absurd q (Nat.succ_ne_zero i)
section
variable {wb w w1 w2 : AbJ} {n g gv bm bm2 : Nat} {H Hi H2 : Dk} {D Di D2 : Af} {L M : AP} {ptr ptr2 : Bs -> Nat}
theorem PksAt.stepW(h:PksAt (fun k=>Cg Hi Di k/\k≠gv/\k≠bm2) w1 M ptr2)(hW:DkW wb w1 g Hi Di w2 H2 D2):PksAt (fun k=>Cg H2 D2 k/\k≠gv/\k≠bm2) w2 M ptr2:=
 h.chg hW.chg fun k hk q=>⟨q.1,fun z=>(hW.foot k z).elim q.1 fun z=>by omega,q.2⟩
theorem DkW.offB(hW:DkW wb w1 g Hi Di w2 H2 D2){k:Nat}(hk:k<w1.heap.size)(h:Cg Hi Di k):Cg H2 D2 k:=fun z=>(hW.foot k z).elim h fun z=>by omega
theorem AaJ(hV:VtAt n (Cg H D) w gv g bm L ptr)(hW:DkW wb w g H D w1 Hi Di)(hn:wb.heap.size<=n)(hmp:MapF St pN Nm w1 bm2 (pkG M ptr2))(hPk:PksAt (fun k=>Cg Hi Di k/\k≠gv/\k≠bm2) w1 M ptr2)(hs:SortS (M.map Aci))(a:Cg Hi Di bm2)(hne:bm2≠gv){cs:Array AbI}{fr:Nat × Nat}(b:w1.heap[gv]? =some (.cells cs 86 fr))(hb:w2.heap[gv]? =some (.cells ([PQ g 0, .map (some bm2)]).toArray 86 (0,0)))(hg:w1.grownBy w2 (some gv)):VtK wb w n g gv H D w2 Hi Di M:=by
 have hV1:=hV.step hW;refine⟨hW.g.setT hg b (AbM hn hV.lo) (by decide) (by decide) (by decide) (by decide) (by decide) (by decide),⟨bm2,ptr2,hb,hmp.other hg (Am hne.symm),hPk.set hg (fun k q=>q.2.1),hs,hV1.g0,a,hV.lo⟩,?_,hW.foot⟩;exact(hW.chg.monoV fun k q=> .inl q).set hg (.inl (.inr ⟨rfl,hV.lo⟩))
end
theorem Fg(D:Af)(sg:Bs):(Av D sg).length<=(Bd D).length:=AdD _ _
theorem DBd.list{m:Nat}{D:Af}(h:DBd m D):(Bd D).length<=m:=by
 unfold Bd;split
 ·exact Ack _
 ·rw[Ab9];exact h.now
theorem Pw{m:Nat}{D:Af}(h:DBd m D)(M:AP):(goneV D M).length<=m+m:=by
 have h1:=h.list;have h2:=Fg D [112,45];have h3:=Fg D [111,45];have h4:=AdD (fun s=>(M.lookup s).isNone) (Av D [112,45]);unfold goneV;rw[AbP];omega
theorem Oa:Plain AbL 44:=fun _ _=>by kernel_rfl
theorem HP:Plain AbL 90:=fun _ _=>by kernel_rfl
theorem Uy:Plain AbL 52:=fun _ _=>by kernel_rfl
theorem Px(wb w:AbJ)(g:Nat)(H:Dk)(D:Af)(hD:DkG wb w g H D)(bs:Nat)(v:AbI)(l:List Bs)(hl:OG bs 9 1 CX w v l)(m:Nat)(hB:DBd m D)(hm:m+l.length<=100000):
  Calls AbL 51 #[v, .func (.func 52) #[PQ g 0] #[]] w fun e w' =>∃H',e = .returned (NI (BN D l).2)/\DkW wb w g H D w' H' (BN D l).1/\OG bs 9 1 CX w' v l:=by
 refine gG (args:= [v, .func (.func 52) #[PQ g 0] #[]]) Tryz.func51 rfl 21 rfl rfl ?_;have hE:=AaY w;refine gS (X6 NN (XW (X1 hl) rfl) (gL (fun(ρ:Ac) (wz:AbJ)=>∃i:Nat,∃Hi:Dk,∃Di:Af,ρ 0=(v:AbI)/\ρ 1=(.func (.func 52) #[PQ g 0] #[]:AbI)/\ρ 9=(NI l.length:AbI)/\ρ 8=(v:AbI)/\ρ 10=(NI i:AbI)/\DkW wb w g H D wz Hi Di/\OG bs 9 1 CX wz v l/\(i<=l.length)/\(BN D l=BN Di (l.drop i))/\(DBd (m+i) Di)/\True) (fun ρ _=>l.length-(intOf (ρ 10)).toNat) ⟨0,H,D,rfl,rfl,rfl,rfl,rfl,YE hD hE,hl,Ack _,rfl,hB,trivial⟩ ?_));clear hl;clear hE;rintro r u ⟨i,Hi,Di,s,k,n,o,c,hW,hli,hi,hq,hBi,-⟩;have q10:=c;refine gS (XQ (a:=(i:Nat)) (b:=(l.length:Nat)) c n (AK _ _ _ _) ?_);refine cD rfl (fun f=> ?_) fun f=> ?_
 ·have hlt:i<l.length:=f;have x:(CX (l.getD (i) ([]:Ah5))).length=1:=(Aa6 (X1 hli) ([]:Ah5) (hlt));refine gS (X9 NN TJ (by decide) ([]:Ah5) (XW (X1 hli) o) c (hlt) fun y p=>(gS (X4 Pi rfl (Abd (Yc p rfl) rfl) ?_)));clear p;refine gS (Aaw (bd:= #[PQ g 0]) (caps:= #[]) (fun _ _=>by kernel_rfl) k rfl rfl (hW.g.dropW (l.getD (i) ([]:Ah5)) (hBi.lt (by omega))) fun H2 z hW2=> ?_);have hW3:=hW.trans hW2;have q:=AaW hW.g hW2.chg hli (by decide) (by decide) (by decide) (by decide);refine gS (XQ (a:=((By Di (l.getD (i) ([]:Ah5))).2:Nat)) (b:=(0:Nat)) rfl rfl (AV _ _ _ _) ?_);refine cD rfl (fun j=> ?_) fun j=> ?_
  ·refine Bp rfl (vr (NI ((By Di (l.getD (i) ([]:Ah5))).2)) rfl) ?_;have hV:BN D l=By Di (l.getD (i) ([]:Ah5)):=by rw[hq,Mc hlt,FW,if_pos j]
   exact⟨H2,by rw[hV],by rw[hV];exact hW3,q⟩
  have hq3:BN D l=BN (By Di (l.getD (i) ([]:Ah5))).1 (l.drop (i+1)):=by rw[hq,Mc hlt,FW,if_neg j]
  have t:=hBi.drop (l.getD (i) ([]:Ah5));refine gS (XR (xv:=NI i) (yv:=NI 1) c rfl rfl (Ah _ _ _ (by omega)) (gK (Acr ⟨i+1,H2,(By Di (l.getD (i) ([]:Ah5))).1,s,k,n,o,rfl,hW3,q,by omega,hq3,t,trivial⟩ ?_)));show l.length-(intOf (NI ((i)+(1)))).toNat<l.length-(intOf (r 10)).toNat;rw[q10];simp only[intOf,Ab0];omega
 refine Bp rfl (vr (NI 0) rfl) ?_;have hie:i=l.length:=by have h:=f;omega
 have hV:BN D l=(Di,0):=by rw[hq,hie,List.drop_length];rfl
 exact⟨Hi,by rw[hV],by rw[hV];exact hW,hli⟩
theorem S4(wb w:AbJ)(g:Nat)(H:Dk)(D:Af)(hD:DkG wb w g H D)(hG:Laid wb)(gv bm:Nat)(hvb:w.heap[gv]? =some (.cells ([PQ g 0, .map (some bm)]).toArray 86 (0,0)))(vb:AbI)(b:Ah5)(hr:RB w vb b)(hoff:b= []\/∀i,vb.ownBlock=some i->¬B3 H D.files.length i)(hbl:b.length<=60000)(m:Nat)(hB:DBd m D)(hm:m<=99000):
  Calls AbL 50 #[PQ gv 0,vb] w fun e w' =>∃H',e = .returned (.tuple #[.bool (AE D b).2.1,NI (AE D b).2.2])/\DkW wb w g H D w' H' (AE D b).1:=by
 refine gG (args:= [PQ gv 0,vb]) Tryz.func50 rfl 75 rfl rfl ?_;have hE:=AaY w;have hwb:=hD.ext.size;have hW:DkW wb w g H D w H D:=YE hD hE;have hrl:=HI (hB.lt (by omega)) (Ax b);refine gS (XX Oa rfl ((Eg _ (hG.keep (hW).g.ext) vb b (hr.keep hE) (by omega)).mono ?_));rintro e t ⟨rfl,p⟩;refine⟨_,rfl,?_⟩;have hW:DkW wb w g H (D) t H (D):=(hW.keep p);have hvb:=eb p hvb;refine gS (Aa1 rfl (gS (Aa0 KX rfl (gS (XP TI rfl rfl (cellAt hvb rfl) (gS (XS Uf rfl rfl (((hW).g.read (Ax b) (hB.lt (by omega))).mono ?_))))))));rintro e u ⟨r,rfl,v,n⟩;refine⟨_,rfl,?_⟩;have hW:DkW wb w g H (D) u H (D):=(hW.keep n);have o:=Ya v;refine gS (AaZ (vs:= [r,NI ((An D (Ax b)).2)]) rfl rfl (gS (AaZ (vs:= [r,NI ((An D (Ax b)).2)]) rfl rfl ?_)));by_cases h0:(An D (Ax b)).2=0
 ·have hE:=hE.trans (p.trans n);refine gS (XQ (a:=((An D (Ax b)).2:Nat)) (b:=(0:Nat)) rfl rfl (AI _ _ _ _) (kT (h0) (gS (Yo F7 u5 Pi (XV o rfl) (gS (Yo F7 u5 Pi (XV (hr.keep hE) rfl) (gS (YK (l:=(An D (Ax b)).1) (m:=b) (.inl rfl) rfl rfl (decide ((An D (Ax b)).1=b)) rfl (gS (XY rfl rfl ?_))))))))));refine cD rfl (fun h=> ?_) fun h=> ?_
  ·have hvb:=eb n hvb;refine gS (Aa1 rfl (gS (Aa0 KX rfl (gS (XP TI rfl rfl (cellAt hvb rfl) ?_)))));have hWc:=hW;refine gS (XS HP rfl rfl ((hWc.g.syncW (Ax b) ((hB).lt (by omega))).mono ?_));rintro e x ⟨H14,rfl,hW15⟩;refine⟨_,rfl,?_⟩;have hWn:=hWc.trans hW15;have hvb:x.heap[gv]? =some (.cells ([PQ g 0, .map (some bm)]).toArray 86 (0,0)):=Abe hWc.g hW15.chg hvb (by decide) (by decide) (by decide) (by decide);clear hE;clear hW;clear o;have hW:=hWn;refine BA rfl (vr (.bool (false)) rfl) (vr (NI ((BD D (Ax b)).2)) rfl) ?_;have hV:=QV h0 h;exact⟨H14,by rw[hV],by rw[hV];exact hW⟩
  refine gS (XQ (a:=((An D (Ax b)).2:Nat)) (b:=(0:Nat)) rfl rfl (AI _ _ _ _) (kT (h0) (gS (XX Oa rfl ((Eg _ (hG.keep (hW).g.ext) r (An D (Ax b)).1 o (by omega)).mono ?_)))));rintro e y ⟨rfl,s⟩;refine⟨_,rfl,?_⟩;have hW:DkW wb w g H (D) y H (D):=(hW.keep s);refine gS (YK (l:=Ax (An D (Ax b)).1) (m:=(Ax b)) (.inl rfl) rfl rfl (decide ((Ax (An D (Ax b)).1:Ah5)=((Ax b):Ah5))) rfl (gS (XY rfl rfl ?_)));refine cD rfl (fun j=> ?_) fun j=> ?_
  ·refine BA rfl (vr (.bool (false)) rfl) (vr (NI 7) rfl) ?_;have hV:=QW h h0 j;exact⟨H,by rw[hV],by rw[hV];exact hW⟩
  have hvb:=eb (n.trans s) hvb;refine gS (XQ (a:=((An D (Ax b)).2:Nat)) (b:=(0:Nat)) rfl rfl (AI _ _ _ _) (kT (h0) (cT rfl (gS (Aa1 rfl (gS (Aa0 KX rfl (gS (XP TI rfl rfl (cellAt hvb rfl) ?_)))))))));have hWc:=hW;refine gS (XS Uy rfl rfl ((hWc.g.dropW (Ax b) ((hB).lt (by omega))).mono ?_));rintro e z ⟨H24,rfl,hW25⟩;refine⟨_,rfl,?_⟩;have hWn:=hWc.trans hW25;have hvb:z.heap[gv]? =some (.cells ([PQ g 0, .map (some bm)]).toArray 86 (0,0)):=Abe hWc.g hW25.chg hvb (by decide) (by decide) (by decide) (by decide);clear hE;clear hW;clear o;have hW:=hWn;by_cases hd0:(By D (Ax b)).2=0
  ·refine gS (XQ (a:=((By D (Ax b)).2:Nat)) (b:=(0:Nat)) rfl rfl (AV _ _ _ _) (kF ((fun q=>q hd0)) (gS (X2 rfl rfl (cF rfl (gS (Aa1 rfl (gS (Aa0 KX rfl (gS (XP TI rfl rfl (cellAt hvb rfl) ?_)))))))))));have hWc:=hW;refine gS (Yf Uc rfl rfl rfl ((hWc.g.appendW (Ax b) vb b (hr.chg hWc.chg hoff) (hWc.off hr hoff) (by omega) (((hB).drop (Ax b)).lt (by omega))).mono ?_));rintro e aa ⟨H31,rfl,hW32⟩;refine⟨_,rfl,?_⟩;have hWn:=hWc.trans hW32;have hvb:aa.heap[gv]? =some (.cells ([PQ g 0, .map (some bm)]).toArray 86 (0,0)):=Abe hWc.g hW32.chg hvb (by decide) (by decide) (by decide) (by decide);clear hW;have hW:=hWn;refine gS (XQ (a:=((A2 ((By D (Ax b)).1) (Ax b) b).2:Nat)) (b:=(0:Nat)) rfl rfl (AV _ _ _ _) ?_);refine cD rfl (fun c=> ?_) fun c=> ?_
   ·refine BA rfl (vr (.bool (false)) rfl) (vr (NI ((A2 ((By D (Ax b)).1) (Ax b) b).2)) rfl) ?_;have hV:=((E4 h h0 j).trans (if_neg (fun q=>q.1 hd0))).trans (if_pos c);exact⟨H31,by rw[hV],by rw[hV];exact hW⟩
   refine gS (Aa1 rfl (gS (Aa0 KX rfl (gS (XP TI rfl rfl (cellAt hvb rfl) ?_)))));have hWc:=hW;refine gS (XS HP rfl rfl ((hWc.g.syncW (Ax b) ((((hB).drop (Ax b)).appendK (Ax b) (k:=200) (by omega) (by omega)).lt (by omega))).mono ?_));rintro e ab ⟨H37,rfl,hW38⟩;refine⟨_,rfl,?_⟩;have hWn:=hWc.trans hW38;have hvb:ab.heap[gv]? =some (.cells ([PQ g 0, .map (some bm)]).toArray 86 (0,0)):=Abe hWc.g hW38.chg hvb (by decide) (by decide) (by decide) (by decide);clear hW;have hW:=hWn;refine BA rfl (vr (.bool (true)) rfl) (vr (NI ((BD ((A2 ((By D (Ax b)).1) (Ax b) b).1) (Ax b)).2)) rfl) ?_;have hV:=((E4 h h0 j).trans (if_neg (fun q=>q.1 hd0))).trans (if_neg c);exact⟨H37,by rw[hV],by rw[hV];exact hW⟩
  refine gS (XQ (a:=((By D (Ax b)).2:Nat)) (b:=(0:Nat)) rfl rfl (AV _ _ _ _) (kT (hd0) (gS (XQ (a:=((By D (Ax b)).2:Nat)) (b:=(4:Nat)) rfl rfl (AV _ _ _ _) (gS (XY rfl rfl ?_))))));refine cD rfl (fun f=> ?_) fun f=> ?_
  ·refine BA rfl (vr (.bool (false)) rfl) (vr (NI ((By D (Ax b)).2)) rfl) ?_;have hV:=(E4 h h0 j).trans (if_pos ⟨hd0,f⟩);exact⟨H24,by rw[hV],by rw[hV];exact hW⟩
  refine gS (Aa1 rfl (gS (Aa0 KX rfl (gS (XP TI rfl rfl (cellAt hvb rfl) ?_)))));have hWc:=hW;refine gS (Yf Uc rfl rfl rfl ((hWc.g.appendW (Ax b) vb b (hr.chg hWc.chg hoff) (hWc.off hr hoff) (by omega) (((hB).drop (Ax b)).lt (by omega))).mono ?_));rintro e ac ⟨H45,rfl,hW46⟩;refine⟨_,rfl,?_⟩;have hWn:=hWc.trans hW46;have hvb:ac.heap[gv]? =some (.cells ([PQ g 0, .map (some bm)]).toArray 86 (0,0)):=Abe hWc.g hW46.chg hvb (by decide) (by decide) (by decide) (by decide);clear hW;have hW:=hWn;refine gS (XQ (a:=((A2 ((By D (Ax b)).1) (Ax b) b).2:Nat)) (b:=(0:Nat)) rfl rfl (AV _ _ _ _) ?_);refine cD rfl (fun c=> ?_) fun c=> ?_
  ·refine BA rfl (vr (.bool (false)) rfl) (vr (NI ((A2 ((By D (Ax b)).1) (Ax b) b).2)) rfl) ?_;have hV:=((E4 h h0 j).trans (if_neg (fun q=>f q.2))).trans (if_pos c);exact⟨H45,by rw[hV],by rw[hV];exact hW⟩
  refine gS (Aa1 rfl (gS (Aa0 KX rfl (gS (XP TI rfl rfl (cellAt hvb rfl) ?_)))));have hWc:=hW;refine gS (XS HP rfl rfl ((hWc.g.syncW (Ax b) ((((hB).drop (Ax b)).appendK (Ax b) (k:=200) (by omega) (by omega)).lt (by omega))).mono ?_));rintro e ad ⟨H51,rfl,hW52⟩;refine⟨_,rfl,?_⟩;have hWn:=hWc.trans hW52;have hvb:ad.heap[gv]? =some (.cells ([PQ g 0, .map (some bm)]).toArray 86 (0,0)):=Abe hWc.g hW52.chg hvb (by decide) (by decide) (by decide) (by decide);clear hW;have hW:=hWn;refine BA rfl (vr (.bool (true)) rfl) (vr (NI ((BD ((A2 ((By D (Ax b)).1) (Ax b) b).1) (Ax b)).2)) rfl) ?_;have hV:=((E4 h h0 j).trans (if_neg (fun q=>f q.2))).trans (if_neg c);exact⟨H51,by rw[hV],by rw[hV];exact hW⟩
 refine gS (XQ (a:=((An D (Ax b)).2:Nat)) (b:=(0:Nat)) rfl rfl (AI _ _ _ _) (kF (h0) (gS (X2 rfl rfl (cF rfl (gS (XQ (a:=((An D (Ax b)).2:Nat)) (b:=(0:Nat)) rfl rfl (AI _ _ _ _) (kF (h0) (gS (X2 rfl rfl (cF rfl (gS (XQ (a:=((An D (Ax b)).2:Nat)) (b:=(0:Nat)) rfl rfl (AI _ _ _ _) (kF (h0) (cF rfl (gS (XQ (a:=((An D (Ax b)).2:Nat)) (b:=(0:Nat)) rfl rfl (AV _ _ _ _) (kT (h0) (gS (XQ (a:=((An D (Ax b)).2:Nat)) (b:=(4:Nat)) rfl rfl (AV _ _ _ _) (gS (XY rfl rfl ?_))))))))))))))))))))));refine cD rfl (fun f=> ?_) fun f=> ?_
 ·refine BA rfl (vr (.bool (false)) rfl) (vr (NI ((An D (Ax b)).2)) rfl) ?_;have hV:=(FX h0).trans (if_pos ⟨h0,f⟩);exact⟨H,by rw[hV],by rw[hV];exact hW⟩
 have hvb:=eb n hvb;refine gS (Aa1 rfl (gS (Aa0 KX rfl (gS (XP TI rfl rfl (cellAt hvb rfl) ?_)))));have hWc:=hW;refine gS (Yf Uc rfl rfl rfl ((hWc.g.appendW (Ax b) vb b (hr.chg hWc.chg hoff) (hWc.off hr hoff) (by omega) ((hB).lt (by omega))).mono ?_));rintro e ae ⟨H65,rfl,hW66⟩;refine⟨_,rfl,?_⟩;have hWn:=hWc.trans hW66;have hvb:ae.heap[gv]? =some (.cells ([PQ g 0, .map (some bm)]).toArray 86 (0,0)):=Abe hWc.g hW66.chg hvb (by decide) (by decide) (by decide) (by decide);clear hE;clear hW;clear o;have hW:=hWn;refine gS (XQ (a:=((A2 D (Ax b) b).2:Nat)) (b:=(0:Nat)) rfl rfl (AV _ _ _ _) ?_);refine cD rfl (fun c=> ?_) fun c=> ?_
 ·refine BA rfl (vr (.bool (false)) rfl) (vr (NI ((A2 D (Ax b) b).2)) rfl) ?_;have hV:=((FX h0).trans (if_neg (fun q=>f q.2))).trans (if_pos c);exact⟨H65,by rw[hV],by rw[hV];exact hW⟩
 refine gS (Aa1 rfl (gS (Aa0 KX rfl (gS (XP TI rfl rfl (cellAt hvb rfl) ?_)))));have hWc:=hW;refine gS (XS HP rfl rfl ((hWc.g.syncW (Ax b) (((hB).appendK (Ax b) (k:=200) (by omega) (by omega)).lt (by omega))).mono ?_));rintro e af ⟨H71,rfl,hW72⟩;refine⟨_,rfl,?_⟩;have hWn:=hWc.trans hW72;have hvb:af.heap[gv]? =some (.cells ([PQ g 0, .map (some bm)]).toArray 86 (0,0)):=Abe hWc.g hW72.chg hvb (by decide) (by decide) (by decide) (by decide);clear hW;have hW:=hWn;refine BA rfl (vr (.bool (true)) rfl) (vr (NI ((BD ((A2 D (Ax b) b).1) (Ax b)).2)) rfl) ?_;have hV:=((FX h0).trans (if_neg (fun q=>f q.2))).trans (if_neg c);exact⟨H71,by rw[hV],by rw[hV];exact hW⟩
theorem Ob:Plain AbL 40:=fun _ _=>by kernel_rfl
theorem MG(z0:Nat)(z1:Nat)(w:AbJ):(AdF 86 #[(0,PQ z0 0),(1, .map (some z1))]).run AbL w = .ok (.agg ([PQ z0 0, .map (some z1)]:List AbI).toArray) w:=by kernel_rfl
theorem Uz:Plain AbL 41:=fun _ _=>by kernel_rfl
theorem UA:Plain AbL 43:=fun _ _=>by kernel_rfl
theorem UB(wb w:AbJ)(g:Nat)(H:Dk)(D:Af)(hD:DkG wb w g H D)(hG:Laid wb)(hL:DN D)(hnm:(Bd D).length<=100000):
  Calls AbL 13 #[PQ g 0] w fun e w' =>(D.down=true/\e = .returned (.tuple #[.pointer none,NI 9])/\Ext w w')\/(D.down=false/\∃gv bm ptr,e = .returned (.tuple #[PQ gv 0,NI 0])/\VtAt w.heap.size (Cg H D) w' gv g bm (GF D) ptr/\Ext w w'):=by
 refine gG (args:= [PQ g 0]) Tryz.func13 rfl 53 rfl rfl ?_;have hE:=AaY w;have hDk:=hD;rcases hdn:D.down with _ | _
 ·refine gS (Ye TI rfl (cF rfl (gS (XX Ob rfl (((show Calls _ _ _ _ (fun e w2=>e = .returned (.bool false)/\Ext _ w2)from by have h:=(hD.keep hE).down;rw[hdn]at h;exact h)).mono ?_)))));rintro e w7 ⟨rfl,a1⟩;refine⟨_,rfl,?_⟩;refine cF rfl (gS (YJ St pN Nm fun o a2 ba t ar bb=> ?_));have f:=AaY w7;have hE:=hE.trans a1;have a3:=hE.size;have bc:o<a2.heap.size:=by omega
  refine gS (YD (vr (PQ g 0) rfl) (vr (.map (some o)) rfl) (fun w=>MG (g) (o) w) (gS (Abh (cs:=([PQ g 0, .map (some o)]:List AbI).toArray) (show _=(.agg ([PQ g 0, .map (some o)]).toArray:AbI)from rfl) fun r a4 a5 au ah bd=> ?_)));have hE:=hE.trans ar;have f:=f.trans ar;have be:=hE.size;have bf:=f.size;have bg:=As t.lt a5;have j:=au;clear au;have bh:r<a4.heap.size:=by omega
  have hbo_:Cg H D o:=hDk.offN (by omega);have hgo_:Cg H D r:=hDk.offN (by omega);have hlg_:w.heap.size<=r:=by omega
  have hE:=hE.trans ah;have f:=f.trans ah;have bi:=hE.size;have bj:=f.size;refine gS (XS Uz rfl rfl ((J0 wb _ g H D (hD.keep hE) hL [112,45] hnm).mono ?_));rintro e bk ⟨ai,rfl,av,ac⟩;refine⟨_,rfl,?_⟩;have t:=t.keep ah;have a6:OB ai o:=EN av.2 t.lt;have p:=X1 av;have hE:=hE.trans ac;have f:=f.trans ac;have t:=t.keep ac;have j:=eb ac j;refine gS (X6 NN (XW p rfl) (gL (fun(ρ:Ac) (wz:AbJ)=>∃i:Nat,∃L:AP,∃ptr:Bs->Nat,ρ 0=(PQ g 0:AbI)/\ρ 2=(.pointer none:AbI)/\ρ 3=(NI 0:AbI)/\ρ 4=(PQ r 0:AbI)/\ρ 12=(.bool (false):AbI)/\ρ 14=(.bool (false):AbI)/\ρ 20=(ai:AbI)/\ρ 21=(NI (((Av D [112,45])).length):AbI)/\ρ 22=(NI i:AbI)/\Ext w wz/\Ext w7 wz/\wz.heap[r]? =some (.cells ([PQ g 0, .map (some o)]).toArray 86 (0,0))/\RG 1 (CX) wz ai (Av D [112,45])/\PksAt (fun k=>Cg H D k/\k≠r/\k≠o) wz L ptr/\MapF St pN Nm wz o (pkG L ptr)/\(i<=(Av D [112,45]).length)/\(L=((Av D [112,45]).take i).filterMap (Es D))/\True) (fun ρ _=>(Av D [112,45]).length-(intOf (ρ 22)).toNat) ⟨0,[],(fun _=>0),rfl,rfl,rfl,rfl,rfl,rfl,rfl,rfl,rfl,hE,f,j,p,PksAt.nil _ _ _,B5 t (rfl),Ack _,rfl,trivial⟩ ?_));clear t;clear hE j p;rintro aj bn ⟨i,L,ptr,T0,T2,T3,z,am,an,ae,af,v,hE,f,j,p,hpk,hb12l,hil,hLe,-⟩;have q22:=v;refine gS (XQ (a:=(i:Nat)) (b:=(((Av D [112,45])).length:Nat)) v af (AK _ _ _ _) ?_);refine cD rfl (fun ao=> ?_) fun ao=> ?_
  ·have hnc:(Av D [112,45]).length<=(Bd D).length:=AdD _ _;have hlt:i<(Av D [112,45]).length:=ao;have hel:=Mb hDk.st.ok hlt;have hrl:=HI hL ((Av D [112,45]).getD (i) ([]:Ah5));have hni:((Av D [112,45]).getD (i) ([]:Ah5))∉L.map Aci:=V7 hDk.st.ok hlt hLe;have bo:(CX (((Av D [112,45])).getD (i) ([]:Ah5))).length=1:=(Aa6 p ([]:Ah5) (hlt));refine gS (X9 NN TJ (by decide) ([]:Ah5) (XW p ae) v (hlt) fun bp aw=>(gS (X4 Pi rfl (Abd (Yc aw rfl) rfl) ?_)));clear aw;refine gS (XS Uf T0 rfl (((hD.keep hE).read ((Av D [112,45]).getD (i) ([]:Ah5)) hL).mono ?_));rintro e bq ⟨aa,rfl,a7,x⟩;refine⟨_,rfl,?_⟩;have u:=Ya a7;refine gS (AaZ (vs:= [aa,NI ((An D ((Av D [112,45]).getD (i) ([]:Ah5))).2)]) rfl rfl (gS (AaZ (vs:= [aa,NI ((An D ((Av D [112,45]).getD (i) ([]:Ah5))).2)]) rfl rfl ?_)));have hE:=hE.trans x;have hsz_:=hE.size;have hDo:=(hD.keep hE);have j:=eb x j;have hlb1_:=bl j;have hb12l:=hb12l.keep x;have hlb2_:=(hb12l).lt;refine gS (XX UA rfl ((NG _ (hG.keep ((hD.keep hE)).ext) aa (An D ((Av D [112,45]).getD (i) ([]:Ah5))).1 u).mono ?_));rintro e a8 ⟨_,rfl,pp,cc,rfl,hON,s⟩;refine⟨_,rfl,?_⟩;refine gS (AaZ (vs:= [pp,NI cc]) rfl rfl (gS (AaZ (vs:= [pp,NI cc]) rfl rfl ?_)));rcases hop:BY (An D ((Av D [112,45]).getD (i) ([]:Ah5))).1 with er | pk
   rotate_left
   ·have ax:=(AbH hON hop).1;refine Adj (Zh hON hop) fun gp hpp=> ?_;have hPP:PackP (fun k=>Cg H D k/\k≠r/\k≠o) a8 (pN gp) pk:=Zg (hpp▸(AbH hON hop).2) (fun k h1 h2=>⟨hDo.offN h1,by omega,by omega⟩);by_cases hnp:((Av D [112,45]).getD (i) ([]:Ah5))=Ax (An D ((Av D [112,45]).getD (i) ([]:Ah5))).1
    ·have hvp:Hd D ((Av D [112,45]).getD (i) ([]:Ah5))=some pk:=by unfold Hd;rw[hop];exact if_pos hnp.symm
     have hE:=hE.trans s;have u:=u.keep s;refine gS (XQ (a:=(0:Nat)) (b:=(0:Nat)) (vr (NI 0) (congrArg (fun n:Nat=>NI n) ax)) rfl (AI _ _ _ _) (kT (rfl) (gS (XX Oa rfl ((Eg _ (hG.keep ((hD.keep hE)).ext) aa (An D ((Av D [112,45]).getD (i) ([]:Ah5))).1 u (by omega)).mono ?_)))));rintro e ay ⟨rfl,ag⟩;refine⟨_,rfl,?_⟩;have hZ1:=s.trans ag;have j:=eb hZ1 j;refine gS (YK (l:=Ax (An D ((Av D [112,45]).getD (i) ([]:Ah5))).1) (m:=((Av D [112,45])).getD (i) ([]:Ah5)) (.inl rfl) rfl rfl (decide ((Ax (An D ((Av D [112,45]).getD (i) ([]:Ah5))).1:Ah5)=(((Av D [112,45])).getD (i) ([]:Ah5):Ah5))) rfl (kT (hnp.symm) (gS (XY rfl rfl (cT rfl (gS (Aa1 z (gS (Aa0 KW rfl (gS (XP J1 rfl rfl (cellAt j rfl) ?_)))))))))));have hZ2:=(x.trans s).trans ag;have hpk:=hpk.keep hZ2;have hpk:PksAt (fun k=>Cg H D k/\k≠r/\k≠o) ay L ptr:=hpk;have hPP:=hPP.keep ag;have hPP:PackP (fun k=>Cg H D k/\k≠r/\k≠o) ay (pN gp) pk:=hPP;have hb12l:=hb12l.keep hZ1;refine gS (YG (ek:=St) (ev:=pN) (D:=Nm) (c:=gp) Fb Er J1 (vr (.map (some o)) rfl) (vr (St (((Av D [112,45])).getD (i) ([]:Ah5))) rfl) (vr (PQ gp 0) hpp) hb12l (by exact hel) fun ap az y br=> ?_);have p:=p.keep hZ2;have p:=RG.kept p y (.inr a6);have hpk:PksAt (fun k=>Cg H D k/\k≠r/\k≠o) ap L ptr:=PksAt.set hpk y (fun k q=>q.2.2);clear u;have hPP:PackP (fun k=>Cg H D k/\k≠r/\k≠o) ap (pN gp) pk:=PackP.set hPP y (fun k q=>q.2.2);clear hb12l;have bs:o<ap.heap.size:=az.lt;have hpk:=Zp hpk hni hPP;have f:=f.trans hZ2;have f:=Ab f y (AbM (AbO _) (by omega));have hE:=hE.trans ag;have hE:=Ab hE y (AbM a3 (by omega));have j:=kb y j (by omega);refine gS (XR (xv:=NI i) (yv:=NI 1) v rfl rfl (Ah _ _ _ (by omega)) (gK (Acr ⟨i+1,L++ [(((Av D [112,45]).getD (i) ([]:Ah5)),pk)],updP ptr ((Av D [112,45]).getD (i) ([]:Ah5)) gp,T0,T2,T3,z,am,an,ae,af,rfl,hE,f,j,p,hpk,B5 az ((JZ hni)),by omega,(V6 hlt hLe hvp),trivial⟩ ?_)));show(Av D [112,45]).length-(intOf (NI ((i)+(1)))).toNat<(Av D [112,45]).length-(intOf (aj 22)).toNat;rw[q22];simp only[intOf,Ab0];omega
    have hvp:Hd D ((Av D [112,45]).getD (i) ([]:Ah5))=none:=by unfold Hd;rw[hop];exact if_neg (fun q=>hnp q.symm)
    have hE:=hE.trans s;have u:=u.keep s;refine gS (XQ (a:=(0:Nat)) (b:=(0:Nat)) (vr (NI 0) (congrArg (fun n:Nat=>NI n) ax)) rfl (AI _ _ _ _) (kT (rfl) (gS (XX Oa rfl ((Eg _ (hG.keep ((hD.keep hE)).ext) aa (An D ((Av D [112,45]).getD (i) ([]:Ah5))).1 u (by omega)).mono ?_)))));rintro e a0 ⟨rfl,ab⟩;refine⟨_,rfl,?_⟩;have hZ3:=x.trans s;have hpk:=hpk.keep hZ3;have hpk:PksAt (fun k=>Cg H D k/\k≠r/\k≠o) a0 L ptr:=(hpk.keep ab);have hPP:PackP (fun k=>Cg H D k/\k≠r/\k≠o) a0 (pN gp) pk:=(hPP.keep ab);have hZ4:=hZ3.trans ab;have f:=f.trans hZ4;have p:=p.keep hZ4;have hZ5:=s.trans ab;have j:=eb hZ5 j;have hb12l:=hb12l.keep hZ5;have hE:=hE.trans ab;refine gS (YK (l:=Ax (An D ((Av D [112,45]).getD (i) ([]:Ah5))).1) (m:=((Av D [112,45])).getD (i) ([]:Ah5)) (.inl rfl) rfl rfl (decide ((Ax (An D ((Av D [112,45]).getD (i) ([]:Ah5))).1:Ah5)=(((Av D [112,45])).getD (i) ([]:Ah5):Ah5))) rfl (kF ((fun q=>hnp q.symm)) (gS (XY rfl rfl (cF rfl (gS (XR (xv:=NI i) (yv:=NI 1) v rfl rfl (Ah _ _ _ (by omega)) (gK (Acr ⟨i+1,L,ptr,T0,T2,T3,z,am,an,ae,af,rfl,hE,f,j,p,hpk,B5 hb12l (rfl),by omega,(SR hlt hLe hvp),trivial⟩ ?_)))))))));show(Av D [112,45]).length-(intOf (NI ((i)+(1)))).toNat<(Av D [112,45]).length-(intOf (aj 22)).toNat;rw[q22];simp only[intOf,Ab0];omega
   have hce:=OpenNew.bad hON hop;have hvp:Hd D ((Av D [112,45]).getD (i) ([]:Ah5))=none:=by unfold Hd;rw[hop]
   have hZ6:=x.trans s;have f:=f.trans hZ6;have p:=p.keep hZ6;have hpk:=hpk.keep hZ6;have hE:=hE.trans s;have j:=eb s j;have hb12l:=hb12l.keep s;refine gS (XQ (a:=(cc:Nat)) (b:=(0:Nat)) rfl rfl (AI _ _ _ _) (kF (hce) (gS (X2 rfl rfl (cF rfl (gS (XR (xv:=NI i) (yv:=NI 1) v rfl rfl (Ah _ _ _ (by omega)) (gK (Acr ⟨i+1,L,ptr,T0,T2,T3,z,am,an,ae,af,rfl,hE,f,j,p,hpk,B5 hb12l (rfl),by omega,(SR hlt hLe hvp),trivial⟩ ?_)))))))));show(Av D [112,45]).length-(intOf (NI ((i)+(1)))).toNat<(Av D [112,45]).length-(intOf (aj 22)).toNat;rw[q22];simp only[intOf,Ab0];omega
  refine BA rfl z (vr (NI 0) rfl) ?_;have hie:i=(Av D [112,45]).length:=by have h:=ao;omega
  rw[hie,Adt]at hLe;exact .inr ⟨rfl,_,_,ptr,rfl,⟨j,(show L=GF D from hLe)▸hb12l,(show L=GF D from hLe)▸hpk,QU hDk.st.ok,hgo_,hbo_,hlg_⟩,hE⟩
 refine gS (Ye TI rfl (cF rfl (gS (XX Ob rfl (((show Calls _ _ _ _ (fun e w2=>e = .returned (.bool true)/\Ext _ w2)from by have h:=(hD.keep hE).down;rw[hdn]at h;exact h)).mono ?_)))));rintro e bt ⟨rfl,a9⟩;refine⟨_,rfl,?_⟩;refine cT rfl (BA rfl (vr (.pointer none) rfl) (vr (NI 9) rfl) ?_);have hE:=hE.trans a9;exact .inl ⟨rfl,rfl,hE⟩
theorem WX{w w' :AbJ}{b:Nat}{v:AbI}{l:Ah5}{α β:Type}{ek:α->AbI}{ev:β->AbI}{E:α->Prop}{G:α->Option β}(h:RB w v l)(hg:w.grownBy w' (some b))(hm:MapF ek ev E w b G):RB w' v l:=by
 by_cases hl:l= []
 ·subst hl;exact h.chg (B:=fun _=>True) (Yj hg fun _ _=> .inl trivial) (.inl rfl)
 ·obtain⟨es,c,hb,-⟩:=hm;refine h.chg (B:=fun k=>k=b) (Yj hg fun i e=> .inl (Option.some.inj e).symm) (.inr fun k hk q=> ?_);subst q;obtain⟨q1,ao,cap,rfl,q2,q3,q4,q5⟩:=h;cases ao with
  | none=>cases hk
  | some a=>
   cases l with
   | nil=>exact hl rfl
   | cons x r=>
    have hc:=q5 a rfl 0 _ (show _=some (B8 x)from rfl);have e:(a.add 0).block=a.block:=by unfold Addr.add;split <;> rfl
    have hk:a.block=k:=Option.some.inj hk;unfold World.cell? at hc;rw[e,hk,hb]at hc;cases hc
theorem UC:Plain AbL 23:=fun _ _=>by kernel_rfl
theorem UD:Plain AbL 49:=fun _ _=>by kernel_rfl
theorem UE:Plain AbL 50:=fun _ _=>by kernel_rfl
theorem Oc:Plain AbL 51:=fun _ _=>by kernel_rfl
theorem Od(ao:Option Addr)(n c:Nat)(ao' :Option Addr)(n' c' :Nat)(w:AbJ):(Acq 38 2 #[(0, .slice ao n c),(1, .slice ao' n' c')]).run AbL w = .ok (.slice (some ⟨w.heap.size,0,none⟩) 2 2) (w.alloc (.cells #[.slice ao n c, .slice ao' n' c'] 27)):=by kernel_rfl
theorem S5:(Tryz.prog.info? 84).map (·.size)=some 1:=by kernel_rfl
theorem UF(wb w:AbJ)(g:Nat)(H:Dk)(D:Af)(hD:DkG wb w g H D)(hG:Laid wb)(hL:DN D)(n:Nat)(gv bm:Nat)(L:AP)(ptr:Bs->Nat)(hV:VtAt n (Cg H D) w gv g bm L ptr)(hgL:GoodL L)(hLn:L.length<=100000)(hnw:wb.heap.size<=n)(vi:AbI)(ids:List Bs)(hid_:RG 32 AbK w vi ids)(hi32a:∀id∈ids,id.length=32)(dc:ids.length<=60)(hsmall:∀id∈ids,(getV D L id).2=0->(getV D L id).1.length<=200)(vc:AbI)(ch:List Int)(hch:RG 1 A1 w vc ch)(hchl:ch.length<=1099511627776)(m:Nat)(hB:DBd m D)(hm:m<=30000):
  Calls AbL 16 #[PQ gv 0,vi,vc] w fun e w' =>∃H' vcl o,e = .returned (.tuple #[vcl,NI (BE D L o ch).2.2.2])/\GR o/\(∀x,x∈o↔x∈ids)/\RBs w' vcl (BE D L o ch).2.2.1/\VtK wb w n g gv H D w' H' (BE D L o ch).1 (BE D L o ch).2.1:=by
 have hvb:=hV.blk;have hvm:=hV.map;have hpk:=hV.pk;have hsrt:=hV.sort;have hV0:=hV;refine gG (args:= [PQ gv 0,vi,vc]) Tryz.func16 rfl 136 rfl rfl ?_;have hE:=AaY w;refine gS (Ye N2 rfl (cF rfl (gS (XX UC rfl ((V5 _ _ ids (hid_.keep hE) (by omega)).mono ?_)))));rintro e w8 ⟨v5,o,rfl,cj,hS,hM,hN,bs⟩;refine⟨_,rfl,?_⟩;have hE:=hE.trans bs;have de:=hE.size;have hszp_:=(hE).size;have hi32o:∀id∈o,id.length=32:=fun id h=>hi32a id ((hM id).1 h);have hsmo:∀id∈o,(getV D L id).2=0->(getV D L id).1.length<=200:=fun id h=>hsmall id ((hM id).1 h);refine gS (Yf UD rfl rfl rfl ((Ux wb _ g H D (hD.keep hE) hG hL n gv bm L ptr (hV0.keep hE) hgL hLn v5 o (X1 cj) hi32o (by omega) hsmo vc ch (hch.keep hE) hchl).mono ?_));rintro e bt ⟨v9,us,rfl,hrow_,hall_,ba⟩;refine⟨_,rfl,?_⟩;have husl:=hall_.len;have hrowp:=OG.low hrow_ hszp_;have husp:AllN w.heap.size bt us (AL D L o ch).1:=⟨hall_.len,hall_.rb,fun i hi=>(hall_.new i hi).low hszp_⟩;refine gS (AaZ (vs:= [v9,NI ((AL D L o ch).2)]) rfl rfl (gS (AaZ (vs:= [v9,NI ((AL D L o ch).2)]) rfl rfl (gS (XQ (a:=((AL D L o ch).2:Nat)) (b:=(0:Nat)) rfl rfl (AV _ _ _ _) ?_)))));refine cD rfl (fun ad=> ?_) fun ad=> ?_
 ·refine BA rfl (vr (AbR none 0 0) rfl) (vr (NI ((AL D L o ch).2)) rfl) ?_;have hV:BE D L o ch=(D,L,[],(AL D L o ch).2):=Ur ad;have hE:=hE.trans ba;exact⟨_,_,o,by rw[hV],hS,hM,by rw[hV];exact AbD _,by rw[hV];exact YX hV0 (YE hD hE)⟩
 have hpp:=IR (fun hm=>IQ ((DD ch (szV D L o) (szV D L o).length).lb.trans (F1 D L o)) (by omega) hsmo hm) ad;have hE:=hE.trans ba;have hszq_:=(hE).size;have hgvl_:=(bl hV0.blk);have hwb_:=hD.ext.size;refine gS (YJ St pN Nm fun l ck bu bv a2 df=> ?_);have bb:=AaY bt;have dh:=hE.size;have hZ1:=bs.trans ba;have hvm:=hvm.keep hZ1;have di:=As hvm.lt bu;have dj:l<ck.heap.size:=by omega
 have hbml_:w.heap.size<=l:=by omega
 have hbo2:Cg H D l:=hD.offN hbml_;have hne2:l≠gv:=by omega
 have hrowp:=hrowp.keep a2;refine gS (X6 LS (XW (X1 hrowp) rfl) ?_);have hE:=hE.trans a2;have hW0:=YE hD hE;have hrowp0:=hrowp;have bb:=bb.trans a2;have husp0:=(husp.keep bb);have hvb:=eb hZ1 hvb;have dk:=As (bl hvb) bu;have hvb:=eb a2 hvb;refine gL (fun(ρ:Ac) (wz:AbJ)=>∃i:Nat,∃Hi:Dk,∃Di:Af,∃M:AP,∃ptr2:Bs->Nat,∃r10:AbI,ρ 0=(PQ gv 0:AbI)/\ρ 1=(vi:AbI)/\ρ 2=(vc:AbI)/\ρ 8=(v9:AbI)/\ρ 9=(.map (some l):AbI)/\ρ 25=(.bool (false):AbI)/\ρ 38=(v9:AbI)/\ρ 39=(NI us.length:AbI)/\ρ 40=(NI i:AbI)/\ρ 10=(r10:AbI)/\wz.heap[gv]? =some (.cells ([PQ g 0, .map (some bm)]).toArray 86 (0,0))/\DkW wb w g H D wz Hi Di/\PksAt (fun k=>Cg Hi (Di) k/\k≠gv/\k≠l) wz (M) (ptr2)/\PlZ i w.heap.size wz v9 us (AL D L o ch).1/\MapF St pN Nm wz l (pkG M ptr2)/\(i<=(AL D L o ch).1.length)/\(KSt D L o ch H i Hi Di M r10)/\(Cg Hi Di l)/\True) (fun ρ _=>(AL D L o ch).1.length-(intOf (ρ 40)).toNat) ⟨0,H,D,[],ptr,(AbR none 0 0),rfl,rfl,rfl,rfl,rfl,rfl,rfl,rfl,rfl,rfl,hvb,hW0,PksAt.nil _ _ _,(fun _=>⟨hrowp0,husp0⟩),B5 bv (rfl),Ack _, .inl ⟨rfl,rfl,rfl,rfl,rfl⟩,hbo2,trivial⟩ ?_;clear hvm;clear bv;clear hvb;rintro bw bx ⟨i,Hi,Di,M,ptr2,r10,T0,T1,T2,T8,T9,ao,ai,aj,ac,ae,hvb,hW,hPk,hun,hb22l,hil,hst,hbo,-⟩;have q40:=ac;refine gS (XQ (a:=(i:Nat)) (b:=(us.length:Nat)) ac aj (AK _ _ _ _) ?_);refine cD rfl (fun aq=> ?_) fun aq=> ?_
 ·have hlt:i<(AL D L o ch).1.length:=by rw[<-husl];exact aq
  have t:=hst.zero hlt;have hpz:=hun t.1;have hpk1:=Xt (p:=([],fun _=>none)) hpp hlt t.1;refine Adj hpk1.2.1 fun p hop=> ?_;have dl:=hpk1.2.2;have hrow1:=hpz.1;have hus1:=hpz.2;have hbr:=hus1.rb i hlt;have hbn:=hus1.new i hlt;have hni:Ax (AX D L o ch i)∉M.map Aci:=by rw[t.2.2.2.1];exact Adz
  have dm:(E1 (us.getD (i) undef)).length=1:=(Aa6 (X1 hrow1) undef (aq));refine gS (X9 LS RV (by decide) undef (XW (X1 hrow1) ai) ac (aq) fun dn bz=>(gS (X4 F7 rfl (Abd (Yc bz rfl) rfl) ?_)));clear bz;have hDo:=(hW).g;have hlb1_:=bl hvb;have hlb2_:=(hb22l).lt;refine gS (XX UA rfl ((NG _ (hG.keep (hW).g.ext) (us.getD (i) undef) (AX D L o ch i) hbr).mono ?_));rintro e b0 ⟨_,rfl,pp,cc,rfl,hON,bc⟩;refine⟨_,rfl,?_⟩;have hW:DkW wb w g H D b0 Hi (Di):=(hW.keep bc);refine gS (AaZ (vs:= [pp,NI cc]) rfl rfl (gS (AaZ (vs:= [pp,NI cc]) rfl rfl (Adj (Zh hON hop) fun gp hpp2=> ?_))));have hPP:PackP (fun k=>Cg Hi Di k/\k≠gv/\k≠l) b0 (pN gp) p:=Zg (hpp2▸(AbH hON hop).2) (fun k h1 h2=>⟨hDo.offN h1,by omega,by omega⟩);have hbr:=hbr.keep bc;refine gS (XX Oa rfl ((Eg _ (hG.keep (hW).g.ext) (us.getD (i) undef) (AX D L o ch i) hbr (by omega)).mono ?_));rintro e a3 ⟨rfl,a4⟩;refine⟨_,rfl,?_⟩;have hW:DkW wb w g H D a3 Hi (Di):=(hW.keep a4);have hZ2:=bc.trans a4;have hPk:=hPk.keep hZ2;have hPk:PksAt (fun k=>Cg Hi (Di) k/\k≠gv/\k≠l) a3 (M) (ptr2):=hPk;have hPP:=hPP.keep a4;have hPP:PackP (fun k=>Cg Hi Di k/\k≠gv/\k≠l) a3 (pN gp) p:=hPP;have hbr:=hbr.keep a4;have hbr:RB a3 (us.getD (i) undef) (AX D L o ch i):=hbr;have hb22l:=hb22l.keep hZ2;refine gS (YG (ek:=St) (ev:=pN) (D:=Nm) (c:=gp) Fb Er J1 T9 (vr (St (Ax (AX D L o ch i))) rfl) (vr (PQ gp 0) hpp2) hb22l (by show(Ax _).length<=80;rw[Lt];decide) fun ar b1 au dp=> ?_);have hW:DkW wb w g H D ar Hi (Di):=AaI hW au hb22l hbo hbml_ hwb_;have hPk:PksAt (fun k=>Cg Hi (Di) k/\k≠gv/\k≠l) ar (M) (ptr2):=PksAt.set hPk au (fun k q=>q.2.2);have hbr:RB ar (us.getD (i) undef) (AX D L o ch i):=WX hbr au hb22l;have hPP:PackP (fun k=>Cg Hi Di k/\k≠gv/\k≠l) ar (pN gp) p:=PackP.set hPP au (fun k q=>q.2.2);clear hb22l;have dq:l<ar.heap.size:=b1.lt;have hPk:=Zp hPk hni hPP;have hWc:=hW;have hMc:=b1;have hPc:=hPk;have hrc:=hbr;have hvb:=eb hZ2 hvb;have hvb:=kb au hvb (by omega);have hvc:=hvb;have hBi:DBd m Di:=t.2.1▸hB;have hoff:∀k,AbS (us.getD (i) undef)=some k->Cg Hi Di k:=fun k hk=>by rw[t.2.1,t.2.2.1];exact hD.offN (hbn k hk).1
  refine gS (XS UE T0 rfl ((S4 wb _ g Hi Di hWc.g hG gv bm hvc (us.getD (i) undef) (AX D L o ch i) hrc (.inr hoff) (by omega) m hBi (by omega)).mono ?_));rintro e dr ⟨H59,rfl,hW2⟩;refine⟨_,rfl,?_⟩;have hW:=hWc.trans hW2;have hvb:=Abe hWc.g hW2.chg hvc (by decide) (by decide) (by decide) (by decide);have hmp:=MapF.chg hMc hW2.chg hbo;have hPk:=PksAt.stepW hPc hW2;have hbr:=hrc.chg hW2.chg (.inr hoff);have hbo3:=hW2.offB hMc.lt hbo;have b2:DBd (m+202) (AE Di (AX D L o ch i)).1:=hBi.write (by omega);refine gS (AaZ (vs:= [.bool ((AE Di (AX D L o ch i)).2.1),NI ((AE Di (AX D L o ch i)).2.2)]) rfl rfl (gS (AaZ (vs:= [.bool ((AE Di (AX D L o ch i)).2.1),NI ((AE Di (AX D L o ch i)).2.2)]) rfl rfl ?_)));refine cB ((AE Di (AX D L o ch i)).2.1) rfl (fun be=> ?_) fun be=> ?_
  ·have hwf:=OW be;refine gS (XX Oa rfl ((Eg _ (hG.keep (hW).g.ext) (us.getD (i) undef) (AX D L o ch i) hbr (by omega)).mono ?_));rintro e cl ⟨rfl,b3⟩;refine⟨_,rfl,?_⟩;have hW:DkW wb w g H D cl H59 ((AE Di (AX D L o ch i)).1):=(hW.keep b3);refine gS (Yi (a:=Ax (AX D L o ch i)) (enc:=CX) (vr (St (Ax (AX D L o ch i))) rfl) rfl (fun w=>JS _ w) fun cm av cn b4=> ?_);have hW:DkW wb w g H D av H59 ((AE Di (AX D L o ch i)).1):=(hW.keep b4);have a5:=AaY av;refine gS (X7 _ _ av.heap.size _ 16 NN va1_ig9.choose_spec.1 va1_ig9.choose_spec.2 NN ([]) ([Ax (AX D L o ch i)]) (Abf (Abg _ _ _ _ _) (vr (AbR none 0 0) (ae.trans t.2.2.2.2))) (XW cn (vr cm rfl)) (fun y hy u hu=>by rw[AbW.1 hu];rfl) (by simp only[Ab7,Acl];omega) (by simp only[Ab7,Acl];omega) a5.size fun b5 bf ds bg=> ?_);have bg:Grew av bf (.slice none 0 0) b5:= .eqv (ae.trans t.2.2.2.2) bg;have hZ3:=b3.trans b4;have hvb:=eb hZ3 hvb;have dt:=(bl hvb);have hmp:=hmp.keep hZ3;have du:=hmp.lt;have hx_:Ext av bf:=Zl (by have:=bg.by_;exact this);have hW:DkW wb w g H D bf H59 ((AE Di (AX D L o ch i)).1):=(hW.keep hx_);refine gS (XQ (a:=((AE Di (AX D L o ch i)).2.2:Nat)) (b:=(8:Nat)) rfl rfl (AI _ _ _ _) (kF (hwf.1) (cF rfl (gS (XQ (a:=((AE Di (AX D L o ch i)).2.2:Nat)) (b:=(7:Nat)) rfl rfl (AI _ _ _ _) (kF (hwf.2) (cF rfl (gS (XQ (a:=((AE Di (AX D L o ch i)).2.2:Nat)) (b:=(0:Nat)) rfl rfl (AV _ _ _ _) ?_)))))))));refine cD rfl (fun ak=> ?_) fun ak=> ?_
   ·refine BA rfl (vr (AbR none 0 0) rfl) (vr (NI ((AE Di (AX D L o ch i)).2.2)) rfl) ?_;have hV:BE D L o ch=((AE Di (AX D L o ch i)).1,L,[],(AE Di (AX D L o ch i)).2.2):=(KSt.one t ad hpk1.1 hop).trans (Ml hwf.1 hwf.2 ak);exact⟨_,_,o,by rw[hV],hS,hM,by rw[hV];exact AbD _,by rw[hV];exact YX hV0 hW⟩
   have hPk:=hPk.keep hZ3;have hvb:=eb hx_ hvb;have hmp:=hmp.keep hx_;have a5:=a5.trans hx_;refine gS (XR (xv:=NI i) (yv:=NI 1) ac rfl rfl (Ah _ _ _ (by omega)) (gK (Acr ⟨i+1,H59,(AE Di (AX D L o ch i)).1,M++ [(Ax (AX D L o ch i),p)],updP ptr2 (Ax (AX D L o ch i)) gp,b5,T0,T1,T2,T8,T9,ao,ai,aj,rfl,rfl,hvb,hW,(hPk.keep a5),PlZ.done,B5 hmp ((JZ hni)),by omega,KSt.next t hpk1.1 hop (Aes.1 ak),hbo3,trivial⟩ ?_)));show(AL D L o ch).1.length-(intOf (NI ((i)+(1)))).toNat<(AL D L o ch).1.length-(intOf (bw 40)).toNat;rw[q40];simp only[intOf,Ab0];omega
  refine gS (XQ (a:=((AE Di (AX D L o ch i)).2.2:Nat)) (b:=(8:Nat)) rfl rfl (AI _ _ _ _) ?_);refine cD rfl (fun a6=> ?_) fun a6=> ?_
  ·refine gS (Aa1 T0 (gS (Aa0 KX rfl (gS (XP TI rfl rfl (cellAt hvb rfl) (gS (YQ (vr (PQ g 0) rfl) ?_)))))));have hWd:=hW;refine gS (XS Oc (vr (AbR none 0 0) (ae.trans t.2.2.2.2)) rfl ((Px wb _ g H59 (AE Di (AX D L o ch i)).1 hWd.g 0 (.slice none 0 0) [] (Abg _ _ _ _ _) (m+202) b2 (by show _+0<=_;omega)).mono ?_));rintro e co ⟨H87,rfl,hW9,-⟩;refine⟨_,rfl,?_⟩;have hW:DkW wb w g H D co H87 (AE Di (AX D L o ch i)).1:=hWd.trans hW9;refine gS (XQ (a:=((BN (AE Di (AX D L o ch i)).1 []).2:Nat)) (b:=(0:Nat)) rfl rfl (AV _ _ _ _) (kF (fun q=>q rfl) (cF rfl (gS (XQ (a:=((AE Di (AX D L o ch i)).2.2:Nat)) (b:=(7:Nat)) rfl rfl (AI _ _ _ _) (kF (by omega) (cF rfl (gS (XQ (a:=((AE Di (AX D L o ch i)).2.2:Nat)) (b:=(0:Nat)) rfl rfl (AV _ _ _ _) (kT (by omega) (cT rfl (BA rfl (vr (AbR none 0 0) rfl) (vr (NI ((AE Di (AX D L o ch i)).2.2)) rfl) ?_))))))))))));have hV:BE D L o ch=((AE Di (AX D L o ch i)).1,L,[],8):=(KSt.one t ad hpk1.1 hop).trans (K4 be a6);exact⟨_,_,o,by rw[hV,a6],hS,hM,by rw[hV];exact AbD _,by rw[hV];exact YX hV0 hW⟩
  refine gS (XQ (a:=((AE Di (AX D L o ch i)).2.2:Nat)) (b:=(7:Nat)) rfl rfl (AI _ _ _ _) ?_);refine cD rfl (fun a7=> ?_) fun a7=> ?_
  ·refine DZ [0,1,2,3,4,5,6,7,8,9,10,11] [5,6] [1,2] [3] fun b6 bh=> ?_;have hW:DkW wb w g H D b6 H59 ((AE Di (AX D L o ch i)).1):=(hW.keep bh);have a8:=AaY b6;have hvb:=eb bh hvb;have hbr:=hbr.keep bh;refine DS a8 ?_;refine yp (Aa1 T0 zz) (yp (Aa0 KX rfl zz) (yf (fun _ ⟨hZ,_⟩=>XP TI rfl rfl (cellAt (eb hZ hvb) rfl) zz) (yE (XX Oa rfl ((Eg _ (hG.keep (hW).g.ext) (us.getD (i) undef) (AX D L o ch i) hbr (by omega)).mono ?_)))));rintro e cp ⟨rfl,bi⟩;refine⟨_,rfl,?_⟩;have hW:DkW wb w g H D cp H59 ((AE Di (AX D L o ch i)).1):=(hW.keep bi);have a8:=a8.trans bi;refine⟨a8,?_⟩;refine yD rfl (XS Uf rfl rfl (((hW).g.read (Ax (AX D L o ch i)) (b2.lt (by omega))).mono ?_));rintro e cq ⟨bj,rfl,cr,b7⟩;refine⟨_,rfl,?_⟩;have hW:DkW wb w g H D cq H59 ((AE Di (AX D L o ch i)).1):=(hW.keep b7);have cs:=Ya cr;have hZ4:=bi.trans b7;have hbr:=hbr.keep hZ4;refine ys (AaZ (vs:= [bj,NI ((An (AE Di (AX D L o ch i)).1 (Ax (AX D L o ch i))).2)]) rfl rfl zz) (ys (AaZ (vs:= [bj,NI ((An (AE Di (AX D L o ch i)).1 (Ax (AX D L o ch i))).2)]) rfl rfl zz) (gS (Aaz Od (XV hbr (vr (us.getD (i) undef) rfl)) (XV cs (vr bj rfl)) fun ct cu cv cw=> ?_)));have hW:DkW wb w g H D cu H59 ((AE Di (AX D L o ch i)).1):=(hW.keep cw);refine BA rfl (vr ct rfl) (vr (NI ((AE Di (AX D L o ch i)).2.2)) rfl) ?_;have hV:BE D L o ch=((AE Di (AX D L o ch i)).1,L,[(AX D L o ch i),(An (AE Di (AX D L o ch i)).1 (Ax (AX D L o ch i))).1],7):=(KSt.one t ad hpk1.1 hop).trans (Q2 a7);exact⟨_,_,o,by rw[hV,a7],hS,hM,by rw[hV];exact cv,by rw[hV];exact YX hV0 hW⟩
  refine gS (XQ (a:=((AE Di (AX D L o ch i)).2.2:Nat)) (b:=(0:Nat)) rfl rfl (AV _ _ _ _) ?_);refine cD rfl (fun ak=> ?_) fun ak=> ?_
  ·refine BA rfl (vr (AbR none 0 0) rfl) (vr (NI ((AE Di (AX D L o ch i)).2.2)) rfl) ?_;have hV:BE D L o ch=((AE Di (AX D L o ch i)).1,L,[],(AE Di (AX D L o ch i)).2.2):=(KSt.one t ad hpk1.1 hop).trans (Ml a6 a7 ak);exact⟨_,_,o,by rw[hV],hS,hM,by rw[hV];exact AbD _,by rw[hV];exact YX hV0 hW⟩
  refine gS (XR (xv:=NI i) (yv:=NI 1) ac rfl rfl (Ah _ _ _ (by omega)) (gK (Acr ⟨i+1,H59,(AE Di (AX D L o ch i)).1,M++ [(Ax (AX D L o ch i),p)],updP ptr2 (Ax (AX D L o ch i)) gp,(AbR none 0 0),T0,T1,T2,T8,T9,ao,ai,aj,rfl,(ae.trans t.2.2.2.2),hvb,hW,hPk,PlZ.done,B5 hmp ((JZ hni)),by omega,KSt.next t hpk1.1 hop (Aes.1 ak),hbo3,trivial⟩ ?_)));show(AL D L o ch).1.length-(intOf (NI ((i)+(1)))).toNat<(AL D L o ch).1.length-(intOf (bw 40)).toNat;rw[q40];simp only[intOf,Ab0];omega
 have hkl:=hst.done (by rw[<-husl];exact aq) ad;have hMs:=hst.sort;have hBD:=hst.bd hB hpp;have hLi:DN Di:=hBD.lt (by omega);have hnl:=hBD.list;refine gS (Aa1 T0 (gS (Aa0 KX rfl (gS (XP TI rfl rfl (cellAt hvb rfl) ?_)))));have f:=AaY bx;refine gS (XS Uz rfl rfl ((J0 wb _ g Hi Di ((hW.keep f)).g hLi [112,45] (by omega)).mono ?_));rintro e af ⟨cx,rfl,cy,bk⟩;refine⟨_,rfl,?_⟩;have bn:=X1 cy;refine gS (X6 NN (XW bn rfl) ?_);have r:=AaY af;have f:=f.trans bk;have b8:=f.size;refine Adj (⟨_,rfl⟩:∃v:AbI,(AbR none 0 0)=v) fun nv20 hnv20=> ?_;have hrow20:OG af.heap.size 9 1 CX af nv20 ([]:List Ah5):=hnv20▸Abg _ _ _ _ _;have cz:OB nv20 gv:=fun e_=>by rw[<-hnv20]at e_;cases e_
 have c0:OB nv20 l:=fun e_=>by rw[<-hnv20]at e_;cases e_
 have hvb:=eb bk hvb;have hb22l:=hb22l.keep bk;refine gL (fun(ρ:Ac) (wz:AbJ)=>∃j:Nat,∃r20:AbI,ρ 0=(PQ gv 0:AbI)/\ρ 1=(vi:AbI)/\ρ 2=(vc:AbI)/\ρ 8=(v9:AbI)/\ρ 9=(.map (some l):AbI)/\ρ 10=(r10:AbI)/\ρ 25=(.bool (false):AbI)/\ρ 38=(v9:AbI)/\ρ 39=(NI us.length:AbI)/\ρ 40=(NI i:AbI)/\ρ 101=(cx:AbI)/\ρ 102=(NI (((Av Di [112,45])).length):AbI)/\ρ 103=(NI j:AbI)/\ρ 20=(r20:AbI)/\wz.heap[gv]? =some (.cells ([PQ g 0, .map (some bm)]).toArray 86 (0,0))/\MapF St pN Nm wz l (pkG M ptr2)/\Ext bx wz/\Ext af wz/\OG af.heap.size 9 1 (CX) wz r20 (((Av Di [112,45]).take j).filter (fun s=>(M.lookup s).isNone))/\(j<=(Av Di [112,45]).length)/\(OB r20 gv)/\(OB r20 l)/\True) (fun ρ _=>(Av Di [112,45]).length-(intOf (ρ 103)).toNat) ⟨0,nv20,T0,T1,T2,T8,T9,ae,ao,ai,aj,ac,rfl,rfl,rfl,((show _=(AbR none 0 0)from rfl).trans hnv20),hvb,hb22l,f,r,Bc hrow20 (rfl),Ack _,cz,c0,trivial⟩ ?_;clear hrow20;clear hvb hb22l;rintro b9 dv ⟨j,r20,T0,T1,T2,T8,T9,ae,ao,ai,aj,ac,bo,bp,aw,ax,hvb,hb22l,f,r,hr_r20,hjl,hap_r20_gv,hap_r20_n19,-⟩;have q103:=aw;refine gS (XQ (a:=(j:Nat)) (b:=(((Av Di [112,45])).length:Nat)) aw bp (AK _ _ _ _) ?_);refine cD rfl (fun bq=> ?_) fun bq=> ?_
 ·have ay:j<(Av Di [112,45]).length:=bq;have hel:=Mb ((hW.keep f)).g.st.ok ay;have hnl2:=Fg Di [112,45];have hfl:(((Av Di [112,45]).take j).filter (fun s=>(M.lookup s).isNone)).length<=j:=AbM (AdD _ _) (by rw[Ab5];exact AfZ _ _);have dw:(CX (((Av Di [112,45])).getD (j) ([]:Ah5))).length=1:=(Aa6 (bn.keep r) ([]:Ah5) (ay));refine gS (X9 NN TJ (by decide) ([]:Ah5) (XW (bn.keep r) bo) aw (ay) fun dx ca=>(gS (X4 Pi rfl (Abd (Yc ca rfl) rfl) ?_)));clear ca;rcases hlk:M.lookup ((Av Di [112,45]).getD (j) ([]:Ah5))with _ | pk
  ·refine gS (Za (ek:=St) (ev:=pN) (D:=Nm) Fb Er (fun _ _=>C7) J1 (z:= .pointer none) QS T9 rfl hb22l (by exact hel) (show pkG M ptr2 ((Av Di [112,45]).getD (j) ([]:Ah5))=none from by unfold pkG;rw[hlk];rfl) (gS (Ye Fy rfl (cT rfl (gS (Yi (a:=((Av Di [112,45])).getD (j) ([]:Ah5)) (enc:=CX) (vr (St (((Av Di [112,45])).getD (j) ([]:Ah5))) rfl) rfl (fun w=>JS _ w) fun c1 c2 cb az=> ?_))))));have r:=r.trans az;have hr_r20:=hr_r20.keep az;refine gS (X7 _ _ af.heap.size _ 16 NN va1_ig9.choose_spec.1 va1_ig9.choose_spec.2 NN (((Av Di [112,45]).take j).filter (fun s=>(M.lookup s).isNone)) ([((Av Di [112,45])).getD (j) ([]:Ah5)]) (Abf hr_r20 ax) (XW cb (vr c1 rfl)) (fun y hy u hu=>by rw[AbW.1 hu];rfl) (by simp only[Ab7,Acl];omega) (by simp only[Ab7,Acl];omega) r.size fun a9 c3 c4 ag=> ?_);have ag:Grew c2 c3 r20 a9:= .eqv ax ag;have hvb:=eb az hvb;have c5:OB a9 gv:=Ap ag hap_r20_gv (bl hvb);have hb22l:=hb22l.keep az;have c6:OB a9 l:=Ap ag hap_r20_n19 hb22l.lt;have hvb:=Ar hvb ag hap_r20_gv;have hb22l:=Aba hb22l ag hap_r20_n19;have f:=f.trans az;have f:=Ao f ag hr_r20.2 b8;have r:=Ao r ag hr_r20.2 (AbO _);clear cb;clear hr_r20;refine gS (XR (xv:=NI j) (yv:=NI 1) aw rfl rfl (Ah _ _ _ (by omega)) (gK (Acr ⟨j+1,a9,T0,T1,T2,T8,T9,ae,ao,ai,aj,ac,bo,bp,rfl,rfl,hvb,hb22l,f,r,Bc c4 ((Pq ay (show(M.lookup _).isNone=true by rw[hlk];rfl))),by omega,c5,c6,trivial⟩ ?_)));show(Av Di [112,45]).length-(intOf (NI ((j)+(1)))).toNat<(Av Di [112,45]).length-(intOf (b9 103)).toNat;rw[q103];simp only[intOf,Ab0];omega
  refine gS (YM (ek:=St) (ev:=pN) (D:=Nm) Fb Er (fun _ _=>C7) J1 (z:= .pointer none) QS T9 rfl hb22l (by exact hel) (show pkG M ptr2 ((Av Di [112,45]).getD (j) ([]:Ah5))=some (ptr2 ((Av Di [112,45]).getD (j) ([]:Ah5)))from by unfold pkG;rw[hlk];rfl) (gS (Ye Fy rfl (cF rfl (gS (XR (xv:=NI j) (yv:=NI 1) aw rfl rfl (Ah _ _ _ (by omega)) (gK (Acr ⟨j+1,r20,T0,T1,T2,T8,T9,ae,ao,ai,aj,ac,bo,bp,rfl,ax,hvb,hb22l,f,r,Bc hr_r20 ((SP ay (show(M.lookup _).isNone=false by rw[hlk];rfl))),by omega,hap_r20_gv,hap_r20_n19,trivial⟩ ?_))))))));show(Av Di [112,45]).length-(intOf (NI ((j)+(1)))).toNat<(Av Di [112,45]).length-(intOf (b9 103)).toNat;rw[q103];simp only[intOf,Ab0];omega
 have hje:j=(Av Di [112,45]).length:=by have h:=bq;omega
 have hgv:((Av Di [112,45]).take j).filter (fun s=>(M.lookup s).isNone)++(Av Di [111,45])=goneV Di M:=by unfold goneV;rw[hje,Adt]
 have hgl:=Pw hBD M;have hnl2:=Fg Di [112,45];have hnl3:=Fg Di [111,45];have hfl:(((Av Di [112,45]).take j).filter (fun s=>(M.lookup s).isNone)).length<=j:=AbM (AdD _ _) (by rw[Ab5];exact AfZ _ _);refine DZ [0,1,2,3,4,7,8,9,10,11,5,6,12,13] [5,6,12] [8,9,11] [10] fun dy a0=> ?_;have hvb:=eb a0 hvb;refine Xz hvb ?_;refine ys (Aa1 T0 zz) (ys (Aa0 KX rfl zz) (ys (XP TI rfl rfl (cellAt hvb rfl) zz) (yp (Aa1 T0 zz) (yp (Aa0 KX rfl zz) (yf (fun _ ⟨hvb,_⟩=>XP TI rfl rfl (cellAt hvb rfl) zz) (yp (YQ (vr (PQ g 0) rfl) zz) ?_))))));have f:=f.trans a0;have r:=r.trans a0;have dz:=f.size;have d0:=r.size;refine yI (XS Uz rfl rfl ((J0 wb _ g Hi Di ((hW.keep f)).g hLi [111,45] (by omega)).mono ?_));rintro e c7 ⟨c8,rfl,c9,a1⟩;refine⟨_,rfl,?_⟩;have hb22l:=hb22l.keep a0;have cd:=X1 c9;have hr_r20:=hr_r20.keep (a0.trans a1);have hvb:=eb a1 hvb;have r:=r.trans a1;refine⟨⟨hvb,trivial⟩,?_⟩;refine yI (X7 _ _ af.heap.size _ 16 NN va1_ig9.choose_spec.1 va1_ig9.choose_spec.2 NN (((Av Di [112,45]).take j).filter (fun s=>(M.lookup s).isNone)) ((Av Di [111,45])) (Abf hr_r20 ax) (XW cd (vr c8 rfl)) (fun y hy u hu=>by rw[AbW.1 hu];rfl) (by omega) (by omega) r.size fun ce da db ap=> ?_);have ap:Grew c7 da r20 ce:= .eqv ax ap;have hb22l:=hb22l.keep a1;have hvb:=Ar hvb ap hap_r20_gv;have hb22l:=Aba hb22l ap hap_r20_n19;have f:=f.trans a1;have f:=Ao f ap hr_r20.2 b8;have r:=Ao r ap hr_r20.2 (AbO _);clear cd;clear hr_r20;refine⟨⟨hvb,trivial⟩,?_⟩;have hWd:=(hW.keep f);have hMc:=hb22l;have hPc:=(hPk.keep f);have hvc:=hvb;have hrg:=Bc db hgv;refine yD rfl (XS Oc rfl rfl ((Px wb _ g Hi Di hWd.g af.heap.size ce (goneV Di M) hrg (m+202) hBD (by omega)).mono ?_));rintro e d1 ⟨H174,rfl,hW9,-⟩;refine⟨_,rfl,?_⟩;have hW:=hWd.trans hW9;have hvb:=Abe hWd.g hW9.chg hvc (by decide) (by decide) (by decide) (by decide);have hmp:=MapF.chg hMc hW9.chg hbo;have hPk:=PksAt.stepW hPc hW9;have hbo4:=hW9.offB hMc.lt hbo;refine gS (XQ (a:=((BN Di (goneV Di M)).2:Nat)) (b:=(0:Nat)) rfl rfl (AV _ _ _ _) ?_);refine cD rfl (fun br=> ?_) fun br=> ?_
 ·refine BA rfl (vr (AbR none 0 0) rfl) (vr (NI ((BN Di (goneV Di M)).2)) rfl) ?_;have hV:BE D L o ch=((BN Di (goneV Di M)).1,L,[],(BN Di (goneV Di M)).2):=hkl.trans (if_pos br);exact⟨_,_,o,by rw[hV],hS,hM,by rw[hV];exact AbD _,by rw[hV];exact YX hV0 hW⟩
 refine gS (Aa1 T0 (gS (Aa0 KW rfl ?_)));have hWf:=hW;have hMf:=hmp;have hPf:=hPk;have hvf:=hvb;refine gS (X5 (i:=1) (v:= .map (some l)) rfl T9 hvb (Nat.le_of_ble_eq_true rfl) S5 rfl rfl fun d2 cf cg d3=> ?_);have hmp:=Aa2 hmp cg (Am (by omega));clear hPk;clear hW;clear hvb;have hvb:=cf;clear cf;have d4:=bl hvb;refine BA rfl (vr (AbR none 0 0) rfl) (vr (NI 0) rfl) ?_;have hV:BE D L o ch=((BN Di (goneV Di M)).1,M,[],0):=hkl.trans (if_neg br);exact⟨_,_,o,by rw[hV],hS,hM,by rw[hV];exact AbD _,by rw[hV];exact AaJ hV0 hWf hnw hMf hPf hMs hbo4 hne2 hvf hvb cg⟩
section
variable {P : Program} {K : AbI -> AbJ -> Prop} {ρ : Ac} {w : AbJ} {d : Option Tmp} {ty : TypeId} {pos : String} {af : Array Edge} {gd : Option (Nat × Bool)}
variable {α β : Type} {ek : α -> AbI} {ev : β -> AbI} {D : α -> Prop} {b : Nat} {G : α -> Option β} {t Kt E : TypeId}
theorem MapF.card(hi:∀a c,ek a=ek c->a=c)(h:MapF ek ev D w b G){ps:List (α × β)}(hn:(ps.map Aci).Nodup)(hG:∀a y,G a=some y↔(a,y)∈ps):∃es c,w.heap[b]? =some (.map es c)/\es.size=ps.length:=by
 obtain⟨es,c,hb,H,hS⟩:=h;have hp:(es.map fun e=>(e.key,e.val)).Perm (ps.map fun p=>(ek p.1,ev p.2)):=by
  refine(Aer ?_ ?_).2 fun q=> ?_
  ·exact Aev (S:=(· ≠ ·)) Aci (fun a c hne e=>hne (by rw[e])) (by rw[AeB];exact H.keys)
  ·refine AfE _ (fun p q hne e=>hne ?_) (Aev (S:=(· ≠ ·)) (R:=fun p q:α × β=>p.1≠q.1) Aci (fun _ _ h=>h) hn);exact hi _ _ (congrArg Aci e)
  ·constructor
   ·intro hq;obtain⟨e,he,rfl⟩:=Acw.1 hq;obtain⟨a,y,-,h2,h3,h4⟩:=H.ent e he;exact Acw.2 ⟨(a,y),(hG a y).1 h4,by rw[h2,h3]⟩
   ·intro hq;obtain⟨p,hp,rfl⟩:=Acw.1 hq;have hg:=(hG p.1 p.2).2 hp;obtain⟨-,e,he,hek⟩:=H.all p.1 p.2 hg;obtain⟨a,y,-,h2,h3,h4⟩:=H.ent e he;have ha:a=p.1:=hi _ _ (h2.symm.trans hek);rw[ha,hg]at h4;cases h4;exact Acw.2 ⟨e,he,by rw[hek,h3]⟩
 have:=hp.length_eq;exact⟨_,c,hb,by simpa using this⟩
theorem AaT(ht:P.underlying t=some (.map Kt E)){x:Operand}{es:Array MapEntry}{c n:Nat}(hx:Aa ρ x = .map (some b))(hb:w.heap[b]? =some (.map es c))(hn:es.size=n)(hk:K (NI n) w):Yk P K ((execOp (Aa ρ) ⟨d, .call ⟨.builtin .len,#[x],#[t]⟩,ty,pos,af,gd⟩).run P w):=by
 subst hn;refine Aa4 (v:=NI es.size) (w' :=w) ?_ hk;unfold execOp;simp[resolve,invoke,builtin,Builtin.len_,hx,run_underlying ht,goInt,MapKept.run_getObj_map hb]
end
theorem Oe{L:AP}(ptr:Bs->Nat)(h:SortS (L.map Aci)):((L.map fun e=>(e.1,ptr e.1)).map Aci).Nodup:=by
 rw[AeB];exact h.nodup
theorem S6{L:AP}{ptr:Bs->Nat}(h:SortS (L.map Aci))(a:Bs)(y:Nat):pkG L ptr a=some y↔(a,y)∈L.map fun e=>(e.1,ptr e.1):=by
 unfold pkG;constructor
 ·intro q;obtain⟨p,hp,he⟩:=Option.map_eq_some_iff.1 q;exact Acw.2 ⟨(a,p),KT hp,by rw[he]⟩
 ·intro q;obtain⟨e,he,h2⟩:=Acw.1 q;cases h2;rw[L7 h he];rfl
theorem S7(w:AbJ)(n:Nat)(Q:Nat->Prop)(gv gd bm:Nat)(L:AP)(ptr:Bs->Nat)(hV:VtAt n Q w gv gd bm L ptr)(hgL:GoodL L)(hLn:L.length<=100000):
  Calls AbL 19 #[PQ gv 0] w fun e w' =>e = .returned (NI L.length)/\Ext w w' :=by
 have hvb:=hV.blk;have hvm:=hV.map;have hpk:=hV.pk;have hsrt:=hV.sort;have hV0:=hV;refine gG (args:= [PQ gv 0]) Tryz.func19 rfl 10 rfl rfl ?_;have hE:=AaY w;refine gS (Ye N2 rfl (cF rfl (gS (Aa1 rfl (gS (Aa0 KW rfl (gS (XP J1 rfl rfl (cellAt hvb rfl) (gS (AaT J1 rfl ((hvm).card (fun _ _=>C7) (Oe ptr hsrt) (S6 hsrt)).choose_spec.choose_spec.1 (((hvm).card (fun _ _=>C7) (Oe ptr hsrt) (S6 hsrt)).choose_spec.choose_spec.2.trans (Ab9 ..)) (Bp rfl (vr (NI L.length) rfl) ?_)))))))))));exact⟨rfl,hE⟩
structure VtS (wb : AbJ) (n g gv : Nat) (w : AbJ) (H : Dk) (D : Af) (L : AP) : Prop where
 dk:DkG wb w g H D
 v:∃bm ptr,VtAt n (Cg H D) w gv g bm L ptr
 good:GoodL L
 lo:wb.heap.size<=n
 len:L.length<=100000
def Mm(H:Dk)(D:Af)(gv:Nat)(k:Nat):Prop:=B3 H D.files.length k\/k=gv
section
variable {wb w w' : AbJ} {n g gv : Nat} {H H' : Dk} {D D' : Af} {L L' : AP}
theorem VtS.keep(h:VtS wb n g gv w H D L)(k:Ext w w'):VtS wb n g gv w' H D L:=by
 obtain⟨bm,ptr,hv⟩:=h.v;exact⟨h.dk.keep k,⟨bm,ptr,hv.keep k⟩,h.good,h.lo,h.len⟩
theorem VtS.tag(h:VtS wb n g gv w H D L):CT w gv=some (86+1):=by
 obtain⟨bm,ptr,hv⟩:=h.v;exact Co hv.blk
theorem VtS.step(h:VtS wb n g gv w H D L)(hW:DkW wb w g H D w' H' D'):VtS wb n g gv w' H' D' L/\Chg (Mm H D gv) w w' :=by
 obtain⟨bm,ptr,hv⟩:=h.v;exact⟨⟨hW.g,⟨bm,ptr,hv.step hW⟩,h.good,h.lo,h.len⟩,hW.chg.monoV fun k q=> .inl q⟩
theorem VtS.kept(h:VtS wb n g gv w H D L)(hK:VtK wb w n g gv H D w' H' D' L')(hg:GoodL L')(hl:L'.length<=100000):VtS wb n g gv w' H' D' L' /\Chg (Mm H D gv) w w' :=
 ⟨⟨hK.dk,hK.v,hg,h.lo,hl⟩,hK.chg.monoV fun k q=>q.imp id fun q=>q.1⟩
theorem VtS.off(h:VtS wb n g gv w H D L){k:Nat}(hk:Mm H D gv k):k<w.heap.size/\wb.heap.size<=k:=by
 rcases hk with q | rfl
 ·exact⟨(h.dk.st.foot q).2.1,(h.dk.st.foot q).2.2⟩
 ·obtain⟨bm,ptr,hv⟩:=h.v;exact⟨bl hv.blk,AbM h.lo hv.lo⟩
theorem VtS.box(h:VtS wb n g gv w H D L)(hc:Chg (Mm H D gv) w w'){b:Nat}{cs:Array AbI}{t:TypeId}{fr:Nat × Nat}(hb:w.heap[b]? =some (.cells cs t fr))(h1:t≠107)(h2:t≠133)(h3:t≠5)(h4:t≠131)(h5:t≠86):w'.heap[b]? =some (.cells cs t fr):=
 (hc.blk b (bl hb) fun q=>q.elim (h.dk.st.offT hb h1 h2 h3 h4) fun e=>by
  have ht:=h.tag;rw[<-e,Co hb]at ht;exact h5 (by simpa using ht)).trans hb
theorem VtS.rbNew(h:VtS wb n g gv w H D L){w1:AbJ}(hc:Chg (Mm H D gv) w1 w'){v:AbI}{l:Ah5}(hr:RB w1 v l)(hN:NewI w.heap.size w1 v):RB w' v l:=
 hr.chg hc (.inr fun k hk q=>by have:=(h.off q).1;have:=(hN k hk).1;omega)
end
section
variable {D : Af} {L : AP} {o : List Bs} {ch : List Int}
theorem Q3(h:GoodL L):GoodL (BE D L o ch).2.1/\((BE D L o ch).2.1.length<=L.length\/(BE D L o ch).2.1.length<=1):=by
 have hl:∀(E:Af) (M:AP),GoodL M->M.length<=1->GoodL (EI E L M).2.1/\((EI E L M).2.1.length<=L.length\/(EI E L M).2.1.length<=1):=fun E M hM hm=>by
  unfold EI;split
  ·exact⟨h, .inl (AbO _)⟩
  ·exact⟨hM, .inr hm⟩
 unfold BE;split
 ·exact⟨h, .inl (AbO _)⟩
 ·split
  ·exact hl D [] (fun e he=>by cases he) (Ack _)
  ·rename_i b _ _
   unfold KZ;split
   ·rename_i p hp
    unfold EB;split
    ·have f:∀(c:Prop) [Decidable c] (a b:Af × AP × List Bs × Nat),a.2.1=L->b.2.1=L->(if c then a else b).2.1=L:=fun c _ a b h1 h2=>by split <;> assumption
     rw[f _ _ _ rfl rfl];exact⟨h, .inl (AbO _)⟩
    ·split
     ·exact⟨h, .inl (AbO _)⟩
     ·split
      ·exact⟨h, .inl (AbO _)⟩
      ·exact hl _ _ (fun e he=>by rw[AbW.1 he];exact⟨b,hp,rfl⟩) (AbO _)
   ·exact⟨h, .inl (AbO _)⟩
end
section
variable (wb w : AbJ) (n g gv : Nat) (H : Dk) (D : Af) (L : AP) (h : VtS wb n g gv w H D L) (hG : Laid wb) (hL : DN D)
theorem Wm(wb w:AbJ)(g:Nat)(H:Dk)(D:Af)(hD:DkG wb w g H D)(hG:Laid wb)(hL:DN D)(hnm:(Bd D).length<=100000)(hd:D.down=false):
  Calls AbL 13 #[PQ g 0] w fun e w' =>∃gv,e = .returned (.tuple #[PQ gv 0,NI 0])/\VtS wb w.heap.size g gv w' H D (GF D)/\Ext w w' :=
 (UB wb w g H D hD hG hL hnm).mono fun e w' q=>by
  rcases q with ⟨q,-⟩ | ⟨-,gv,bm,ptr,he,hv,hx⟩
  ·rw[hd]at q;cases q
  ·refine⟨gv,he,⟨hD.keep hx,⟨bm,ptr,hv⟩,QX D,hD.ext.size,?_⟩,hx⟩;exact AbM (List.length_filterMap_le _ _) (AbM (Fg D _) hnm)
include h hG
theorem WY(vb:AbI)(b:Ah5)(hr:RB w vb b)(hoff:b= []\/∀i,vb.ownBlock=some i->¬B3 H D.files.length i)(hbl:b.length<=300)(m:Nat)(hB:DBd m D)(hm:m<=99000)(r:Af × Bs × Bs × Nat)(hrr:Ee D L b=r):
  Calls AbL 14 #[PQ gv 0,vb] w fun e w' =>∃H' vo,e = .returned (.tuple #[.agg (AbK r.2.1).toArray,vo,NI r.2.2.2])/\RB w' vo r.2.2.1/\VtS wb n g gv w' H' r.1 L/\Chg (Mm H D gv) w w' :=by
 subst hrr;obtain⟨bm,ptr,hv⟩:=h.v;exact(Wd wb w g H D h.dk hG (hB.lt (by omega)) n gv bm L ptr hv h.good h.len vb b hr hoff hbl m hB hm).mono fun e w' ⟨H',vo,he,hr,hW,_⟩=>⟨H',vo,he,hr,h.step hW⟩
theorem Wn(vi:AbI)(ids:List Bs)(hid_:RG 32 AbK w vi ids)(hi32a:∀id∈ids,id.length=32)(a:ids.length<=60)(hsmall:∀id∈ids,(getV D L id).2=0->(getV D L id).1.length<=200)(vc:AbI)(ch:List Int)(hch:RG 1 A1 w vc ch)(hchl:ch.length<=1099511627776)(m:Nat)(hB:DBd m D)(hm:m<=30000):
  Calls AbL 16 #[PQ gv 0,vi,vc] w fun e w' =>∃H' vcl o,e = .returned (.tuple #[vcl,NI (BE D L o ch).2.2.2])/\GR o/\(∀x,x∈o↔x∈ids)/\RBs w' vcl (BE D L o ch).2.2.1/\VtS wb n g gv w' H' (BE D L o ch).1 (BE D L o ch).2.1/\Chg (Mm H D gv) w w' :=by
 obtain⟨bm,ptr,hv⟩:=h.v;exact(UF wb w g H D h.dk hG (hB.lt (by omega)) n gv bm L ptr hv h.good h.len h.lo vi ids hid_ hi32a a hsmall vc ch hch hchl m hB hm).mono fun e w' ⟨H',vcl,o,he,h1,h2,h3,hK⟩=>by
  obtain⟨g1,g2⟩:=Q3 (D:=D) (o:=o) (ch:=ch) h.good;have:=h.len;exact⟨H',vcl,o,he,h1,h2,h3,h.kept hK g1 (by omega)⟩
theorem Py(vi:AbI)(ids:List Bs)(hid_:RG 32 AbK w vi ids)(hi32a:∀id∈ids,id.length=32)(a:ids.length<=60)(hsmall:∀id∈ids,(getV D L id).2=0->(getV D L id).1.length<=200)(vc:AbI)(ch:List Int)(hch:RG 1 A1 w vc ch)(hchl:ch.length<=1099511627776)(m:Nat)(hB:DBd m D)(hm:m<=30000)(P:Af × AP × List Bs × Nat->Prop)(hP:∀o,GR o->(∀x,x∈o↔x∈ids)->P (BE D L o ch)):
  Calls AbL 16 #[PQ gv 0,vi,vc] w fun e w' =>∃H' vcl r,e = .returned (.tuple #[vcl,NI r.2.2.2])/\P r/\RBs w' vcl r.2.2.1/\VtS wb n g gv w' H' r.1 r.2.1/\Chg (Mm H D gv) w w' :=
 (Wn wb w n g gv H D L h hG vi ids hid_ hi32a a hsmall vc ch hch hchl m hB hm).mono fun e w' ⟨H',vcl,o,he,h1,h2,h3,h4⟩=>⟨H',vcl,_,he,hP o h1 h2,h3,h4⟩
include hL
theorem WZ(id:Ah5)(hid:id.length=32)(r:Bs × Nat)(hrr:getV D L id=r):
  Calls AbL 15 #[PQ gv 0, .agg (AbK id).toArray] w fun e w' =>∃v,e = .returned (.tuple #[v,NI r.2])/\RB w' v r.1/\Ext w w' /\NewI w.heap.size w' v:=by
 subst hrr;obtain⟨bm,ptr,hv⟩:=h.v;exact Lv wb w g H D h.dk hG hL n gv bm L ptr hv h.good h.len id hid
theorem W0(id:Ah5)(hid:id.length=32):
  Calls AbL 17 #[PQ gv 0, .agg (AbK id).toArray] w fun e w' =>e = .returned (.bool (decide ((getV D L id).2=0)))/\Ext w w' :=by
 obtain⟨bm,ptr,hv⟩:=h.v;exact Wc wb w g H D h.dk hG hL n gv bm L ptr hv h.good h.len id hid
omit hG hL
theorem UG:Calls AbL 19 #[PQ gv 0] w fun e w' =>e = .returned (NI L.length)/\Ext w w' :=by
 obtain⟨bm,ptr,hv⟩:=h.v;exact S7 w n (Cg H D) gv g bm L ptr hv h.good h.len
end
def InjD(l:BZ):Prop:=l.Pairwise fun a b=>a.2≠b.2
theorem InjD.wo{l:BZ}(h:InjD l)(s:Ah5):InjD (G8 l s):=Ahj List.filter_sublist h
theorem InjD.ins{l:BZ}(h:InjD l)(s:Ah5){k:Nat}(hk:∀e∈l,e.2≠k):InjD (Gi l s k):=by
 unfold Gi InjD;rw[Ac6];refine⟨h.sublist (AeU _),List.pairwise_cons.2 ⟨fun e he=>(hk e ((AeV _).subset he)).symm,h.sublist (AeV _)⟩,fun a ha b hb=> ?_⟩;rcases Acy.1 hb with rfl | hb
 ·exact hk a ((AeU _).subset ha)
 ·have h2:(l.takeWhile (fun e=>Op.bytesLess e.1 s)++l.dropWhile (fun e=>Op.bytesLess e.1 s)).Pairwise fun a b=>a.2≠b.2:=by rw[List.takeWhile_append_dropWhile];exact h
  exact(Ac6.1 h2).2.2 a ha b hb
theorem InjD.turn{l:BZ}(h:InjD l)(a:CR)(hk:a.to.length≠0->∀e∈l,e.2=a.file->e.1=a.frm):InjD (turnD l a):=by
 unfold turnD;split
 ·exact h.wo _
 ·rename_i hn
  refine((h.wo _).wo _).ins _ fun e he q=> ?_;have h1:=ID he;have h2:=hk hn e (ID h1) q;have h3:=(Adr.1 h1).2;simp[h2]at h3
theorem InjD.add{D:Af}(h:InjD D.now)(hok:DOk D)(s b:Ah5):InjD (Cd D s b).now:=by
 unfold Cd;split
 ·exact h
 ·exact h.turn _ fun _ e he q=>absurd (hok.now.num e he) (by rw[q];exact Nat.lt_irrefl _)
theorem FB{D:Af}{s t:Ah5}(hd:D.down=false)(hs:Bk s=true)(ht:Bk t=true):CB D s t=0:=by
 unfold CB;rw[if_neg (by rw[hd];decide),if_pos ⟨hs,ht⟩]
theorem Of{D:Af}(ha:D.arm=0):CS D=(D,false):=by
 unfold CS;exact if_pos ha
theorem Mn{D:Af}{s b:Ah5}(hd:D.down=false)(ha:D.arm=0)(hm:Bk s=true)(hq:usedD D+b.length<=D.quota):A2 D s b=(Cd D s b,0):=by
 unfold A2;rw[if_neg (by rw[FB hd hm hm];exact fun q=>q rfl),if_neg (by omega),Of ha];rfl
theorem LA{D:Af}{s:Ah5}{k:Nat}(hd:D.down=false)(ha:D.arm=0)(hm:Bk s=true)(hk:Aw D.now s=some k):
  BD D s=({ D with files:=D.files.set k ((AY D k).1,(AY D k).1.length),kept:=D.now,acts:= [] },0):=by
 have h:FE D s s = .ok k:=by
  unfold FE;rw[if_neg (by rw[FB hd hm hm];exact fun q=>q rfl),hk]
 unfold BD;rw[h];show DV D _=_;unfold DV;rw[Of ha];rfl
theorem OX{l:List (Ah5 × Nat)}{k:Nat}{x:Ah5 × Nat}(h:k<l.length):(l.set k x).getD k ([],0)=x:=by
 rw[AbN,List.getElem?_set_self h];rfl
structure Sy (D : Af) (s : Ah5) (k n0 : Nat) (al : Ah5) : Prop where
 down:D.down=false
 arm:D.arm=0
 ok:DOk D
 may:Bk s=true
 inj:InjD D.now
 now:Aw D.now s=some k
 kept:Aw D.kept s=some k
 acts:∀a∈D.acts,a.to≠s/\a.frm≠s
 file:AY D k=(al,n0)
theorem Pz(D:Af)(s b:Ah5):(Cd D s b).arm=D.arm/\(Cd D s b).down=D.down:=by
 unfold Cd;split <;> exact⟨rfl,rfl⟩
structure ReadyL (D : Af) : Prop where
 down:D.down=false
 arm:D.arm=0
 ok:DOk D
 inj:InjD D.now
theorem Sy.ready{D:Af}{s al:Ah5}{k a:Nat}(h:Sy D s k a al):ReadyL D:=⟨h.down,h.arm,h.ok,h.inj⟩
theorem LB{b:Ah5}(h:b.length=32):Bk (nmO b)=true:=by
 unfold Bk;rw[VV h];rfl
section
variable {D : Af} {s b : Ah5} {k : Nat}
theorem Sy.sync(h:ReadyL D)(hm:Bk s=true)(hk:Aw D.now s=some k):(BD D s).2=0/\Sy (BD D s).1 s k (AY D k).1.length (AY D k).1:=by
 have e:=LA h.down h.arm hm hk;have hkl:=(h.ok.now.look hk).1;rw[e];exact⟨rfl,h.down,h.arm,h.ok.synced k,hm,h.inj,hk,hk,(fun a h=>by cases h),OX hkl⟩
theorem Wo(hd:D.down=false)(ha:D.arm=0)(hm:Bk s=true)(hk:Aw D.now s=some k):By D s=(turnedD D ⟨s,[],k⟩,0):=by
 have h:FE D s s = .ok k:=by
  unfold FE;rw[if_neg (by rw[FB hd hm hm];exact fun q=>q rfl),hk]
 unfold By;rw[h];show DV D _=_;unfold DV;rw[Of ha];rfl
theorem ReadyL.dropped(h:ReadyL D)(hm:Bk s=true)(hk:Aw D.now s=some k):ReadyL (turnedD D ⟨s,[],k⟩):=
 ⟨h.down,h.arm,h.ok.turned ⟨(h.ok.now.look hk).1,fun q=>absurd rfl q,(Cv hm).2⟩,InjD.turn h.inj ⟨s,[],k⟩ fun q=>absurd rfl q⟩
theorem Og(hl:Aw D.now s=none):Cd D s b = { turnedD D ⟨[],s,D.files.length⟩with files:=D.files++ [(b,0)] } :=by
 unfold Cd;rw[hl]
theorem Oh(hm:Bk s=true)(hl:Aw D.now s=none):Aw (Cd D s b).now s=some D.files.length/\AY (Cd D s b) D.files.length=(b,0):=by
 have h0:=(Cv hm).1;rw[Og hl];refine⟨?_,?_⟩
 ·show Aw (turnD D.now ⟨[],s,D.files.length⟩) s=_;rw[look_turn,if_neg (show ¬s.length=0 by omega),if_pos (show s=s from rfl)]
 ·show(D.files++ [(b,0)]).getD D.files.length ([],0)=_;rw[AbN,AcA (AbO _),Ady];rfl
theorem ReadyL.add(h:ReadyL D)(hm:Bk s=true)(b:Ah5):ReadyL (Cd D s b):=
 ⟨(Pz D s b).2.trans h.down,(Pz D s b).1.trans h.arm,h.ok.add b hm,h.inj.add h.ok s b⟩
theorem IS{a:Stp}{r:List Stp}(h:(CQ D s a).2=0):AR D s (a :: r)=AR (CQ D s a).1 s r:=by
 rw[E3,if_neg (by rw[h];exact fun q=>q rfl)]
theorem GH(hd:D.down=false)(hm:Bk s=true)(h:Aw D.now s=none):An D s=([],4):=by
 unfold An FE;rw[if_neg (by rw[FB hd hm hm];exact fun q=>q rfl),h]
theorem S8(D:Af)(id:Ah5):DC (D,0) id=(D,id,[],0):=if_neg fun q=>q rfl
theorem Sy.put(h:Sy D (nmO (Sha.sum b)) k b.length b):BP D b=({ D with kept:=D.now,acts:= [] },Sha.sum b,[],0):=by
 have hr:An D (nmO (Sha.sum b))=(b,0):=by rw[Lz h.down h.may h.now,h.file]
 have e:=LA h.down h.arm h.may h.now;have hkl:=(h.ok.now.look h.now).1;have hs:D.files.set k ((AY D k).1,(AY D k).1.length)=D.files:=by
  rw[h.file];refine List.ext_getElem (by simp) fun i h1 h2=> ?_;rw[List.getElem_set];split
  ·rename_i q
   subst q;have:=h.file;unfold AY at this;rw[AbN,AbT hkl]at this;exact this.symm
  ·rfl
 rw[hs]at e;unfold BP;rw[hr,if_neg (show ¬(0:Nat)=4 by decide),if_neg (show ¬(0:Nat)≠0 from fun q=>q rfl),if_pos rfl,IS (a:= .sync) (by show(BD D _).2=0;rw[e])];show DC (AR (BD D _).1 _ []) _=_;rw[e];exact S8 _ _
end
theorem PA{a b:Bs}(ha:a.length=32)(hb:b.length=32)(h:nmO a=nmO b):a=b:=by
 have q1:hexOf a=hexOf b:=List.append_cancel_left h;have q2:=Fo a ha;rw[q1,Fo b hb]at q2;exact(congrArg Aci q2).symm
theorem Xu(b x:Bs):Ax b≠nmO x:=fun h=>by
 have h2:=congrArg (fun l:Bs=>l.getD 0 0) h;have h3:(112:UInt8)=111:=h2;exact absurd h3 (by decide)
theorem Wp(b:Bs):Bk (Ax b)=true:=by
 unfold Bk;rw[Lt];rfl
theorem Vf{x:Bs}(hx:x.length=32):DT [111,45] (nmO x)=true:=by
 have hc:Bm [111,45] (nmO x)=(hexOf x,true):=rfl;unfold DT;rw[hc,Fo x hx];rfl
theorem Xv(b:Bs):DT [112,45] (Ax b)=true:=by
 have hc:Bm [112,45] (Ax b)=(hexOf (Sha.sum b),true):=rfl;unfold DT;rw[hc,Fo _ (Sha.sum_length b)];rfl
theorem PB{p s:Bs}(h:(Bm p s).2=true):s.take p.length=p:=by
 unfold Bm at h;split at h
 ·rename_i q;exact q.2
 ·cases h
theorem UH{s:Bs}(h:DT [112,45] s=true):DT [111,45] s=false:=by
 cases q:DT [111,45] s with
 | false=>rfl
 | true=>
  unfold DT at h q;have h1:=PB (Bool.and_eq_true_iff.1 h).1;have h2:=PB (Bool.and_eq_true_iff.1 q).1;have h3:s.take 2= [112,45]:=h1;have h4:s.take 2= [111,45]:=h2;rw[h3]at h4;exact absurd h4 (by decide)
section
variable {D : Af} {b : Bs}
structure LoD (D : Af) : Prop where
 ready:ReadyL D
 kept:D.kept=D.now
 acts:D.acts= []
 file:∀e∈D.now,∃c,AY D e.2=(c,c.length)/\e.1=nmO (Sha.sum c)/\c.length<=200
theorem LoD.new(q:Nat):LoD (Fc q):=⟨⟨rfl,rfl,⟨AbG _,AbG _,(fun _ h=>by cases h),(fun _ h=>by cases h)⟩,AdJ⟩,rfl,rfl,fun e h=>by cases h⟩
theorem LoD.get_some(h:LoD D){id:Bs}(hid:id.length=32){k:Nat}(hk:Aw D.now (nmO id)=some k):∃c,AY D k=(c,c.length)/\Sha.sum c=id/\c.length<=200/\C8 D id=(c,0):=by
 obtain⟨c,h1,h2,h3⟩:=h.file _ (Ed hk);have e:Sha.sum c=id:=(PA hid (Sha.sum_length c) h2).symm;have hr:An D (nmO id)=(c,0):=by rw[Lz h.ready.down (LB hid) hk,h1]
 refine⟨c,h1,e,h3,?_⟩;unfold C8;rw[hr,if_neg (fun q=>q.elim (fun x=>by cases x) fun q=>q.2 e)]
theorem Je(hd:D.down=false){id:Bs}(hid:id.length=32)(hk:Aw D.now (nmO id)=none):C8 D id=([],12):=by
 unfold C8;rw[GH hd (LB hid) hk,if_pos (.inl rfl)]
theorem Jy{s:Bs}(hd:D.down=false)(hm:Bk s=true)(hq:D.quota<usedD D+b.length):A2 D s b=({ D with refused:=D.refused+1 },8):=by
 unfold A2;rw[if_neg (by rw[FB hd hm hm];exact fun q=>q rfl),if_pos hq]
theorem LoD.same(h:LoD D):({ D with kept:=D.now,acts:= [] } :Af)=D:=by
 have h1:=h.kept;have h2:=h.acts;cases D;simp only at h1 h2;subst h1 h2;rfl
theorem LoD.sy(h:LoD D){s:Bs}{k:Nat}(hk:Aw D.now s=some k):∃c,AY D k=(c,c.length)/\Sy D s k c.length c:=by
 obtain⟨c,h1,-⟩:=h.file _ (Ed hk);exact⟨c,h1,h.ready.down,h.ready.arm,h.ready.ok,(h.ready.ok.now.look hk).2,h.ready.inj,hk,by rw[h.kept];exact hk,(fun a q=>by rw[h.acts]at q;cases q),h1⟩
def addS(D:Af)(s b:Bs):Af:= { turnedD D ⟨[],s,D.files.length⟩with files:=D.files++ [(b,b.length)],kept:=turnD D.now ⟨[],s,D.files.length⟩,acts:= [] }
theorem UI{l:List (Ah5 × Nat)}{x y:Ah5 × Nat}:(l++ [x]).set l.length y=l++ [y]:=by
 rw[List.set_append_right _ _ (AbO _),Ady];rfl
theorem J6(h:ReadyL D){s:Bs}(hm:Bk s=true)(hl:Aw D.now s=none):BD (Cd D s b) s=(addS D s b,0):=by
 obtain⟨l1,l2⟩:=Oh (b:=b) hm hl;have hr:=h.add hm b;rw[LA hr.down hr.arm hm l1,l2];rw[Og hl];show(({ turnedD D ⟨[],s,D.files.length⟩with files:=(D.files++ [(b,0)]).set D.files.length (b,b.length),kept:=turnD D.now ⟨[],s,D.files.length⟩,acts:= [] } :Af),0)=_;rw[UI];rfl
theorem IT{s:Bs}(hm:Bk s=true)(t:Bs)(ht:t≠ []):Aw (addS D s b).now t=if t=s then some D.files.length else Aw D.now t:=by
 have h0:=(Cv hm).1;show Aw (turnD D.now ⟨[],s,D.files.length⟩) t=_;rw[look_turn,if_neg (show ¬s.length=0 by omega)];show(if t=s then some D.files.length else if t= []then none else Aw D.now t)=_;rw[if_neg ht]
theorem Mo{s:Bs}:AY (addS D s b) D.files.length=(b,b.length):=by
 show(D.files++ [(b,b.length)]).getD D.files.length ([],0)=_;rw[AbN,AcA (AbO _),Ady];rfl
theorem Oi{s:Bs}{k:Nat}(hk:k<D.files.length):AY (addS D s b) k=AY D k:=by
 show(D.files++ [(b,b.length)]).getD k ([],0)=_;rw[AbN,List.getElem?_append_left hk];rfl
theorem K5(h:ReadyL D){s:Bs}(hm:Bk s=true)(hl:Aw D.now s=none):ReadyL (addS D s b):=by
 obtain⟨l1,l2⟩:=Oh (b:=b) hm hl;have:=(Sy.sync (h.add hm b) hm l1).2.ready;rw[J6 h hm hl]at this;exact this
theorem UJ{s:Bs}{e:Ah5 × Nat}(he:e∈(addS D s b).now):e∈D.now\/e=(s,D.files.length):=(JR he).imp id fun q=>q.2
theorem S9(x:Bs):nmO x≠ []:=fun h=>by cases h
theorem LoD.put(h:LoD D)(hb:b.length<=200):
  (∃c,BP D b=(D,Sha.sum b,c,7)/\C8 D (Sha.sum b)=(c,0)/\c≠b) \/
  (BP D b=({ D with refused:=D.refused+1 },GE,[],8)/\D.quota<usedD D+b.length) \/
  (∃D',BP D b=(D',Sha.sum b,[],0)/\LoD D' /\D'.refused=D.refused/\D'.quota=D.quota/\C8 D' (Sha.sum b)=(b,0)/\∀id:Bs,id.length=32->id≠Sha.sum b->C8 D' id=C8 D id):=by
 have hs:=Sha.sum_length b;have hm:Bk (nmO (Sha.sum b))=true:=LB hs;cases hk:Aw D.now (nmO (Sha.sum b))with
 | none=>
  have g:BP D b=DC (AR D (nmO (Sha.sum b)) [.add b, .sync]) (Sha.sum b):=by
   unfold BP;rw[GH h.ready.down hm hk,if_pos rfl]
  by_cases hq:D.quota<usedD D+b.length
  ·refine .inr (.inl ⟨?_,hq⟩);have f:CQ D (nmO (Sha.sum b)) (.add b)=({ D with refused:=D.refused+1 },8):=Jy h.ready.down hm hq;rw[g,E3,f,if_pos (show ¬(8:Nat)=0 by decide)];rfl
  ·have f:CQ D (nmO (Sha.sum b)) (.add b)=(Cd D (nmO (Sha.sum b)) b,0):=Mn h.ready.down h.ready.arm hm (by omega);have i:CQ (Cd D (nmO (Sha.sum b)) b) (nmO (Sha.sum b)) .sync=(addS D (nmO (Sha.sum b)) b,0):=J6 h.ready hm hk;have l:BP D b=(addS D (nmO (Sha.sum b)) b,Sha.sum b,[],0):=by
    rw[g,IS (by rw[f]),f,IS (by rw[i]),i];exact S8 _ _
   have j:=K5 (b:=b) h.ready hm hk;have hf:∀e∈(addS D (nmO (Sha.sum b)) b).now,∃c,AY (addS D (nmO (Sha.sum b)) b) e.2=(c,c.length)/\e.1=nmO (Sha.sum c)/\c.length<=200:=fun e he=>by
    rcases UJ he with he | rfl
    ·rw[Oi (h.ready.ok.now.num e he)];exact h.file e he
    ·exact⟨b,Mo,rfl,hb⟩
   have hL:LoD (addS D (nmO (Sha.sum b)) b):=⟨j,rfl,rfl,hf⟩;refine .inr (.inr ⟨_,l,hL,rfl,rfl,?_,fun id hid hne=> ?_⟩)
   ·obtain⟨c,q1,q2,q3,q4⟩:=hL.get_some hs (by rw[IT hm _ (S9 _),if_pos rfl]);rw[Mo]at q1;cases q1;exact q4
   ·have hlk:Aw (addS D (nmO (Sha.sum b)) b).now (nmO id)=Aw D.now (nmO id):=by rw[IT hm _ (S9 _),if_neg fun q=>hne (PA hid hs q)]
    cases a:Aw D.now (nmO id)with
    | none=>rw[Je h.ready.down hid a,Je j.down hid (hlk.trans a)]
    | some k=>
     obtain⟨c,q1,q2,q3,q4⟩:=h.get_some hid a;obtain⟨c',p1,p2,p3,p4⟩:=hL.get_some hid (hlk.trans a);rw[Oi (h.ready.ok.now.look a).1,q1]at p1;rw[q4,p4,(Prod.mk.inj p1).1]
 | some k=>
  obtain⟨c,q1,q2,q3,q4⟩:=h.get_some hs hk;have hr:An D (nmO (Sha.sum b))=(c,0):=by rw[Lz h.ready.down hm hk,q1]
  by_cases hc:c=b
  ·subst hc;refine .inr (.inr ⟨D,?_,h,rfl,rfl,q4,fun _ _ _=>rfl⟩);obtain⟨c2,p1,hsy⟩:=h.sy hk;rw[q1]at p1;cases p1;rw[hsy.put,h.same]
  ·refine .inl ⟨c,?_,q4,hc⟩;unfold BP;rw[hr,if_neg (show ¬(0:Nat)=4 by decide),if_neg (show ¬(0:Nat)≠0 from fun q=>q rfl),if_neg hc,if_pos q2]
theorem K6:∀(l:List Bs) {D:Af},ReadyL D->l.Nodup->(∀s∈l,∃k,Aw D.now s=some k)->∃D',BN D l=(D',0)/\ReadyL D' /\D'.files=D.files/\D'.quota=D.quota/\D'.refused=D.refused/\∀t,Aw D'.now t=if t∈l then none else Aw D.now t
 | [],D,h,_,_=>⟨D,rfl,h,rfl,rfl,rfl,fun t=>(if_neg Adz).symm⟩
 | s :: r,D,h,hn,hl=>by
  obtain⟨k,hk⟩:=hl s AcT;obtain⟨a,b⟩:=List.nodup_cons.1 hn;have hm:=(h.ok.now.look hk).2;have e:=Wo h.down h.arm hm hk;have hlk:∀t,Aw (turnedD D ⟨s,[],k⟩).now t=if t=s then none else Aw D.now t:=fun t=>by
   show Aw (turnD D.now ⟨s,[],k⟩) t=_;rw[look_turn,if_pos (show([]:Ah5).length=0 from rfl)]
  obtain⟨D',q1,q2,q3,q4,q5,q6⟩:=K6 r (h.dropped hm hk) b fun t ht=>by
   obtain⟨j,hj⟩:=hl t (AcW _ ht);exact⟨j,by rw[hlk,if_neg (fun(q:t=s)=>a (q▸ht))];exact hj⟩
  refine⟨D',?_,q2,q3,q4,q5,fun t=> ?_⟩
  ·rw[FW,e,if_neg (fun q=>q rfl)];exact q1
  ·rw[q6,hlk];by_cases h1:t=s
   ·rw[if_pos h1,if_pos (show t∈s :: r by rw[h1];exact AcT)];split <;> rfl
   ·rw[if_neg h1];by_cases h2:t∈r
    ·rw[if_pos h2,if_pos (AcW _ h2)]
    ·rw[if_neg h2,if_neg (fun q=>(Acy.1 q).elim h1 h2)]
theorem PC(hd:D.down=false):Bd D=D.now.map Aci:=if_neg (by rw[hd];decide)
theorem GI(h:ReadyL D){s:Bs}:s∈Bd D↔∃k,Aw D.now s=some k:=by
 rw[PC h.down];constructor
 ·intro q;obtain⟨e,he,rfl⟩:=Acw.1 q;exact⟨_,I8 h.ok.now.sort he⟩
 ·rintro⟨k,hk⟩;exact Acw.2 ⟨_,Ed hk,rfl⟩
theorem HQ{M:AP}{s:Bs}:s∈goneV D M↔s∈Bd D/\((DT [112,45] s=true/\M.lookup s=none)\/DT [111,45] s=true):=by
 unfold goneV Av;rw[Acb,Adr,Adr,Adr,Option.isNone_iff_eq_none];constructor
 ·rintro(⟨⟨h1,h2⟩,h3⟩ | ⟨h1,h2⟩)
  ·exact⟨h1, .inl ⟨h2,h3⟩⟩
  ·exact⟨h1, .inr h2⟩
 ·rintro⟨h1,⟨h2,h3⟩ | h2⟩
  ·exact .inl ⟨⟨h1,h2⟩,h3⟩
  ·exact .inr ⟨h1,h2⟩
theorem Q4(h:DOk D)(M:AP):(goneV D M).Nodup:=by
 unfold goneV;refine List.nodup_append.2 ⟨((FV h _).nodup).filter _,(FV h _).nodup,fun a ha c hc e=> ?_⟩;subst e;have h1:=(Adr.1 (Adr.1 ha).1).2;have h2:=(Adr.1 hc).2;rw[UH h1]at h2;cases h2
theorem IU(h:ReadyL D)(L M:AP):∃D',EI D L M=(D',M,[],0)/\ReadyL D' /\D'.files=D.files/\D'.quota=D.quota/\D'.refused=D.refused/\∀t,Aw D'.now t=if t∈goneV D M then none else Aw D.now t:=by
 obtain⟨D',q1,q2⟩:=K6 (goneV D M) h (Q4 h.ok M) fun s hs=>(GI h).1 (HQ.1 hs).1;refine⟨D',?_,q2⟩;unfold EI;rw[q1,if_neg (fun q=>q rfl)]
end
section
variable {D : Af} {o : List Bs} {ch : List Int}
theorem Oj(D:Af)(id:Bs):getV D [] id=C8 D id:=rfl
theorem Wq(h:LoD D)(h60:o.length<=60)(hn:o.Nodup)(hv:Jd D [] o):
  (BE D [] o ch=({ D with refused:=D.refused+1 },[],[],8)/\D.quota<usedD D+40000) \/
  ∃D' M,BE D [] o ch=(D',M,[],0)/\ReadyL D' /\D'.refused=D.refused/\(∀t k,Aw D'.now t=some k->∃e∈M,t=e.1)/\M.length=(if o= []then 0 else 1)/\(∀id∈o,Ay M id=some (C8 D id).1)/\GoodL M:=by
 have hnam:∀t k,Aw D.now t=some k->∃x:Bs,x.length=32/\t=nmO x:=fun t k hk=>by
  obtain⟨c,h1,h2,h3⟩:=h.file _ (Ed hk);exact⟨_,Sha.sum_length c,h2⟩
 by_cases hne:o= []
 ·subst hne;have hp:AL D [] [] ch=([],0):=by
   unfold AL;rw[if_neg (K3 hv),if_pos rfl]
  obtain⟨D',q1,q2,q3,q4,q5,q6⟩:=IU h.ready [] [];refine .inr ⟨D',[],?_,q2,q5,fun t k hk=> ?_,rfl,(fun id hid=>by cases hid),fun e he=>by cases he⟩
  ·rw[IM (by rw[hp];exact fun q=>q rfl) (by rw[hp])];exact q1
  ·exfalso;rw[q6]at hk;split at hk
   ·cases hk
   ·rename_i hg
    obtain⟨x,hx,rfl⟩:=hnam t k hk;exact hg (HQ.2 ⟨(GI h.ready).2 ⟨k,hk⟩, .inr (Vf hx)⟩)
 ·obtain⟨b,p,hp,hop,hbl,hids,hobj,-⟩:=SX (ch:=ch) hv h60 hn hne;have h0:¬(AL D [] o ch).2≠0:=by rw[hp];exact fun q=>q rfl
  have i:=J5 (L:= []) h0 (by rw[hp]) hop;have hm:=Wp b;have hl:Aw D.now (Ax b)=none:=by
   cases e:Aw D.now (Ax b)with
   | none=>rfl
   | some k=>
    obtain⟨x,-,q⟩:=hnam _ _ e;exact absurd q (Xu b x)
  have hw:AE D b=FG D b:=by
   rw[FX (by rw[GH h.ready.down hm hl];exact fun q=>by cases q),GH h.ready.down hm hl];exact if_neg fun q=>q.2 rfl
  by_cases hq:D.quota<usedD D+b.length
  ·left;have a:A2 D (Ax b) b=_:=Jy h.ready.down hm hq;have f:FG D b=({ D with refused:=D.refused+1 },false,8):=by
    unfold FG;rw[a];exact if_pos (show ¬(8:Nat)=0 by decide)
   refine⟨?_,by omega⟩;rw[i,hw,f];exact K4 rfl rfl
  ·right;have a:A2 D (Ax b) b=_:=Mn h.ready.down h.ready.arm hm (by omega);have f:FG D b=(addS D (Ax b) b,true,0):=by
    unfold FG;rw[a,if_neg (fun q=>q rfl),J6 h.ready hm hl]
   have g:=K5 (b:=b) h.ready hm hl;obtain⟨D',q1,q2,q3,q4,q5,q6⟩:=IU g [] [(Ax b,p)];refine⟨D',[(Ax b,p)],?_,q2,q5,fun t k hk=> ?_,by rw[if_neg hne];rfl,fun id hid=> ?_,fun e he=> ?_⟩
   ·rw[i,hw,f];exact q1
   ·rw[q6]at hk;split at hk
    ·cases hk
    ·rename_i hg
     by_cases ht:t=Ax b
     ·exact⟨_,AbW.2 rfl,ht⟩
     ·exfalso;have hmem:=hk;by_cases ht0:t= []
      ·subst ht0;rw[g.ok.now.noEmpty]at hk;cases hk
      ·rw[IT hm _ ht0,if_neg ht]at hk;obtain⟨x,hx,rfl⟩:=hnam t k hk;exact hg (HQ.2 ⟨(GI g).2 ⟨k,hmem⟩, .inr (Vf hx)⟩)
   ·obtain⟨d,hd⟩:=hobj id hid;show List.findSome? _ [(Ax b,p)]=_;rw[List.findSome?_cons];have hd2:Option.map Aci ((Ax b,p).2.2 id)=some (getV D [] id).1:=by
     show Option.map Aci (p.2 id)=_;rw[hd];rfl
    rw[hd2];rfl
   ·rw[AbW.1 he];exact⟨b,hop,rfl⟩
theorem UK{M:AP}(h:ReadyL D)(hM:∀t k,Aw D.now t=some k->∃b,t=Ax b):∃D',BE D M [] ch=(D',[],[],0)/\ReadyL D' /\D'.now= []:=by
 have hp:AL D M [] ch=([],0):=by
  unfold AL;rw[if_neg (fun⟨id,hid,_⟩=>by cases hid),if_pos rfl]
 obtain⟨D',q1,q2,q3,q4,q5,q6⟩:=IU h M [];refine⟨D',?_,q2,?_⟩
 ·rw[IM (by rw[hp];exact fun q=>q rfl) (by rw[hp])];exact q1
 ·cases e:D'.now with
  | nil=>rfl
  | cons x r=>
   exfalso;have hk:=I8 q2.ok.now.sort (e▸AcT:x∈D'.now);rw[q6]at hk;split at hk
   ·cases hk
   ·rename_i hg
    obtain⟨b,hb⟩:=hM _ _ hk;exact hg (HQ.2 ⟨(GI h).2 ⟨_,hk⟩, .inl ⟨by rw[hb];exact Xv b,rfl⟩⟩)
end
theorem DBd.kept{m:Nat}{D:Af}{L:AP}{o:List Bs}{ch:List Int}(h:DBd m D)(hp:¬(AL D L o ch).2≠0->(AL D L o ch).1= []\/∃p,(AL D L o ch).1= [AX D L o ch 0]/\BY (AX D L o ch 0) = .ok p/\(AX D L o ch 0).length<=40000):DBd (3*m+606) (BE D L o ch).1:=by
 have hl:∀(k:Nat) (E:Af) (M:AP),DBd k E->DBd (3*k) (EI E L M).1:=fun k E M hE=>by
  have h1:=(hE.drops (goneV E M)).mono (show k+(goneV E M).length<=3*k by have:=Pw hE M;omega);unfold EI;split <;> exact h1
 unfold BE;split
 ·exact h.mono (by omega)
 ·rename_i hc
  have hp:=hp hc;split
  ·exact(hl m D [] h).mono (by omega)
  ·rename_i b r e
   have hb:b.length<=60000:=by
    rcases hp with q | ⟨p,q1,q2,q3⟩
    ·rw[q]at e;cases e
    ·rw[q1]at e;cases e;omega
   have hw:=h.write hb;unfold KZ;split
   ·rename_i p _
    unfold EB;split
    ·have hd:=(hw.drops (if(AE D b).2.1=true then [Ax b]else [])).mono (show _<=3*m+606 by split <;> simp <;> omega);have f:∀(c:Prop) [Decidable c] (a d:Af × AP × List Bs × Nat),DBd (3*m+606) a.1->DBd (3*m+606) d.1->DBd (3*m+606) (if c then a else d).1:=fun c _ a d h1 h2=>by split <;> assumption
     exact f _ _ _ hd hd
    ·split
     ·exact hw.mono (by omega)
     ·split
      ·exact hw.mono (by omega)
      ·exact(hl _ _ _ hw).mono (by omega)
   ·exact h.mono (by omega)
theorem DBd.putL{m:Nat}{D:Af}(h:DBd m D){b:Bs}(hb:b.length<=300):DBd (m+3) (BP D b).1:=by
 have hst:∀(acs:List Stp) {n:Nat} {E:Af},DBd n E->(∀x,Stp.add x∈acs->x=b)->DBd (n+acs.length) (AR E (nmO (Sha.sum b)) acs).1:=by
  intro acs
  induction acs with
  | nil=>intro n E hE _;exact hE
  | cons a r ih=>
   intro n E hE hx;have h1:=hE.step (nmO (Sha.sum b)) a fun x e=>by rw[hx x (e▸AcT)];exact hb
   rw[E3];split
   ·exact h1.mono (by rw[Ach];omega)
   ·have:=ih h1 fun x hm=>hx x (AcW _ hm);exact this.mono (by rw[Ach];omega)
 have hf:∀(r:Af × Nat) (id:Bs),DBd (m+3) r.1->DBd (m+3) (DC r id).1:=fun r id hr=>by
  unfold DC;split <;> exact hr
 have hs:∀acs:List Stp,acs.length<=3->(∀x,Stp.add x∈acs->x=b)->DBd (m+3) (DC (AR D (nmO (Sha.sum b)) acs) (Sha.sum b)).1:=fun acs hl hx=>hf _ _ ((hst acs h hx).mono (by omega));unfold Go.Proofs.YtfpekahfdalfkaaGreatDoor.BP;split
 ·exact hs _ (by simp) (by simp)
 split
 ·exact h.mono (by omega)
 split
 ·exact hs _ (by simp) (by simp)
 split
 ·exact h.mono (by omega)
 ·exact hs _ (by simp) (by simp)
theorem UL{a:List Bs}{x:Bs}(ha:GR a)(h1:∀y,y∈a↔y∈ [x]):a= [x]:=by
 have hn:a.Nodup:=ha.imp fun hab e=>by rw[e,M9]at hab;omega
 have h2:a.Perm [x]:=(Aer hn (by simp)).2 h1;exact List.perm_singleton.1 h2
theorem putV_nil(D:Af){b:Bs}(hb:b.length<=262144):Ee D [] b=BP D b:=by
 unfold Ee;rw[if_neg (by omega)];rfl
def W1(id:Bs)(r:Af × AP × List Bs × Nat):Prop:=r.2.2.2=0/\DBd 2451 r.1/\Bd r.1= []/\getV r.1 r.2.1 id=([],12)
def XB(id:Bs)(r:Af × AP × List Bs × Nat):Prop:=r.2.2.2=0/\DBd 615 r.1/\r.2.1.length=1/\getV r.1 r.2.1 id=([97,98,99],0)/\∀(o2:List Bs) (ch:List Int),(∀x,x∈o2↔x∈([]:List Bs))->W1 id (BE r.1 r.2.1 o2 ch)
theorem XG:∃(D1:Af) (id:Bs),id.length=32/\Ee (Fc 100000) [] [97,98,99]=(D1,id,[],0)/\DBd 3 D1/\C8 D1 id=([97,98,99],0)/\∀(o:List Bs) (ch:List Int),GR o->(∀x,x∈o↔x∈ [id])->XB id (BE D1 [] o ch):=by
 have hs:=Sha.sum_length [97,98,99];have h0:=LoD.new 100000;have i:DBd 0 (Fc 100000):=DBd.new (by decide);rcases h0.put (b:= [97,98,99]) (by decide)with ⟨c,q1,q2,q3⟩ | ⟨q1,q2⟩ | ⟨D1,q1,q2,q3,q4,q5,q6⟩
 ·exfalso;rw[Je rfl hs rfl]at q2;cases q2
 ·exact absurd q2 (by decide)
 have a:=i.putL (b:= [97,98,99]) (by decide);rw[q1]at a;have a:DBd 3 D1:=a;refine⟨D1,_,hs,by rw[putV_nil _ (by decide)];exact q1,a,q5,fun o ch hS hM=> ?_⟩;have ho:=UL hS hM;subst ho;have hv:Jd D1 [] [Sha.sum [97,98,99]]:=fun id hid=>by
  rw[AbW.1 hid,Oj,q5];exact⟨rfl,by decide,rfl⟩
 have hu:=a.used;rcases Wq (ch:=ch) q2 (by decide) (by simp) hv with ⟨-,r2⟩ | ⟨D2,M,r1,r2,r3,r4,r5,r6,r7⟩
 ·rw[q4]at r2;have:(Fc 100000).quota=100000:=rfl;omega
 have hpp:¬(AL D1 [] [Sha.sum [97,98,99]] ch).2≠0->_:=fun h=>IR (fun _=>IP hv (by decide)) h;have f:=a.kept (L:= []) (o:= [Sha.sum [97,98,99]]) (ch:=ch) hpp;rw[r1]at f;rw[r1];refine⟨rfl,f,r5,?_,fun o2 ch2 hM2=> ?_⟩
 ·have:=r6 _ (AbW.2 rfl);rw[q5]at this;show getV D2 M _=_;unfold getV;rw[this]
 have j:o2= []:=List.eq_nil_iff_forall_not_mem.2 fun x hx=>by have:=(hM2 x).1 hx;cases this
 subst j;obtain⟨D3,s1,s2,s3⟩:=UK (ch:=ch2) (M:=M) r2 fun t k hk=>by
  obtain⟨e,he,rfl⟩:=r4 t k hk;obtain⟨b,-,hb⟩:=r7 e he;exact⟨b,hb⟩
 have g:=f.kept (L:=M) (o:= []) (ch:=ch2) fun h=>IR (fun _=>by
  refine⟨by rw[partsK_len];decide,fun p hp=> ?_⟩;have:AM D2 M [] ch2= []:=Acv partsK_len;rw[this]at hp;cases hp) h
 rw[s1]at g;show W1 _ (BE D2 M [] ch2);rw[s1];refine⟨rfl,g,?_,?_⟩
 ·show Bd D3= [];rw[PC s2.down,s3];rfl
 ·show C8 D3 _=_;exact Je s2.down hs (by rw[s3];rfl)
theorem UM:Plain AbL 21:=fun _ _=>by kernel_rfl
theorem UN:Plain AbL 13:=fun _ _=>by kernel_rfl
theorem UO:Plain AbL 14:=fun _ _=>by kernel_rfl
theorem UP:∀(cs:Array AbI),cs.size=32->∀w:AbJ,(Acq 42 1 #[(0, .agg cs)]).run AbL w = .ok (.slice (some ⟨w.heap.size,0,none⟩) 1 1) (w.alloc (.cells cs 33))
 | ⟨[c0,c1,c2,c3,c4,c5,c6,c7,c8,c9,c10,c11,c12,c13,c14,c15,c16,c17,c18,c19,c20,c21,c22,c23,c24,c25,c26,c27,c28,c29,c30,c31]⟩,_,w=>To c0 c1 c2 c3 c4 c5 c6 c7 c8 c9 c10 c11 c12 c13 c14 c15 c16 c17 c18 c19 c20 c21 c22 c23 c24 c25 c26 c27 c28 c29 c30 c31 w
theorem Ok:Plain AbL 16:=fun _ _=>by kernel_rfl
theorem UQ:Plain AbL 19:=fun _ _=>by kernel_rfl
theorem UR:Plain AbL 17:=fun _ _=>by kernel_rfl
theorem Wr(w:AbJ)(hG:Laid w):
  Calls AbL 12 #[] w fun e w' =>e = .returned (.bool true)/\Ext w w' :=by
 refine gG (args:= []) Tryz.func12 rfl 87 rfl rfl ?_;have hE:=AaY w;refine Adj XG fun D1 haw2=>(Adj haw2 fun id1 haw3=> ?_);have hid1:=haw3.1;have haw:=haw3.2;refine gS (XX UM rfl ((Xl w _ hE 100000 (by decide)).mono ?_));rintro e g ⟨g1,H1,rfl,hD,ap⟩;refine⟨_,rfl,?_⟩;have hDc:=hD;refine gS (XX UN rfl ((Wm w _ g1 H1 (Fc 100000) hDc hG (DBd.lt (DBd.new (by decide)) (by decide):DN (Fc 100000)) (by decide) rfl).mono ?_));rintro e w7 ⟨gv,rfl,hVS_,aq⟩;refine⟨_,rfl,?_⟩;have hV:=hVS_;refine gS (AaZ (vs:= [PQ gv 0,NI 0]) rfl rfl (gS (AaZ (vs:= [PQ gv 0,NI 0]) rfl rfl ?_)));have hV:VtS w g.heap.size g1 gv w7 H1 (Fc 100000) []:=hV;have hV0:=hV;refine gS (ZV (e:=5) ([97,98,99]:Ah5) (by decide) (fun _ _=>by kernel_rfl) fun v9 a1 u=> ?_);have j:=AaY w7;have hE:=hE.trans (ap.trans aq);have ar:=hE.size;have n:=u.own;have hoff0:∀i,AbS v9=some i->¬B3 H1 (Fc 100000).files.length i:=fun i hi q=>by have h1:=(hV0.dk.st.foot q).2.1;have h2:=(n.lt i hi).1;omega
 refine gS (ZO F7 u5 rfl n (by decide) fun a2 ad ae=> ?_);have hE:=hE.trans u.ext;have hE:=Ao hE ae n ar;have j:=j.trans u.ext;have j:=Ao j ae n (AbO _);clear n;have hVc:=(hV.keep j);refine gS (XS UO rfl rfl ((WY w _ g.heap.size g1 gv H1 (Fc 100000) ([]) hVc hG v9 ([97,98,99]:Ah5) ad (.inr hoff0) (by decide) 0 (DBd.new (by decide)) (by omega) (D1,id1,[],0) haw.1).mono ?_));rintro e af ⟨H19,v,rfl,a3,hV22,hC23⟩;refine⟨_,rfl,?_⟩;have hE:Ext w af:=hV22.dk.ext;clear j;clear ad;have hV:=hV22;refine gS (AaZ (vs:= [AB id1,v,NI 0]) rfl rfl (gS (AaZ (vs:= [AB id1,v,NI 0]) rfl rfl (gS (AaZ (vs:= [AB id1,v,NI 0]) rfl rfl (gS (Aa3 Tn fun r au a4 ag av a5=> ?_)))))));have f:=AaY af;have a6:=hE.size;have c:=ag;clear ag;have a7:r<au.heap.size:=by omega
 refine gS (XT (vr (PQ r 0) rfl) (vr (AB id1) rfl) c (by exact BC hid1 Ab8) (by exact Ad hid1) (Ag _) fun a8 ah aw a9=> ?_);clear c;have c:=ah;clear ah;have ba:=bl c;refine gS (XU rfl c U7 rfl (by exact Ad hid1) (gS (Yu (a:=id1) (enc:=AbK) (vr (AB id1) rfl) ((by rw[Lib.byteCells_length,hid1])) UP fun ax bb ai aj=> ?_)));have f:=f.trans av;have f:=Ab f aw (AbM (AbO _) (by omega));have f:=f.trans aj;have hVc:=(hV.keep f);refine gS (Yf Ok rfl rfl rfl ((Py w _ g.heap.size g1 gv H19 (D1) ([]) hVc hG (ax) [id1] ai (fun x hx=>by rw[AbW.1 hx];exact hid1) (by show 1<=60;decide) (fun x hx q=>by rw[AbW.1 hx,Oj,haw.2.2.1];decide) (.slice none 0 0) [] (Abv _ _ _) (by decide) 3 haw.2.1 (by decide) (XB id1) (fun o hS hM=>haw.2.2.2 o [] hS hM)).mono ?_));rintro e ak ⟨H46,al,r2,rfl,k,-,hV47,hC48⟩;refine⟨_,rfl,?_⟩;have hE:=hE.trans f;have hE:Ext w ak:=hV47.dk.ext;have c:=eb aj c;have c:ak.heap[r]? =some (.cells (AbK id1).toArray 33 (0,0)):=VtS.box hVc hC48 c (by decide) (by decide) (by decide) (by decide) (by decide);clear ai;have hV:=hV47;refine gS (AaZ (vs:= [al,NI r2.2.2.2]) rfl rfl (gS (AaZ (vs:= [al,NI r2.2.2.2]) rfl rfl (gS (XU rfl c U7 rfl (by exact Ad hid1) ?_)))));have hVg:=hV;have hVc:=hV;refine gS (XS Up rfl rfl ((WZ w _ g.heap.size g1 gv H46 (r2.1) (r2.2.1) hVc hG (k.2.1.lt (by decide)) id1 hid1 (([97,98,99]:Ah5),0) k.2.2.2.1).mono ?_));rintro e bc ⟨am,rfl,s,an,ay⟩;refine⟨_,rfl,?_⟩;have hgotN:=ay;have hV:=hV.keep an;refine gS (AaZ (vs:= [am,NI 0]) rfl rfl (gS (AaZ (vs:= [am,NI 0]) rfl rfl (gS (XX UQ rfl ((UG w _ g.heap.size g1 gv H46 (r2.1) (r2.2.1) hV).mono ?_))))));rintro e bd ⟨rfl,t⟩;refine⟨_,rfl,?_⟩;have hgotN:=hgotN.keep t;have hgotN:=hgotN;have hV:=hV.keep t;have hVc:=hV;refine gS (Yf Ok rfl rfl rfl ((Py w _ g.heap.size g1 gv H46 (r2.1) (r2.2.1) hVc hG (.slice none 0 0) [] (Abv _ _ _) (fun x hx=>by cases hx) (by decide) (fun x hx=>by cases hx) (.slice none 0 0) [] (Abv _ _ _) (by decide) 615 k.2.1 (by decide) (W1 id1) (fun o hS hM=>k.2.2.2.2 o [] hM)).mono ?_));rintro e y ⟨H61,ao,r3,rfl,p,-,hV62,hC63⟩;refine⟨_,rfl,?_⟩;have s:=s.keep t;have hgot:=hVg.rbNew hC63 s hgotN;have hZ1:=an.trans t;have hE:=hE.trans hZ1;have hE:Ext w y:=hV62.dk.ext;have c:=eb hZ1 c;have c:y.heap[r]? =some (.cells (AbK id1).toArray 33 (0,0)):=VtS.box hVc hC63 c (by decide) (by decide) (by decide) (by decide) (by decide);clear hV;clear s;clear hgotN;have hV:=hV62;refine gS (AaZ (vs:= [ao,NI r3.2.2.2]) rfl rfl (gS (AaZ (vs:= [ao,NI r3.2.2.2]) rfl rfl (gS (XQ (a:=(0:Nat)) (b:=(0:Nat)) rfl rfl (AI _ _ _ _) (kT (rfl) (gS (XQ (a:=(0:Nat)) (b:=(0:Nat)) rfl rfl (AI _ _ _ _) (kT (rfl) (gS (XY rfl rfl (gS (XQ (a:=(r2.2.2.2:Nat)) (b:=(0:Nat)) rfl rfl (AI _ _ _ _) (kT (k.1) (gS (XY rfl rfl (gS (XQ (a:=(0:Nat)) (b:=(0:Nat)) rfl rfl (AI _ _ _ _) (kT (rfl) (gS (XY rfl rfl (gS (XQ (a:=(r3.2.2.2:Nat)) (b:=(0:Nat)) rfl rfl (AI _ _ _ _) (kT (p.1) (gS (XY rfl rfl (gS (Yo F7 u5 Pi (XV hgot rfl) (gS (YK (l:=([97,98,99]:Ah5)) (m:=([97,98,99]:Ah5)) (.inl rfl) rfl rfl (decide (([97,98,99]:Ah5)=(([97,98,99]:Ah5):Ah5))) rfl (kT (rfl) (gS (XY rfl rfl (gS (XQ (a:=(r2.2.1.length:Nat)) (b:=(1:Nat)) rfl rfl (AI _ _ _ _) (kT (k.2.2.1) (gS (XY rfl rfl ?_))))))))))))))))))))))))))))))))))))));have hVl:=hV;have z:=AaY y;have be:=hE.size;refine gS (XX Ui rfl ((hVl.dk.list (p.2.1.lt (by decide))).mono ?_));rintro e bf ⟨bg,rfl,az,aa⟩;refine⟨_,rfl,?_⟩;have c:=eb aa c;have z:=z.trans aa;refine gS (X6 NN (XW (X1 az) rfl) (gS (XQ (a:=(((Bd r3.1)).length:Nat)) (b:=(0:Nat)) rfl rfl (AI _ _ _ _) (kT ((by rw[p.2.2.1];rfl)) (gS (XY rfl rfl (gS (XU rfl c U7 rfl (by exact Ad hid1) (gS (XS UR rfl rfl (((show Calls _ _ _ _ (fun e w2=>e = .returned (.bool false)/\Ext _ w2)from by have h:=W0 w _ g.heap.size g1 gv H61 (r3.1) (r3.2.1) (hV.keep z) hG (p.2.1.lt (by decide)) id1 hid1;rw[p.2.2.2]at h;exact h)).mono ?_)))))))))));rintro e bh ⟨rfl,a0⟩;refine⟨_,rfl,?_⟩;refine gS (Yz rfl (gS (XY rfl rfl (Bp rfl (vr (.bool (true)) rfl) ?_))));have hE:=hE.trans (aa.trans a0);exact⟨rfl,hE⟩
open Go.ChangeShapes Go.WideShapes Go.ChangeAt Go.RowKit
theorem PD:Tryz.prog.globalNamed "variorum/sha.first" = some 0:=by kernel_rfl
theorem US:(Tryz.prog.globals[0]?).map (·.type)=some 182:=by kernel_rfl
theorem UT:Tryz.prog.cellsOf 182=8:=by kernel_rfl
def zs_first:List Int:= [1779033703,3144134277,1013904242,2773480762,1359893119,2600822924,528734635,1541459225]
theorem OY:(zs_first.map fun z=>Adm .u32 z).toArray=cellsU Sha.first:=by kernel_rfl
theorem PE:Tryz.prog.globalNamed "variorum/sha.words" = some 1:=by kernel_rfl
theorem UU:(Tryz.prog.globals[1]?).map (·.type)=some 183:=by kernel_rfl
theorem UV:Tryz.prog.cellsOf 183=64:=by kernel_rfl
def zs_words:List Int:= [1116352408,1899447441,3049323471,3921009573,961987163,1508970993,2453635748,2870763221,3624381080,310598401,607225278,1426881987,1925078388,2162078206,2614888103,3248222580,3835390401,4022224774,264347078,604807628,770255983,1249150122,1555081692,1996064986,2554220882,2821834349,2952996808,3210313671,3336571891,3584528711,113926993,338241895,666307205,773529912,1294757372,1396182291,1695183700,1986661051,2177026350,2456956037,2730485921,2820302411,3259730800,3345764771,3516065817,3600352804,4094571909,275423344,430227734,506948616,659060556,883997877,958139571,1322822218,1537002063,1747873779,1955562222,2024104815,2227730452,2361852424,2428436474,2756734187,3204031479,3329325298]
theorem OZ:(zs_words.map fun z=>Adm .u32 z).toArray=cellsU Sha.words:=by kernel_rfl
theorem W2:Tryz.prog.cellsOf 181=1:=by kernel_rfl
theorem Mp{P:Program}{W:AbJ}{name:String}{g:Nat}{cs:Array AbI}(hg:P.globalNamed name=some g)(h:W.var? P name=some cs):∃t fr,W.heap[g]? =some (.cells cs t fr):=by
 unfold World.var? at h;rw[hg]at h;simp only[Option.bind_some]at h;split at h
 ·rename_i cs' t fr he
  cases h;exact⟨t,fr,he⟩
 ·cases h
theorem Ws{W:AbJ}(h:laidMetH AbL [("variorum/sha.first",Rows.laid_variorum_sha_first),("variorum/sha.words",Rows.laid_variorum_sha_words)] W):Laid W:=by
 have h1:Lib.TabIs AbL W "variorum/sha.first" .u32 zs_first:=Lib.tabIs_of_head PD US Tryz.underlying182 Agl W2 UT h;have h2:Lib.TabIs AbL W "variorum/sha.words" .u32 zs_words:=Lib.tabIs_of_head (rest:= []) PE UU Tryz.underlying183 Agl W2 UV (laidMet.tail h);unfold Lib.TabIs at h1 h2;rw[OY]at h1;rw[OZ]at h2;exact⟨Mp PD h1,Mp PE h2⟩
noncomputable def IV(os:Os):AbJ:=
 let h0:=(World.holding AbL os ⟨#[],#[],[]⟩).heap
 let h1:=h0.modify 0 fun
  | .cells _ t frozen=> .cells (cellsU Sha.first) t frozen
  | o=>o
 let h2:=h1.modify 1 fun
  | .cells _ t frozen=> .cells (cellsU Sha.words) t frozen
  | o=>o
 { World.holding AbL os ⟨#[],#[],[]⟩with heap:=h2 }
theorem UW(os:Os)(args:Array AbI):laidMet AbL [("variorum/sha.first",Rows.laid_variorum_sha_first),("variorum/sha.words",Rows.laid_variorum_sha_words)] ((IV os).forCall (fun _ _=>0) ⟨#[],args,[]⟩).memory:=
 laidMet_of_run' 8 (by kernel_rfl) (by kernel_rfl)
open Go.ChangeShapes Go.WideShapes Go.ChangeAt Go.Deep
theorem Om(l:List Int):l.flatMap A1=l.map (Adm .i64):=by
 induction l with
 | nil=>rfl
 | cons a l ih=>rw[List.flatMap_cons,ih];rfl
theorem Q5{w:AbJ}{a:Addr}{len cap:Nat}{zs:List Int}(hl:len<=cap)(hm:cap<=maxLen)(hz:len<=zs.length)(hc:∀i,i<zs.length->w.cell? (a.add i)=some (.int .i64 (zs.getD i 0))):RG 1 A1 w (.slice (some a) len cap) (zs.take len):=by
 have hlen:(zs.take len).length=len:=by rw[Ab5];omega
 refine⟨fun _ _=>rfl,by rw[Om,Ab9,Nat.mul_one],some a,cap,by rw[hlen],by rw[hlen];exact hl,hm,(fun h=>by cases h),fun a' ha j u hu=> ?_⟩;cases ha;rw[Om,Adn]at hu;have hj:j<len:=by
  rcases Nat.lt_or_ge j len with q | q
  ·exact q
  ·rw[List.getElem?_eq_none (by rw[hlen];exact q)]at hu;cases hu
 rw[List.getElem?_take_of_lt hj,AbT (show j<zs.length by omega)]at hu;rw[hc j (by omega),AbN,AbT (show j<zs.length by omega)];exact hu
theorem K7{H:Type}{enc:TypeId × AbI->H}{W:AbJ}{r:Reach}{b0:Nat}{v:AbI}{d:DataW H}{ps:List MemPlace}(hval:Value.okWide AbL W r b0 22 v)(hd:DataW.Trod enc AbL W 0 (fun _=>true) true 22 v d ps):
  ∃l:List Int,RG 1 A1 W v l/\(l= []\/∃el sp,d = .slice el sp/\l.length<=el.length+sp.length)/\∀p∈ps,p.block<W.heap.size:=by
 obtain⟨a0,len0,cap0,rfl⟩:=okWide_slice (P:=AbL) (e:=3) (by kernel_rfl) hval;obtain⟨fuel,hf⟩:=hd;have hlt:=DataW.trod_lt fuel _ _ _ hf;rcases Go.ChangeShapes.open_ints (k:= .i64) (e:=3) (by kernel_rfl) (by kernel_rfl) (by kernel_rfl) hf with ⟨hcs,hx⟩ | ⟨x,l,c,zs,hcs,_,hl,hm,hz,hx,hcell,hwz⟩
 ·simp[Aff]at hcs;obtain⟨rfl,rfl,rfl⟩:=hcs;exact⟨[],Abv _ _ _, .inl rfl,hlt⟩
 ·simp[Aff]at hcs;obtain⟨rfl,rfl,rfl⟩:=hcs;simp at hz;refine⟨_,Q5 hl hm (by omega) hcell, .inr ⟨_,_,congrArg Aci hx,?_⟩,hlt⟩;simp[lits]
theorem Q6{H:Type}{d0 d1:DataW H}{el sp:List (DataW H)}(h:(DataW.weightsEach AbL [22,22] [d0,d1]).all (· <= reachBytes)=true)(hd:d1 = .slice el sp):(el.length+sp.length)*8<=140737488351232:=by
 have hu:Tryz.prog.underlying 22=some (.slice 3):=by kernel_rfl
 have hb:Tryz.prog.bytesOf 3=8:=by kernel_rfl
 subst hd;simp only[DataW.weightsEach,DataW.weights,hu,hb,List.all_append,List.all_cons,Bool.and_eq_true,decide_eq_true_eq]at h;exact h.2.1.1
theorem W3{x:Int}{m:Nat}(h:Ac0 x ((m+1:Nat):Int)<0):AdW x ((m+1:Nat):Int)=Ac0 x ((m+1:Nat):Int)+(m:Int)+1:=by
 have h0: -((m+1:Nat):Int)<Ac0 x ((m+1:Nat):Int):=Int.lt_tmod_of_pos x (by omega);rw[<-IJ x m,Int.tmod_eq_of_lt (by omega) (by omega)]
theorem W4{x:Int}{m:Nat}(h:¬Ac0 x ((m+1:Nat):Int)<0):AdW x ((m+1:Nat):Int)=Ac0 x ((m+1:Nat):Int):=by
 have h1:Ac0 x ((m+1:Nat):Int)<((m+1:Nat):Int):=Int.tmod_lt_of_pos x (by omega);have e:Ac0 x ((m+1:Nat):Int)+(m:Int)+1=Ac0 x ((m+1:Nat):Int)+((m+1:Nat):Int):=by omega
 rw[<-IJ x m,Int.tmod_eq_emod_of_nonneg (by omega),e];show(Ac0 x ((m+1:Nat):Int)+((m+1:Nat):Int))%((m+1:Nat):Int)=_;rw[Int.add_emod_right];exact Int.emod_eq_of_lt (by omega) h1
theorem UX{ch:List Int}{i k:Nat}{cz:Int}(h:0<ch.length)(hcz:AdW (ch.getD ((i)%(ch.length)) 0) ((k+1:Nat):Int)=cz):EH ch i k=cz-1:=by
 unfold EH;rw[if_pos h,hcz]
theorem UY{z:Int}(h:¬0<z):Ev z=0:=by unfold Ev;omega
theorem W5{z:Int}(h:0<z):Adm .i64 z=NI z.toNat:=congrArg (Adm .i64) (Int.toNat_of_nonneg (by omega)).symm
theorem Mq{da d:List Int}{f:Nat}{x:Int}(hf:f<=da.length)(h:da.drop f=d):(da++ [x]).drop f=d++ [x]:=by rw[List.drop_append_of_le_length hf,h]
theorem UZ{da d:List Int}{f:Nat}(h:da.drop f=d)(n:Nat):da.getD ((f)+(n)) 0=d.getD (n) 0:=by
 rw[<-h,AbN,AbN,List.getElem?_drop]
theorem Mr(w:AbJ):(Acq 22 0 #[]).run AbL w = .ok (.slice (some ⟨w.heap.size,0,none⟩) 0 0) (w.alloc (.cells #[] 3)):=by kernel_rfl
theorem U0:Plain AbL 10:=fun _ _=>by kernel_rfl
theorem Oo:Plain AbL 11:=fun _ _=>by kernel_rfl
theorem U1:Plain AbL 12:=fun _ _=>by kernel_rfl
theorem IW(w:AbJ)(v u_:AbI)(l m:List Int)(hr:RG 1 A1 w v l)(hs:RG 1 A1 w u_ m)(hlm:l=m)(hll:l.length<9223372036854775807):
  Calls AbL 11 #[v,u_] w fun e w' =>e = .returned (.bool true)/\Ext w w' :=by
 have hq:l.length=m.length:=by rw[hlm]
 have hqe:∀i:Nat,l.getD (i) 0=m.getD (i) 0:=fun i=>by rw[hlm]
 refine gG (args:= [v,u_]) Tryz.func11 rfl 26 rfl rfl ?_;have hE:=AaY w;refine gS (X6 LL (XW (hr.keep hE) rfl) (gS (X6 LL (XW (hs.keep hE) rfl) (gS (XQ (a:=(l.length:Nat)) (b:=(m.length:Nat)) rfl rfl (AV _ _ _ _) (kF (fun h=>h hq) (cF rfl (gL (fun(ρ:Ac) (wz:AbJ)=>∃i:Nat,ρ 0=(v:AbI)/\ρ 1=(u_:AbI)/\ρ 10=(.bool (false):AbI)/\ρ 5=(NI i:AbI)/\Ext w wz/\(i<=l.length)/\True) (fun ρ _=>l.length-(intOf (ρ 5)).toNat) ⟨0,rfl,rfl,rfl,rfl,hE,Ack _,trivial⟩ ?_))))))));clear hE;rintro o r ⟨i,f,g,p,c,hE,hi,-⟩;have q5:=c;refine gS (X6 LL (XW (hr.keep hE) f) (gS (XQ (a:=(i:Nat)) (b:=(l.length:Nat)) c rfl (AK _ _ _ _) ?_)));refine cD rfl (fun j=> ?_) fun j=> ?_
 ·have hlt:i<l.length:=j;refine CA [0,1,2,3,4,5,6,7,8] [] [] fun s q=> ?_;have hE:=hE.trans q;have t:(A1 (l.getD (i) (0:Int))).length=1:=(Aa6 (hr.keep hE) (0:Int) (hlt));refine yA (X9 LL G2 (by decide) (0:Int) (XW (hr.keep hE) f) c (hlt) fun u k=>(ys (X4 Tk rfl (Abd (Yc k rfl) rfl) zz) ?_));have x:(A1 (m.getD (i) (0:Int))).length=1:=(Aa6 (hs.keep hE) (0:Int) (by omega));refine yA (X9 LL G2 (by decide) (0:Int) (XW (hs.keep hE) g) c (by omega) fun y n=>(ys (X4 Tk rfl (Abd (Yc n rfl) rfl) zz) (ys (XQ rfl rfl (Xa _ .i64 (l.getD (i) (0:Int):Int) (m.getD (i) (0:Int):Int)) zz) (kF (fun h=>h (hqe i)) ?_))));clear k;clear n;refine cF rfl (gS (XR (xv:=NI i) (yv:=NI 1) c rfl rfl (Ah _ _ _ (by omega)) (gK (Acr ⟨i+1,f,g,p,rfl,hE,by omega,trivial⟩ ?_))));show l.length-(intOf (NI ((i)+(1)))).toNat<l.length-(intOf (o 5)).toNat;rw[q5];simp only[intOf,Ab0];omega
 refine Bp rfl (vr (.bool (true)) rfl) ?_;exact⟨rfl,hE⟩
theorem O0(w:AbJ)(vz vc:AbI)(sz ch:List Int)(hz:RG 1 A1 w vz sz)(hc:RG 1 A1 w vc ch)(hzl:sz.length<=100000)(hcl:ch.length<=17592186044416):
  Calls AbL 10 #[vz,vc] w fun e w' =>∃va vb,e = .returned (.tuple #[va,vb])/\OG w.heap.size 3 1 A1 w' va (planGo ch sz sz.length).packs/\OG w.heap.size 3 1 A1 w' vb (planGo ch sz sz.length).bases/\Ext w w' :=by
 refine Rh (args:= [vz,vc]) Tryz.func10 rfl 95 rfl rfl ?_;have hE:=AaY w;have hw_:=hE.size;refine Adj (⟨_,rfl⟩:∃v:AbI,(AbR none 0 0)=v) fun nv6 hnv6=> ?_;have hrow6:OG w.heap.size 3 1 A1 w nv6 ([]:List Int):=hnv6▸Abg _ _ _ _ _;refine Adj (⟨_,rfl⟩:∃v:AbI,(AbR none 0 0)=v) fun nv7 hnv7=> ?_;have hrow7:OG w.heap.size 3 1 A1 w nv7 ([]:List Int):=hnv7▸Abg _ _ _ _ _;have bh:Ae nv7 nv6:=fun k h=>by rw[<-hnv7]at h;cases h
 have bi:Ae nv6 nv7:=fun k _ h=>by rw[<-hnv7]at h;cases h
 refine Adj (⟨_,rfl⟩:∃v:AbI,(AbR none 0 0)=v) fun nv8 hnv8=> ?_;have hrow8:OG w.heap.size 3 1 A1 w nv8 ([]:List Int):=hnv8▸Abg _ _ _ _ _;have bj:Ae nv8 nv6:=fun k h=>by rw[<-hnv8]at h;cases h
 have bk:Ae nv6 nv8:=fun k _ h=>by rw[<-hnv8]at h;cases h
 have bm:Ae nv8 nv7:=fun k h=>by rw[<-hnv8]at h;cases h
 have bo:Ae nv7 nv8:=fun k _ h=>by rw[<-hnv8]at h;cases h
 refine gL (fun(ρ:Ac) (wz:AbJ)=>∃i:Nat,∃f:Nat,∃s:DW,∃da:List Int,∃r6:AbI,∃r7:AbI,∃r8:AbI,ρ 0=(vz:AbI)/\ρ 1=(vc:AbI)/\ρ 4=((AbR none 0 0):AbI)/\ρ 5=((AbR none 0 0):AbI)/\ρ 12=(NI i:AbI)/\ρ 9=(NI f:AbI)/\ρ 10=(NI s.total:AbI)/\ρ 11=(NI s.at_:AbI)/\ρ 6=(r6:AbI)/\ρ 7=(r7:AbI)/\ρ 8=(r8:AbI)/\Ext w wz/\OG w.heap.size 3 1 (A1) wz r6 (s.packs)/\OG w.heap.size 3 1 (A1) wz r7 (s.bases)/\OG w.heap.size 3 1 (A1) wz r8 (da)/\(i<=sz.length)/\(s=planGo ch sz i)/\(f+s.depths.length=i)/\(da.length=i)/\(da.drop f=s.depths)/\(Ae r6 r7)/\(Ae r6 r8)/\(Ae r7 r6)/\(Ae r7 r8)/\(Ae r8 r6)/\(Ae r8 r7)/\True) (fun ρ _=>sz.length-(intOf (ρ 12)).toNat) ⟨0,0,(planGo ch sz 0),[],nv6,nv7,nv8,rfl,rfl,rfl,rfl,rfl,rfl,rfl,rfl,((show _=(AbR none 0 0)from rfl).trans hnv6),((show _=(AbR none 0 0)from rfl).trans hnv7),((show _=(AbR none 0 0)from rfl).trans hnv8),hE,Bc hrow6 (rfl),Bc hrow7 (rfl),Bc hrow8 (rfl),Ack _,rfl,rfl,rfl,rfl,bi,bk,bh,bo,bj,bm,trivial⟩ ?_;clear hrow6;clear hrow7;clear hrow8;clear hE;rintro a0 b6 ⟨i,f,s,da,r6,r7,r8,g,j,t,x,c,l,z,o,p,q,r,hE,hr_r6,hr_r7,hr_r8,hil,hs,hf,hdl,hda,hap_r6_r7,hap_r6_r8,hap_r7_r6,hap_r7_r8,hap_r8_r6,hap_r8_r7,-⟩;have q12:=c;refine gS (X6 LL (XW (hz.keep hE) g) (gS (XQ (a:=(i:Nat)) (b:=(sz.length:Nat)) c rfl (AK _ _ _ _) ?_)));refine cD rfl (fun aq=> ?_) fun aq=> ?_
 ·have hlt:i<sz.length:=aq;have hok:=DD ch sz i;rw[<-hs]at hok;have bp:=hok.lp;have bq:=hok.lb;have b7:=hok.ld;have b8:=hok.at_;have b9:=hok.tot;have hif:(i)-(f)=s.depths.length:=by omega
  refine gJ (fun ρ wz=>∃f1:Nat,∃s1:DW,ρ 0=(vz:AbI)/\ρ 1=(vc:AbI)/\ρ 4=((AbR none 0 0):AbI)/\ρ 5=((AbR none 0 0):AbI)/\ρ 6=(r6:AbI)/\ρ 7=(r7:AbI)/\ρ 8=(r8:AbI)/\ρ 12=(NI i:AbI)/\ρ 9=(NI f1:AbI)/\ρ 10=(NI s1.total:AbI)/\ρ 11=(NI s1.at_:AbI)/\Ext w wz/\OG w.heap.size 3 1 (A1) wz r6 (s.packs)/\OG w.heap.size 3 1 (A1) wz r7 (s.bases)/\OG w.heap.size 3 1 (A1) wz r8 (da)/\(s1=turnPk s)/\(f1+s1.depths.length=i)/\(da.drop f1=s1.depths)/\True) 1 rfl ?_ fun hJK18=> ?_
  ·clear hE hr_r6 hr_r7 hr_r8;rintro ca cb ⟨f1,s1,g,j,t,x,p,q,r,c,l,z,o,hE,hr_r6,hr_r7,hr_r8,ar,hf1,hda1,-⟩;have hok1:=IK hok;rw[<-ar]at hok1;have hj1:=hok1.2.1;have hj2:=hok1.2.2.1;have hj3:s1.at_<=i+1:=hok1.1.at_;have hj4:s1.packs=s.packs:=hok1.2.2.2.1;have hj5:s1.bases=s.bases:=hok1.2.2.2.2;have hj7:s1.packs.length=i:=by rw[hj4];exact bp
   have hj8:s1.bases.length=i:=by rw[hj5];exact bq
   have hj6:∀d∈s1.depths,0<=d/\d<=50:=hok1.1.dp;have hkk:(i)-(f1)=s1.depths.length:=by omega
   refine gS (XR (xv:=NI i) (yv:=NI f1) c l rfl (BB _ _ _ (by omega) (by omega)) ?_);refine gJ (fun ρ wz=>∃bz:Int,ρ 0=(vz:AbI)/\ρ 1=(vc:AbI)/\ρ 4=((AbR none 0 0):AbI)/\ρ 5=((AbR none 0 0):AbI)/\ρ 6=(r6:AbI)/\ρ 7=(r7:AbI)/\ρ 8=(r8:AbI)/\ρ 9=(NI f1:AbI)/\ρ 10=(NI s1.total:AbI)/\ρ 11=(NI s1.at_:AbI)/\ρ 12=(NI i:AbI)/\ρ 13=(NI ((i)-(f1)):AbI)/\ρ 14=(.int .i64 (bz:Int):AbI)/\Ext w wz/\OG w.heap.size 3 1 (A1) wz r6 (s.packs)/\OG w.heap.size 3 1 (A1) wz r7 (s.bases)/\OG w.heap.size 3 1 (A1) wz r8 (da)/\(EH ch i ((i)-(f1))=bz)/\True) 1 rfl ?_ fun hJK24=> ?_
   ·clear hE hr_r6 hr_r7 hr_r8;rintro cc cd ⟨bz,g,j,t,x,p,q,r,l,z,o,c,ae,ac,hE,hr_r6,hr_r7,hr_r8,hbz,-⟩;have hbl:=HJ ch i ((i)-(f1));rw[hbz]at hbl;rw[hkk]at hbz;refine gJ (fun ρ wz=>∃d0:Int,ρ 0=(vz:AbI)/\ρ 1=(vc:AbI)/\ρ 4=((AbR none 0 0):AbI)/\ρ 5=((AbR none 0 0):AbI)/\ρ 6=(r6:AbI)/\ρ 7=(r7:AbI)/\ρ 8=(r8:AbI)/\ρ 9=(NI f1:AbI)/\ρ 10=(NI s1.total:AbI)/\ρ 11=(NI s1.at_:AbI)/\ρ 12=(NI i:AbI)/\ρ 13=(NI ((i)-(f1)):AbI)/\ρ 14=(.int .i64 (bz:Int):AbI)/\ρ 16=(.int .i64 (d0:Int):AbI)/\Ext w wz/\OG w.heap.size 3 1 (A1) wz r6 (s.packs)/\OG w.heap.size 3 1 (A1) wz r7 (s.bases)/\OG w.heap.size 3 1 (A1) wz r8 (da)/\(JY s1 bz=d0)/\True) 1 rfl ?_ fun hJK29=> ?_
    ·clear hE hr_r6 hr_r7 hr_r8;rintro ce cf ⟨d0,g,j,t,x,p,q,r,l,z,o,c,ae,ac,am,hE,hr_r6,hr_r7,hr_r8,hd0,-⟩;refine gJ (fun ρ wz=>∃bb:Int,∃dd:Int,ρ 0=(vz:AbI)/\ρ 1=(vc:AbI)/\ρ 4=((AbR none 0 0):AbI)/\ρ 5=((AbR none 0 0):AbI)/\ρ 6=(r6:AbI)/\ρ 7=(r7:AbI)/\ρ 8=(r8:AbI)/\ρ 9=(NI f1:AbI)/\ρ 10=(NI s1.total:AbI)/\ρ 11=(NI s1.at_:AbI)/\ρ 12=(NI i:AbI)/\ρ 13=(NI ((i)-(f1)):AbI)/\ρ 14=(.int .i64 (bb:Int):AbI)/\ρ 16=(.int .i64 (dd:Int):AbI)/\Ext w wz/\OG w.heap.size 3 1 (A1) wz r6 (s.packs)/\OG w.heap.size 3 1 (A1) wz r7 (s.bases)/\OG w.heap.size 3 1 (A1) wz r8 (da)/\(C9 ch i (sz.getD (i) 0) s1=⟨s1.at_,s1.total+Ev (sz.getD (i) 0),s1.depths++ [dd],s1.packs++ [(s1.at_:Int)],s1.bases++ [bb]⟩)/\True) 1 rfl ?_ fun hJK33=> ?_
     ·clear hE hr_r6 hr_r7 hr_r8;rintro cg ci ⟨bb,dd,g,j,t,x,p,q,r,l,z,o,c,ae,ac,am,hE,hr_r6,hr_r7,hr_r8,hst,-⟩;refine gS (Yi (a:=s1.at_) (enc:=A1) o rfl (fun w=>P3 _ w) fun br bs a1 an=> ?_);have hE:=hE.trans an;have hr_r6:=hr_r6.keep an;refine gS (X7 _ _ w.heap.size _ 8 LL va5_ig3.choose_spec.1 va5_ig3.choose_spec.2 LL (s.packs) ([s1.at_]) (Abf hr_r6 p) (XW a1 (vr br rfl)) (fun y hy u hu=>by rw[AbW.1 hu];rfl) (by simp only[Ab7];omega) (by simp only[Ab7];omega) hE.size fun ab bt aa af=> ?_);have af:Grew bs bt r6 ab:= .eqv p af;have hr_r7:=hr_r7.keep an;have bu:Ae ab r7:=Az af hap_r6_r7 hr_r7.2;have a2:Ae r7 ab:=fun k h1 h2=>bu k h2 h1;have hr_r8:=hr_r8.keep an;have bv:Ae ab r8:=Az af hap_r6_r8 hr_r8.2;have a3:Ae r8 ab:=fun k h1 h2=>bv k h2 h1;have hE:=Ao hE af hr_r6.2 (AbO _);have hr_r7:=AZ hr_r7 af hap_r6_r7;have hr_r8:=AZ hr_r8 af hap_r6_r8;clear a1;clear hr_r6;refine gS (Yi (a:=bb) (enc:=A1) ac rfl (fun w=>P3 _ w) fun bw bx a4 ao=> ?_);have hE:=hE.trans ao;have hr_r7:=hr_r7.keep ao;refine gS (X7 _ _ w.heap.size _ 8 LL va5_ig3.choose_spec.1 va5_ig3.choose_spec.2 LL (s.bases) ([bb]) (Abf hr_r7 q) (XW a4 (vr bw rfl)) (fun y hy u hu=>by rw[AbW.1 hu];rfl) (by simp only[Ab7];omega) (by simp only[Ab7];omega) hE.size fun ad b0 ag ah=> ?_);have ah:Grew bx b0 r7 ad:= .eqv q ah;have hr_r8:=hr_r8.keep ao;have b1:Ae ad r8:=Az ah hap_r7_r8 hr_r8.2;have a5:Ae r8 ad:=fun k h1 h2=>b1 k h2 h1;have aa:=aa.keep ao;have au:Ae ad ab:=Az ah a2 aa.2;have a6:Ae ab ad:=fun k h1 h2=>au k h2 h1;have hE:=Ao hE ah hr_r7.2 (AbO _);have hr_r8:=AZ hr_r8 ah hap_r7_r8;have aa:=AZ aa ah a2;clear a4;clear hr_r7;refine gS (Yi (a:=dd) (enc:=A1) am rfl (fun w=>P3 _ w) fun b2 b3 a7 ap=> ?_);have hE:=hE.trans ap;have hr_r8:=hr_r8.keep ap;refine gS (X7 _ _ w.heap.size _ 8 LL va5_ig3.choose_spec.1 va5_ig3.choose_spec.2 LL (da) ([dd]) (Abf hr_r8 r) (XW a7 (vr b2 rfl)) (fun y hy u hu=>by rw[AbW.1 hu];rfl) (by simp only[Ab7];omega) (by simp only[Ab7];omega) hE.size fun ai b4 a8 aj=> ?_);have aj:Grew b3 b4 r8 ai:= .eqv r aj;have aa:=aa.keep ap;have av:Ae ai ab:=Az aj a3 aa.2;have a9:Ae ab ai:=fun k h1 h2=>av k h2 h1;have ag:=ag.keep ap;have aw:Ae ai ad:=Az aj a5 ag.2;have ba:Ae ad ai:=fun k h1 h2=>aw k h2 h1;have hE:=Ao hE aj hr_r8.2 (AbO _);have aa:=AZ aa aj a3;have ag:=AZ ag aj a5;clear a7;clear hr_r8;have cj:(A1 (sz.getD (i) (0:Int))).length=1:=(Aa6 (hz.keep hE) (0:Int) (hlt));refine gS (X9 LL G2 (by decide) (0:Int) (XW (hz.keep hE) g) c (hlt) fun ck bc=>(gS (X4 Tk rfl (Abd (Yc bc rfl) rfl) (gS (XQ rfl rfl (Kb _ .i64 (sz.getD (i) (0:Int):Int) ((0:Nat):Int)) ?_)))));clear bc;refine cD rfl (fun ax=> ?_) fun ax=> ?_
      ·have cl:(A1 (sz.getD (i) (0:Int))).length=1:=(Aa6 (hz.keep hE) (0:Int) (hlt));refine gS (X9 LL G2 (by decide) (0:Int) (XW (hz.keep hE) g) c (hlt) fun cm bd=>(gS (X4 Tk rfl (Abd (Yc bd rfl) rfl) (gS (ZZ (n:=(sz.getD (i) 0).toNat) (m:=131072) (Eq.trans (b:=Adm .i64 (sz.getD (i) 0)) rfl (W5 ax)) rfl (gS (XR (xv:=NI s1.total) (yv:=NI (Ev (sz.getD (i) 0))) z rfl rfl (Ah _ _ _ (by have:=Lr (sz.getD (i) 0);omega)) ?_)))))));clear bd;refine gS (XR (xv:=NI i) (yv:=NI 1) c rfl rfl (Ah _ _ _ (by omega)) (gK (Acr ⟨i+1,f1,⟨s1.at_,s1.total+Ev (sz.getD (i) 0),s1.depths++ [dd],s1.packs++ [(s1.at_:Int)],s1.bases++ [bb]⟩,da++ [dd],ab,ad,ai,g,j,t,x,rfl,l,rfl,o,rfl,rfl,rfl,hE,Bc aa ((congrArg (· ++ [(s1.at_:Int)]) hj4.symm)),Bc ag ((congrArg (· ++ [bb]) hj5.symm)),Bc a8 (rfl),by omega,by rw[FA,<-hs,<-ar,hst],by show f1+(s1.depths++ [dd]).length=i+1;rw[AbP,Ab7];omega,by rw[AbP,Ab7,hdl],Mq (by omega) hda1,a6,a9,au,ba,av,aw,trivial⟩ ?_)));show sz.length-(intOf (NI ((i)+(1)))).toNat<sz.length-(intOf (a0 12)).toNat;rw[q12];simp only[intOf,Ab0];omega
      refine gS (XR (xv:=NI i) (yv:=NI 1) c rfl rfl (Ah _ _ _ (by omega)) (gK (Acr ⟨i+1,f1,⟨s1.at_,s1.total,s1.depths++ [dd],s1.packs++ [(s1.at_:Int)],s1.bases++ [bb]⟩,da++ [dd],ab,ad,ai,g,j,t,x,rfl,l,z,o,rfl,rfl,rfl,hE,Bc aa ((congrArg (· ++ [(s1.at_:Int)]) hj4.symm)),Bc ag ((congrArg (· ++ [bb]) hj5.symm)),Bc a8 (rfl),by omega,by rw[FA,<-hs,<-ar,hst,UY ax];rfl,by show f1+(s1.depths++ [dd]).length=i+1;rw[AbP,Ab7];omega,by rw[AbP,Ab7,hdl],Mq (by omega) hda1,a6,a9,au,ba,av,aw,trivial⟩ ?_)));show sz.length-(intOf (NI ((i)+(1)))).toNat<sz.length-(intOf (a0 12)).toNat;rw[q12];simp only[intOf,Ab0];omega
     refine gS (XQ am rfl (Kb _ .i64 (d0:Int) ((50:Nat):Int)) ?_);refine cD rfl (fun be=> ?_) fun be=> ?_
     ·exact hJK33 _ _ ⟨-1,((0:Nat):Int),g,j,t,x,p,q,r,l,z,o,c,ae,rfl,rfl,hE,hr_r6,hr_r7,hr_r8,NV hbz hd0 be,trivial⟩
     exact hJK33 _ _ ⟨bz,d0,g,j,t,x,p,q,r,l,z,o,c,ae,ac,am,hE,hr_r6,hr_r7,hr_r8,KS hbz hd0 (by omega),trivial⟩
    refine gS (XQ ac rfl (Kc _ .i64 (bz:Int) ((0:Nat):Int)) ?_);refine cD rfl (fun ay=> ?_) fun ay=> ?_
    ·refine Adj (Int.eq_ofNat_of_zero_le ay) fun bn hbn=> ?_;have hbl2:bn<s1.depths.length:=by omega
     have hnn:=Ls hj6 bn;have hdd:=UZ hda1 bn;rw[<-hdd]at hnn;refine gS (XR (xv:=NI f1) (yv:=NI bn) l (vr (NI bn) (ac.trans (congrArg (Adm .i64) hbn))) rfl (Ah _ _ _ (by omega)) ?_);have cn:(A1 (da.getD ((f1)+(bn)) (0:Int))).length=1:=(Aa6 (X1 hr_r8) (0:Int) (by omega));refine gS (X9 LL G2 (by decide) (0:Int) (XW (X1 hr_r8) r) rfl (by omega) fun co bf=>(gS (X4 Tk rfl (Abd (Yc bf rfl) rfl) (gS (XR (xv:= .int .i64 (da.getD ((f1)+(bn)) (0:Int))) (yv:= .int .i64 (((1:Nat):Int))) rfl rfl rfl (Hb _ (da.getD ((f1)+(bn)) (0:Int)) (((1:Nat):Int)) (by omega)) ?_)))));clear bf;exact hJK29 _ _ ⟨((da.getD ((f1)+(bn)) (0:Int))+(((1:Nat):Int))),g,j,t,x,p,q,r,l,z,o,c,ae,ac,rfl,hE,hr_r6,hr_r7,hr_r8,(Pu hbn).trans (congrArg (· + (1:Int)) hdd.symm),trivial⟩
    exact hJK29 _ _ ⟨((0:Nat):Int),g,j,t,x,p,q,r,l,z,o,c,ae,ac,rfl,hE,hr_r6,hr_r7,hr_r8,if_neg ay,trivial⟩
   refine gS (X6 LL (XW (hc.keep hE) j) (gS (XQ (a:=(ch.length:Nat)) (b:=(0:Nat)) rfl rfl (Bh _ _ _ _) ?_)));refine cD rfl (fun ak=> ?_) fun ak=> ?_
   ·have hbd:=Pl (ch.getD ((i)%(ch.length)) 0) ((i)-(f1));have hbe:=Pv (ch.getD ((i)%(ch.length)) 0) ((i)-(f1));refine gS (X6 LL (XW (hc.keep hE) j) (gS (XR (xv:=NI i) (yv:=NI ch.length) c rfl rfl (FZ _ _ _ (by omega)) ?_)));have cp:(A1 (ch.getD ((i)%(ch.length)) (0:Int))).length=1:=(Aa6 (hc.keep hE) (0:Int) (Nat.mod_lt _ ak));refine gS (X9 LL G2 (by decide) (0:Int) (XW (hc.keep hE) j) rfl (Nat.mod_lt _ ak) fun cq bg=>(gS (X4 Tk rfl (Abd (Yc bg rfl) rfl) (gS (XR (xv:=NI ((i)-(f1))) (yv:=NI 1) rfl rfl rfl (Ah _ _ _ (by omega)) (gS (XR (xv:= .int .i64 (ch.getD ((i)%(ch.length)) (0:Int))) (yv:=NI (((i)-(f1))+(1))) rfl rfl rfl (NR _ (ch.getD ((i)%(ch.length)) (0:Int)) _ (by omega)) ?_)))))));clear bg;refine gJ (fun ρ wz=>∃cz:Int,ρ 0=(vz:AbI)/\ρ 1=(vc:AbI)/\ρ 4=((AbR none 0 0):AbI)/\ρ 5=((AbR none 0 0):AbI)/\ρ 6=(r6:AbI)/\ρ 7=(r7:AbI)/\ρ 8=(r8:AbI)/\ρ 9=(NI f1:AbI)/\ρ 10=(NI s1.total:AbI)/\ρ 11=(NI s1.at_:AbI)/\ρ 12=(NI i:AbI)/\ρ 13=(NI ((i)-(f1)):AbI)/\ρ 14=(.int .i64 (-1:Int):AbI)/\ρ 15=(.int .i64 (cz:Int):AbI)/\Ext w wz/\OG w.heap.size 3 1 (A1) wz r6 (s.packs)/\OG w.heap.size 3 1 (A1) wz r7 (s.bases)/\OG w.heap.size 3 1 (A1) wz r8 (da)/\(AdW (ch.getD ((i)%(ch.length)) 0) ((((i)-(f1))+1:Nat):Int)=cz)/\True) 1 rfl ?_ fun hJK93=> ?_
    ·clear hE hr_r6 hr_r7 hr_r8;rintro cr cs ⟨cz,g,j,t,x,p,q,r,l,z,o,c,ae,ac,b5,hE,hr_r6,hr_r7,hr_r8,hcz,-⟩;rw[hcz]at hbe;refine gS (XR (xv:= .int .i64 (cz)) (yv:= .int .i64 (((1:Nat):Int))) b5 rfl rfl (KO _ (cz) (((1:Nat):Int)) (by omega)) ?_);exact hJK24 _ _ ⟨((cz)-(((1:Nat):Int))),g,j,t,x,p,q,r,l,z,o,c,ae,rfl,hE,hr_r6,hr_r7,hr_r8,UX ak hcz,trivial⟩
    refine gS (XQ rfl rfl (Fk _ .i64 ((Ac0 (ch.getD ((i)%(ch.length)) 0) ((((i)-(f1))+1:Nat):Int)):Int) ((0:Nat):Int)) ?_);refine cD rfl (fun az=> ?_) fun az=> ?_
    ·refine gS (XR (xv:= .int .i64 ((Ac0 (ch.getD ((i)%(ch.length)) 0) ((((i)-(f1))+1:Nat):Int)))) (yv:= .int .i64 ((((i)-(f1):Nat):Int))) rfl rfl rfl (Hb _ ((Ac0 (ch.getD ((i)%(ch.length)) 0) ((((i)-(f1))+1:Nat):Int))) ((((i)-(f1):Nat):Int)) (by omega)) (gS (XR (xv:= .int .i64 ((((Ac0 (ch.getD ((i)%(ch.length)) 0) ((((i)-(f1))+1:Nat):Int)))+((((i)-(f1):Nat):Int))))) (yv:= .int .i64 (((1:Nat):Int))) rfl rfl rfl (Hb _ ((((Ac0 (ch.getD ((i)%(ch.length)) 0) ((((i)-(f1))+1:Nat):Int)))+((((i)-(f1):Nat):Int)))) (((1:Nat):Int)) (by omega)) ?_)));exact hJK93 _ _ ⟨(((((Ac0 (ch.getD ((i)%(ch.length)) 0) ((((i)-(f1))+1:Nat):Int)))+((((i)-(f1):Nat):Int))))+(((1:Nat):Int))),g,j,t,x,p,q,r,l,z,o,c,rfl,rfl,rfl,hE,hr_r6,hr_r7,hr_r8,W3 az,trivial⟩
    exact hJK93 _ _ ⟨(Ac0 (ch.getD ((i)%(ch.length)) 0) ((((i)-(f1))+1:Nat):Int)),g,j,t,x,p,q,r,l,z,o,c,rfl,rfl,rfl,hE,hr_r6,hr_r7,hr_r8,W4 az,trivial⟩
   exact hJK24 _ _ ⟨-1,g,j,t,x,p,q,r,l,z,o,c,rfl,rfl,hE,hr_r6,hr_r7,hr_r8,if_neg ak,trivial⟩
  refine gS (XR (xv:=NI i) (yv:=NI f) c l rfl (BB _ _ _ (by omega) (by omega)) (gS (XQ (a:=((i)-(f):Nat)) (b:=(1024:Nat)) rfl rfl (Ek _ _ _ _) (gO fun _=>DY (NI s.total) rfl rfl (gF rfl) (fun hG99=>Aa7 z ⟨rfl,rfl⟩) (M3 (gO fun _=>DY (.bool (decide ((131072)<=(s.total)))) rfl rfl (gF rfl) (fun hG100=>XQ (a:=((s.total:Nat):Int)) (b:=((131072:Nat):Int)) (JC rfl hG100) rfl (Ek _ .i64 (s.total) (131072)) ⟨rfl,rfl⟩) (M3 (gS (Zn rfl rfl (fun hA=>(JC rfl (U4 hA))) fun bb101 hbb102=> ?_)))))))));refine cB (bb101) rfl (fun al=> ?_) fun al=> ?_
  ·subst hbb102;rw[hif]at al;refine gS (XR (xv:=NI s.at_) (yv:=NI 1) o rfl rfl (Ah _ _ _ (by omega)) ?_);exact hJK18 _ _ ⟨i,⟨s.at_+1,0,[],s.packs,s.bases⟩,g,j,t,x,p,q,r,c,c,rfl,rfl,hE,hr_r6,hr_r7,hr_r8,SY al,rfl,List.drop_of_length_le (Nat.le_of_eq hdl),trivial⟩
  subst hbb102;rw[hif]at al;exact hJK18 _ _ ⟨f,s,g,j,t,x,p,q,r,c,l,z,o,hE,hr_r6,hr_r7,hr_r8,SZ al,hf,hda,trivial⟩
 refine BA rfl p q ?_;have hie:i=sz.length:=by have h:=aq;omega
 rw[hie]at hs;exact⟨_,_,rfl,hs▸hr_r6,hs▸hr_r7,hE⟩
theorem K8(w:AbJ)(hG:Laid w)(vz vc:AbI)(sz ch:List Int)(hz:RG 1 A1 w vz sz)(hc:RG 1 A1 w vc ch)(hcl:ch.length*8<=140737488351232):
  Calls AbL 3 #[vz,vc] w fun e w' =>e = .returned (.bool true)/\Ext w w' :=by
 refine gG (args:= [vz,vc]) Tryz.func3 rfl 39 rfl rfl ?_;have hE:=AaY w;refine gS (X6 LL (XW (hz.keep hE) rfl) (gS (XQ (a:=(sz.length:Nat)) (b:=(3000:Nat)) rfl rfl (Bh _ _ _ _) ?_)));refine cD rfl (fun ae=> ?_) fun ae=> ?_
 ·refine Bp rfl (vr (.bool (true)) rfl) ?_;exact⟨rfl,hE⟩
 have h3:sz.length<=3000:=by omega
 refine gS (ZG (k:=1) (enc:=A1) Mr fun z w7 i ag=> ?_);have hE:=hE.trans ag;refine gS (X7 _ _ w.heap.size _ 8 LL va5_ig3.choose_spec.1 va5_ig3.choose_spec.2 LL ([]) (sz) (Abf i (vr z rfl)) (XW (hz.keep hE) (vr vz rfl)) (fun y hy u hu=>by rw[AbW.1 hu];rfl) (by simp only[Acl];omega) (by simp only[Acl];omega) hE.size fun j l f m=> ?_);have m:Grew w7 l z j:=m;have hE:=Ao hE m i.2 (AbO _);clear i;have c:=AaY l;have ah:=hE.size;refine gS (ZG (k:=1) (enc:=A1) Mr fun n ai g o=> ?_);have aj:Ae n j:=Ow f.2 g.2;have hE:=hE.trans o;have c:=c.trans o;refine gS (X7 _ _ l.heap.size _ 8 LL va5_ig3.choose_spec.1 va5_ig3.choose_spec.2 LL ([]) (ch) (Abf g (vr n rfl)) (XW (hc.keep hE) (vr vc rfl)) (fun y hy u hu=>by rw[AbW.1 hu];rfl) (by simp only[Acl];omega) (by simp only[Acl];omega) c.size fun aa ak al h=> ?_);have h:Grew ai ak n aa:=h;have f:=f.keep o;have hE:=Ao hE h g.2 ah;have f:=AZ f h aj;have c:=Ao c h g.2 (AbO _);clear g;have ap:=hE.size;have aq:=c.size;refine gS (XS Wk rfl rfl ((N8 _ j aa sz ch (X1 f) (X1 al) (by omega) (by omega)).mono ?_));rintro e ar ⟨p,q,rfl,r,s,ab⟩;refine⟨_,rfl,?_⟩;refine gS (AaZ (vs:= [p,q]) rfl rfl (gS (AaZ (vs:= [p,q]) rfl rfl ?_)));have hE:=hE.trans ab;have c:=c.trans ab;have au:=hE.size;have av:=c.size;refine gS (XS U0 rfl rfl ((O0 _ vz vc sz ch (hz.keep hE) (hc.keep hE) (by omega) (by omega)).mono ?_));rintro e aw ⟨t,v,rfl,am,x,ac⟩;refine⟨_,rfl,?_⟩;refine gS (AaZ (vs:= [t,v]) rfl rfl (gS (AaZ (vs:= [t,v]) rfl rfl ?_)));have hpk:=DD ch sz sz.length;have hpk1:=hpk.lp;have hpk2:=hpk.lb;have r:=r.keep ac;refine gS (XS Oo rfl rfl ((IW _ p t _ _ (X1 r) (X1 am) rfl (by omega)).mono ?_));rintro e ax ⟨rfl,ad⟩;refine⟨_,rfl,?_⟩;have hZ1:=ac.trans ad;have s:=s.keep hZ1;have x:=x.keep ad;refine gS (XS Oo rfl rfl ((IW _ q v _ _ (X1 s) (X1 x) rfl (by omega)).mono ?_));rintro e ay ⟨rfl,an⟩;refine⟨_,rfl,?_⟩;have hZ2:=hZ1.trans an;have hE:=hE.trans hZ2;refine gS (XY rfl rfl (gS (Zv U1 ((Wr _ (hG.keep hE)).mono ?_))));rintro e az ⟨rfl,ao⟩;refine⟨_,rfl,?_⟩;refine gS (XY rfl rfl (Bp rfl (vr (.bool (true)) rfl) ?_));have hE:=hE.trans ao;exact⟨rfl,hE⟩
end Go.Proofs.YtfpekahfdalfkaaGreatDoor
