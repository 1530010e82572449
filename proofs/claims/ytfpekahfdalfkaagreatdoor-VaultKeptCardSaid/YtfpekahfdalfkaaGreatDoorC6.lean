/- Part 6 of what stands behind these statements: laws and walks of the functions that are reached. Conditions: those that each theorem names. -/
import Derived.Test.YtfpekahfdalfkaaGreatDoorC5
set_option linter.unusedVariables false
set_option linter.unusedSimpArgs false
namespace Go.Proofs.YtfpekahfdalfkaaGreatDoor
open _root_.Go renaming World->Ae3,Value->Ae2,Program->AfD,TypeId->Afa,Operand->Aff
open _root_.Option.some renaming inj->AfJ
open _root_.Go.Proofs.Tryz renaming prog->Ae5,underlying0->AiK,isAgg0->AjP,sizeOf0->AjA,zeroValue0->AiU,underlying3->Akv,isAgg3->AlH,sizeOf3->Alz,zeroValue3->AkE,underlying9->AhH,isAgg9->AiO,sizeOf9->Aiy,zeroValue9->AhR,underlying5->AiI,isAgg5->AlI,sizeOf5->AlA,zeroValue5->AkF
open _root_.List renaming length_drop->Afn,getD_eq_getElem?_getD->Ae6,drop_eq_nil_of_le->AkL,map_toArray->AfI,map_cons->AfG,map_nil->AfQ,toArray->Agp,append_toArray->Ag1,cons_append->Af4,nil_append->Af6,length_take->Afi,length_map->Afu,size_toArray->Afr,getElem?_eq_none->Agj,mem_cons_self->AfX,mem_cons_of_mem->AfY,length_cons->AfA,mem_map->AfO,length_append->Ae9,length_singleton->Afs,mem_or_eq_of_mem_set->AhZ,mem_append->Afy,mem_singleton->Afh,take_succ_eq_append_getElem->Afv,flatMap_cons->Af3,length_nil->AfK,range->Af9,replicate->Afk,all_eq_true->AfP,append_assoc->AfH,take_of_length_le->AfU,getElem?_eq_getElem->Afb,take_length->Af8,length_replicate->Afp,mem_of_getElem?->Agi,getElem?_eq_some_iff->Afx,mem_map_of_mem->Ahr,mem_cons->AfT,lookup_cons->AgH,drop_of_length_le->Agb,getElem?_toArray->Af0,drop_eq_getElem_cons->Agq,filter_append->AhM,getElem_of_mem->Agz,pairwise_iff_getElem->Agx,mem_iff_getElem->Ahm,getElem_take->Aiu,filterMap_append->Aiz,getElem?_map->Agw,getElem_mem->Agv,length_filterMap_le->AhE,mem_filter->Agr,filterMap_cons->AjH
open _root_.Go.Value renaming int->AgQ,ownBlock->Afd,slice->Afc,bool->AfE
open _root_.Nat renaming le_trans->Ae7,le_refl->Ae8,succ_pos->Alu,zero_le->AfC,le_of_ble_eq_true->Afj,mul_le_mul_left->Ah7,le_succ_of_le->Ahp,le_succ->Ajl,lt_of_lt_of_le->AfZ,blt->Ag5,eq_of_beq_eq_true->AhQ,strongRecOn->Ahq,min_le_left->AiT,le_add_right->Ahh
open _root_.And renaming intro->AfF
open _root_.Int renaming toNat_natCast->Afg,emod->AgO,tmod->AgZ
open _root_.Prod renaming fst->AfB
open _root_.Go.World renaming block_lt_of_cell?->Agn,shape?->Alp
open _root_.Go.Lib renaming byteCells->Ae4,byteCells_length->Afl,indexByte->Aj0,compareBytes->Aft
open _root_.Go.Sem renaming run_bind->Afm,run_pure->Afo
open _root_.Go.Result renaming andThen_ok->Afe
open _root_.UInt8 renaming ofNat->Aga
open _root_.Option renaming getD_some->Af2
open _root_.Go.Instr renaming buildSlice->AfM
open _root_.Bool renaming or_eq_true->Ag7,and_eq_true->Agd,eq_false_or_eq_true->Ah5
open _root_.Array renaming getElem?_eq_some_iff->Afz,length_toList->Ag0,getD_eq_getD_getElem?->AfS,getElem?_eq_getElem->AhY
open _root_.Go.Region renaming ready->Agg,binds->Ago,noSelect->AkG
open _root_.Classical renaming byContradiction->Agh
open Go.RowKit
set_option maxRecDepth 100000
theorem FAt.set{a:Nat}{w w' :Ae3}{v:Ae2}{l:List Int}(h:FAt a w v l){g:Nat}(hg:w.grownBy w' (some g))(hn:a<=g):FAt a w' v l:=by
 rcases h.2 with rfl | ⟨b,hb,hl⟩
 ·exact⟨Sd h.1, .inl rfl⟩
 ·exact⟨h.1.kept hg (.inr (fun e=>by have:=AfJ (hb.symm.trans e);omega)), .inr ⟨b,hb,hl⟩⟩
theorem O8(w:Ae3)(a bf:Nat)(hn:a<=bf)(vf:Ae2)(fs:List Int)(i:Nat)(hbf:w.heap[bf]? =some (.cells ([vf]).toArray 22 (0,0)))(hF:FAt a w vf (fs.drop i))(m:Nat)(hm:m<4611686018427387904):
  Calls Ae5 70 #[NI m,PQ bf 0] w fun e w' =>∃v',e = .returned (NI (B6 fs i (m+1)))/\w'.heap[bf]? =some (.cells ([v']).toArray 22 (0,0))/\FAt a w' v' (fs.drop (i+1))/\w.grownBy w' (some bf):=by
 by_cases hi:i<fs.length
 ·have hl:0<(fs.drop i).length:=by rw[Afn];omega
  rcases hF.2 with h0 | ⟨b,hb,hlt⟩
  ·rw[h0]at hl;exact absurd hl (Nat.lt_irrefl _)
  ·refine(ZK w bf vf (fs.drop i) hbf hF.1 (fun e=>by have:=AfJ (hb.symm.trans e);omega) m hm hl).mono fun e w' q=> ?_;obtain⟨v',h1,h2,h3,h4,h5⟩:=q;refine⟨v',?_,h2,⟨by rw[List.drop_drop]at h3;exact h3, .inr ⟨b,h4.trans hb,hlt⟩⟩,h5⟩;rw[h1];unfold B6;rw[if_pos hi,Ae6,List.getElem?_drop,Nat.add_zero,<-Ae6]
 ·have h0:fs.drop i= []:=AkL (by omega);have h1:fs.drop (i+1)= []:=AkL (by omega);rw[h0]at hF;refine(ZJ w bf vf [] hbf hF.1 m hm rfl).mono fun e w' q=> ?_;obtain⟨he,hE⟩:=q;exact⟨vf,by rw[he];unfold B6;rw[if_neg hi],(eb hE hbf),by rw[h1];exact hF.keep hE,Am (World.grownBy.refl w (some bf)) hE.grown (fun _ e=>by cases e)⟩
theorem O9:Plain Ae5 70:=fun _ _=>by kernel_rfl
theorem Uo:∀w' :Ae3,(sizeOf 131).run Ae5 w' = .ok 1 w' :=fun _=>by kernel_rfl
theorem Up:Tryz.prog.underlying 131=some (.func #[104] #[] false):=by kernel_rfl
theorem ZL(ao:Option Addr)(n c:Nat)(z:Int)(w:Ae3):(Instr.build 133 #[(0, .slice ao n c),(1, .int .i64 z)]).run Ae5 w = .ok (.agg #[.slice ao n c, .int .i64 z]) w:=by kernel_rfl
set_option maxHeartbeats 1600000
theorem Wg(w0 w:Ae3)(a1:Ext w0 w)(H:Dk)(D:Ad)(hS:DkS w0.heap.size w H D)(vf:Ae2)(fs:List Int)(hrf:RG 1 (fun n:Int=> [AgQ .i64 n]) w vf fs)(hL:De D):
  Calls Ae5 38 #[PQ H.g 0,vf] w fun e w' =>∃H',e = .returned (.tuple #[])/\DkT w0.heap.size w H D w' H' (crashD D fs):=by
 have hb:=hS.blk;have hgl:=(bl hb);have hgl0:=hS.lo.1;have hsz0:=a1.size;have t:=hS;have bw:=a1;obtain⟨vs,hvs⟩:=hS.acts;have hvl:=hvs.len;have hva:RG 1 Cb w H.va vs:=AaR (⟨fun _ _=>rfl,by rw[enV_flat];exact hvs.row⟩:OG w0.heap.size 131 1 Cb w H.va vs);have hFA:=Ad1 hrf;have hact:=hL.acts;refine gG (args:= [PQ H.g 0,vf]) Tryz.func38 rfl 102 rfl rfl ?_;have hE:=Ad4 w;refine gS (Abx (vr vf rfl) (AeK (hrf.keep hE)).1 fun p w3 ch ba bb ci=> ?_);have m:=Ad4 w;have cj:=hE.size;have ck:=a1.size;have r:=ba;clear ba;have cl:p<w3.heap.size:=by omega
 have m:=m.trans bb;have hFA:FAt w.heap.size w3 vf (fs.drop 0):=(hFA.keep m);have hbfw:w.heap.size<=p:=by omega
 have hbfl:p<w3.heap.size:=(bl r);have hE:=hE.trans bb;refine gS (Aa8 VY rfl (kB (rfl) (cF rfl (gS (Abk (vs:= #[PQ p 0]) (by simp only[AfI,AfG,AfQ];exact congrArg Agp (K7 (vr (PQ p 0) rfl))) (gS (Ad7 rfl (gS (Ad6 P7 rfl (gS (Aax MY rfl rfl (cellAt (eb hE hb) rfl) (gS (AaE V4 rfl ((Jx _ (hS.keep hE).kept).mono ?_))))))))))))));rintro e bc ⟨nl,rfl,hnl,hml,a3⟩;refine⟨_,rfl,?_⟩;have hFA:FAt w.heap.size bc vf (fs.drop 0):=(hFA.keep a3);have hE:=hE.trans a3;have hnlw:w.heap.size<=nl:=by have:=hE.size;omega
 have hnb:p≠nl:=by omega
 have hml:MapF St (pF H.F) Nm bc nl (Ao (Iy D 0)):=hml;have hnll:=hml.lt;refine Ed [0,1,2,3,4,5,6,7,8,9,13,10,11,12] [10] [1,2] [3] fun bx ar=> ?_;have hFA:FAt w.heap.size bx vf (fs.drop 0):=(hFA.keep ar);have hE:=hE.trans ar;refine DV hE ?_;refine yp (Ad7 rfl zz) (yp (Ad6 Kg rfl zz) (yf (fun _ ⟨hE,_⟩=>Aax Jw rfl rfl (cellAt (eb hE hb) rfl) zz) (ys (Ad7 rfl zz) (ys (Ad6 Kg rfl zz) (ys (Aax Jw rfl rfl (cellAt (eb hE hb) rfl) zz) (ys (AaW Jw (AaD (hva.keep hE) rfl) zz) ?_))))));have hZ1:=a3.trans ar;have r:=eb hZ1 r;have htb:=BB r;refine yI (AbG O9 (caps:= #[PQ p 0]) rfl #[NI vs.length,PQ p 0] (by simp only[AfI,AfG,AfQ,Ag1,Af4,Af6];exact congrArg Agp (E2 rfl rfl)) ((O8 _ w.heap.size p hbfw vf fs (0) r hFA (vs.length) (by omega)).mono ?_));rintro e cm ⟨af,rfl,bd,hF26,a4⟩;refine⟨_,rfl,?_⟩;have hml:=hml.keep ar;have hml:=Ad8 hml a4 (Ak (by omega));clear hFA;clear r;have r:=bd;clear bd;have hFA:=hF26;clear hF26;have cn:=bl r;have hE:=Ab hE a4 (Ae7 (Ae8 _) (by omega));refine⟨⟨hE,trivial⟩,?_⟩;have hnf:B6 fs (0) (vs.length+1)<=vs.length:=by have:=KF fs 0 (n:=vs.length+1) (Alu _);omega
 refine yS (AcS (n:=B6 fs (0) (vs.length+1)) Jw Uo rfl (hva.keep hE) rfl hnf fun ak bz hown33=> ?_);have hvt:=bz;have hvb:Afd ak=H.va.ownBlock:=hown33;have hvnl:OB ak nl:=fun e=>by have h:=hvb.symm.trans e;have:=(hvs.row.lt _ h).2;omega
 have m:=m.trans hZ1;have m:=Ab m a4 (Ae7 (Ae8 _) (by omega));refine ys (AaW Jw (AaD hvt rfl) zz) (gL (fun(ρ:Ae) (wz:Ae3)=>∃i:Nat,ρ 0=(PQ H.g 0:Ae2)/\ρ 1=(vf:Ae2)/\ρ 3=(PQ p 0:Ae2)/\ρ 4=(.func (.func 70) #[] #[PQ p 0]:Ae2)/\ρ 5=(.map (some nl):Ae2)/\ρ 14=(.bool (false):Ae2)/\ρ 32=(ak:Ae2)/\ρ 33=(NI (((vs.take (B6 fs (0) (vs.length+1)))).length):Ae2)/\ρ 34=(NI i:Ae2)/\Ext w wz/\Ext w wz/\wz.heap[p]? =some (.cells ([af]).toArray 22 (0,0))/\FAt w.heap.size wz af (fs.drop (1))/\RG 1 (Cb) wz ak (vs.take (B6 fs (0) (vs.length+1)))/\MapF St (pF H.F) Nm wz nl (Ao (Iy D i))/\(i<=B6 fs (0) (vs.length+1))/\True) (fun ρ _=>(B6 fs (0) (vs.length+1))-(intOf (ρ 34)).toNat) ⟨0,rfl,rfl,rfl,rfl,rfl,rfl,rfl,rfl,rfl,hE,m,r,hFA,hvt,hml,AfC _,trivial⟩ ?_);clear hml;clear hE r hFA hvt;rintro b0 b1 ⟨i,u,T1,T3,T4,T5,aw,am,an,ah,hE,m,r,hFA,hvt,hml,hi,-⟩;have q34:=ah;refine gS (Aay (a:=(i:Nat)) (b:=(((vs.take (B6 fs (0) (vs.length+1)))).length:Nat)) ah an (AE _ _ _ _) ?_);refine cD rfl (fun a5=> ?_) fun a5=> ?_
 ·have hlt:i<B6 fs (0) (vs.length+1):=by have h:=a5;rw[Afi]at h;omega
  have hia:i<D.acts.length:=by have:=KF fs 0 (n:=vs.length+1) (Alu _);omega
  have hhE:=hE;have hat:ActAt b1 H.F ((vs.take (B6 fs (0) (vs.length+1))).getD i undef) (D.acts.getD i ⟨[],[],0⟩):=by rw[Un hlt];exact(hvs.at_ i hia).chg (B:=fun _=>False) (AbD hhE) (fun _ _ q=>q.elim) rfl
  have haok:=t.ok.acts _ (D5 (d:=⟨[],[],0⟩) hia);obtain⟨f,caps,hve,hpl,hcl⟩:=OZ hat hml (Wc t.ok i) haok;have co:(Cb (((vs.take (B6 fs (0) (vs.length+1)))).getD (i) undef)).length=1:=(Aec hvt undef (by omega));refine gS (AaZ Jw Uo (by decide) undef (AaD hvt am) ah (by omega) fun cp be=>(gS (AaY Up rfl (Aef (Aa6 be rfl) rfl) ?_)));clear be;refine gS (AcZ hpl rfl hve T5 hcl fun b2 hR44=> ?_);have hE:=Ab hE hR44.2 (Ae7 (Ae8 _) (by omega));have m:=Ab m hR44.2 (Ae7 (Ae8 _) (by omega));have r:=kb hR44.2 r (by omega);have hFA:FAt w.heap.size b2 af (fs.drop (1)):=FAt.set hFA hR44.2 (by omega);have hvt:=RG.kept hvt hR44.2 (.inr hvnl);clear hml;have hml:=hR44.1;rw[<-Sb hia]at hml;have hnll:=hml.lt;refine gS (Aaz (xv:=NI i) (yv:=NI 1) ah rfl rfl (Ah _ _ _ (by omega)) (gK (AfF ⟨i+1,u,T1,T3,T4,T5,aw,am,an,rfl,hE,m,r,hFA,hvt,hml,by omega,trivial⟩ ?_)));show(B6 fs (0) (vs.length+1))-(intOf (NI ((i)+(1)))).toNat<(B6 fs (0) (vs.length+1))-(intOf (b0 34)).toNat;rw[q34];simp only[intOf,Afg];omega
 have hie:i=B6 fs (0) (vs.length+1):=by have h:=a5;rw[Afi]at h;omega
 rw[hie,hvl,Sc]at hml;have hLok:=t.ok.left fs;have hLs:=hLok.sort;have hLl:(AS D fs).length<1099511627776:=Nat.lt_of_le_of_lt (O7 D fs) hL.kept;have hzc:=hE.size;have hnlc:=MapF.lt hml;have hbfc:=(bl r);refine gS (AbB St (pF (fun _=>0)) Nm fun na ax cq hm48 a6 cr=> ?_);have hFA:FAt w.heap.size ax af (fs.drop (1)):=(hFA.keep a6);have hnaw:w.heap.size<=na:=by omega
 have hnan:na≠nl:=by omega
 have hnab:na≠p:=by omega
 have hnag:na≠H.g:=by omega
 have hma:MapF St (pF (fun _=>0)) Nm ax na (Ao (Eo (AS D fs) 0)):=hm48;have hnal:=hma.lt;have hml:=hml.keep a6;have hm1:=hml;refine gS (AaE V9 T5 ((O1 _ _).mono ?_));rintro e a7 ⟨rfl,hwk⟩;refine⟨_,rfl,?_⟩;have hxk:Ext ax a7:=by rw[hwk];exact(Below.refl _ _).alloc (Ae8 _) _
 have hFA:FAt w.heap.size a7 af (fs.drop (1)):=(hFA.keep hxk);have hZ2:=a6.trans hxk;have hE:=hE.trans hZ2;have hzk:=hE.size;refine gS (AaE Wa rfl ((LH ax a7 hwk hm1 hLok hLl).mono ?_));rintro e bf ⟨vn,rfl,hnr0,ay⟩;refine⟨_,rfl,?_⟩;have hFA:FAt w.heap.size bf af (fs.drop (1)):=(hFA.keep ay);have hE:=hE.trans ay;have hnr:OG w.heap.size 9 1 CQ bf vn ((AS D fs).map AfB):=AeR hnr0 (by have:=hE.size;omega);have hZ3:=hZ2.trans ay;have r:=eb hZ3 r;have hnrb:OB vn p:=fun e=>B2 (EM hnr.2 e) (BB r) (by decide) rfl;have hZ4:=hxk.trans ay;have hma:=hma.keep hZ4;have hnra:OB vn na:=fun e=>B2 (EM hnr.2 e) (MapF.tag hma) (by decide) rfl;have m:=m.trans hZ3;have hml:=hml.keep hZ4;refine gS (AaW OY (AaD (AaR hnr) rfl) (gL (fun(ρ:Ae) (wz:Ae3)=>∃j:Nat,∃vb:Ae2,∃F1:Nat->Nat,∃V1:Nat->Ae2,ρ 0=(PQ H.g 0:Ae2)/\ρ 1=(vf:Ae2)/\ρ 3=(PQ p 0:Ae2)/\ρ 4=(.func (.func 70) #[] #[PQ p 0]:Ae2)/\ρ 5=(.map (some nl):Ae2)/\ρ 8=(.map (some na):Ae2)/\ρ 14=(.bool (false):Ae2)/\ρ 32=(ak:Ae2)/\ρ 33=(NI (((vs.take (B6 fs (0) (vs.length+1)))).length):Ae2)/\ρ 34=(NI i:Ae2)/\ρ 45=(vn:Ae2)/\ρ 46=(NI ((((AS D fs).map AfB)).length):Ae2)/\ρ 47=(NI j:Ae2)/\Ext w wz/\Ext w wz/\MapF St (pF H.F) Nm wz nl (Ao (AS D fs))/\OG w.heap.size 9 1 (CQ) wz vn ((AS D fs).map AfB)/\wz.heap[p]? =some (.cells ([vb]).toArray 22 (0,0))/\FAt w.heap.size wz vb (fs.drop (j+1))/\MapF St (pF F1) Nm wz na (Ao (Eo (AS D fs) j))/\FilesAt w.heap.size wz F1 V1 (Fe D fs (AS D fs) j)/\(j<=(AS D fs).length)/\True) (fun ρ _=>(AS D fs).length-(intOf (ρ 47)).toNat) ⟨0,af,(fun _=>0),(fun _=> .slice none 0 0),u,T1,T3,T4,T5,rfl,aw,am,an,ah,rfl,rfl,rfl,hE,m,hml,hnr,r,hFA,hma,FilesAt.nil _ _,AfC _,trivial⟩ ?_));clear r;clear hFA;clear hvt;clear hma;clear hE m hml hnr;rintro b3 cs ⟨j,vb,F1,V1,u,T1,T3,T4,T5,T8,aw,am,an,ah,bg,bh,a0,hE,m,hml,hnr,hbv,hFA,hma,hfi,hj,-⟩;have q47:=a0;have hbfl2:=(bl hbv);have hnal2:=hma.lt;refine gS (Aay (a:=(j:Nat)) (b:=((((AS D fs).map AfB)).length:Nat)) a0 bh (AE _ _ _ _) ?_);refine cD rfl (fun a8=> ?_) fun a8=> ?_
 ·have hlt:j<(AS D fs).length:=by have h:=a8;rw[Afu]at h;exact h
  have hhE:=hE;have hnm:((AS D fs).map AfB).getD j []=((AS D fs).getD j ([],0)).1:=Wf hlt;obtain⟨k,hk⟩:∃k,k=((AS D fs).getD j ([],0)).2:=⟨_,rfl⟩;have hmemj:=D5 (d:=([],0)) hlt;have hlk:Ao (AS D fs) (((AS D fs).map AfB).getD j [])=some k:=by rw[hnm,hk];exact FV hLs hmemj
  have hkl:k<D.files.length:=hk▸hLok.num _ hmemj;have hmj:Bg (((AS D fs).map AfB).getD j [])=true:=by rw[hnm];exact hLok.may _ hmemj
  have hfa:=t.files.at_ k hkl;have hfb:=hfa.blk;have hfr:RB w (H.V k) (D.files.getD k ([],0)).1:=Aa5 hfa.row;have hfl:=hL.files _ (D5 (d:=([],0)) hkl);have hsy:=t.ok.syn _ (D5 (d:=([],0)) hkl);have ct:(CQ ((((AS D fs).map AfB)).getD (j) ([]:AlJ))).length=1:=(Aec (AaR hnr) ([]:AlJ) (by omega));refine gS (AaZ OY VZ (by decide) ([]:AlJ) (AaD (AaR hnr) bg) a0 (by omega) fun cu bi=>(gS (AaY QD rfl (Aef (Aa6 bi rfl) rfl) ?_)));clear bi;refine gS (AbC Fd Eb (fun _ _=>C4) MY Iw T5 rfl hml (B1 hmj).2 hlk ?_);have hfi_j0:=hfi;refine Ed [0,1,2,3,4,5,6,7,8,9,10,11,12,13,14,15,16,17] [15] [1,2] [3] fun bj aa=> ?_;have hFA:FAt w.heap.size bj vb (fs.drop (j+1)):=(hFA.keep aa);have hfi:FilesAt w.heap.size bj F1 V1 (Fe D fs (AS D fs) j):=(hfi.keep aa);have hE:=hE.trans aa;refine DV hE ?_;refine yp (Ad7 rfl zz) (yp (Ad6 P6 rfl zz) (yf (fun _ ⟨hE,_⟩=>Aax Vx rfl rfl (cellAt (eb hE hfb) rfl) zz) (ys (Ad7 rfl zz) (ys (Ad6 P4 rfl zz) (ys (Aax GR rfl rfl (cellAt (eb hE hfb) rfl) zz) (ys (AaT GR (AaF (hfr.keep hE) rfl) zz) (ys (Ad7 rfl zz) (ys (Ad6 P6 rfl zz) (ys (Aax Vx rfl rfl (cellAt (eb hE hfb) rfl) zz) (ys (Aaz (xv:=NI (((D.files.getD k ([],0)).1:AlJ).length)) (yv:=NI ((D.files.getD k ([],0)).2)) rfl rfl rfl (BL _ _ _ (by omega) (by omega)) zz) ?_))))))))));have hbv:=eb aa hbv;have htb:=BB hbv;refine yI (AbG O9 (caps:= #[PQ p 0]) T4 #[NI ((((D.files.getD k ([],0)).1:AlJ).length)-((D.files.getD k ([],0)).2)),PQ p 0] (by simp only[AfI,AfG,AfQ,Ag1,Af4,Af6];exact congrArg Agp (E2 rfl rfl)) ((O8 _ w.heap.size p hbfw vb fs (j+1) hbv hFA ((((D.files.getD k ([],0)).1:AlJ).length)-((D.files.getD k ([],0)).2)) (by omega)).mono ?_));rintro e bk ⟨bm,rfl,bn,hF70,aj⟩;refine⟨_,rfl,?_⟩;have hml:=hml.keep aa;have hml:=Ad8 hml aj (Ak (by omega));have hma:=hma.keep aa;have hma:=Ad8 hma aj (Ak (by omega));have hfi:FilesAt w.heap.size bk F1 V1 (Fe D fs (AS D fs) j):=FilesAt.setT hfi aj htb (by decide) (by decide);clear hbv;clear hFA;have hbv:=bn;clear bn;have hFA:=hF70;clear hF70;have cv:=bl hbv;have hE:=Ab hE aj (Ae7 (Ae8 _) (by omega));refine⟨⟨hE,trivial⟩,?_⟩;refine ys (Aaz (xv:=NI ((D.files.getD k ([],0)).2)) (yv:=NI (B6 fs (j+1) ((((D.files.getD k ([],0)).1:AlJ).length)-((D.files.getD k ([],0)).2)+1))) rfl rfl rfl (Ah _ _ _ (by have h:=(Iv t.ok fs j k).2;change (Em D fs j k).2<=(D.files.getD k ([],0)).1.length at h;show(Em D fs j k).2<_;omega)) zz) ?_;have hcut:=Iv t.ok fs j k;refine gS (Ad7 rfl (gS (Ad6 P4 rfl (gS (Aax GR rfl rfl (cellAt (eb hE hfb) rfl) (gS (Abr (xs:=(D.files.getD k ([],0)).1) (n:=((D.files.getD k ([],0)).2)+((B6 fs (j+1) ((((D.files.getD k ([],0)).1:AlJ).length)-((D.files.getD k ([],0)).2)+1)))) GR Rg rfl (hfr.keep hE) rfl (by exact(Iv t.ok fs j k).2) fun b4 b5 ha77=> ?_)))))));have hfi_c:=hfi;refine gS (AaE TU rfl ((Jr _ b4 (((D.files.getD k ([],0)).1:AlJ).take (((D.files.getD k ([],0)).2)+((B6 fs (j+1) ((((D.files.getD k ([],0)).1:AlJ).length)-((D.files.getD k ([],0)).2)+1))))) b5 (by simp only[Afi];omega)).mono ?_));rintro e cw ⟨ab,rfl,ac⟩;refine⟨_,rfl,?_⟩;have ad:=Ad4 bk;have m:=m.trans aa;have m:=Ab m aj (Ae7 (Ae8 _) (by omega));have cx:=hE.size;have cy:=m.size;have hnr:=hnr.keep aa;have hnr:=Aei hnr aj hnrb;have ap:=ac.own;obtain⟨ao_,n_,c_,hsl_⟩:∃ao n c,ab = .slice ao n c:=AeA (Aa5 ap);refine gS (Abu (v:= .agg ([ab,NI (((D.files.getD k ([],0)).2)+((B6 fs (j+1) ((((D.files.getD k ([],0)).1:AlJ).length)-((D.files.getD k ([],0)).2)+1))))]:List Ae2).toArray) (vr ab rfl) (vr (NI (((D.files.getD k ([],0)).2)+((B6 fs (j+1) ((((D.files.getD k ([],0)).1:AlJ).length)-((D.files.getD k ([],0)).2)+1))))) rfl) (fun w=>by rw[hsl_];exact ZL _ _ _ _ w) ?_);have hE:=hE.trans ac.ext;have hzb:=hE.size;have ad:=ad.trans ac.ext;have hfi_j:=(hfi.keep ad);refine gS (Ael (vr (.agg ([ab,NI (((D.files.getD k ([],0)).2)+((B6 fs (j+1) ((((D.files.getD k ([],0)).1:AlJ).length)-((D.files.getD k ([],0)).2)+1))))]:List Ae2).toArray) rfl) fun s bo a9 bp ae cz=> ?_);have m:=m.trans ac.ext;have c0:=hE.size;have c1:=m.size;have c2:=ad.size;have hml:=hml.keep ac.ext;have c3:=Av hml.lt a9;have hma:=hma.keep ac.ext;have c4:=Av hma.lt a9;have b6:=bp;clear bp;have c5:s<bo.heap.size:=by omega
  have hgfw:w.heap.size<=s:=by omega
  have hma:=hma.keep ae;have hmc:=MapF.congr (ev' :=pF (BC F1 j s)) hma (fun a y hy=>by show PQ (BC _ _ _ _) 0=_;rw[BW _ _ (YF hy)]);have htm:=MapF.tag hmc;have ap:=Aed _ _ _ _ _ _ _ _ ap ae;have ad:=ad.trans ae;have hfi2:FilesAt w.heap.size bo (BC F1 j s) (BC V1 j ab) (Fe D fs (AS D fs) (j+1)):=by
   have hl:=Wd D fs (AS D fs) hj;have h:=AcM (hfi.keep ad) (f:=s) (v:=ab) (x:=Em D fs j ((AS D fs).getD j ([],0)).2) ⟨by rw[<-hk];exact b6,by rw[<-hk];exact BM ap (by omega),hgfw⟩ (fun q hq e=>by have:=(bl (hfi_j.at_ q hq).blk);rw[e]at this;exact absurd this (by omega)) (fun q hq i hi e=>by have h1:=((hfi_c.at_ q hq).row.lt i hi).2;have h2:=(World.ownsRow.lt ap i e).1;omega);rw[hl]at h;rw[Ul hlt];exact h
  refine gS (Aby (ev:=pF (BC F1 j s)) (c:=j) Fd Eb MY T8 (vr (St ((((AS D fs).map AfB)).getD (j) ([]:AlJ))) rfl) (Eq.trans ((vr (PQ s 0) rfl)) (by show _=PQ (BC F1 j s j) 0;rw[Ca])) hmc (B1 hmj).2 fun bq hM113 ai c6=> ?_);have hfi:=hfi2;have hml:=hml.keep ae;have hml:=Ad8 hml ai (Ak (by omega));have hfi:FilesAt w.heap.size bq (BC F1 j s) (BC V1 j ab) (Fe D fs (AS D fs) (j+1)):=FilesAt.setT hfi ai htm (by decide) (by decide);have hFA:=hFA.keep ad;have hFA:FAt w.heap.size bq bm (fs.drop (j+1+1)):=FAt.set hFA ai (by omega);clear hma;have hma:=hM113;rw[hnm,We hLs hlt]at hma;have hnr:=hnr.keep ac.ext;have hnr:=hnr.keep ae;have hnr:=Aei hnr ai hnra;have hbv:=eb ac.ext hbv;have c7:=Av (bl hbv) a9;have hbv:=eb ae hbv;have hbv:=kb ai hbv (by omega);have hE:=hE.trans ae;have hE:=Ab hE ai (Ae7 (Ae8 _) (by omega));have m:=m.trans ae;have m:=Ab m ai (Ae7 (Ae8 _) (by omega));refine gS (Aaz (xv:=NI j) (yv:=NI 1) a0 rfl rfl (Ah _ _ _ (by omega)) (gK (AfF ⟨j+1,bm,(BC F1 j s),(BC V1 j ab),u,T1,T3,T4,T5,T8,aw,am,an,ah,bg,bh,rfl,hE,m,hml,hnr,hbv,hFA,hma,hfi,by omega,trivial⟩ ?_)));show(AS D fs).length-(intOf (NI ((j)+(1)))).toNat<(AS D fs).length-(intOf (b3 47)).toNat;rw[q47];simp only[intOf,Afg];omega
 have hje:j=(AS D fs).length:=by have h:=a8;rw[Afu]at h;omega
 rw[hje]at hma hfi;have o:=(eb hE hb);have hgl17:=(bl o);have c8:=hE.size;have hnal17:=MapF.lt hma;refine gS (AaE V4 T8 ((Jx _ hma).mono ?_));rintro e z ⟨nb,rfl,hnbl,hmb17,aq⟩;refine⟨_,rfl,?_⟩;have hFA:FAt w.heap.size z vb (fs.drop (j+1)):=(hFA.keep aq);have hfi:FilesAt w.heap.size z F1 V1 (Fe D fs (AS D fs) (AS D fs).length):=(hfi.keep aq);have hfi17:=hfi;have hma:=hma.keep aq;have hma17:=hma;have hE:=hE.trans aq;have hhE17:=hE;have o:=eb aq o;have htd17:=BB o;have hnbw:w.heap.size<=nb:=by omega
 have hnabn:na≠nb:=by omega
 have hgnb:H.g≠nb:=by omega
 have hC2:Chg (fun i=>i=H.g) z z:=AeF _ _;refine gS (Ad7 u (gS (Ad6 P3 rfl (gS (Aa0 (i:=1) (v:= .map (some na)) rfl T8 o (Afj rfl) R8 rfl rfl fun b7 br b8 c9=> ?_)))));clear m;clear hnr;have hC2:Chg (fun i=>i=H.g) z b7:=Aeu hC2 b8 (.inl rfl);clear o;have o:=br;clear br;have da:=bl o;refine gS (Ad7 u (gS (Ad6 P7 rfl (gS (Aa0 (i:=2) (v:= .map (some nb)) rfl rfl o (Afj rfl) R8 rfl rfl fun b9 bs ca db=> ?_)))));have hC2:Chg (fun i=>i=H.g) z b9:=Aeu hC2 ca (.inl rfl);clear o;have o:=bs;clear bs;have dc:=bl o;refine gS (Ad7 u (gS (Ad6 Kg rfl (gS (Aa0 (i:=3) (v:=(Afc none 0 0)) rfl rfl o (Afj rfl) R5 rfl rfl fun cb bt cc dd=> ?_)))));have hC2:Chg (fun i=>i=H.g) z cb:=Aeu hC2 cc (.inl rfl);clear o;have o:=bt;clear bt;have de:=bl o;refine gS (Ad7 u (gS (Ad6 CY rfl (gS (Aa0 (i:=5) (v:=NI 0) rfl rfl o (Afj rfl) Oj rfl rfl fun cd bu ce df=> ?_)))));have hC2:Chg (fun i=>i=H.g) z cd:=Aeu hC2 ce (.inl rfl);clear o;have o:=bu;clear bu;have dh:=bl o;refine gS (Ad7 u (gS (Ad6 P2 rfl (gS (Aa0 (i:=6) (v:= .bool (false)) rfl rfl o (Afj rfl) V5 rfl rfl fun cf bv cg di=> ?_)))));have hC2:Chg (fun i=>i=H.g) z cf:=Aeu hC2 cg (.inl rfl);clear o;have o:=bv;clear bv;have dj:=bl o;refine rt0 rfl ?_;have hCt:=(AbD hhE17:Chg (fun i=>i=H.g) w _).trans hC2 (fun i e=> .inl e);have hTf:=t.crashed (l:=fs) bw.size hCt o (hma17.chg hC2 (fun e=>hnag e)) (hmb17.chg hC2 (fun e=>hgnb e.symm)) hnabn hnaw hnbw (hfi17.chg hC2 (fun k hk=>⟨fun e=>B2 (BB (hfi17.at_ k hk).blk) htd17 (by decide) e,fun i hi e=>B2 (EM (hfi17.at_ k hk).row hi) htd17 (by decide) e⟩));exact⟨_,rfl,hTf⟩
theorem ZM{P:AfD}{t:Afa}{k:Nat}{l:List Ae2}(hl:l.length=k)(hi:(P.info? t).map (·.size)=some k):(P.info? t).map (·.size)=some l.toArray.size:=by rw[Afr,hl];exact hi
structure DBd (n : Nat) (D : Ad) : Prop where
 quota:D.quota<=1073741824
 refused:D.refused<=n
 arm:D.arm<=9223372036854775807
 acts:D.kept.length+D.acts.length<=n
 now:D.now.length<=n
 files:∀x∈D.files,x.1.length<=300*n
theorem DBd.file{n:Nat}{D:Ad}(h:DBd n D)(k:Nat):(AG D k).1.length<=300*n:=by
 by_cases hk:k<D.files.length
 ·exact h.files _ (Jt hk)
 ·unfold AG;rw[Ae6,Agj (by omega)];exact AfC _
theorem Se{l:List Nat}{m:Nat}(h:∀x∈l,x<=m):l.sum<=l.length*m:=by
 induction l with
 | nil=>simp
 | cons a r ih=>
  have h1:=h a AfX;have h2:=ih fun x hx=>h x (AfY _ hx);rw[List.sum_cons,AfA,Nat.succ_mul];omega
theorem DBd.used{n:Nat}{D:Ad}(h:DBd n D):usedD D<=n*(300*n):=by
 unfold usedD;have h1:=Se (l:=D.now.map fun e=>(AG D e.2).1.length) (m:=300*n) fun x hx=>by
  obtain⟨e,_,rfl⟩:=AfO.1 hx;exact h.file e.2
 rw[Afu]at h1;exact Ae7 h1 (Nat.mul_le_mul_right _ h.now)
theorem DBd.lt{n:Nat}{D:Ad}(h:DBd n D)(hn:n<=100000):De D:=by
 have h1:=h.used;have h2:n*(300*n)<=100000*(300*100000):=Nat.mul_le_mul hn (Ah7 _ hn);have h3:=h.acts;have h4:=h.now;have h5:=h.refused;have h6:=h.arm;exact⟨h.quota,by omega,by omega,by omega,by omega,by omega,by omega,fun x hx=>by have:=h.files x hx;omega⟩
theorem DBd.mono{n m:Nat}{D:Ad}(h:DBd n D)(hn:n<=m):DBd m D:=
 ⟨h.quota,Ae7 h.refused hn,h.arm,Ae7 h.acts hn,Ae7 h.now hn,fun x hx=>Ae7 (h.files x hx) (Ah7 _ hn)⟩
theorem DBd.new{q:Nat}(hq:q<=1073741824):DBd 0 (En q):=⟨hq,Ae8 _,AfC _,Ae8 _,Ae8 _,fun x h=>by cases h⟩
theorem DBd.armed{n:Nat}{D:Ad}(h:DBd n D):DBd n (CI D).1:=by
 unfold CI;split
 ·exact h
 ·have:=h.arm;exact⟨h.quota,h.refused,by show D.arm-1<=_;omega,h.acts,h.now,h.files⟩
theorem DBd.turned{n:Nat}{D:Ad}(h:DBd n D)(a:CL):DBd (n+1) (turnedD D a):=by
 have h1:=OV D.now a;have h2:=h.acts;have h3:=h.now;refine⟨h.quota,Ahp h.refused,h.arm,?_,?_,fun x hx=>Ae7 (h.files x hx) (Ah7 _ (Ajl n))⟩
 ·show D.kept.length+(D.acts++ [a]).length<=n+1;rw[Ae9,Afs];omega
 ·show(turnD D.now a).length<=n+1;omega
theorem DBd.add{n:Nat}{D:Ad}(h:DBd n D)(s:AlJ){b:AlJ}(hb:b.length<=300):DBd (n+1) (Cg D s b):=by
 unfold Cg;split
 ·rename_i k _
  refine⟨h.quota,Ahp h.refused,h.arm,Ahp h.acts,Ahp h.now,fun x hx=> ?_⟩;rcases AhZ hx with hx | rfl
  ·have:=h.files x hx;omega
  ·have:=h.file k;show((AG D k).1++b).length<=_;rw[Ae9];omega
 ·have h1:=h.turned ⟨[],s,D.files.length⟩;refine⟨h1.quota,h1.refused,h1.arm,h1.acts,h1.now,fun x hx=> ?_⟩;rcases Afy.1 hx with hx | hx
  ·have:=h.files x hx;omega
  ·rw[Afh.1 hx];show b.length<=_;omega
theorem DBd.did{n:Nat}{D:Ad}(h:DBd n D){f:Ad->Ad}(hf:∀E,DBd n E->DBd (n+1) (f E)):DBd (n+1) (DZ D f).1:=by
 unfold DZ;split
 ·exact h.armed.mono (Ajl n)
 ·exact hf _ h.armed
theorem DBd.append{n:Nat}{D:Ad}(h:DBd n D)(s:AlJ){b:AlJ}(hb:b.length<=300):DBd (n+1) (A3 D s b).1:=by
 unfold A3;split
 ·exact h.mono (Ajl n)
 ·split
  ·exact⟨h.quota,Nat.succ_le_succ h.refused,h.arm,Ahp h.acts,Ahp h.now,fun x hx=>Ae7 (h.files x hx) (Ah7 _ (Ajl n))⟩
  ·exact h.did (f:=fun d=>Cg d s b) fun E hE=>hE.add s hb
theorem DBd.sync{n:Nat}{D:Ad}(h:DBd n D)(s:AlJ):DBd (n+1) (BD D s).1:=by
 unfold BD;split
 ·exact h.mono (Ajl n)
 ·rename_i k _
  refine h.did fun E hE=>⟨hE.quota,Ahp hE.refused,hE.arm,?_,Ahp hE.now,fun x hx=> ?_⟩
  ·have:=hE.now;show E.now.length+0<=_;omega
  ·rcases AhZ hx with hx | rfl
   ·have:=hE.files x hx;omega
   ·have:=hE.file k;show(AG E k).1.length<=_;omega
theorem DBd.drop{n:Nat}{D:Ad}(h:DBd n D)(s:AlJ):DBd (n+1) (Bx D s).1:=by
 unfold Bx;split
 ·exact h.mono (Ajl n)
 ·exact h.did fun E hE=>hE.turned _
theorem DBd.crash{n:Nat}{D:Ad}(h:DBd n D)(l:List Int):DBd n (crashD D l):=by
 have h1:=O7 D l;have h2:=h.acts;have h3:(Dt (AS D l)).length=(AS D l).length:=by unfold Dt;rw[List.length_mapIdx]
 refine⟨h.quota,h.refused,AfC _,?_,?_,fun x hx=> ?_⟩
 ·show(Dt (AS D l)).length+0<=n;omega
 ·show(Dt (AS D l)).length<=n;omega
 ·obtain⟨i,hi,rfl⟩:=List.mem_mapIdx.1 hx;have h4:=h.file ((AS D l)[i]'hi).2;unfold Em;simp only[Afi];omega
section
variable {base : Nat} {w w' wb : Ae3} {g : Nat} {H H' : Dk} {D D' : Ad}
theorem DkS.low(h:DkS base w H D){b' :Nat}(hb:b' <=base):DkS b' w H D:=by
 obtain⟨vs,hv⟩:=h.acts;exact⟨h.blk,h.now,h.kept,h.ne,⟨vs,BM hv.row hb,hv.len,hv.at_⟩,h.files.low hb,h.ok,⟨Ae7 hb h.lo.1,Ae7 hb h.lo.2.1,Ae7 hb h.lo.2.2⟩⟩
structure DkG (wb w : Ae3) (g : Nat) (H : Dk) (D : Ad) : Prop where
 ext:Ext wb w
 st:DkS wb.heap.size w H D
 hg:H.g=g
theorem DkG.keep(h:DkG wb w g H D)(k:Ext w w'):DkG wb w' g H D:=⟨h.ext.trans k,h.st.keep k,h.hg⟩
theorem DkG.step(h:DkG wb w g H D)(k:DkT wb.heap.size w H D w' H' D'):DkG wb w' g H' D' :=⟨k.chg.ext h.ext (fun i q=>(h.st.foot q).2.2),k.st,k.g.trans h.hg⟩
theorem ZN{v:Ae2}{l:AlJ}(h:RB w v l):l= []\/∃b,v.ownBlock=some b/\b<w.heap.size:=by
 cases l with
 | nil=>exact .inl rfl
 | cons x r=>
  obtain⟨h1,ao,cap,rfl,h2,h3,h4,h5⟩:=id h;cases ao with
  | none=>exact absurd (h4 rfl).1 (by simp)
  | some a=>
   have hc:=h5 a rfl 0 _ (show _=some (B8 x)from rfl);have hl:=Agn w _ hc;refine .inr ⟨a.block,rfl,?_⟩;have e:(a.add 0).block=a.block:=by unfold Addr.add;split <;> rfl
   rwa [e]at hl
theorem DkG.off(h:DkG wb w g H D){v:Ae2}{l:AlJ}(hr:RB wb v l):l= []\/∀i,v.ownBlock=some i->¬B7 H D.files.length i:=by
 refine(ZN hr).imp id fun⟨b,hb,hl⟩ i hi q=> ?_;have:=(h.st.foot q).2.2;rw[hb]at hi;cases hi;omega
theorem DkG.box(h:DkG wb w g H D)(hc:Chg (B7 H D.files.length) w w'){b:Nat}{cs:Array Ae2}{t:Afa}{fr:Nat × Nat}(hb:w.heap[b]? =some (.cells cs t fr))(h1:t≠107)(h2:t≠133)(h3:t≠5)(h4:t≠131):w'.heap[b]? =some (.cells cs t fr):=
 (hc.blk b (bl hb) (h.st.offT hb h1 h2 h3 h4)).trans hb
abbrev Aeo:=@DkG.box
theorem DkG.read(h:DkG wb w g H D)(s:AlJ)(hL:De D):
  Calls Ae5 42 #[PQ g 0,St s] w fun e w' =>∃v,e = .returned (.tuple #[v,NI (Ar D s).2])/\w'.ownsRow w.heap.size 5 1 v (Ar D s).1.length (Ae4 (Ar D s).1)/\Ext w w' :=by
 rw[<-h.hg];exact YA wb w H D h.st s hL
theorem DkG.list(h:DkG wb w g H D)(hL:De D):
  Calls Ae5 27 #[PQ g 0] w fun e w' =>∃v,e = .returned v/\OG w.heap.size 9 1 CQ w' v (AF D)/\Ext w w' :=by
 rw[<-h.hg];exact YB _ w H D h.st hL.now
theorem DkG.down(h:DkG wb w g H D):
  Calls Ae5 40 #[PQ g 0] w fun e w' =>e = .returned (.bool D.down)/\Ext w w' :=by
 rw[<-h.hg];exact Wb _ w H D h.st
theorem XR(wb w:Ae3)(hE:Ext wb w)(q:Nat)(hq:q<=1073741824):
  Calls Ae5 21 #[NI q] w fun e w' =>∃g H,e = .returned (PQ g 0)/\DkG wb w' g H (En q)/\Ext w w' :=
 (ZI w q hq).mono fun e w' ⟨H,he,hS,hx⟩=>⟨H.g,H,he,⟨hE.trans hx,hS.low hE.size,rfl⟩,hx⟩
end
section
variable {base : Nat} {w w' wb : Ae3} {g : Nat} {H H' : Dk} {D D' : Ad}
structure DkW (wb w : Ae3) (g : Nat) (H : Dk) (D : Ad) (w' : Ae3) (H' : Dk) (D' : Ad) : Prop where
 g:DkG wb w' g H' D'
 chg:Chg (B7 H D.files.length) w w'
 foot:∀i,B7 H' D'.files.length i->B7 H D.files.length i\/w.heap.size<=i
theorem DkG.stepW(h:DkG wb w g H D)(k:DkT wb.heap.size w H D w' H' D'):DkW wb w g H D w' H' D' :=⟨h.step k,k.chg,k.foot⟩
theorem DkG.appendW(h:DkG wb w g H D)(s:AlJ)(vb:Ae2)(b:AlJ)(hrb:RB w vb b)(hoff:b= []\/∀i,vb.ownBlock=some i->¬B7 H D.files.length i)(hbl:b.length<1099511627776)(hL:De D):
  Calls Ae5 88 #[PQ g 0,St s,vb] w fun e w' =>∃H',e = .returned (NI (A3 D s b).2)/\DkW wb w g H D w' H' (A3 D s b).1:=by
 rw[<-h.hg];exact(Uj wb w h.ext H D h.st s vb b hrb hoff hbl hL).mono fun e w' ⟨H',he,hT⟩=>⟨H',he,by rw[h.hg];exact h.stepW hT⟩
theorem DkG.syncW(h:DkG wb w g H D)(s:AlJ)(hL:De D):
  Calls Ae5 90 #[PQ g 0,St s] w fun e w' =>∃H',e = .returned (NI (BD D s).2)/\DkW wb w g H D w' H' (BD D s).1:=by
 rw[<-h.hg];exact(Yy wb w h.ext H D h.st s hL).mono fun e w' ⟨H',he,hT⟩=>⟨H',he,by rw[h.hg];exact h.stepW hT⟩
theorem DkG.dropW(h:DkG wb w g H D)(s:AlJ)(hL:De D):
  Calls Ae5 52 #[PQ g 0,St s] w fun e w' =>∃H',e = .returned (NI (Bx D s).2)/\DkW wb w g H D w' H' (Bx D s).1:=by
 rw[<-h.hg];exact(Yz wb w h.ext H D h.st s hL).mono fun e w' ⟨H',he,hT⟩=>⟨H',he,by rw[h.hg];exact h.stepW hT⟩
theorem DkG.armW(h:DkG wb w g H D)(n:Int):
  Calls Ae5 37 #[PQ g 0, .int .i64 n] w fun e w' =>∃H',e = .returned (.tuple #[])/\DkW wb w g H D w' H' { D with arm:=n.toNat } :=by
 rw[<-h.hg];exact(ZH wb w h.ext H D h.st n).mono fun e w' ⟨he,hT⟩=>⟨H,he,by rw[h.hg];exact h.stepW hT⟩
theorem DkG.crashW(h:DkG wb w g H D)(vf:Ae2)(fs:List Int)(hrf:RG 1 BY w vf fs)(hL:De D):
  Calls Ae5 38 #[PQ g 0,vf] w fun e w' =>∃H',e = .returned (.tuple #[])/\DkW wb w g H D w' H' (crashD D fs):=by
 rw[<-h.hg];exact(Wg wb w h.ext H D h.st vf fs hrf hL).mono fun e w' ⟨H',he,hT⟩=>⟨H',he,by rw[h.hg];exact h.stepW hT⟩
theorem ActAt.setT{F:Nat->Nat}{v:Ae2}{a:CL}{g:Nat}{cs:Array Ae2}{t:Afa}{fr:Nat × Nat}(h:ActAt w F v a)(hc:Chg (fun i=>i=g) w w')(hb:w.heap[g]? =some (.cells cs t fr))(h1:t≠113)(h2:t≠9):ActAt w' F v a:=by
 have k:∀ {b:Nat} {cs' :Array Ae2} {t' :Afa} {fr' :Nat × Nat},w.heap[b]? =some (.cells cs' t' fr')->t' ≠t->w'.heap[b]? =some (.cells cs' t' fr'):=fun e hne=>(hc.blk _ (bl e) fun q=>by rw[q,hb]at e;cases e;exact hne rfl).trans e;rcases h with ⟨bf,bn,e,q1,q2,q3,q4⟩ | ⟨hm,bs,bf,bn,e,q1,q2,q3,q4⟩ | ⟨bn,e,q1,q2⟩
 ·exact .inl ⟨bf,bn,e,k q1 (Ne.symm h1),k q2 (Ne.symm h2),q3,q4⟩
 ·exact .inr (.inl ⟨hm,bs,bf,bn,e,k q1 (Ne.symm h2),k q2 (Ne.symm h1),k q3 (Ne.symm h2),q4⟩)
 ·exact .inr (.inr ⟨bn,e,k q1 (Ne.symm h2),q2⟩)
theorem DkS.setT(h:DkS base w H D){g:Nat}{cs:Array Ae2}{t:Afa}{fr:Nat × Nat}(hg:w.grownBy w' (some g))(hb:w.heap[g]? =some (.cells cs t fr))(h1:t≠107)(h2:t≠133)(h3:t≠5)(h4:t≠131)(h5:t≠113)(h6:t≠9):DkS base w' H D:=by
 have hc:Chg (fun i=>i=g) w w' :=Abd hg fun i e=> .inl (AfJ e).symm;have hB:∀i,B7 H D.files.length i->¬i=g:=fun i q e=>h.offT hb h1 h2 h3 h4 (e▸q);obtain⟨vs,hv⟩:=h.acts;exact⟨(hc.blk _ (bl h.blk) (hB _ (.inl rfl))).trans h.blk,h.now.chg hc (hB _ (.inr (.inl rfl))),h.kept.chg hc (hB _ (.inr (.inr (.inl rfl)))),h.ne,
  ⟨vs,Dl hc hv.row (fun i hi=>hB i (.inr (.inr (.inr (.inl hi))))),hv.len,fun i hi=>(hv.at_ i hi).setT hc hb h5 h6⟩,
  h.files.chg hc (fun k hk=>⟨hB _ (.inr (.inr (.inr (.inr ⟨k,hk, .inl rfl⟩)))),fun i hi=>hB i (.inr (.inr (.inr (.inr ⟨k,hk, .inr hi⟩))))⟩),h.ok,h.lo⟩
theorem DkG.setT(h:DkG wb w g H D){b:Nat}{cs:Array Ae2}{t:Afa}{fr:Nat × Nat}(hg:w.grownBy w' (some b))(hb:w.heap[b]? =some (.cells cs t fr))(hw:wb.heap.size<=b)(h1:t≠107)(h2:t≠133)(h3:t≠5)(h4:t≠131)(h5:t≠113)(h6:t≠9):DkG wb w' g H D:=
 ⟨(show Chg (fun i=>i=b) w w' from Abd hg fun i e=> .inl (AfJ e).symm).ext h.ext (fun i q=>by have q:i=b:=q;omega),h.st.setT hg hb h1 h2 h3 h4 h5 h6,h.hg⟩
end
def BAt(w w0:Ae3)(b:Nat)(l:AlJ):Prop:=w0.heap.size<=b/\∃p v,(p = .pointer none\/p = .pointer (some ⟨b,0,none⟩))/\w.heap[b]? =some (.cells ([p,v]:List Ae2).toArray 219 (0,0))/\w.ownsRow w0.heap.size 5 1 v l.length (Ae4 l)/\v.ownBlock≠some b
theorem BAt.fresh{w w0:Ae3}{b:Nat}(h0:w0.heap.size<=b)(h:w.heap[b]? =some (.cells ([.pointer none,(.slice none 0 0)]:List Ae2).toArray 219 (0,0))):BAt w w0 b []:=
 ⟨h0,_,_, .inl rfl,h,World.ownsRow_nil w _ _ 1,by simp[Afd]⟩
theorem AdV{w w0:Ae3}{b:Nat}{l:AlJ}(h:BAt w w0 b l):Lib.IsBuilder 219 5 w0.heap.size b (Ae4 l) w:=by
 obtain⟨h0,p,v,h1,h2,h3,h4⟩:=h;have h3' :w.ownsRow w0.heap.size 5 1 v (Ae4 l).length (Ae4 l):=by rw[Afl];exact h3
 rcases h1 with rfl | rfl
 ·exact .inl ⟨h0,v,h2,h3',h4⟩
 ·exact .inr ⟨h0,v,h2,h3',h4⟩
section
variable {P : AfD} {K : Ae2 -> Ae3 -> Prop} {ρ : Ae} {w : Ae3} {d : Option Tmp} {ty : Afa} {pos : String} {af : Array Edge} {gd : Option (Nat × Bool)}
theorem Mi{t n:Nat}(hi:(P.info? t).map (·.size)=some n):∃j,P.info? t=some j/\j.size=n:=by
 cases h:P.info? t with
 | none=>simp[h]at hi
 | some j=>exact⟨j,rfl,by simpa [h] using hi⟩
theorem AcV{src dst t e:Afa}{n:Nat}(hs:P.underlying src=some (.pointer t))(hd:P.underlying dst=some .unsafePointer)(hi:(P.info? t).map (·.size)=some n)(hn:n≠0){x:Aff}{b o:Nat}{cs:Array Ae2}{fr:Nat × Nat}(hx:Aa ρ x = .pointer (some ⟨b,o,none⟩))(hb:w.heap[b]? =some (.cells cs e fr))(ho:o<cs.size) 
  (hk:K (.pointer (some ⟨b,o,none⟩)) w):Yk P K ((execOp (Aa ρ) ⟨d, .convert src dst x,ty,pos,af,gd⟩).run P w):=by
 obtain⟨j,h1,h2⟩:=Mi hi;have hr:=Lib.run_to_unsafe (P:=P) w (⟨b,o,none⟩:Addr) hs hd h1 (by omega) (by show w.shape? b=_;unfold Alp;rw[hb]) ho;refine Aea (v:= .pointer (some ⟨b,o,none⟩)) (w' :=w) ?_ hk;unfold execOp;simp only[hx,hr,Afm,Afo,Afe]
theorem AcD{src dst u e:Afa}{n m:Nat}(hs:P.underlying src=some .unsafePointer)(hd:P.underlying dst=some (.pointer u))(hi:(P.info? u).map (·.size)=some n){x:Aff}{b o:Nat}{cs:Array Ae2}{fr:Nat × Nat}(hx:Aa ρ x = .pointer (some ⟨b,o,none⟩))(hb:w.heap[b]? =some (.cells cs e fr))(hm:cs.size=m)(hl:liesAt P P.depth e (m/P.cellsOf e) o u 1=true) 
  (hk:K (.pointer (some ⟨b,o,none⟩)) w):Yk P K ((execOp (Aa ρ) ⟨d, .convert src dst x,ty,pos,af,gd⟩).run P w):=by
 obtain⟨j,h1,h2⟩:=Mi hi;have hr:=Lib.run_from_unsafe (P:=P) w (cells:=m) (⟨b,o,none⟩:Addr) hs hd h1 (by show w.shape? b=_;unfold Alp;rw[hb];simp[hm]) hl;refine Aea (v:= .pointer (some ⟨b,o,none⟩)) (w' :=w) ?_ hk;unfold execOp;simp only[hx,hr,Afm,Afo,Afe]
theorem Ade{t e ty2:Afa}{n:Nat}(ht:P.underlying t=some (.pointer e))(hi:(P.info? e).map (·.size)=some n){x y:Aff}{a:Addr}(hx:Aa ρ x = .pointer (some a))(hy:Aa ρ y = .pointer (some a))(hk:K (.bool false) w):Yk P K ((execOp (Aa ρ) ⟨d, .binOp .neq t x y ty2,ty,pos,af,gd⟩).run P w):=by
 obtain⟨j,h1,h2⟩:=Mi hi;have hr:=Lib.run_neq_ptr_same (P:=P) w a ht h1;refine Aea (v:= .bool false) (w' :=w) ?_ hk;unfold execOp;simp only[hx,hy];simp[eqGuard,hr]
end
theorem leb6_tyU305:Tryz.prog.underlying 305=some .unsafePointer:=by kernel_rfl
theorem leb6_ne(a:Option Addr)(w:Ae3):(callFunc 213 #[.pointer a]).run Ae5 w = .ok (.value (.pointer a)) w:=by kernel_rfl
theorem YG:liesAt Ae5 Tryz.prog.depth 219 (2/Tryz.prog.cellsOf 219) 0 219 1=true:=by kernel_rfl
theorem leb6_fo219_0:AZ Ae5 219 0 0:=fun b o w=>by simp[go_sem]
theorem leb6_ty217:Tryz.prog.underlying 217=some (.pointer 219):=by kernel_rfl
theorem leb6_isz219:(Tryz.prog.info? 219).map (·.size)=some 2:=by kernel_rfl
theorem P8:(Tryz.prog.info? 217).map (·.size)=some 1:=by kernel_rfl
theorem leb6_pl174:Plain Ae5 174:=fun _ _=>by kernel_rfl
theorem Jz:AZ Ae5 219 1 1:=fun b o w=>by simp[go_sem]
theorem Mj(w:Ae3)(b:Nat)(v:Ae2)(hb:w.heap[b]? =some (.cells ([.pointer none,v]:List Ae2).toArray 219 (0,0))):
  Calls Ae5 174 #[PQ b 0] w fun e w' =>e = .returned (.tuple #[])/\w'.heap[b]? =some (.cells ([PQ b 0,v]:List Ae2).toArray 219 (0,0))/\w.grownBy w' (some b):=by
 have hgr:w.grownBy w (some b):=World.grownBy.refl _ _;refine gG (args:= [PQ b 0]) Tryz.func174 rfl 20 rfl rfl (gS (Ad7 rfl (gS (Ad6 leb6_fo219_0 rfl (gS (Aax leb6_ty217 rfl rfl (cellAt hb rfl) (gS (Aa8 leb6_ty217 rfl (cT rfl (gS (AcV leb6_ty217 leb6_tyU305 leb6_isz219 (by decide) rfl hb (Afj rfl) (gS (Ac4 rfl (leb6_ne _ _) (gS (AcD leb6_tyU305 leb6_ty217 leb6_isz219 rfl hb (m:=2) rfl YG (gS (Ad7 rfl (gS (Ad6 leb6_fo219_0 rfl (gS (Aa0 (i:=0) (v:=PQ b 0) rfl rfl hb (Afj rfl) P8 rfl rfl fun w2 a c f=> ?_)))))))))))))))))))));have hgr:w.grownBy w2 (some b):=Am hgr c (fun _ e=> .inl e);clear hb;have hb:=a;clear a;have g:=bl hb;refine rt0 rfl ?_;exact⟨rfl,hb,hgr⟩
theorem Mk(w:Ae3)(b:Nat)(v:Ae2)(hb:w.heap[b]? =some (.cells ([PQ b 0,v]:List Ae2).toArray 219 (0,0))):
  Calls Ae5 174 #[PQ b 0] w fun e w' =>e = .returned (.tuple #[])/\w'.heap[b]? =some (.cells ([PQ b 0,v]:List Ae2).toArray 219 (0,0))/\w.grownBy w' (some b):=by
 have hgr:w.grownBy w (some b):=World.grownBy.refl _ _;refine gG (args:= [PQ b 0]) Tryz.func174 rfl 20 rfl rfl (gS (Ad7 rfl (gS (Ad6 leb6_fo219_0 rfl (gS (Aax leb6_ty217 rfl rfl (cellAt hb rfl) (gS (Aa8 leb6_ty217 rfl (cF rfl (gS (Ad7 rfl (gS (Ad6 leb6_fo219_0 rfl (gS (Aax leb6_ty217 rfl rfl (cellAt hb rfl) (gS (Ade leb6_ty217 leb6_isz219 rfl rfl (cF rfl (rt0 rfl ?_)))))))))))))))))));exact⟨rfl,hb,hgr⟩
theorem copyCheck_any(w:Ae3)(b:Nat)(p v:Ae2)(hp:p = .pointer none\/p=PQ b 0)(hb:w.heap[b]? =some (.cells ([p,v]:List Ae2).toArray 219 (0,0))):
  Calls Ae5 174 #[PQ b 0] w fun e w' =>e = .returned (.tuple #[])/\w'.heap[b]? =some (.cells ([PQ b 0,v]:List Ae2).toArray 219 (0,0))/\w.grownBy w' (some b):=by
 rcases hp with rfl | rfl
 ·exact Mj w b v hb
 ·exact Mk w b v hb
theorem IS(w0 w:Ae3)(h0:Ext w0 w)(b:Nat)(l:AlJ)(hB:BAt w w0 b l)(c:UInt8)(hl:l.length<140737488355328):
  Calls Ae5 135 #[PQ b 0,B8 c] w fun e w' =>e = .returned .nilIface/\BAt w' w0 b (l++ [c])/\Ext w0 w' :=by
 obtain⟨k,p,v,hp,hb,ho,hne⟩:=hB;refine gG (args:= [PQ b 0,B8 (c)]) Tryz.func135 rfl 17 rfl rfl (gS (AaE leb6_pl174 rfl ((copyCheck_any _ b p v hp hb).mono ?_)));rintro e y ⟨rfl,m,n⟩;refine⟨_,rfl,?_⟩;clear hb;have hb:=m;clear m;refine gS (Ad7 rfl (gS (Ad6 Jz rfl (gS (Aax GR rfl rfl (cellAt hb rfl) (gS (AbR (b:=c) S7 (vr (B8 (c)) rfl) fun o t f=> ?_)))))));have h0:=Ab h0 n (Ae7 (Ae8 _) k);have z:=h0.size;have ho:=BT ho n hne;have u:Ai v o:=D7 ho f.own;have h:=f.own;have h0:=h0.trans f.ext;have ho:=Aed _ _ _ _ _ _ _ _ ho f.ext;refine gS (Abc _ _ w0.heap.size (.int .u8 0) GR NU rfl GR (l) ([(c:UInt8)]) (Dd ho (vr v rfl)) (AaF (Aa5 h) (vr o rfl)) (by simp;omega) h0.size fun j x g a=> ?_);have a:Grew t x v j:=a;have hb:=eb f.ext hb;have q:OB j b:=Ap a hne (bl hb);have h0:=As h0 a ho (Ae8 _);have hb:=Aq hb a hne;have h:=DK h a u;clear ho;refine gS (Ad7 rfl (gS (Ad6 Jz rfl (gS (Aa0 (i:=1) (v:=j) rfl rfl hb (Afj rfl) Li (Cm g).1 (Cm g).2 fun aa r s ab=> ?_)))));clear hb;have hb:=r;clear r;have ac:=bl hb;refine A8 rfl (vr (Value.nilIface) rfl) ?_;have h0:=Ab h0 s (Ae7 (Ae8 _) (by omega));have g:=BT g s q;exact⟨rfl,⟨k,_,_, .inr rfl,hb,g,q⟩,h0⟩
def digs:AlJ:= [48,49,50,51,52,53,54,55,56,57,97,98,99,100,101,102]
def Sf(b:UInt8):AlJ:= [digs.getD (b.toNat/16) 0,digs.getD (b.toNat%16) 0]
def hexOf(id:AlJ):AlJ:=id.flatMap Sf
theorem Sg(id:AlJ)(i:Nat)(hi:i<id.length):hexOf (id.take (i+1))=hexOf (id.take i)++Sf (id.getD i 0):=by
 rw[Afv hi,hexOf,List.flatMap_append];simp[hexOf,hi]
theorem C5:∀id:AlJ,(hexOf id).length=2*id.length
 | []=>rfl
 | b :: id=>by
  have:=C5 id;simp only[hexOf,Af3,Ae9,AfA]at *;simp only[Sf,AfA,AfK];omega
def dg(c:UInt8):Option Nat:=if 48<=c.toNat/\c.toNat<=57 then some (c.toNat-48)else if 97<=c.toNat/\c.toNat<=102 then some (c.toNat-87)else none
def FP(c:UInt8):Int:=match dg c with | some n=>(n:Int) | none=> -1
theorem XS{c:UInt8}{n:Nat}(h:dg c=some n):n<16:=by
 unfold dg at h;split at h
 ·cases h;omega
 ·split at h
  ·cases h;omega
  ·cases h
theorem Uq:∀n:Fin 256,Aj0 digs (Aga n.val)=FP (Aga n.val):=by decide+kernel
theorem Wh(c:UInt8):Aj0 digs c=FP c:=by
 have:=Uq ⟨c.toNat,c.toNat_lt⟩
 simpa using this
def Gn(s:AlJ)(j:Nat):Bool:=(dg (s.getD (2*j) 0)).isSome&&(dg (s.getD (2*j+1) 0)).isSome
def FE(s:AlJ)(j:Nat):UInt8:=Aga (16*(dg (s.getD (2*j) 0)).getD 0+(dg (s.getD (2*j+1) 0)).getD 0)
def A7(s:AlJ):AlJ × Bool:=if s.length=64/\(Af9 32).all (Gn s)=true then((Af9 32).map (FE s),true)else(Afk 32 0,false)
theorem A2(s:AlJ):(A7 s).1.length=32:=by
 unfold A7;split <;> simp
theorem KK{s:AlJ}(h:¬(s.length=64/\(Af9 32).all (Gn s)=true)):A7 s=(Afk 32 0,false):=if_neg h
theorem M1{s:AlJ}(h1:s.length=64)(h2:∀j,j<32->Gn s j=true):A7 s=((Af9 32).map (FE s),true):=if_pos ⟨h1,by
 rw[AfP];intro j hj;exact h2 j (by simpa using hj)⟩
def pre(s:AlJ)(i:Nat):AlJ:=(Af9 i).map (FE s)++Afk (32-i) 0
theorem DF(s:AlJ)(i:Nat)(hi:i<=32):(pre s i).length=32:=by
 unfold pre;simp;omega
theorem Wi(s:AlJ)(i:Nat)(hi:i<32):(pre s i).set i (FE s i)=pre s (i+1):=by
 unfold pre;rw[List.set_append_right _ _ (by simp),List.range_succ,List.map_append];simp only[Afu,List.length_range,Nat.sub_self,AfG,AfQ,AfH]
 congr 1
 obtain⟨k,hk⟩:∃k,32-i=k+1:=⟨32-i-1,by omega⟩;rw[hk,List.replicate_succ,List.set_cons_zero,show 32-(i+1)=k by omega];rfl
theorem YH(s:AlJ):pre s 32=(Af9 32).map (FE s):=by simp[pre]
/-! ### There and back -/
theorem ZO:∀n:Fin 16,dg (digs.getD n.val 0)=some n.val:=by decide+kernel
theorem QH(n:Nat)(h:n<16):dg (digs.getD n 0)=some n:=ZO ⟨n,h⟩
theorem M2:∀(id:AlJ) (j:Nat),j<id.length->(hexOf id).getD (2*j) 0=digs.getD ((id.getD j 0).toNat/16) 0/\(hexOf id).getD (2*j+1) 0=digs.getD ((id.getD j 0).toNat%16) 0
 | [],j,h=>by simp at h
 | b :: id,0,_=>⟨rfl,rfl⟩
 | b :: id,j+1,h=>by
  have:=M2 id j (by simpa using h);have e:hexOf (b :: id)=digs.getD (b.toNat/16) 0 :: digs.getD (b.toNat%16) 0 :: hexOf id:=rfl;rw[e,show 2*(j+1)=2*j+1+1 by omega];exact this
theorem EY(id:AlJ)(h:id.length=32):A7 (hexOf id)=(id,true):=by
 have hg:=fun j (hj:j<32)=>M2 id j (by omega);have hlt:=fun j=>(id.getD j 0).toNat_lt;have hd:∀j,j<32->dg ((hexOf id).getD (2*j) 0)=some ((id.getD j 0).toNat/16)/\dg ((hexOf id).getD (2*j+1) 0)=some ((id.getD j 0).toNat%16):=fun j hj=>by
  rw[(hg j hj).1,(hg j hj).2];exact⟨QH _ (by have:=hlt j;omega),QH _ (by omega)⟩
 rw[M1 (by rw[C5,h]) (fun j hj=>by unfold Gn;rw[(hd j hj).1,(hd j hj).2];rfl)]
 congr 1
 apply List.ext_getElem (by simp[h])
 intro j h1 h2;have hj:j<32:=by simpa using h1
 simp only[List.getElem_map,List.getElem_range,FE];rw[(hd j hj).1,(hd j hj).2];simp only[Af2];rw[Nat.div_add_mod];simp[h2]
open Go.Shelf Go.RowKit
def M3:Go.Shelf.Ren:=⟨fun | 169=>136 | n=>n,fun | 70=>217 | 9=>9 | 0=>0 | 72=>219 | 37=>27 | 127=>265 | 3=>3 | 5=>5 | n=>n,fun | n=>n⟩
theorem Aan:Go.Proofs.Lays.n169 Ae5 M3:= {
  mixed:=by kernel_rfl
  f169:=Tryz.func136.trans (congrArg some (by kernel_rfl))
  t0:=AiK
  a0:=AjP
  z0:=AjA
  v0:=AiU
  t3:=Akv
  a3:=AlH
  z3:=Alz
  v3:=AkE
  t9:=AhH
  a9:=AiO
  z9:=Aiy
  v9:=AhR
  t37:=Tryz.underlying27
  a37:=Tryz.isAgg27
  z37:=Tryz.sizeOf27
  v37:=Tryz.zeroValue27
  t70:=Tryz.underlying217
  a70:=Tryz.isAgg217
  z70:=Tryz.sizeOf217
  v70:=Tryz.zeroValue217
  t72:=Tryz.underlying219
  a72:=Tryz.isAgg219
  z72:=Tryz.sizeOf219
  v72:=Tryz.zeroValue219
  t127:=Tryz.underlying265
  a127:=Tryz.isAgg265
  z127:=Tryz.sizeOf265
  v127:=Tryz.zeroValue265 }
theorem P9:Builder.Extra Ae5 M3:= {
  sizeBuilder:=by kernel_rfl
  liesBuilder:=by kernel_rfl
  t5:=AiI
  a5:=AlI
  z5:=AlA
  v5:=AkF
  infoByte:=by kernel_rfl
  cellsByte:=by kernel_rfl
  sizeByte:=by kernel_rfl
  neB5:=by decide }
theorem Iz(B b:Nat)(l:AlJ)(w:Ae3)(h:Lib.IsBuilder 219 5 B b (Ae4 l) w)(hBw:B<=w.heap.size):
 Calls Ae5 136 #[.pointer (some ⟨b,0,none⟩)] w fun e w' =>e = .returned (.string ⟨l.toArray⟩)/\Below B w w' :=Any.Builder_String_any Aan P9 B b l w h hBw
theorem Wj(t:Afa)(c:UInt8):Go.binOp .and t (.int .u8 ((c.toNat:Nat):Int)) (.int .u8 ((15:Nat):Int))=pure (.int .u8 ((c.toNat%16:Nat):Int)):=by
 rw[Zu t _ _ c.toNat_lt (by decide),Nat.and_two_pow_sub_one_eq_mod _ 4]
theorem Wk(l:AlJ)(b:UInt8):(l++ [([48,49,50,51,52,53,54,55,56,57,97,98,99,100,101,102]:AlJ).getD (b.toNat/2^4) 0])++ [([48,49,50,51,52,53,54,55,56,57,97,98,99,100,101,102]:AlJ).getD (b.toNat%16) 0]=l++Sf b:=by
 rw[AfH];rfl
theorem Sh{d:Option Tmp}{ty:Afa}{pos:String}{af:Array Edge}{gd:Option (Nat × Bool)}(σ:Aff->Ae2)(w:Ae3):(execOp σ ⟨d, .alloc 219,ty,pos,af,gd⟩).run Ae5 w = .ok (.value (PQ w.heap.size 0)) (w.alloc (.cells ([.pointer none,(Afc none 0 0)]).toArray 219)):=by kernel_rfl
theorem LJ:Plain Ae5 135:=fun _ _=>by kernel_rfl
theorem Si:Plain Ae5 136:=fun _ _=>by kernel_rfl
theorem QI(w:Ae3)(id:AlJ)(hid:id.length=32):
  Calls Ae5 80 #[AB id] w fun e w' =>e = .returned (St (hexOf id))/\Ext w w' :=by
 refine gG (args:= [AB id]) Tryz.func80 rfl 20 rfl rfl ?_;have hE:=Ad4 w;refine gS (Ael (vr (AB id) rfl) fun o f ag p v ah=> ?_);have h:=p;clear p;have ai:o<f.heap.size:=by omega
 refine gS (Ad9 Sh fun g q x r m aj=> ?_);have c:=Ad4 f;have hE:=hE.trans v;have n:=hE;have ak:=hE.size;have y:=r;clear r;have al:g<q.heap.size:=by omega
 have s:BAt q f g []:=BAt.fresh (by omega) y;have am:=Av (bl h) x;have h:=eb m h;have hE:=hE.trans m;have c:=c.trans m;refine gS (AaC rfl h XM rfl (by rw[Afr,Afl,hid];exact SY) (gL (fun(ρ:Ae) (wz:Ae3)=>∃i:Nat,ρ 0=(AB id:Ae2)/\ρ 1=(PQ o 0:Ae2)/\ρ 2=(St (([]:AlJ)):Ae2)/\ρ 3=(PQ g 0:Ae2)/\ρ 6=(AB id:Ae2)/\ρ 7=(NI i:Ae2)/\Ext w wz/\Ext f wz/\BAt wz f g (hexOf (id.take i))/\(i<=32)/\True) (fun ρ _=>32-(intOf (ρ 7)).toNat) ⟨0,rfl,rfl,rfl,rfl,rfl,rfl,hE,c,s,AfC _,trivial⟩ ?_));clear h;clear s;clear hE;rintro z an ⟨i,T0,T1,T2,j,t,k,hE,c,hBi,hi,-⟩;have q7:=k;have hlt:=(id.getD i 0).toNat_lt;refine gS (Aay (a:=(i:Nat)) (b:=(32:Nat)) k rfl (AE _ _ _ _) ?_);refine cD rfl (fun ad=> ?_) fun ad=> ?_
 ·refine gS (AdS (l:=id) (i:=i) XM u5 rfl Rg t k (by omega) (hid) (gS (Aaz (xv:= .int .u8 (((id.getD (i) 0).toNat:Nat):Int)) (yv:= .int .u64 ((4:Nat):Int)) rfl rfl rfl (Zt _ _ _ _ (by omega)) (gS (Aci (l:=([48,49,50,51,52,53,54,55,56,57,97,98,99,100,101,102]:AlJ)) (i:=((id.getD (i) 0).toNat)/2^(4)) QD rfl rfl (by show _<16;omega) (gS (AaA LJ j rfl ((IS f _ c g (hexOf (id.take i)) hBi ((([48,49,50,51,52,53,54,55,56,57,97,98,99,100,101,102]:AlJ):AlJ).getD (((id.getD (i) 0).toNat)/2^(4)) 0) (by have:=C5 (id.take i);simp at this ⊢;omega)).mono ?_))))))));rintro e ao ⟨rfl,u,hv33⟩;refine⟨_,rfl,?_⟩;have hE:=n.trans hv33;have c:=hv33;clear hBi;refine gS (Aaz (xv:= .int .u8 (((id.getD (i) 0).toNat:Nat):Int)) (yv:= .int .u8 ((15:Nat):Int)) rfl rfl rfl (Wj _ (id.getD (i) 0)) (gS (Aci (l:=([48,49,50,51,52,53,54,55,56,57,97,98,99,100,101,102]:AlJ)) (i:=(id.getD (i) 0).toNat%16) QD rfl rfl (by show _<16;omega) (gS (AaA LJ j rfl ((IS f _ c g ((hexOf (id.take i):AlJ)++ [(([48,49,50,51,52,53,54,55,56,57,97,98,99,100,101,102]:AlJ):AlJ).getD (((id.getD (i) 0).toNat)/2^(4)) 0]) u ((([48,49,50,51,52,53,54,55,56,57,97,98,99,100,101,102]:AlJ):AlJ).getD ((id.getD (i) 0).toNat%16) 0) (by have:=C5 (id.take i);simp at this ⊢;omega)).mono ?_))))));rintro e ap ⟨rfl,ae,hv36⟩;refine⟨_,rfl,?_⟩;have hE:=n.trans hv36;have c:=hv36;clear u;refine gS (Aaz (xv:=NI i) (yv:=NI 1) k rfl rfl (Ah _ _ _ (by omega)) (gK (AfF ⟨i+1,T0,T1,T2,j,t,rfl,hE,c,(show BAt _ _ _ _ from by rw[Sg id i (by omega),<-Wk];exact ae),by omega,trivial⟩ ?_)));show 32-(intOf (NI ((i)+(1)))).toNat<32-(intOf (z 7)).toNat;rw[q7];simp only[intOf,Afg];omega
 have af:id.take i=id:=AfU (by omega);refine gS (AaE Si j ((Iz _ g (hexOf (id.take i)) _ (AdV hBi) c.size).mono ?_));rintro e aq ⟨rfl,hv39⟩;refine⟨_,rfl,?_⟩;have hv39t:=Below.trans c hv39;have hE:=n.trans hv39t;have c:=hv39t;clear hBi;refine A8 rfl (vr (St (hexOf (id.take i))) rfl) ?_;exact⟨by rw[af],hE⟩
def AC(p s:AlJ):AlJ × Bool:=if p.length<=s.length/\s.take p.length=p then(s.drop p.length,true)else(s,false)
theorem Pa{p s:AlJ}(h:¬(p.length<=s.length/\s.take p.length=p)):(AC p s).2=false:=by unfold AC;rw[if_neg h]
theorem YI{p s:AlJ}(h:p.length<=s.length):(AC p s).2=decide ((s.drop 0).take (p.length-0)=p):=by
 unfold AC;rw[List.drop_zero,Nat.sub_zero];by_cases q:s.take p.length=p
 ·rw[if_pos ⟨h,q⟩,decide_eq_true q]
 ·rw[if_neg (fun x=>q x.2),decide_eq_false q]
theorem Aao{p s:AlJ}(h:(AC p s).2=false):AC p s=(s,false):=by
 unfold AC at h ⊢;split
 ·rename_i q;rw[if_pos q]at h;cases h
 ·rfl
theorem Aap{p s:AlJ}(h:(AC p s).2=true):AC p s=((s.drop p.length).take (s.length-p.length),true):=by
 unfold AC at h ⊢;split
 ·rw[AfU (by rw[Afn];exact Ae8 _)]
 ·rename_i q;rw[if_neg q]at h;cases h
theorem YJ{p s:AlJ}(h:(AC p s).2=true):p.length<=s.length:=by
 unfold AC at h;split at h
 ·rename_i q;exact q.1
 ·cases h
def nmO(id:AlJ):AlJ:= [111,45]++hexOf id
theorem YK{id:AlJ}(h:id.length=32):(nmO id).length=66:=by unfold nmO;rw[Ae9,C5,h];rfl
theorem Ur:Plain Ae5 169:=fun _ _=>by kernel_rfl
theorem Us:Plain Ae5 124:=fun _ _=>by kernel_rfl
theorem Wl:Plain Ae5 80:=fun _ _=>by kernel_rfl
theorem NN(w:Ae3)(s p:AlJ)(hs:s.length<=9223372036854775807):
  Calls Ae5 169 #[St s,St p] w fun e w' =>e = .returned (.bool (AC p s).2)/\Ext w w' :=by
 refine gG (args:= [St (s),St (p)]) Tryz.func169 rfl 18 rfl rfl ?_;have hE:=Ad4 w;by_cases hl:p.length<=s.length
 ·refine gS (AbF (l:=s) QD rfl (gS (AbF (l:=p) QD rfl (gS (Aay (a:=(s.length:Nat)) (b:=(p.length:Nat)) rfl rfl (E1 _ _ _ _) (kT (hl) (gS (AbF (l:=p) QD rfl (gS (Acl (l:=s) QD (0) (p.length) rfl (.inl ⟨rfl,rfl⟩) (.inr ⟨.i64,congrArg some rfl⟩) (by omega) (by omega) (gS (Abw (l:=(s.drop (0)).take ((p.length)-(0))) (m:=p) (.inl rfl) rfl rfl (decide ((s.drop (0)).take ((p.length)-(0))=p)) rfl (gS (AaS rfl rfl (A8 rfl (vr (.bool (decide ((s.drop (0)).take ((p.length)-(0))=p))) rfl) ?_)))))))))))))));exact⟨by rw[YI hl],hE⟩
 refine gS (AbF (l:=s) QD rfl (gS (AbF (l:=p) QD rfl (gS (Aay (a:=(s.length:Nat)) (b:=(p.length:Nat)) rfl rfl (E1 _ _ _ _) (kF (hl) (gS (AaX rfl rfl (A8 rfl (vr (.bool (false)) rfl) ?_)))))))));exact⟨by rw[show(AC p s).2=false from Pa (fun q=>hl q.1)],hE⟩
theorem Ml(w:Ae3)(s p:AlJ)(hs:s.length<=9223372036854775807):
  Calls Ae5 124 #[St s,St p] w fun e w' =>e = .returned (.tuple #[St (AC p s).1, .bool (AC p s).2])/\Ext w w' :=by
 refine gG (args:= [St (s),St (p)]) Tryz.func124 rfl 15 rfl rfl ?_;have hE:=Ad4 w;refine gS (AaA Ur rfl rfl ((NN _ s p hs).mono ?_));rintro e c ⟨rfl,b⟩;refine⟨_,rfl,?_⟩;refine gS (Abl rfl ?_);refine cB (!((AC p s).2)) rfl (fun a=> ?_) fun a=> ?_
 ·have hc:(AC p s).2=false:=by simpa using a
  refine BI rfl (vr (St (s)) rfl) (vr (.bool (false)) rfl) ?_;have hE:=hE.trans b;exact⟨by rw[Aao hc],hE⟩
 have hc:(AC p s).2=true:=by simpa using a
 have hpl:=YJ hc;refine gS (AbF (l:=p) QD rfl (gS (Acl (l:=s) QD (p.length) (s.length) rfl (.inr ⟨.i64,congrArg some rfl⟩) (.inl ⟨rfl,rfl⟩) (by omega) (by omega) (BI rfl (vr (St ((s.drop (p.length)).take ((s.length)-(p.length)))) rfl) (vr (.bool (true)) rfl) ?_))));have hE:=hE.trans b;exact⟨by rw[Aap hc],hE⟩
theorem IT(w:Ae3)(s p:AlJ)(hs:s.length<=9223372036854775807):
  Calls Ae5 75 #[St s,St p] w fun e w' =>e = .returned (.tuple #[St (AC p s).1, .bool (AC p s).2])/\Ext w w' :=by
 refine gG (args:= [St (s),St (p)]) Tryz.func75 rfl 11 rfl rfl ?_;have hE:=Ad4 w;refine gS (AaA Us rfl rfl ((Ml _ s p hs).mono ?_));rintro e b ⟨rfl,a⟩;refine⟨_,rfl,?_⟩;refine gS (Ad5 (vs:= [St ((AC p s).1), .bool ((AC p s).2)]) rfl rfl (gS (Ad5 (vs:= [St ((AC p s).1), .bool ((AC p s).2)]) rfl rfl (BI rfl (vr (St ((AC p s).1)) rfl) (vr (.bool ((AC p s).2)) rfl) ?_))));have hE:=hE.trans a;exact⟨rfl,hE⟩
theorem Pb(w:Ae3)(id:AlJ)(hid:id.length=32):
  Calls Ae5 86 #[AB id] w fun e w' =>e = .returned (St (nmO id))/\Ext w w' :=by
 refine gG (args:= [AB id]) Tryz.func86 rfl 6 rfl rfl ?_;have hE:=Ad4 w;refine gS (Ael (vr (AB id) rfl) fun b c i a f j=> ?_);have g:=a;clear a;have k:b<c.heap.size:=by omega
 refine gS (AaC rfl g XM rfl (by exact Ac hid) (gS (AaE Wl rfl ((QI _ id hid).mono ?_))));rintro e n ⟨rfl,h⟩;refine⟨_,rfl,?_⟩;refine gS (AcF (l:=([111,45]:AlJ)) (m:=hexOf id) rfl rfl (by rw[C5,hid];simp) (A8 rfl (vr (St ((([111,45]:AlJ):AlJ)++(hexOf id:AlJ))) rfl) ?_));have hE:=hE.trans (f.trans h);exact⟨rfl,hE⟩
def Hp:AlJ:=Afk 32 0
inductive Stp where
 | add (b:AlJ)
 | sync
 | rem
def C9(D:Ad)(s:AlJ):Stp->Ad × Nat
 | .add b=>A3 D s b
 | .sync=>BD D s
 | .rem=>Bx D s
def AY(D:Ad)(s:AlJ):List Stp->Ad × Nat
 | []=>(D,0)
 | a :: r=>if(C9 D s a).2≠0 then C9 D s a else AY (C9 D s a).1 s r
theorem FF(D:Ad)(s:AlJ)(a:Stp)(r:List Stp):AY D s (a :: r)=if(C9 D s a).2≠0 then C9 D s a else AY (C9 D s a).1 s r:=rfl
def getL(D:Ad)(id:AlJ):AlJ × Nat:=
 if(Ar D (nmO id)).2=4\/((Ar D (nmO id)).2=0/\Sha.sum (Ar D (nmO id)).1≠id)then([],12)else Ar D (nmO id)
def D4(r:Ad × Nat)(id:AlJ):Ad × AlJ × AlJ × Nat:=if r.2≠0 then(r.1,Hp,[],r.2)else(r.1,id,[],0)
def BZ(D:Ad)(b:AlJ):Ad × AlJ × AlJ × Nat:=
 if(Ar D (nmO (Sha.sum b))).2=4 then D4 (AY D (nmO (Sha.sum b)) [.add b, .sync]) (Sha.sum b)
 else if(Ar D (nmO (Sha.sum b))).2≠0 then(D,Hp,[],(Ar D (nmO (Sha.sum b))).2)
 else if(Ar D (nmO (Sha.sum b))).1=b then D4 (AY D (nmO (Sha.sum b)) [.sync]) (Sha.sum b)
 else if Sha.sum (Ar D (nmO (Sha.sum b))).1=Sha.sum b then(D,Sha.sum b,(Ar D (nmO (Sha.sum b))).1,7)
 else D4 (AY D (nmO (Sha.sum b)) [.rem, .add b, .sync]) (Sha.sum b)
def CS(D:Ad)(s:AlJ):Option AlJ:=
 if(AC [111,45] s).2=true/\(A7 (AC [111,45] s).1).2=true/\(getL D (A7 (AC [111,45] s).1).1).2=0 then some (A7 (AC [111,45] s).1).1 else none
def Gp(D:Ad):List AlJ:=(AF D).filterMap (CS D)
section
variable {P : AfD} {K : Ae2 -> Ae3 -> Prop} {ρ : Ae} {w : Ae3} {d : Option Tmp} {ty : Afa} {pos : String} {af : Array Edge} {gd : Option (Nat × Bool)}
theorem AdW{f:FuncId}(hp:Plain P f){c:Aff}{args:Array Aff}{at_:Array Afa}{bd caps:Array Ae2}(hc:Aa ρ c = .func (.func f) bd caps)(vs:Array Ae2)(hv:bd++args.map (Aa ρ)++caps=vs) 
  (h:Calls P f vs w fun e w' =>∃v,e = .returned v/\K v w'):Yk P K ((execOp (Aa ρ) ⟨d, .call ⟨.value c,args,at_⟩,ty,pos,af,gd⟩).run P w):=by
 subst hv;refine Yk.enter (f:=f) (args:=bd++args.map (Aa ρ)++caps) (w' :=w) ?_ h;unfold execOp;simp[resolve,hc,Deferred.ofValue,invoke,hp _ w]
theorem Adx{f:FuncId}{c x:Aff}{v y u:Ae2}{bd caps:Array Ae2}{R:Dk->Ae3->Prop}{at_:Array Afa}(hp:Plain P f)(hc:Aa ρ c=v)(hve:v = .func (.func f) bd caps)(hx:Aa ρ x=y) 
  (h:Calls P f (bd ++ #[y]++caps) w fun e w' =>∃H',e = .returned u/\R H' w') (hk:∀H' w',R H' w' ->K u w'):Yk P K ((execOp (Aa ρ) ⟨d, .call ⟨.value c,#[x],at_⟩,ty,pos,af,gd⟩).run P w):=
 AdW hp (hc.trans hve) _ (by simp[hx]) (h.mono fun e w' ⟨H',q1,q2⟩=>⟨_,q1,hk H' w' q2⟩)
theorem AbL{f:Fn}{x:Aff}{v:Ae2}(hx:Aa ρ x=v)(hk:K (.func f #[v] #[]) w):Yk P K ((execOp (Aa ρ) ⟨d, .makeFunc f #[x] #[],ty,pos,af,gd⟩).run P w):=by
 refine AeB (v:= .func f #[v] #[]) ?_ hk;unfold execOp;simp[hx,Instr.makeFunc]
end
section
variable {wb w w' : Ae3} {g : Nat} {H H' : Dk} {D D' : Ad}
def StpAt(w:Ae3)(g:Nat)(H:Dk)(n:Nat)(v:Ae2):Stp->Prop
 | .add b=>∃bd bb vb,v = .func (.func 87) #[] #[PQ bd 0,PQ bb 0]/\w.heap[bd]? =some (.cells ([PQ g 0]).toArray 50 (0,0))/\w.heap[bb]? =some (.cells ([vb]).toArray 27 (0,0))/\RB w vb b/\(b= []\/∀i,vb.ownBlock=some i->¬B7 H n i)/\b.length<=300
 | .sync=>v = .func (.func 90) #[PQ g 0] #[]
 | .rem=>v = .func (.func 52) #[PQ g 0] #[]
theorem DkW.off(hW:DkW wb w g H D w' H' D'){v:Ae2}{b:AlJ}(hr:RB w v b)(ho:b= []\/∀i,v.ownBlock=some i->¬B7 H D.files.length i):b= []\/∀i,v.ownBlock=some i->¬B7 H' D'.files.length i:=by
 rcases ho with h0 | ho
 ·exact .inl h0
 ·by_cases hb:b= []
  ·exact .inl hb
  ·refine .inr fun i hi q=> ?_;rcases hW.foot i q with q | q
   ·exact ho i hi q
   ·have:=RB.lt hr (List.length_pos_iff.2 hb) hi;omega
theorem StpAt.step(hD:DkG wb w g H D)(hW:DkW wb w g H D w' H' D'){v:Ae2}{a:Stp}(h:StpAt w g H D.files.length v a):StpAt w' g H' D'.files.length v a:=by
 cases a with
 | sync=>exact h
 | rem=>exact h
 | add b=>
  obtain⟨bd,bb,vb,e,h1,h2,h3,h4,h5⟩:=h;exact⟨bd,bb,vb,e,hD.box hW.chg h1 (by decide) (by decide) (by decide) (by decide),hD.box hW.chg h2 (by decide) (by decide) (by decide) (by decide),h3.chg hW.chg h4,hW.off h3 h4,h5⟩
theorem StpAt.ext{n:Nat}{v:Ae2}{a:Stp}(h:StpAt w g H n v a)(k:Ext w w'):StpAt w' g H n v a:=by
 cases a with
 | sync=>exact h
 | rem=>exact h
 | add b=>
  obtain⟨bd,bb,vb,e,h1,h2,h3,h4,h5⟩:=h;exact⟨bd,bb,vb,e,Aer k h1,Aer k h2,h3.keep k,h4,h5⟩
theorem AbA(h:DkG wb w g H D)(k:Ext w w'):DkW wb w g H D w' H D:=⟨h.keep k,AbD k,fun _ q=> .inl q⟩
theorem DkW.setT(h:DkW wb w g H D w' H' D'){w2:Ae3}{b:Nat}{cs:Array Ae2}{t:Afa}{fr:Nat × Nat}(hg:w'.grownBy w2 (some b))(hb:w'.heap[b]? =some (.cells cs t fr))(hw:w.heap.size<=b)(h1:t≠107)(h2:t≠133)(h3:t≠5)(h4:t≠131)(h5:t≠113)(h6:t≠9)(hwb:wb.heap.size<=w.heap.size):DkW wb w g H D w2 H' D' :=
 ⟨h.g.setT hg hb (Ae7 hwb hw) h1 h2 h3 h4 h5 h6,Aeu h.chg hg (.inr hw),h.foot⟩
abbrev Aew:=@DkW.setT
theorem DkW.trans{w2:Ae3}{H2:Dk}{D2:Ad}(h:DkW wb w g H D w' H' D')(k:DkW wb w' g H' D' w2 H2 D2):DkW wb w g H D w2 H2 D2:=
 ⟨k.g,h.chg.trans k.chg h.foot,fun i q=>(k.foot i q).elim (h.foot i) fun r=> .inr (Ae7 h.chg.size r)⟩
end
theorem IA{D:Ad}(h:De D)(s:AlJ):(Ar D s).1.length<1099511627776:=by
 unfold Ar;split
 ·exact show(0:Nat)<1099511627776 by omega
 ·rename_i k _
  show(AG D k).1.length<_;by_cases hk:k<D.files.length
  ·exact h.files _ (Jt hk)
  ·unfold AG;rw[Ae6,Agj (by omega)];decide
theorem DBd.step{n:Nat}{D:Ad}(h:DBd n D)(s:AlJ):∀(a:Stp),(∀b,a = .add b->b.length<=300)->DBd (n+1) (C9 D s a).1
 | .add b,hb=>h.append s (hb b rfl)
 | .sync,_=>h.sync s
 | .rem,_=>h.drop s
def NewI(n:Nat)(w:Ae3)(v:Ae2):Prop:=∀k,v.ownBlock=some k->n<=k/\k<w.heap.size
theorem NewI.keep{n:Nat}{w w' :Ae3}{v:Ae2}(h:NewI n w v)(k:Ext w w'):NewI n w' v:=fun j hj=>⟨(h j hj).1,AfZ (h j hj).2 k.size⟩
theorem NewI.nil(n:Nat)(w:Ae3){a b:Nat}:NewI n w (.slice none a b):=fun k h=>by cases h
theorem NewI.low{n m:Nat}{w:Ae3}{v:Ae2}(h:NewI n w v)(hm:m<=n):NewI m w v:=fun j hj=>⟨Ae7 hm (h j hj).1,(h j hj).2⟩
theorem Acd{n z l:Nat}{e:Afa}{w:Ae3}{v:Ae2}{xs:List Ae2}(h:w.ownsRow n e z v l xs):NewI n w v:=fun k hk=>h.lt k hk
structure StpsAt (w : Ae3) (g : Nat) (H : Dk) (n : Nat) (vs : List Ae2) (ac : List Stp) : Prop where
 len:vs.length=ac.length
 at_:∀i,i<ac.length->StpAt w g H n (vs.getD i undef) (ac.getD i .sync)
theorem StpsAt.ext{w w' :Ae3}{g n:Nat}{H:Dk}{vs:List Ae2}{ac:List Stp}(h:StpsAt w g H n vs ac)(k:Ext w w'):StpsAt w' g H n vs ac:=⟨h.len,fun i hi=>(h.at_ i hi).ext k⟩
theorem StpsAt.step{wb w w' :Ae3}{g:Nat}{H H' :Dk}{D D' :Ad}{vs:List Ae2}{ac:List Stp}(h:StpsAt w g H D.files.length vs ac)(hD:DkG wb w g H D)(hW:DkW wb w g H D w' H' D'):StpsAt w' g H' D'.files.length vs ac:=⟨h.len,fun i hi=>(h.at_ i hi).step hD hW⟩
theorem DkW.keep{wb w w' w2:Ae3}{g:Nat}{H H' :Dk}{D D' :Ad}(h:DkW wb w g H D w' H' D')(k:Ext w' w2):DkW wb w g H D w2 H' D' :=⟨h.g.keep k,h.chg.keep k,h.foot⟩
theorem M4{l:List Stp}{i:Nat}(h:i<l.length):l.drop i=l.getD i .sync :: l.drop (i+1):=by
 rw[Ae6,Afb h];simp
theorem Wm:Plain Ae5 88:=fun _ _=>by kernel_rfl
theorem M5:Tryz.prog.underlying 231=some (.slice 101):=by kernel_rfl
theorem Ut:∀w' :Ae3,(sizeOf 101).run Ae5 w' = .ok 1 w' :=fun _=>by kernel_rfl
theorem Uu:Tryz.prog.underlying 101=some (.func #[9] #[29] false):=by kernel_rfl
theorem Uv(wb w:Ae3)(g:Nat)(H:Dk)(D:Ad)(hD:DkG wb w g H D)(s:AlJ)(bd bb:Nat)(vb:Ae2)(b:AlJ)(hbd:w.heap[bd]? =some (.cells ([PQ g 0]).toArray 50 (0,0)))(hbb:w.heap[bb]? =some (.cells ([vb]).toArray 27 (0,0)))(hr:RB w vb b)(hoff:b= []\/∀i,vb.ownBlock=some i->¬B7 H D.files.length i)(hbl:b.length<1099511627776)(hL:De D):
  Calls Ae5 87 #[St s,PQ bd 0,PQ bb 0] w fun e w' =>∃H',e = .returned (NI (A3 D s b).2)/\DkW wb w g H D w' H' ((A3 D s b).1):=by
 refine gG (args:= [St (s),PQ bd 0,PQ bb 0]) Tryz.func87 rfl 9 rfl rfl ?_;have hE:=Ad4 w;refine gS (Aax VY rfl rfl (cellAt hbd rfl) (gS (Aax GR rfl rfl (cellAt hbb rfl) (gS (Aa9 Wm rfl rfl rfl (((hD.keep hE).appendW s vb b (hr.keep hE) hoff hbl hL).mono ?_))))));rintro e a ⟨H2,rfl,hW⟩;refine⟨_,rfl,?_⟩;refine A8 rfl (vr (NI ((A3 D s b).2)) rfl) ?_;exact⟨H2,rfl,hW⟩
theorem Wn{wb w:Ae3}{g:Nat}{H:Dk}{D:Ad}(hD:DkG wb w g H D)(hL:De D)(s:AlJ){v:Ae2}{a:Stp}(h:StpAt w g H D.files.length v a):
  ∃f bd caps,v = .func (.func f) bd caps/\Plain Ae5 f/\Calls Ae5 f (bd ++ #[St s]++caps) w fun e w' =>∃H',e = .returned (NI (C9 D s a).2)/\DkW wb w g H D w' H' (C9 D s a).1:=by
 cases a with
 | sync=>exact⟨_,_,_,h,fun _ _=>by kernel_rfl,hD.syncW s hL⟩
 | rem=>exact⟨_,_,_,h,fun _ _=>by kernel_rfl,hD.dropW s hL⟩
 | add b=>
  obtain⟨bd,bb,vb,e,h1,h2,h3,h4,h5⟩:=h;exact⟨_,_,_,e,fun _ _=>by kernel_rfl,Uv wb w g H D hD s bd bb vb b h1 h2 h3 h4 (by omega) hL⟩
theorem KM(wb w:Ae3)(g:Nat)(H:Dk)(D:Ad)(hD:DkG wb w g H D)(s:AlJ)(rb:Nat)(vs:List Ae2)(ac:List Stp)(hrb:w.heap[rb]? =some (.cells vs.toArray 101 (0,0)))(k:StpsAt w g H D.files.length vs ac)(n:Nat)(hB:DBd n D)(hn:n+ac.length<=100000)(hbs:∀a∈ac,∀b,a = .add b->b.length<=300):
  Calls Ae5 89 #[St s, .slice (some ⟨rb,0,none⟩) vs.length vs.length] w fun e w' =>∃H',e = .returned (NI (AY D s ac).2)/\DkW wb w g H D w' H' ((AY D s ac).1):=by
 have hal:=k.len;have hvm:vs.length<=maxLen:=by simp only[maxLen];omega
 refine gG (args:= [St (s), .slice (some ⟨rb,0,none⟩) vs.length vs.length]) Tryz.func89 rfl 21 rfl rfl ?_;have hE:=Ad4 w;refine gS (AbU M5 rfl (gL (fun(ρ:Ae) (wz:Ae3)=>∃i:Nat,∃Hi:Dk,∃Di:Ad,ρ 0=(St (s):Ae2)/\ρ 1=(.slice (some ⟨rb,0,none⟩) vs.length vs.length:Ae2)/\ρ 8=(.slice (some ⟨rb,0,none⟩) vs.length vs.length:Ae2)/\ρ 9=(NI vs.length:Ae2)/\ρ 10=(NI i:Ae2)/\wz.heap[rb]? =some (.cells vs.toArray 101 (0,0))/\DkW wb w g H D wz Hi Di/\StpsAt wz g Hi Di.files.length vs ac/\(i<=ac.length)/\(AY D s ac=AY Di s (ac.drop i))/\(DBd (n+i) Di)/\True) (fun ρ _=>ac.length-(intOf (ρ 10)).toNat) ⟨0,H,D,rfl,rfl,rfl,rfl,rfl,hrb,AbA hD hE,k.ext hE,AfC _,rfl,hB,trivial⟩ ?_));clear hE;clear hrb;rintro p u ⟨i,Hi,Di,l,q,m,o,c,hrb,hW,hA,hi,hq,hBi,-⟩;have q10:=c;refine gS (Aay (a:=(i:Nat)) (b:=(vs.length:Nat)) c o (AE _ _ _ _) ?_);refine cD rfl (fun f=> ?_) fun f=> ?_
 ·have hlt:i<ac.length:=by have h:=f;rw[hal]at h;exact h
  have hcell:vs[i]? =some (vs.getD i undef):=by rw[Ae6,Afb (by rw[hal];exact hlt)];rfl
  refine gS (AbV (i:=i) M5 Ut m c (by rw[hal];exact hlt) (gS (Aax Uu rfl rfl (cellAt hrb hcell) ?_)));obtain⟨fi,bi,ci,hvi,hpl,hcl⟩:=Wn hW.g (hBi.lt (by omega)) s (hA.at_ i hlt);refine gS (Adx hpl rfl hvi l hcl fun H2 v hW2=> ?_);have hW3:=hW.trans hW2;have hrb:=hW.g.box hW2.chg hrb (by decide) (by decide) (by decide) (by decide);have r:=hA.step hW.g hW2;refine gS (Aay (a:=((C9 Di s (ac.getD i .sync)).2:Nat)) (b:=(0:Nat)) rfl rfl (AV _ _ _ _) ?_);refine cD rfl (fun j=> ?_) fun j=> ?_
  ·refine A8 rfl (vr (NI ((C9 Di s (ac.getD i .sync)).2)) rfl) ?_;have hV:AY D s ac=C9 Di s (ac.getD i .sync):=by rw[hq,M4 hlt,FF,if_pos j]
   exact⟨H2,by rw[hV],by rw[hV];exact hW3⟩
  have hst:¬(C9 Di s (ac.getD i .sync)).2≠0:=j;have hq3:AY D s ac=AY (C9 Di s (ac.getD i .sync)).1 s (ac.drop (i+1)):=by rw[hq,M4 hlt,FF,if_neg hst]
  have t:=hBi.step s (ac.getD i .sync) (hbs _ (getD_mem .sync hlt));refine gS (Aaz (xv:=NI i) (yv:=NI 1) c rfl rfl (Ah _ _ _ (by omega)) (gK (AfF ⟨i+1,H2,(C9 Di s (ac.getD i .sync)).1,l,q,m,o,rfl,hrb,hW3,r,by omega,hq3,t,trivial⟩ ?_)));show ac.length-(intOf (NI ((i)+(1)))).toNat<ac.length-(intOf (p 10)).toNat;rw[q10];simp only[intOf,Afg];omega
 refine A8 rfl (vr (NI 0) rfl) ?_;have hie:i=ac.length:=by have h:=f;rw[hal]at h;omega
 have hV:AY D s ac=(Di,0):=by rw[hq,hie,List.drop_length];rfl
 exact⟨Hi,by rw[hV],by rw[hV];exact hW⟩
theorem Uw{E:Bs->Ent}{id:Bs}{s:IR}{e:Nat}(h:Dw E id s = .error e):e=17\/e=6\/e=18\/e=2:=by
 unfold Dw at h;split at h
 ·cases h;exact .inl rfl
 ·split at h
  ·cases h;exact .inr (.inl rfl)
  ·split at h
   ·split at h
    ·cases h
    ·cases h;exact .inr (.inr (.inr rfl))
   ·cases h;exact .inr (.inr (.inl rfl))
theorem QJ{E:Bs->Ent}{ids:List Bs}:∀ {n e:Nat},DS E ids n = .error e->e=17\/e=6\/e=18\/e=2
 | 0,e,h=>by cases h
 | n+1,e,h=>by
  cases h1:DS E ids n with
  | error a=>rw[Hj h1 1]at h;cases h;exact QJ h1
  | ok s=>rw[FC h1]at h;exact Uw h
theorem YL{b:Bs}{e:Nat}(h:CG b = .error e):e=17\/e=6\/e=18\/e=2:=by
 unfold CG at h;split at h
 ·cases h;exact .inr (.inl rfl)
 ·unfold Iq at h;split at h
  ·split at h
   ·unfold Hm at h;split at h
    ·cases h;exact .inr (.inl rfl)
    ·unfold Hl at h;split at h
     ·cases h;exact .inr (.inl rfl)
     ·unfold HX at h;split at h
      ·split at h
       ·unfold Hk at h;split at h
        ·cases h;exact QJ ‹_›
        ·cases h
       ·cases h;exact .inr (.inl rfl)
      ·cases h;exact .inr (.inl rfl)
   ·cases h;exact .inr (.inl rfl)
  ·cases h;exact .inr (.inl rfl)
theorem YM{b:Bs}{e:Nat}(h:BJ b = .error e):e≠0:=by
 unfold BJ at h;split at h
 ·cases h;decide
 ·split at h
  ·cases h;decide
  ·split at h
   ·have:=YL h;omega
   ·cases h;decide
structure ZP (ids : List Bs) (o : IR) : Prop where
 all:∀id∈ids,∃x d,o.O id=some (x,d)/\Sha.sum x=id/\x.length<=o.total
 any:∀id x,o.O id=some x->Sha.sum x.1=id/\x.1.length<=o.total/\id∈ids
 total:o.total<=4194304
theorem LK{E:Bs->Ent}{ids:List Bs}:∀ {n:Nat} {o:IR},n<=ids.length->DS E ids n = .ok o->ZP (ids.take n) o
 | 0,o,_,h=>by
  cases h;exact⟨(fun id hid=>by simp at hid),(fun id x hx=>by cases hx),AfC _⟩
 | n+1,o,hn,h=>by
  cases h1:DS E ids n with
  | error a=>rw[Hj h1 1]at h;cases h
  | ok s=>
   have ih:=LK (by omega) h1;rw[FC h1]at h;have ht:ids.take (n+1)=ids.take n++ [ids.getD n []]:=by
    rw[Afv (by omega),Ae6,Afb (show n<ids.length by omega)];rfl
   cases hd:Bc E 50 (E (ids.getD n []))with
   | none=>rw[Lz hd]at h;cases h
   | some d=>
    cases hc:BV E (d+1) (ids.getD n [])with
    | none=>rw[MW hd hc]at h;cases h
    | some x=>
     rw[FB (b:=x.1) (k:=x.2) hd hc]at h;split at h
     ·split at h
      ·cases h
       rename_i hs hle
       refine⟨fun id hid=> ?_,fun id y hy=> ?_,hle⟩
       ·rw[ht]at hid;by_cases e:id=ids.getD n []
        ·exact⟨x.1,d,by show updM s.O _ _ id=_;unfold updM;rw[if_pos e],by rw[e];exact hs,by dsimp only;omega⟩
        ·obtain⟨y,d',k1,k2,k3⟩:=ih.all id (by
          rcases Afy.1 hid with q | q
          ·exact q
          ·exact absurd (Afh.1 q) e)
         exact⟨y,d',by show updM s.O _ _ id=_;unfold updM;rw[if_neg e];exact k1,k2,by dsimp only;omega⟩
       ·have hy' :updM s.O (ids.getD n []) (some (x.1,d)) id=some y:=hy;unfold updM at hy';rw[ht];split at hy'
        ·cases hy'
         rename_i e
         exact⟨by rw[e];exact hs,by dsimp only;omega,by rw[e];simp⟩
        ·obtain⟨k1,k2,k3⟩:=ih.any id y hy';exact⟨k1,by dsimp only;omega,by simp[k3]⟩
      ·cases h
     ·cases h
structure Pc (b : Bs) (p : AT) : Prop where
 len:p.1.length<=b.length
 l32:∀id∈p.1,id.length=32
 all:∀id∈p.1,∃x d,p.2 id=some (x,d)/\Sha.sum x=id/\x.length<=4194304
 any:∀id x,p.2 id=some x->Sha.sum x.1=id/\x.1.length<=4194304/\id∈p.1
theorem Sj{b:Bs}{p:AT}(h36:36<=b.length)(h:CG b = .ok p):Pc b p:=by
 unfold CG at h;split at h
 ·cases h
 ·rename_i x hx
  unfold Iq at h;split at h
  ·rename_i hc
   split at h
   ·rename_i hn
    unfold Hm at h;split at h
    ·cases h
    ·rename_i es hes
     have hel:=Jo hes (by omega);unfold Hl at h;split at h
     ·cases h
     ·rename_i s hs
      have hi:=JV _ _ hs;unfold HX at h;split at h
      ·split at h
       ·unfold Hk at h;split at h
        ·cases h
        ·rename_i o ho
         cases h;have hg:=LK (Ae8 _) ho;rw[Af8]at hg;refine⟨?_,fun id hid=> ?_,fun id hid=> ?_,fun id y hy=> ?_⟩
         ·show s.ids.length<=_;rw[hi.len,hel.1];omega
         ·obtain⟨j,hj,rfl⟩:=hi.ids id hid;refine rowId_len (n:=x.1) ?_ (by rw[hel.1]at hj;exact hj);rw[Afi,Afn];omega
         ·obtain⟨y,d,k1,k2,k3⟩:=hg.all id hid;exact⟨y,d,k1,k2,Ae7 k3 hg.total⟩
         ·obtain⟨k1,k2,k3⟩:=hg.any id y hy;exact⟨k1,Ae7 k2 hg.total,k3⟩
       ·cases h
      ·cases h
   ·cases h
  ·cases h
theorem Sk{b:Bs}{p:AT}(h:BJ b = .ok p):Pc b p:=by
 unfold BJ at h;split at h
 ·cases h
 ·split at h
  ·cases h
  ·split at h
   ·exact Sj (by omega) h
   ·cases h
theorem stps1{w:Ae3}{g n:Nat}{H:Dk}{v:Ae2}{a:Stp}(h:StpAt w g H n v a):StpsAt w g H n [v] [a]:=⟨rfl,fun i hi=>by
 have:i=0:=by simp at hi;omega
 subst this;exact h⟩
theorem Aaq{w:Ae3}{g n:Nat}{H:Dk}{v b:Ae2}{a a2:Stp}(h:StpAt w g H n v a)(h2:StpAt w g H n b a2):StpsAt w g H n [v,b] [a,a2]:=⟨rfl,fun i hi=>by
 match i,hi with
 | 0,_=>exact h
 | 1,_=>exact h2⟩
theorem Aar{w:Ae3}{g n:Nat}{H:Dk}{v b c:Ae2}{a a2 a3:Stp}(h:StpAt w g H n v a)(h2:StpAt w g H n b a2)(h3:StpAt w g H n c a3):StpsAt w g H n [v,b,c] [a,a2,a3]:=⟨rfl,fun i hi=>by
 match i,hi with
 | 0,_=>exact h
 | 1,_=>exact h2
 | 2,_=>exact h3⟩
section
variable {P : AfD} {K : Ae2 -> Ae3 -> Prop} {ρ : Ae} {w : Ae3} {d : Option Tmp} {ty : Afa} {pos : String} {af : Array Edge} {gd : Option (Nat × Bool)}
theorem AdJ{t e:Afa}{x0:Aff}{a:Ae2}(h0:Aa ρ x0=a)(hr:∀w:Ae3,(AfM t 1 #[(0,a)]).run P w = .ok (.slice (some ⟨w.heap.size,0,none⟩) 1 1) (w.alloc (.cells #[a] e))) 
  (hk:∀n w',w.heap.size=n->w'.heap[n]? =some (.cells ([a]).toArray e (0,0))->Ext w w' ->w'.heap.size=n+1->K (.slice (some ⟨n,0,none⟩) 1 1) w'):Yk P K ((execOp (Aa ρ) ⟨d, .buildSlice t 1 #[(0,x0)],ty,pos,af,gd⟩).run P w):=by
 have hr' :(execOp (Aa ρ) ⟨d, .buildSlice t 1 #[(0,x0)],ty,pos,af,gd⟩).run P w = .ok (.value (.slice (some ⟨w.heap.size,0,none⟩) 1 1)) (w.alloc (.cells #[a] e)):=by
  unfold execOp;simp only[AfI,AfG,AfQ,h0,Afm,hr,Afe,Afo]
 rw[hr'];exact hk _ _ rfl (heap_alloc_new w _) ((Below.refl _ _).alloc (Ae8 _) _) (by simp)
theorem AdK{t e:Afa}{x0 x1:Aff}{a b:Ae2}(h0:Aa ρ x0=a)(h1:Aa ρ x1=b)(hr:∀w:Ae3,(AfM t 2 #[(0,a),(1,b)]).run P w = .ok (.slice (some ⟨w.heap.size,0,none⟩) 2 2) (w.alloc (.cells #[a,b] e))) 
  (hk:∀n w',w.heap.size=n->w'.heap[n]? =some (.cells ([a,b]).toArray e (0,0))->Ext w w' ->w'.heap.size=n+1->K (.slice (some ⟨n,0,none⟩) 2 2) w'):Yk P K ((execOp (Aa ρ) ⟨d, .buildSlice t 2 #[(0,x0),(1,x1)],ty,pos,af,gd⟩).run P w):=by
 have hr' :(execOp (Aa ρ) ⟨d, .buildSlice t 2 #[(0,x0),(1,x1)],ty,pos,af,gd⟩).run P w = .ok (.value (.slice (some ⟨w.heap.size,0,none⟩) 2 2)) (w.alloc (.cells #[a,b] e)):=by
  unfold execOp;simp only[AfI,AfG,AfQ,h0,h1,Afm,hr,Afe,Afo]
 rw[hr'];exact hk _ _ rfl (heap_alloc_new w _) ((Below.refl _ _).alloc (Ae8 _) _) (by simp)
theorem AdL{t e:Afa}{x0 x1 x2:Aff}{a b c:Ae2}(h0:Aa ρ x0=a)(h1:Aa ρ x1=b)(h2:Aa ρ x2=c)(hr:∀w:Ae3,(AfM t 3 #[(0,a),(1,b),(2,c)]).run P w = .ok (.slice (some ⟨w.heap.size,0,none⟩) 3 3) (w.alloc (.cells #[a,b,c] e))) 
  (hk:∀n w',w.heap.size=n->w'.heap[n]? =some (.cells ([a,b,c]).toArray e (0,0))->Ext w w' ->w'.heap.size=n+1->K (.slice (some ⟨n,0,none⟩) 3 3) w'):Yk P K ((execOp (Aa ρ) ⟨d, .buildSlice t 3 #[(0,x0),(1,x1),(2,x2)],ty,pos,af,gd⟩).run P w):=by
 have hr' :(execOp (Aa ρ) ⟨d, .buildSlice t 3 #[(0,x0),(1,x1),(2,x2)],ty,pos,af,gd⟩).run P w = .ok (.value (.slice (some ⟨w.heap.size,0,none⟩) 3 3)) (w.alloc (.cells #[a,b,c] e)):=by
  unfold execOp;simp only[AfI,AfG,AfQ,h0,h1,h2,Afm,hr,Afe,Afo]
 rw[hr'];exact hk _ _ rfl (heap_alloc_new w _) ((Below.refl _ _).alloc (Ae8 _) _) (by simp)
end
theorem Dq(w:Ae3)(hG:Laid w)(v:Ae2)(l:AlJ)(h:RBs w v [l])(hl:l.length<=1099511627776):
  Calls Ae5 45 #[v] w fun e w' =>e = .returned (AB (Sha.sum l))/\Ext w w' :=by
 have:=QC w hG v [l] h (by simp;omega) (by simp)
 simpa using this
theorem Wo:Plain Ae5 86:=fun _ _=>by kernel_rfl
theorem Wp:Plain Ae5 42:=fun _ _=>by kernel_rfl
theorem YN(f0:Fn)(a0 c0:Array Ae2)(f1:Fn)(a1 c1:Array Ae2)(w:Ae3):(AfM 231 2 #[(0, .func f0 a0 c0),(1, .func f1 a1 c1)]).run Ae5 w = .ok (.slice (some ⟨w.heap.size,0,none⟩) 2 2) (w.alloc (.cells #[.func f0 a0 c0, .func f1 a1 c1] 101)):=by kernel_rfl
theorem KN:Plain Ae5 89:=fun _ _=>by kernel_rfl
theorem YO(f0:Fn)(a0 c0:Array Ae2)(w:Ae3):(AfM 231 1 #[(0, .func f0 a0 c0)]).run Ae5 w = .ok (.slice (some ⟨w.heap.size,0,none⟩) 1 1) (w.alloc (.cells #[.func f0 a0 c0] 101)):=by kernel_rfl
theorem YP(f0:Fn)(a0 c0:Array Ae2)(f1:Fn)(a1 c1:Array Ae2)(f2:Fn)(a2 c2:Array Ae2)(w:Ae3):(AfM 231 3 #[(0, .func f0 a0 c0),(1, .func f1 a1 c1),(2, .func f2 a2 c2)]).run Ae5 w = .ok (.slice (some ⟨w.heap.size,0,none⟩) 3 3) (w.alloc (.cells #[.func f0 a0 c0, .func f1 a1 c1, .func f2 a2 c2] 101)):=by kernel_rfl
theorem YQ(wb w:Ae3)(g:Nat)(H:Dk)(D:Ad)(hD:DkG wb w g H D)(hG:Laid wb)(vb:Ae2)(b:AlJ)(hr:RB w vb b)(hoff:b= []\/∀i,vb.ownBlock=some i->¬B7 H D.files.length i)(hbl:b.length<=300)(n:Nat)(hB:DBd n D)(hn:n<=99000):
  Calls Ae5 47 #[PQ g 0,vb] w fun e w' =>∃H' vo,e = .returned (.tuple #[AB ((BZ D b).2.1),vo,NI (BZ D b).2.2.2])/\RB w' vo (BZ D b).2.2.1/\DkW wb w g H D w' H' (BZ D b).1/\∀k,Afd vo=some k->w.heap.size<=k:=by
 refine gG (args:= [PQ g 0,vb]) Tryz.func47 rfl 70 rfl rfl ?_;have hE:=Ad4 w;refine gS (Abx (vr (PQ g 0) rfl) rfl fun p w3 cg ax bi ch=> ?_);have j:=ax;clear ax;have ci:p<w3.heap.size:=by omega
 have hE:=hE.trans bi;refine gS (Abx (vr vb rfl) (Aeg (hr.keep hE)).1 fun q bj cj ay az ck=> ?_);have t:=Ad4 w3;have cl:=hE.size;have f:=ay;clear ay;have cm:q<bj.heap.size:=by omega
 refine gS (Ad9 VA fun o a0 bk a1 aj cn=> ?_);have hE:=hE.trans az;have t:=t.trans az;have bm:=hE.size;have c:=a1;clear a1;have co:o<a0.heap.size:=by omega
 have hE:=hE.trans aj;have hW:DkW wb w g H D a0 H D:=AbA hD hE;have hwb:=hD.ext.size;have hrl:=IA (hB.lt (by omega)) (nmO (Sha.sum b));have cp:=Av (bl f) bk;have f:=eb aj f;refine gS (Aax GR rfl rfl (cellAt f rfl) (gS (AaT GR (AaF (hr.keep hE) rfl) (gS (Aay (a:=(b.length:Nat)) (b:=(262144:Nat)) rfl rfl (Bj _ _ _ _) (kF (by omega) (cF rfl (gS (Aax GR rfl rfl (cellAt f rfl) (gS (Abf GV (AaF (hr.keep hE) (vr vb rfl)) fun bn bo a2 ak=> ?_)))))))))));have hW:DkW wb w g H (D) bo H (D):=(hW.keep ak);refine gS (AaE KB rfl ((Dq _ (hG.keep (hW).g.ext) bn b a2 (by omega)).mono ?_));rintro e bp ⟨rfl,al⟩;refine⟨_,rfl,?_⟩;have hW:DkW wb w g H (D) bp H (D):=(hW.keep al);have hZ1:=ak.trans al;have c:=eb hZ1 c;refine gS (AaB (vr (PQ o 0) rfl) (vr (AB (Sha.sum b)) rfl) c (by exact Bp (Sha.sum_length _) Afp) (by exact Ac (Sha.sum_length _)) (Ag _) fun bq a3 ad cq=> ?_);have hW:DkW wb w g H (D) bq H (D):=Aew hW ad c (by omega) (by decide) (by decide) (by decide) (by decide) (by decide) (by decide) hwb;clear a2;clear c;have c:=a3;clear a3;have cr:=bl c;refine gS (AaC rfl c XM rfl (by exact Ac (Sha.sum_length _)) (gS (AaE Wo rfl ((Pb _ (Sha.sum b) (Sha.sum_length _)).mono ?_))));rintro e br ⟨rfl,ac⟩;refine⟨_,rfl,?_⟩;have hW:DkW wb w g H (D) br H (D):=(hW.keep ac);have bs:=t.size;have hZ2:=(aj.trans ak).trans al;have t:=t.trans hZ2;have t:=Ab t ad (Ae7 bs (by omega));have t:=t.trans ac;have j:=eb t j;refine gS (Abk (vs:= #[PQ p 0,PQ q 0]) (by simp only[AfI,AfG,AfQ];exact congrArg Agp (E2 (vr (PQ p 0) rfl) (vr (PQ q 0) rfl))) (gS (Aax VY rfl rfl (cellAt j rfl) ?_)));have hE:=hE.trans hZ1;have hE:=Ab hE ad (Ae7 bm (by omega));have hE:=hE.trans ac;have hszr_:=(hE).size;refine gS (AaA Wp rfl rfl (((hW).g.read (nmO (Sha.sum b)) (hB.lt (by omega))).mono ?_));rintro e bt ⟨x,rfl,am,u⟩;refine⟨_,rfl,?_⟩;have f:=eb hZ1 f;have f:=kb ad f (by omega);have f:=eb ac f;have c:=eb ac c;have bu:OB x o:=DA am (bl c);have hW:DkW wb w g H (D) bt H (D):=(hW.keep u);have hvnew:∀k,Afd x=some k->w.heap.size<=k:=fun k hk=>Ae7 hszr_ (am.lt k hk).1;have r:=Aa5 am;refine gS (Ad5 (vs:= [x,NI ((Ar D (nmO (Sha.sum b))).2)]) rfl rfl (gS (Ad5 (vs:= [x,NI ((Ar D (nmO (Sha.sum b))).2)]) rfl rfl (gS (Aay (a:=((Ar D (nmO (Sha.sum b))).2:Nat)) (b:=(4:Nat)) rfl rfl (AH _ _ _ _) ?_)))));refine cD rfl (fun y=> ?_) fun y=> ?_
 ·have hV:BZ D b=D4 (AY D (nmO (Sha.sum b)) [.add b, .sync]) (Sha.sum b):=by unfold BZ;rw[if_pos y]
  have j:=eb u j;refine gS (Aax VY rfl rfl (cellAt j rfl) (gS (AbL (vr (PQ g 0) rfl) (gS (AdK (vr (.func (.func 87) #[] #[PQ p 0,PQ q 0]) rfl) (vr (.func (.func 90) #[PQ g 0] #[]) rfl) (fun w=>YN _ _ _ _ _ _ w) fun b66 bv cs a4 an ct=> ?_)))));have hW:DkW wb w g H (D) bv H (D):=(hW.keep an);have hWc:=hW;have hZ3:=u.trans an;have hE:=hE.trans hZ3;have f:=eb hZ3 f;have j:=eb an j;refine gS (AaA KN rfl rfl ((KM wb _ g H D hWc.g (nmO (Sha.sum b)) b66 [.func (.func 87) #[] #[PQ p 0,PQ q 0], .func (.func 90) #[PQ g 0] #[]] [.add b, .sync] a4 (Aaq (show StpAt _ _ _ _ _ (.add b)from⟨p,q,vb,rfl,j,f,(hr.keep hE),hoff,hbl⟩) (show StpAt _ _ _ _ _ (.sync)from rfl)) n hB (by simp;omega) (by simp[hbl])).mono ?_));rintro e ao ⟨H72,rfl,hW73⟩;refine⟨_,rfl,?_⟩;have hWn:=hWc.trans hW73;have j:ao.heap[p]? =some (.cells (([PQ g 0]:List Ae2)).toArray 50 (0,0)):=Aeo hWc.g hW73.chg j (by decide) (by decide) (by decide) (by decide);have f:ao.heap[q]? =some (.cells (([vb]:List Ae2)).toArray 27 (0,0)):=Aeo hWc.g hW73.chg f (by decide) (by decide) (by decide) (by decide);have c:=eb hZ3 c;have c:ao.heap[o]? =some (.cells (Ae4 (Sha.sum b)).toArray 33 (0,0)):=Aeo hWc.g hW73.chg c (by decide) (by decide) (by decide) (by decide);clear hE;clear hW;clear r;clear a4;have hW:=hWn;refine gS (Aay (a:=((AY D (nmO (Sha.sum b)) [.add b, .sync]).2:Nat)) (b:=(0:Nat)) rfl rfl (AV _ _ _ _) ?_);refine cD rfl (fun s=> ?_) fun s=> ?_
  ·refine gS (AeB (v:=AB (Afk 32 0)) (by kernel_rfl) (gS (AaB (vr (PQ o 0) rfl) (vr (AB (Afk 32 0)) rfl) c (by exact Bp Afp (Sha.sum_length _)) (by exact Ac Afp) (Ag _) fun bw a5 bx cu=> ?_)));have hW:DkW wb w g H (D) bw H72 ((AY D (nmO (Sha.sum b)) [.add b, .sync]).1):=Aew hW bx c (by omega) (by decide) (by decide) (by decide) (by decide) (by decide) (by decide) hwb;clear c;have c:=a5;clear a5;have cv:=bl c;refine I5 rfl (Aee rfl c XM rfl (by exact Ac Afp)) (vr (Afc none 0 0) rfl) (vr (NI ((AY D (nmO (Sha.sum b)) [.add b, .sync]).2)) rfl) ?_;have hF:D4 (AY D (nmO (Sha.sum b)) [.add b, .sync]) (Sha.sum b)=((AY D (nmO (Sha.sum b)) [.add b, .sync]).1,Hp,[],(AY D (nmO (Sha.sum b)) [.add b, .sync]).2):=if_pos s;exact⟨H72,_,by rw[hV,hF];rfl,by rw[hV,hF];exact Aeq _,by rw[hV,hF];exact hW,fun k h=>by cases h⟩
  refine gS (AaC rfl c XM rfl (by exact Ac (Sha.sum_length _)) (gS (AaB (vr (PQ o 0) rfl) (vr (AB (Sha.sum b)) rfl) c (by exact Bp (Sha.sum_length _) (Sha.sum_length _)) (by exact Ac (Sha.sum_length _)) (Ag _) fun bz a6 b0 cw=> ?_)));have hW:DkW wb w g H (D) bz H72 ((AY D (nmO (Sha.sum b)) [.add b, .sync]).1):=Aew hW b0 c (by omega) (by decide) (by decide) (by decide) (by decide) (by decide) (by decide) hwb;clear c;have c:=a6;clear a6;have cx:=bl c;refine I5 rfl (Aee rfl c XM rfl (by exact Ac (Sha.sum_length _))) (vr (Afc none 0 0) rfl) (vr (NI 0) rfl) ?_;have hF:D4 (AY D (nmO (Sha.sum b)) [.add b, .sync]) (Sha.sum b)=((AY D (nmO (Sha.sum b)) [.add b, .sync]).1,(Sha.sum b),[],0):=if_neg s;exact⟨H72,_,by rw[hV,hF],by rw[hV,hF];exact Aeq _,by rw[hV,hF];exact hW,fun k h=>by cases h⟩
 refine gS (Aay (a:=((Ar D (nmO (Sha.sum b))).2:Nat)) (b:=(0:Nat)) rfl rfl (AV _ _ _ _) ?_);refine cD rfl (fun z=> ?_) fun z=> ?_
 ·have hV:BZ D b=(D,Hp,[],(Ar D (nmO (Sha.sum b))).2):=by unfold BZ;rw[if_neg y,if_pos z]
  have c:=eb u c;refine gS (Aay (a:=((Ar D (nmO (Sha.sum b))).2:Nat)) (b:=(0:Nat)) rfl rfl (AV _ _ _ _) (kT (z) (cT rfl (gS (AeB (v:=AB (Afk 32 0)) (by kernel_rfl) (gS (AaB (vr (PQ o 0) rfl) (vr (AB (Afk 32 0)) rfl) c (by exact Bp Afp (Sha.sum_length _)) (by exact Ac Afp) (Ag _) fun b1 a7 b2 cy=> ?_)))))));have hW:DkW wb w g H (D) b1 H (D):=Aew hW b2 c (by omega) (by decide) (by decide) (by decide) (by decide) (by decide) (by decide) hwb;clear c;have c:=a7;clear a7;have cz:=bl c;refine I5 rfl (Aee rfl c XM rfl (by exact Ac Afp)) (vr (Afc none 0 0) rfl) (vr (NI ((Ar D (nmO (Sha.sum b))).2)) rfl) ?_;exact⟨H,_,by rw[hV];rfl,by rw[hV];exact Aeq _,by rw[hV];exact hW,fun k h=>by cases h⟩
 have hE:=hE.trans u;have f:=eb u f;refine gS (Abb GR u5 QD (AaF r rfl) (gS (Aax GR rfl rfl (cellAt f rfl) (gS (Abb GR u5 QD (AaF (hr.keep hE) rfl) (gS (Abw (l:=(Ar D (nmO (Sha.sum b))).1) (m:=b) (.inl rfl) rfl rfl (decide ((Ar D (nmO (Sha.sum b))).1=b)) rfl ?_)))))));refine cD rfl (fun ae=> ?_) fun ae=> ?_
 ·have hV:BZ D b=D4 (AY D (nmO (Sha.sum b)) [.sync]) (Sha.sum b):=by unfold BZ;rw[if_neg y,if_neg z,if_pos ae]
  have j:=eb u j;refine gS (Aax VY rfl rfl (cellAt j rfl) (gS (AbL (vr (PQ g 0) rfl) (gS (AdJ (vr (.func (.func 90) #[PQ g 0] #[]) rfl) (fun w=>YO _ _ _ w) fun b99 b3 c0 a8 af c1=> ?_)))));have hW:DkW wb w g H (D) b3 H (D):=(hW.keep af);have hWc:=hW;refine gS (AaA KN rfl rfl ((KM wb _ g H D hWc.g (nmO (Sha.sum b)) b99 [.func (.func 90) #[PQ g 0] #[]] [.sync] a8 (stps1 (show StpAt _ _ _ _ _ (.sync)from rfl)) n hB (by simp;omega) (by simp[hbl])).mono ?_));rintro e ap ⟨H105,rfl,hW106⟩;refine⟨_,rfl,?_⟩;have hWn:=hWc.trans hW106;have j:=eb af j;have j:ap.heap[p]? =some (.cells (([PQ g 0]:List Ae2)).toArray 50 (0,0)):=Aeo hWc.g hW106.chg j (by decide) (by decide) (by decide) (by decide);have f:=eb af f;have f:ap.heap[q]? =some (.cells (([vb]:List Ae2)).toArray 27 (0,0)):=Aeo hWc.g hW106.chg f (by decide) (by decide) (by decide) (by decide);have hZ4:=u.trans af;have c:=eb hZ4 c;have c:ap.heap[o]? =some (.cells (Ae4 (Sha.sum b)).toArray 33 (0,0)):=Aeo hWc.g hW106.chg c (by decide) (by decide) (by decide) (by decide);clear hE;clear hW;clear r;clear a8;have hW:=hWn;refine gS (Aay (a:=((AY D (nmO (Sha.sum b)) [.sync]).2:Nat)) (b:=(0:Nat)) rfl rfl (AV _ _ _ _) ?_);refine cD rfl (fun s=> ?_) fun s=> ?_
  ·refine gS (AeB (v:=AB (Afk 32 0)) (by kernel_rfl) (gS (AaB (vr (PQ o 0) rfl) (vr (AB (Afk 32 0)) rfl) c (by exact Bp Afp (Sha.sum_length _)) (by exact Ac Afp) (Ag _) fun b4 a9 b5 c2=> ?_)));have hW:DkW wb w g H (D) b4 H105 ((AY D (nmO (Sha.sum b)) [.sync]).1):=Aew hW b5 c (by omega) (by decide) (by decide) (by decide) (by decide) (by decide) (by decide) hwb;clear c;have c:=a9;clear a9;have c3:=bl c;refine I5 rfl (Aee rfl c XM rfl (by exact Ac Afp)) (vr (Afc none 0 0) rfl) (vr (NI ((AY D (nmO (Sha.sum b)) [.sync]).2)) rfl) ?_;have hF:D4 (AY D (nmO (Sha.sum b)) [.sync]) (Sha.sum b)=((AY D (nmO (Sha.sum b)) [.sync]).1,Hp,[],(AY D (nmO (Sha.sum b)) [.sync]).2):=if_pos s;exact⟨H105,_,by rw[hV,hF];rfl,by rw[hV,hF];exact Aeq _,by rw[hV,hF];exact hW,fun k h=>by cases h⟩
  refine gS (AaC rfl c XM rfl (by exact Ac (Sha.sum_length _)) (gS (AaB (vr (PQ o 0) rfl) (vr (AB (Sha.sum b)) rfl) c (by exact Bp (Sha.sum_length _) (Sha.sum_length _)) (by exact Ac (Sha.sum_length _)) (Ag _) fun b6 ba b7 c4=> ?_)));have hW:DkW wb w g H (D) b6 H105 ((AY D (nmO (Sha.sum b)) [.sync]).1):=Aew hW b7 c (by omega) (by decide) (by decide) (by decide) (by decide) (by decide) (by decide) hwb;clear c;have c:=ba;clear ba;have c5:=bl c;refine I5 rfl (Aee rfl c XM rfl (by exact Ac (Sha.sum_length _))) (vr (Afc none 0 0) rfl) (vr (NI 0) rfl) ?_;have hF:D4 (AY D (nmO (Sha.sum b)) [.sync]) (Sha.sum b)=((AY D (nmO (Sha.sum b)) [.sync]).1,(Sha.sum b),[],0):=if_neg s;exact⟨H105,_,by rw[hV,hF],by rw[hV,hF];exact Aeq _,by rw[hV,hF];exact hW,fun k h=>by cases h⟩
 refine Ed [0,3,1,2,4,5] [1,2] [] [3] fun bb ag=> ?_;have hW:DkW wb w g H (D) bb H (D):=(hW.keep ag);have ah:=Ad4 bb;have hZ5:=u.trans ag;have c:=eb hZ5 c;have r:=r.keep ag;refine DV ah ?_;refine yf (fun _ ⟨hZ,_⟩=>AaC rfl (eb hZ c) XM rfl (by exact Ac (Sha.sum_length _)) zz) (yE (Abf GV (AaF r (vr x rfl)) fun b8 bc aq aa=> ?_));have hW:DkW wb w g H (D) bc H (D):=(hW.keep aa);have ah:=ah.trans aa;refine⟨ah,?_⟩;have ar:=Ad4 bc;refine yE (AaE KB rfl ((Dq _ (hG.keep (hW).g.ext) b8 ((Ar D (nmO (Sha.sum b))).1) aq (by omega)).mono ?_));rintro e b9 ⟨rfl,ab⟩;refine⟨_,rfl,?_⟩;have hW:DkW wb w g H (D) b9 H (D):=(hW.keep ab);have ar:=ar.trans ab;refine⟨ar,?_⟩;refine ys (AbM (l1:=(Sha.sum ((Ar D (nmO (Sha.sum b))).1))) (l2:=(Sha.sum b)) XM u5 Rg TM rfl rfl ((Sha.sum_length _)) ((Sha.sum_length _)) zz) ?_;refine cD rfl (fun au=> ?_) fun au=> ?_
 ·have hV:BZ D b=(D,(Sha.sum b),(Ar D (nmO (Sha.sum b))).1,7):=by unfold BZ;rw[if_neg y,if_neg z,if_neg ae,if_pos au]
  have hZ6:=aa.trans ab;have c:=eb hZ6 c;refine gS (AaC rfl c XM rfl (by exact Ac (Sha.sum_length _)) (gS (AaB (vr (PQ o 0) rfl) (vr (AB (Sha.sum b)) rfl) c (by exact Bp (Sha.sum_length _) (Sha.sum_length _)) (by exact Ac (Sha.sum_length _)) (Ag _) fun ca bd be c6=> ?_)));have hW:DkW wb w g H (D) ca H (D):=Aew hW be c (by omega) (by decide) (by decide) (by decide) (by decide) (by decide) (by decide) hwb;clear aq;clear c;have c:=bd;clear bd;have c7:=bl c;refine I5 rfl (Aee rfl c XM rfl (by exact Ac (Sha.sum_length _))) (vr x rfl) (vr (NI 7) rfl) ?_;have r:=r.keep hZ6;have r:=AeE r be (.inr bu);exact⟨H,_,by rw[hV],by rw[hV];exact r,by rw[hV];exact hW,hvnew⟩
 have hV:BZ D b=D4 (AY D (nmO (Sha.sum b)) [.rem, .add b, .sync]) (Sha.sum b):=by unfold BZ;rw[if_neg y,if_neg z,if_neg ae,if_neg au]
 have hZ7:=(hZ5.trans aa).trans ab;have j:=eb hZ7 j;refine gS (Aax VY rfl rfl (cellAt j rfl) (gS (AbL (vr (PQ g 0) rfl) (gS (Aax VY rfl rfl (cellAt j rfl) (gS (AbL (vr (PQ g 0) rfl) (gS (AdL (vr (.func (.func 52) #[PQ g 0] #[]) rfl) (vr (.func (.func 87) #[] #[PQ p 0,PQ q 0]) rfl) (vr (.func (.func 90) #[PQ g 0] #[]) rfl) (fun w=>YP _ _ _ _ _ _ _ _ _ w) fun b140 cb c8 bf ai c9=> ?_)))))))));have hW:DkW wb w g H (D) cb H (D):=(hW.keep ai);have hWc:=hW;have hZ8:=((ag.trans aa).trans ab).trans ai;have hE:=hE.trans hZ8;have f:=eb hZ8 f;have j:=eb ai j;refine gS (AaA KN rfl rfl ((KM wb _ g H D hWc.g (nmO (Sha.sum b)) b140 [.func (.func 52) #[PQ g 0] #[], .func (.func 87) #[] #[PQ p 0,PQ q 0], .func (.func 90) #[PQ g 0] #[]] [.rem, .add b, .sync] bf (Aar (show StpAt _ _ _ _ _ (.rem)from rfl) (show StpAt _ _ _ _ _ (.add b)from⟨p,q,vb,rfl,j,f,(hr.keep hE),hoff,hbl⟩) (show StpAt _ _ _ _ _ (.sync)from rfl)) n hB (by simp;omega) (by simp[hbl])).mono ?_));rintro e av ⟨H146,rfl,hW147⟩;refine⟨_,rfl,?_⟩;have hWn:=hWc.trans hW147;have j:av.heap[p]? =some (.cells (([PQ g 0]:List Ae2)).toArray 50 (0,0)):=Aeo hWc.g hW147.chg j (by decide) (by decide) (by decide) (by decide);have f:av.heap[q]? =some (.cells (([vb]:List Ae2)).toArray 27 (0,0)):=Aeo hWc.g hW147.chg f (by decide) (by decide) (by decide) (by decide);have hZ9:=(aa.trans ab).trans ai;have c:=eb hZ9 c;have c:av.heap[o]? =some (.cells (Ae4 (Sha.sum b)).toArray 33 (0,0)):=Aeo hWc.g hW147.chg c (by decide) (by decide) (by decide) (by decide);clear hE;clear hW;clear r;clear aq;clear bf;have hW:=hWn;refine gS (Aay (a:=((AY D (nmO (Sha.sum b)) [.rem, .add b, .sync]).2:Nat)) (b:=(0:Nat)) rfl rfl (AV _ _ _ _) ?_);refine cD rfl (fun s=> ?_) fun s=> ?_
 ·refine gS (AeB (v:=AB (Afk 32 0)) (by kernel_rfl) (gS (AaB (vr (PQ o 0) rfl) (vr (AB (Afk 32 0)) rfl) c (by exact Bp Afp (Sha.sum_length _)) (by exact Ac Afp) (Ag _) fun cc bg cd da=> ?_)));have hW:DkW wb w g H (D) cc H146 ((AY D (nmO (Sha.sum b)) [.rem, .add b, .sync]).1):=Aew hW cd c (by omega) (by decide) (by decide) (by decide) (by decide) (by decide) (by decide) hwb;clear c;have c:=bg;clear bg;have db:=bl c;refine I5 rfl (Aee rfl c XM rfl (by exact Ac Afp)) (vr (Afc none 0 0) rfl) (vr (NI ((AY D (nmO (Sha.sum b)) [.rem, .add b, .sync]).2)) rfl) ?_;have hF:D4 (AY D (nmO (Sha.sum b)) [.rem, .add b, .sync]) (Sha.sum b)=((AY D (nmO (Sha.sum b)) [.rem, .add b, .sync]).1,Hp,[],(AY D (nmO (Sha.sum b)) [.rem, .add b, .sync]).2):=if_pos s;exact⟨H146,_,by rw[hV,hF];rfl,by rw[hV,hF];exact Aeq _,by rw[hV,hF];exact hW,fun k h=>by cases h⟩
 refine gS (AaC rfl c XM rfl (by exact Ac (Sha.sum_length _)) (gS (AaB (vr (PQ o 0) rfl) (vr (AB (Sha.sum b)) rfl) c (by exact Bp (Sha.sum_length _) (Sha.sum_length _)) (by exact Ac (Sha.sum_length _)) (Ag _) fun ce bh cf dc=> ?_)));have hW:DkW wb w g H (D) ce H146 ((AY D (nmO (Sha.sum b)) [.rem, .add b, .sync]).1):=Aew hW cf c (by omega) (by decide) (by decide) (by decide) (by decide) (by decide) (by decide) hwb;clear c;have c:=bh;clear bh;have dd:=bl c;refine I5 rfl (Aee rfl c XM rfl (by exact Ac (Sha.sum_length _))) (vr (Afc none 0 0) rfl) (vr (NI 0) rfl) ?_;have hF:D4 (AY D (nmO (Sha.sum b)) [.rem, .add b, .sync]) (Sha.sum b)=((AY D (nmO (Sha.sum b)) [.rem, .add b, .sync]).1,(Sha.sum b),[],0):=if_neg s;exact⟨H146,_,by rw[hV,hF],by rw[hV,hF];exact Aeq _,by rw[hV,hF];exact hW,fun k h=>by cases h⟩
theorem Wq:Plain Ae5 48:=fun _ _=>by kernel_rfl
theorem QK(wb w:Ae3)(g:Nat)(H:Dk)(D:Ad)(hD:DkG wb w g H D)(hG:Laid wb)(hL:De D)(id:AlJ)(hid:id.length=32):
  Calls Ae5 48 #[PQ g 0,AB id] w fun e w' =>∃v,e = .returned (.tuple #[v,NI (getL D id).2])/\RB w' v (getL D id).1/\Ext w w' /\NewI w.heap.size w' v:=by
 refine gG (args:= [PQ g 0,AB id]) Tryz.func48 rfl 30 rfl rfl ?_;have hE:=Ad4 w;refine gS (Ael (vr (AB id) rfl) fun u x ai r y aj=> ?_);have i:=r;clear r;have ak:u<x.heap.size:=by omega
 refine gS (AaC rfl i XM rfl (by exact Ac hid) (gS (AaE Wo rfl ((Pb _ id hid).mono ?_))));rintro e al ⟨rfl,s⟩;refine⟨_,rfl,?_⟩;have hE:=hE.trans (y.trans s);have hszr_:=(hE).size;refine gS (AaA Wp rfl rfl (((hD.keep hE).read (nmO id) hL).mono ?_));rintro e am ⟨f,rfl,t,j⟩;refine⟨_,rfl,?_⟩;have hvn:=(Acd t).low hszr_;have c:=Aa5 t;refine gS (Ad5 (vs:= [f,NI ((Ar D (nmO id)).2)]) rfl rfl (gS (Ad5 (vs:= [f,NI ((Ar D (nmO id)).2)]) rfl rfl ?_)));have hrl:=IA hL (nmO id);by_cases h4:(Ar D (nmO id)).2=4
 ·refine Ed [0,1,2,3,4,5,6,9,7,8,10,11,12] [7,8] [] [9] fun z aa=> ?_;have ab:=Ad4 z;refine DV ab ?_;refine ys (Aay (a:=((Ar D (nmO id)).2:Nat)) (b:=(4:Nat)) rfl rfl (AH _ _ _ _) zz) (kT (h4) (ys (AaS rfl rfl zz) (cT rfl (BI rfl (vr (Afc none 0 0) rfl) (vr (NI 12) rfl) ?_))));have hV:getL D id=([],12):=if_pos (.inl h4);have hE:=hE.trans (j.trans aa);exact⟨_,by rw[hV],by rw[hV];exact Aeq _,hE,NewI.nil _ _⟩
 by_cases h0:(Ar D (nmO id)).2=0
 ·refine Ed [0,1,2,3,4,5,6,9,7,8,10,11,12] [7,8] [] [9] fun ac k=> ?_;have l:=Ad4 ac;have i:=eb ((s.trans j).trans k) i;have c:=c.keep k;refine DV l ?_;refine ys (Aay (a:=((Ar D (nmO id)).2:Nat)) (b:=(4:Nat)) rfl rfl (AH _ _ _ _) zz) (kF (h4) (ys (Aay (a:=((Ar D (nmO id)).2:Nat)) (b:=(0:Nat)) rfl rfl (AH _ _ _ _) zz) (kT (h0) (yf (fun _ ⟨hZ,_⟩=>AaC rfl (eb hZ i) XM rfl (by exact Ac hid) zz) (yE (Abf GV (AaF c (vr f rfl)) fun ad ae af m=> ?_))))));have l:=l.trans m;refine⟨l,?_⟩;have n:=Ad4 ae;have hE:=hE.trans ((j.trans k).trans m);refine yE (AaE KB rfl ((Dq _ (hG.keep ((hD.keep hE)).ext) ad ((Ar D (nmO id)).1) af (by omega)).mono ?_));rintro e an ⟨rfl,h⟩;refine⟨_,rfl,?_⟩;have n:=n.trans h;refine⟨n,?_⟩;refine ys (Ab4 (l1:=(Sha.sum ((Ar D (nmO id)).1))) (l2:=id) XM u5 Rg TM rfl rfl ((Sha.sum_length _)) (hid) zz) (ys (AaS rfl rfl zz) (ys (AaX rfl rfl zz) ?_));refine cD rfl (fun o=> ?_) fun o=> ?_
  ·refine BI rfl (vr (Afc none 0 0) rfl) (vr (NI 12) rfl) ?_;have hV:getL D id=([],12):=if_pos (.inr ⟨h0,o⟩);have hE:=hE.trans h;exact⟨_,by rw[hV],by rw[hV];exact Aeq _,hE,NewI.nil _ _⟩
  refine BI rfl (vr f rfl) (vr (NI ((Ar D (nmO id)).2)) rfl) ?_;have hV:getL D id=(Ar D (nmO id)):=if_neg (fun q=>q.elim h4 fun q=>o q.2);have hvn:=hvn.keep ((k.trans m).trans h);have hZ1:=m.trans h;have c:=c.keep hZ1;have hE:=hE.trans h;exact⟨_,by rw[hV],by rw[hV];exact c,hE,hvn⟩
 refine Ed [0,1,2,3,4,5,6,9,7,8,10,11,12] [7,8] [] [9] fun ag p=> ?_;have ah:=Ad4 ag;refine DV ah ?_;refine ys (Aay (a:=((Ar D (nmO id)).2:Nat)) (b:=(4:Nat)) rfl rfl (AH _ _ _ _) zz) (kF (h4) (ys (Aay (a:=((Ar D (nmO id)).2:Nat)) (b:=(0:Nat)) rfl rfl (AH _ _ _ _) zz) (kF (h0) (ys (AaX rfl rfl zz) (ys (AaX rfl rfl zz) (cF rfl (BI rfl (vr f rfl) (vr (NI ((Ar D (nmO id)).2)) rfl) ?_)))))));have hV:getL D id=(Ar D (nmO id)):=if_neg (fun q=>q.elim h4 fun q=>h0 q.1);have hE:=hE.trans (j.trans p);have hvn:=hvn.keep p;have c:=c.keep p;exact⟨_,by rw[hV],by rw[hV];exact c,hE,hvn⟩
theorem ZQ(wb w:Ae3)(g:Nat)(H:Dk)(D:Ad)(hD:DkG wb w g H D)(hG:Laid wb)(hL:De D)(id:AlJ)(hid:id.length=32):
  Calls Ae5 48 #[PQ g 0,AB id] w fun e w' =>∃v,e = .returned (.tuple #[v,NI (getL D id).2])/\RB w' v (getL D id).1/\Ext w w' :=
 (QK wb w g H D hD hG hL id hid).mono fun e w' ⟨v,h1,h2,h3,_⟩=>⟨v,h1,h2,h3⟩
theorem YR(wb w:Ae3)(g:Nat)(H:Dk)(D:Ad)(hD:DkG wb w g H D)(hG:Laid wb)(hL:De D)(id:AlJ)(hid:id.length=32):
  Calls Ae5 97 #[PQ g 0,AB id] w fun e w' =>e = .returned (.bool (decide ((getL D id).2=0)))/\Ext w w' :=by
 refine gG (args:= [PQ g 0,AB id]) Tryz.func97 rfl 15 rfl rfl ?_;have hE:=Ad4 w;refine gS (Ael (vr (AB id) rfl) fun h i m c j n=> ?_);have k:=c;clear c;have o:h<i.heap.size:=by omega
 have hE:=hE.trans j;refine gS (AaC rfl k XM rfl (by exact Ac hid) (gS (AaA Wq rfl rfl ((ZQ wb _ g H D (hD.keep hE) hG hL id hid).mono ?_))));rintro e p ⟨f,rfl,q,l⟩;refine⟨_,rfl,?_⟩;refine gS (Ad5 (vs:= [f,NI ((getL D id).2)]) rfl rfl (gS (Ad5 (vs:= [f,NI ((getL D id).2)]) rfl rfl (gS (Aay (a:=((getL D id).2:Nat)) (b:=(0:Nat)) rfl rfl (AH _ _ _ _) (A8 rfl (vr (.bool (decide (((getL D id).2:Nat)=(0)))) rfl) ?_))))));have hE:=hE.trans l;exact⟨rfl,hE⟩
structure EP where
 at_:Nat
 total:Nat
 depths:List Int
 packs:List Int
 bases:List Int
def LL(s:EP):Bool:=decide (1024<=s.depths.length)||decide (131072<=s.total)
def turnPk(s:EP):EP:=if LL s=true then⟨s.at_+1,0,[],s.packs,s.bases⟩else s
def GE(ch:List Int)(i k:Nat):Int:=if 0<ch.length then AgO (ch.getD (i%ch.length) 0) ((k+1:Nat):Int)-1 else -1
def Mm(s:EP)(b:Int):Int:=if 0<=b then s.depths.getD b.toNat 0+1 else 0
def G7(z:Int):Nat:=min z.toNat 131072
def JX(b:Int)(d:Int)(z:Int)(s:EP):EP:=
 if 50<d then⟨s.at_,s.total+G7 z,s.depths++ [0],s.packs++ [(s.at_:Int)],s.bases++ [-1]⟩
 else⟨s.at_,s.total+G7 z,s.depths++ [d],s.packs++ [(s.at_:Int)],s.bases++ [b]⟩
def DG(ch:List Int)(i:Nat)(z:Int)(s:EP):EP:=JX (GE ch i s.depths.length) (Mm s (GE ch i s.depths.length)) z s
def planGo(ch sizes:List Int):Nat->EP
 | 0=>⟨0,0,[],[],[]⟩
 | i+1=>DG ch i (sizes.getD i 0) (turnPk (planGo ch sizes i))
theorem JA(ch sizes:List Int)(i:Nat):planGo ch sizes (i+1)=DG ch i (sizes.getD i 0) (turnPk (planGo ch sizes i)):=rfl
theorem KO(ch:List Int)(i k:Nat): -1<=GE ch i k/\GE ch i k<k:=by
 unfold GE;split
 ·have h1:=Int.emod_nonneg (ch.getD (i%ch.length) 0) (show((k+1:Nat):Int)≠0 by omega);have h2:=Int.emod_lt_of_pos (ch.getD (i%ch.length) 0) (show(0:Int)<((k+1:Nat):Int) by omega);have h1:0<=AgO (ch.getD (i%ch.length) 0) ((k+1:Nat):Int):=h1;have h2:AgO (ch.getD (i%ch.length) 0) ((k+1:Nat):Int)<((k+1:Nat):Int):=h2;omega
 ·omega
theorem Ux(c:Int)(k:Nat):AgZ (AgZ c ((k+1:Nat):Int)+(k:Int)+1) ((k+1:Nat):Int)=AgO c ((k+1:Nat):Int):=by
 have hk:(0:Int)<((k+1:Nat):Int):=by omega
 have h0: -((k+1:Nat):Int)<AgZ c ((k+1:Nat):Int):=Int.lt_tmod_of_pos c hk;have h1:0<=AgZ c ((k+1:Nat):Int)+(k:Int)+1:=by omega
 rw[Int.tmod_eq_emod_of_nonneg h1];have e:AgZ c ((k+1:Nat):Int)+(k:Int)+1=AgZ c ((k+1:Nat):Int)+((k+1:Nat):Int):=by omega
 show AgO _ _=_;rw[e];show(AgZ c ((k+1:Nat):Int)+((k+1:Nat):Int))%((k+1:Nat):Int)=c%((k+1:Nat):Int);rw[Int.add_emod_right];rw[Int.tmod_def];rw[Int.sub_mul_emod_self_left]
theorem QL(z:Int):G7 z<=131072:=by unfold G7;omega
structure Pd (i : Nat) (s : EP) : Prop where
 lp:s.packs.length=i
 lb:s.bases.length=i
 ld:s.depths.length<=1024
 dp:∀d∈s.depths,0<=d/\d<=50
 at_:s.at_<=i
 tot:s.total<=262144
theorem M6{i:Nat}{s:EP}(h:Pd i s):Pd (i+1) { turnPk s with packs:=s.packs++ [0],bases:=s.bases++ [0] } /\ (turnPk s).depths.length<1024/\(turnPk s).total<131072/\(turnPk s).packs=s.packs/\(turnPk s).bases=s.bases:=by
 have h1:=h.lp;have h2:=h.lb;have h3:=h.ld;have h4:=h.at_;have h5:=h.tot;unfold turnPk;by_cases q:LL s=true
 ·rw[if_pos q];exact⟨⟨by simp[h1],by simp[h2],by simp,by simp,by show s.at_+1<=_;omega,by simp⟩,by simp,by simp,rfl,rfl⟩
 ·rw[if_neg q];have hq:s.depths.length<1024/\s.total<131072:=by
   unfold LL at q;simp only[Ag7,decide_eq_true_eq,not_or,Nat.not_le]at q;exact q
  exact⟨⟨by simp[h1],by simp[h2],h3,h.dp,by show s.at_<=_;omega,h5⟩,hq.1,hq.2,rfl,rfl⟩
theorem QM{l:List Int}(h:∀d∈l,0<=d/\d<=50)(i:Nat):0<=l.getD i 0/\l.getD i 0<=50:=by
 rw[Ae6];cases e:l[i]? with
 | none=>simp
 | some x=>exact h x (Agi e)
theorem Sl{ch:List Int}{i:Nat}{z b d:Int}{s:EP}(hb:GE ch i s.depths.length=b)(hd:Mm s b=d)(h:¬50<d):DG ch i z s=⟨s.at_,s.total+G7 z,s.depths++ [d],s.packs++ [(s.at_:Int)],s.bases++ [b]⟩:=by
 unfold DG JX;rw[hb,hd,if_neg h]
theorem Wr{ch:List Int}{i:Nat}{z b d:Int}{s:EP}(hb:GE ch i s.depths.length=b)(hd:Mm s b=d)(h:50<d):DG ch i z s=⟨s.at_,s.total+G7 z,s.depths++ [0],s.packs++ [(s.at_:Int)],s.bases++ [-1]⟩:=by
 unfold DG JX;rw[hb,hd,if_pos h]
theorem QN{s:EP}(h:¬1024<=s.depths.length)(h2:¬131072<=s.total):turnPk s=s:=if_neg (by unfold LL;simp;omega)
theorem Uy{ch:List Int}{i:Nat}{z:Int}{s:EP}(h:Pd i s):Pd (i+1) (DG ch i z (turnPk s)):=by
 obtain⟨h1,h2,h3,h4,h5⟩:=M6 h;have hl:=h.lp;have a:=h.lb;have ha:(turnPk s).at_<=i+1:=h1.at_;have hd:∀d∈(turnPk s).depths,0<=d/\d<=50:=h1.dp;have hc:=QL z;unfold DG JX;split
 ·refine⟨by simp[h4,hl],by simp[h5,a],by rw[Ae9];simp;omega,fun d hdm=> ?_,ha,by show(turnPk s).total+_<=_;omega⟩;rcases Afy.1 hdm with hdm | hdm
  ·exact hd d hdm
  ·rw[Afh.1 hdm];omega
 ·rename_i q
  refine⟨by simp[h4,hl],by simp[h5,a],by rw[Ae9];simp;omega,fun d hdm=> ?_,ha,by show(turnPk s).total+_<=_;omega⟩;rcases Afy.1 hdm with hdm | hdm
  ·exact hd d hdm
  ·rw[Afh.1 hdm];refine⟨?_,by omega⟩;unfold Mm;split
   ·have:=QM hd (GE ch i (turnPk s).depths.length).toNat;omega
   ·omega
theorem EN(ch sizes:List Int):∀i,Pd i (planGo ch sizes i)
 | 0=>⟨rfl,rfl,AfC _,(fun _ h=>by cases h),Ae8 _,AfC _⟩
 | i+1=>Uy (EN ch sizes i)
def Au(b:Bs):Bs:= [112,45]++hexOf (Sha.sum b)
def Du(sg s:Bs):Bool:=(AC sg s).2&&(A7 (AC sg s).1).2
def Az(D:Ad)(sg:Bs):List Bs:=(AF D).filter (Du sg)
def Gh(D:Ad)(s:Bs):Option AT:=match BJ (Ar D s).1 with
 | .ok p=>if Au (Ar D s).1=s then some p else none
 | .error _=>none
abbrev AQ:=List (Bs × AT)
def DH(D:Ad)(s:Bs):Option (Bs × AT):=(Gh D s).map fun p=>(s,p)
def openV(D:Ad):AQ:=(Az D [112,45]).filterMap (DH D)
def AA(L:AQ)(id:Bs):Option Bs:=L.findSome? fun e=>(e.2.2 id).map AfB
def getV(D:Ad)(L:AQ)(id:Bs):Bs × Nat:=match AA L id with
 | some b=>(b,0)
 | none=>getL D id
def DP(D:Ad)(L:AQ)(b:Bs):Ad × Bs × Bs × Nat:=
 if 262144<b.length then(D,Hp,[],2)
 else match AA L (Sha.sum b)with
  | some was=>if was=b then(D,Sha.sum b,[],0)else(D,Sha.sum b,was,7)
  | none=>BZ D b
def SlP(Q:Nat->Prop)(w:Ae3)(v:Ae2)(n:Nat):Prop:=n=0\/∀k,v.ownBlock=some k->k<w.heap.size/\Q k
theorem SlP.keep{Q:Nat->Prop}{w w' :Ae3}{v:Ae2}{n:Nat}(h:SlP Q w v n)(k:Ext w w'):SlP Q w' v n:=h.imp id fun q j hj=>⟨AfZ (q j hj).1 k.size,(q j hj).2⟩
theorem ZR{w:Ae3}{v:Ae2}{l:Bs}(h:RB w v l):l.length=0\/∀k,v.ownBlock=some k->k<w.heap.size:=by
 obtain⟨h1,ao,cap,rfl,h2,h3,h4,h5⟩:=h;cases l with
 | nil=>exact .inl rfl
 | cons x l=>
  refine .inr fun k hk=> ?_;cases ao with
  | none=>cases hk
  | some a=>
   have:=h5 a rfl 0 (B8 x) rfl;have:=Agn w _ this;obtain⟨a1,a2,a3⟩:=a;cases hk
   simpa [Addr.add] using this
theorem ZS{w:Ae3}{v:Ae2}{l:List Bs}(h:RG 32 Ae4 w v l):l.length=0\/∀k,v.ownBlock=some k->k<w.heap.size:=by
 obtain⟨h0,h1,ao,cap,rfl,h2,h3,h4,h5⟩:=h;cases l with
 | nil=>exact .inl rfl
 | cons x l=>
  refine .inr fun k hk=> ?_;cases ao with
  | none=>cases hk
  | some a=>
   have hx:=h0 x AfX;have hc:0<(Ae4 x).length:=by rw[hx];decide
   have:=h5 a rfl 0 ((Ae4 x)[0]) (by rw[Af3,List.getElem?_append_left hc,Afb hc]);have:=Agn w _ this;obtain⟨a1,a2,a3⟩:=a;cases hk
   simpa [Addr.add] using this
theorem RB.chgV{B:Nat->Prop}{w w' :Ae3}{v:Ae2}{l:Bs}(h:RB w v l)(hc:Chg B w w')(hB:l.length=0\/∀k,v.ownBlock=some k->¬B k):RB w' v l:=h.chg hc (hB.imp List.eq_nil_of_length_eq_zero id)
def PackP(Q:Nat->Prop)(w:Ae3)(v:Ae2)(p:AT):Prop:=∃g vi bo O,v = .pointer (some ⟨g,0,none⟩)/\p.2=(fun k=>(O k).map AfB)/\w.heap[g]? =some (.cells ([vi, .map (some bo)]).toArray 163 (0,0))/\RG 32 Ae4 w vi p.1/\MapF rk Ct (fun id:AlJ =>id.length=32) w bo O/\OOk w O/\Q g/\Q bo/\SlP Q w vi p.1.length/\∀id x,O id=some x->SlP Q w x.2 x.1.1.length
theorem PackP.at_{Q:Nat->Prop}{w:Ae3}{v:Ae2}{p:AT}(h:PackP Q w v p):PackAt w v p:=by
 obtain⟨g,vi,bo,O,h1,h2,h3,h4,h5,h6,-⟩:=h;exact⟨g,vi,bo,O,h1,h2,h3,h4,h5,h6⟩
theorem PackP.opt{Q:Nat->Prop}{w:Ae3}{v:Ae2}{p:AT}(h:PackP Q w v p):PackO w v (some p):=h.at_
theorem PackP.keep{Q:Nat->Prop}{w w' :Ae3}{v:Ae2}{p:AT}(h:PackP Q w v p)(k:Ext w w'):PackP Q w' v p:=by
 obtain⟨g,vi,bo,O,h1,h2,h3,h4,h5,h6,h7,h8,h9,h10⟩:=h;exact⟨g,vi,bo,O,h1,h2,Aer k h3,h4.keep k,h5.keep k,h6.keep k,h7,h8,h9.keep k,fun id x hx=>(h10 id x hx).keep k⟩
theorem Acg{Q:Nat->Prop}{n:Nat}{w:Ae3}{v:Ae2}{p:AT}(h:PackNew n w v p)(hQ:∀k,n<=k->k<w.heap.size->Q k):PackP Q w v p:=by
 obtain⟨g,vi,bo,O,h1,h2,h3,h4,h5,h6,h7,h8,h9,h10⟩:=h;exact⟨g,vi,bo,O,h1,h2,h3,h4,h5,h6,hQ _ h7 (Afz.1 h3).1,hQ _ h8 h5.lt,(ZS h4).imp id fun q k hk=>⟨q k hk,hQ k (h9 k hk) (q k hk)⟩,fun j x hx=>(ZR (h6 j x hx)).imp id fun q k hk=>⟨q k hk,hQ k (h10 j x hx k hk) (q k hk)⟩⟩
theorem PackP.chg{Q Q' B:Nat->Prop}{w w' :Ae3}{v:Ae2}{p:AT}(h:PackP Q w v p)(hc:Chg B w w')(hB:∀k,k<w.heap.size->Q k->¬B k/\Q' k):PackP Q' w' v p:=by
 obtain⟨g,vi,bo,O,h1,h2,h3,h4,h5,h6,h7,h8,h9,h10⟩:=h;have hg:=(Afz.1 h3).1;have sl:∀ {v:Ae2} {n:Nat},SlP Q w v n->SlP Q' w' v n:=fun q=>q.imp id fun z k hk=>⟨AfZ (z k hk).1 hc.size,(hB k (z k hk).1 (z k hk).2).2⟩;have off:∀ {v:Ae2} {n:Nat},SlP Q w v n->n=0\/∀k,v.ownBlock=some k->¬B k:=fun q=>q.imp id fun z k hk=>(hB k (z k hk).1 (z k hk).2).1;refine⟨g,vi,bo,O,h1,h2,(hc.blk g hg (hB g hg h7).1).trans h3,?_,h5.chg hc (hB bo h5.lt h8).1,fun id x hx=>(h6 id x hx).chgV hc (off (h10 id x hx)),(hB g hg h7).2,(hB bo h5.lt h8).2,sl h9,fun id x hx=>sl (h10 id x hx)⟩;obtain⟨q0,q1,ao,cap,rfl,q2,q3,q4,q5⟩:=h4;refine⟨q0,q1,ao,cap,rfl,q2,q3,q4,fun a ha j u hu=> ?_⟩;have hl:=q5 a ha j u hu;have hlt:=Agn w _ hl;have hbl:(a.add j).block=a.block:=by unfold Addr.add;split <;> rfl
 have hn:¬B (a.add j).block:=by
  rcases off h9 with z | z
  ·have h1:=(Afx.1 hu).1;rw[q1,z]at h1;omega
  ·refine z _ ?_;rw[ha,hbl];rfl
 have hb:=hc.blk _ hlt hn;unfold World.cell? at hl ⊢;rw[hb];exact hl
def pkG(L:AQ)(ptr:Bs->Nat)(s:Bs):Option Nat:=(L.lookup s).map fun _=>ptr s
def SortS(l:List Bs):Prop:=l.Pairwise fun a b=>Op.bytesLess a b=true
abbrev pN(n:Nat):Ae2:= .pointer (some ⟨n,0,none⟩)
def PksAt(Q:Nat->Prop)(w:Ae3)(L:AQ)(ptr:Bs->Nat):Prop:=∀e∈L,PackP Q w (pN (ptr e.1)) e.2
theorem PksAt.keep{Q:Nat->Prop}{w w' :Ae3}{L:AQ}{ptr:Bs->Nat}(h:PksAt Q w L ptr)(k:Ext w w'):PksAt Q w' L ptr:=fun e he=>(h e he).keep k
theorem PksAt.chg{Q Q' B:Nat->Prop}{w w' :Ae3}{L:AQ}{ptr:Bs->Nat}(h:PksAt Q w L ptr)(hc:Chg B w w')(hB:∀k,k<w.heap.size->Q k->¬B k/\Q' k):PksAt Q' w' L ptr:=fun e he=>(h e he).chg hc hB
theorem PksAt.set{Q:Nat->Prop}{w w' :Ae3}{L:AQ}{ptr:Bs->Nat}(h:PksAt Q w L ptr){b:Nat}(hg:w.grownBy w' (some b))(hne:∀k,Q k->k≠b):PksAt Q w' L ptr:=
 h.chg (B:=fun k=>k=b) (Abd hg fun i e=> .inl (AfJ e).symm) fun k _ q=>⟨hne k q,q⟩
theorem PksAt.nil(Q:Nat->Prop)(w:Ae3)(ptr:Bs->Nat):PksAt Q w [] ptr:=fun e he=>by cases he
abbrev AeY:=@PksAt.nil
def updP(ptr:Bs->Nat)(s:Bs)(g:Nat)(x:Bs):Nat:=if x=s then g else ptr x
theorem Aco{Q:Nat->Prop}{w:Ae3}{L:AQ}{ptr:Bs->Nat}(h:PksAt Q w L ptr){s:Bs}{p:AT}{g:Nat}(hs:s∉L.map AfB)(hp:PackP Q w (pN g) p):PksAt Q w (L++ [(s,p)]) (updP ptr s g):=fun e he=>by
 rcases Afy.1 he with he | he
 ·rw[show updP ptr s g e.1=ptr e.1 from if_neg (fun(q:e.1=s)=>hs (q▸Ahr he))];exact h e he
 ·rw[Afh.1 he,show updP ptr s g s=g from if_pos rfl];exact hp
theorem Pe{L:AQ}{s:Bs}(h:s∉L.map AfB):L.lookup s=none:=by
 induction L with
 | nil=>rfl
 | cons x r ih=>
  rw[AfG,AfT,not_or]at h;rw[AgH,show(s==x.1)=false by simpa using h.1];exact ih h.2
theorem KP{L:AQ}{ptr:Bs->Nat}{s:Bs}{p:AT}{g:Nat}(hs:s∉L.map AfB):updM (pkG L ptr) s (some g)=pkG (L++ [(s,p)]) (updP ptr s g):=by
 funext x
 unfold updM pkG updP;rw[List.lookup_append];by_cases e:x=s
 ·subst e;rw[if_pos rfl,Pe hs];simp
 ·rw[if_neg e,if_neg e];rw[show([(s,p)]:AQ).lookup x=none by rw[AgH,show(x==s)=false by simpa using e];rfl,Option.or_none]
structure VtAt (n : Nat) (Q : Nat -> Prop) (w : Ae3) (g gd bm : Nat) (L : AQ) (ptr : Bs -> Nat) : Prop where
 blk:w.heap[g]? =some (.cells ([PQ gd 0, .map (some bm)]).toArray 86 (0,0))
 map:MapF St pN Nm w bm (pkG L ptr)
 pk:PksAt (fun k=>Q k/\k≠g/\k≠bm) w L ptr
 sort:SortS (L.map AfB)
 g0:Q g
 b0:Q bm
 lo:n<=g
theorem VtAt.keep{n:Nat}{Q:Nat->Prop}{w w' :Ae3}{g gd bm:Nat}{L:AQ}{ptr:Bs->Nat}(h:VtAt n Q w g gd bm L ptr)(k:Ext w w'):VtAt n Q w' g gd bm L ptr:=
 ⟨Aer k h.blk,h.map.keep k,h.pk.keep k,h.sort,h.g0,h.b0,h.lo⟩
theorem VtAt.chg{n:Nat}{Q Q' B:Nat->Prop}{w w' :Ae3}{g gd bm:Nat}{L:AQ}{ptr:Bs->Nat}(h:VtAt n Q w g gd bm L ptr)(hc:Chg B w w')(hB:∀k,k<w.heap.size->Q k->¬B k/\Q' k):VtAt n Q' w' g gd bm L ptr:=by
 have hg:=(Afz.1 h.blk).1;exact⟨(hc.blk g hg (hB g hg h.g0).1).trans h.blk,h.map.chg hc (hB bm h.map.lt h.b0).1,h.pk.chg hc (fun k hk q=>⟨(hB k hk q.1).1,(hB k hk q.1).2,q.2⟩),h.sort,(hB g hg h.g0).2,(hB bm h.map.lt h.b0).2,h.lo⟩
abbrev Cl(H:Dk)(D:Ad)(k:Nat):Prop:=¬B7 H D.files.length k
theorem VtAt.step{n:Nat}{wb w w' :Ae3}{g gd bm:Nat}{H H' :Dk}{D D' :Ad}{L:AQ}{ptr:Bs->Nat}(h:VtAt n (Cl H D) w g gd bm L ptr)(hW:DkW wb w gd H D w' H' D'):VtAt n (Cl H' D') w' g gd bm L ptr:=
 h.chg hW.chg fun k hk q=>⟨q,fun z=>(hW.foot k z).elim q fun z=>by omega⟩
theorem LM{α β:Type}[BEq α][LawfulBEq α]{l:List (α × β)}{s:α}{p:β}(h:l.lookup s=some p):(s,p)∈l:=by
 induction l with
 | nil=>cases h
 | cons e r ih=>
  rw[AgH]at h;split at h
  ·rename_i q
   cases h;rw[beq_iff_eq]at q;rw[q];exact AfX
  ·exact AfY _ (ih h)
theorem Hq{L:AQ}(hs:SortS (L.map AfB)){e:Bs × AT}(h:e∈L):L.lookup e.1=some e.2:=by
 induction L with
 | nil=>cases h
 | cons x r ih=>
  rw[AfG]at hs;obtain⟨h1,h2⟩:=List.pairwise_cons.1 hs;rw[AgH];rcases AfT.1 h with rfl | h
  ·simp
  ·have:=h1 e.1 (Ahr h);have hne:¬e.1=x.1:=fun q=>by rw[q,Fj]at this;cases this
   rw[show(e.1==x.1)=false by simpa using hne];exact ih h2 h
theorem SortS.nodup{l:List Bs}(h:SortS l):l.Nodup:=h.imp fun hab e=>by rw[e,Fj]at hab;cases hab
theorem ZT{L:AQ}{ptr:Bs->Nat}(hs:SortS (L.map AfB)){i:Nat}(hi:i<L.length){d:Bs × AT}:pkG L ptr (L.getD i d).1=some (ptr (L.getD i d).1):=by
 unfold pkG;rw[Hq hs (getD_mem d hi)];rfl
theorem Qa{L:AQ}{x:Bs × AT}(hx:x∈L):L.lookup x.1≠none:=by
 induction L with
 | nil=>cases hx
 | cons y r ih=>
  intro e;rw[AgH]at e;split at e
  ·cases e
  ·rename_i q
   rcases AfT.1 hx with rfl | hx
   ·simp at q
   ·exact ih hx e
theorem pkG_iff{L:AQ}{ptr:Bs->Nat}(s:Bs):(pkG L ptr s).isSome=true↔s∈L.map AfB:=by
 unfold pkG;rw[Option.isSome_map];constructor
 ·intro h;obtain⟨p,hp⟩:=Option.isSome_iff_exists.1 h;exact AfO.2 ⟨(s,p),LM hp,rfl⟩
 ·intro h;obtain⟨x,hx,rfl⟩:=AfO.1 h;cases e:L.lookup x.1 with
  | some p=>rfl
  | none=>exact absurd e (Qa hx)
section
variable {P : AfD} {l : List Oper} {kill : Nat -> List Nat} {C : Nat -> Ae3 -> Prop} {R : Nat -> Ae3 -> Ae3 -> Prop} {Φ : Nat -> Bm} {a0 : Act}
theorem Uz{z:Nat}(g:Hw l z){k:Nat}(ht:∀i,k<=i->i<l.length->∀m,k<=m->m<i->((AN l []).getD i 0).testBit m=true){Q:Exit->Act->Ae3->Prop}:
  ∀(fuel m:Nat) (listed:Array Bool) (a:Act) (w:Ae3),listed.size=l.length->(∀i,On listed i↔i<m)->k<=m->m<=l.length->l.length<=m+fuel->wpList P l.toArray Q (l.drop m) a w->wpAny P .any l.toArray Q fuel listed a w:=by
 have noReady:∀(m:Nat) (listed:Array Bool),listed.size=l.length->(∀i,On listed i↔i<m)->l.length<=m->Agg .any l.toArray listed= []:=by
  intro m listed hsz hon hm;cases hr:Agg .any l.toArray listed with
  | nil=>rfl
  | cons x xs=>
   exfalso;have hmem:x∈Agg .any l.toArray listed:=by rw[hr];simp
   obtain⟨h1,o,ho,_⟩:=mem_ready.1 hmem;have hx:x<l.length:=by simpa using (Afz.1 ho).1
   have h2:=(hon x).2 (by omega);have hx' :x<listed.size:=h2.lt;unfold On at h2;simp[hx']at h1 h2;rw[h1]at h2;cases h2
 intro fuel
 induction fuel with
 | zero=>
  intro m listed a w hsz hon hk hm hf hw;rw[Agb (by omega)]at hw;exact⟨noReady m listed hsz hon (by omega),hw⟩
 | succ fuel ih=>
  intro m listed a w hsz hon hk hm hf hw;by_cases hml:m=l.length
  ·have hr:=noReady m listed hsz hon (by omega);rw[Agb (by omega)]at hw;exact⟨fun _=>hw,fun i hi=>by rw[hr]at hi;cases hi⟩
  ·have hlt:m<l.length:=by omega
   have hoff:¬On listed m:=fun x=>by have:=(hon m).1 x;omega
   have hI:Inv l (fun _=> []) (fun _ _=>True) (fun _ _=>True) (fun _ _ _=>True) a listed a w:=
    ⟨hsz,fun i o ho hi e he hb=>(hon _).2 (by have:=g.back i o ho e he hb;have:=(hon i).1 hi;omega),rfl,rfl,fun _ _ _=>trivial,trivial,fun _ _=>rfl,fun _ _ _ _ _ _ _ _=>trivial⟩
   refine⟨fun hr=> ?_,fun i hi=> ?_⟩
   ·exfalso;have ho:l[m]? =some l[m]:=Afb hlt;have:m∈Agg .any l.toArray listed:=by
     refine mem_ready.2 ⟨?_,l[m],by rw[Af0];exact ho,fun e he hb=>(hon _).2 (g.back m _ ho e he hb)⟩;have hm' :m<listed.size:=by omega
     unfold On at hoff;simp[hm']at hoff ⊢;exact hoff
    rw[hr]at this;cases this
   ·obtain⟨h1,o,ho,hall⟩:=mem_ready.1 hi;have ho' :l[i]? =some o:=by simpa using ho
    have hil:i<l.length:=(Afx.1 ho').1;have hno:¬On listed i:=fun x=>by
     have hx:i<listed.size:=by omega
     unfold On at x;simp[hx]at h1 x;rw[h1]at x;cases x
    have him:i=m:=by
     by_cases h2:i<m
     ·exact absurd ((hon i).2 h2) hno
     ·by_cases h3:i=m
      ·exact h3
      ·exact absurd (hI.maskReady ho' (fun e he hb=>hall e he hb) (ht i (by omega) hil m hk (by omega))) hoff
    subst him;rw[Agq hlt]at hw;obtain rfl:l[i]=o:=by rw[Afb hlt]at ho';exact AfJ ho'
    have nxt:∀a' w',wpList P l.toArray Q (l.drop (i+1)) a' w' ->wpAny P .any l.toArray Q fuel (listed.setIfInBounds i true) a' w' :=fun a' w' hw' =>
     ih (i+1) _ a' w' (by simpa using hsz) (fun j=>by rw[on_set (by omega),hon j];omega) (by omega) (by omega) (by omega) hw'
    unfold wpOp;simp only[Af0,ho'];unfold wpList at hw;split at hw
    ·rename_i hwt
     rw[if_pos hwt];exact hw.imp (fun h=>Oper.wp_mono nxt h) (fun h=>h)
    ·rename_i hwt
     rw[if_neg hwt];exact nxt _ _ hw
end
def Sm(l:List Oper)(oe:Oper)(e:Nat):Bool:=
 (Af9 l.length).all fun j=>match l[j]? with
  | some o=>Nat.beq j e||(o.after.any (fun x=>Ago .any x&&x.on==e)||(oe.apart l.toArray o||((AN l []).getD e 0).testBit j))
  | none=>true
def LN(l:List Oper)(k e:Nat):Bool:=Ag5 e k&&(Af9 l.length).all fun i=>Ag5 i k||(Af9 i).all fun m=>Nat.beq m e||((AN l []).getD i 0).testBit m
theorem UA{l:List Oper}{k e:Nat}(h:LN l k e=true):e<k/\∀i,k<=i->i<l.length->∀m,m<i->m≠e->((AN l []).getD i 0).testBit m=true:=by
 unfold LN at h;rw[Agd]at h;refine⟨Afj h.1,fun i hi hl m hm hne=> ?_⟩;have h1:=AfP.1 h.2 i (by simpa using hl);rcases Ag7 _ _▸h1 with h2 | h2
 ·have:=Afj h2;omega
 ·have h3:=AfP.1 h2 m (by simpa using hm);rcases Ag7 _ _▸h3 with h4 | h4
  ·exact absurd (AhQ h4) hne
  ·exact h4
section
variable {P : AfD} {l : List Oper} {Φ : Nat -> Bm} {a0 : Act} {w0 : Ae3} {Q : Exit -> Act -> Ae3 -> Prop} {e k : Nat} {oe : Oper}
def JY(P:AfD)(op:Op):Prop:=∀(ev:Aff->Ae2) dst ty pos af,(∃x,∀w:Ae3,(execOp ev ⟨dst,op,ty,pos,af,none⟩).run P w = .ok (.value x) w)\/∀w:Ae3,∃s,(execOp ev ⟨dst,op,ty,pos,af,none⟩).run P w = .halt (.stuck s) w
theorem Sn(c a b:Aff):JY P (.pick c a b):=by
 intro ev dst ty pos af;cases hc:ev c with
 | bool x=>exact .inl ⟨if x then ev a else ev b,fun w=>by
  unfold execOp;simp only[hc,asBool];rfl⟩
 | _=>exact .inr fun w=>⟨_,by
  unfold execOp;simp only[hc,asBool];rfl⟩
theorem Pf{dst:Option Tmp}{op:Op}(hst:JY P op){ty:Afa}{pos:String}{af:Array Edge}(he:l[e]? =some ⟨dst,op,ty,pos,af,none⟩){K:Act->Ae3->Prop}{a:Act}{w:Ae3} 
  (h:wpOp P l.toArray (fun _ _ _=>False) e K a w):∃x,Yields P l.toArray ⟨dst,op,ty,pos,af,none⟩ x a/\K (a.put dst x) w:=by
 unfold wpOp at h;simp only[Af0,he,Region.wanted,if_true]at h;rcases h with h | ⟨-,-,-,h⟩
 ·unfold Oper.wp at h;rcases hst a.eval dst ty pos af with ⟨x,hx⟩ | hx
  ·rw[hx]at h;exact⟨x, .inl ⟨rfl,hx⟩,h⟩
  ·obtain⟨s,hs⟩:=hx w;rw[hs]at h;exact h.elim
 ·exact h.elim
theorem YS(g:Hw l a0.tmps.size)(hsel:AkG l.toArray=true){d:Tmp}{op:Op}(hso:JY P op){ty:Afa}{pos:String}{af:Array Edge}(he:l[e]? =some ⟨some d,op,ty,pos,af,none⟩) 
  (hte:LN l k e=true) (hfr:Sm l ⟨some d,op,ty,pos,af,none⟩ e=true) (hk:k<=l.length) (hst:∀i,Stab Ext (Φ i))
  (hs:∀i o,l[i]? =some o->i<k->GN P l (fun _=>Ext w0) (fun _=>Ext) Φ a0.tmps i o) (hQp:∀v c a w,Q (.panic c) (a.put (some d) v) w->Q (.panic c) a w)
  (hQ:∀listed a' w',(∀i,On listed i↔i<k)->Inv l (fun _=> []) (fun _=>Ext w0) (fun _ _=>True) Φ a0 listed a' w' ->wpList P l.toArray Q (l.drop k) a' w'):
  ∀(fuel:Nat) (listed:Array Bool) (a:Act) (w:Ae3),(listed.toList.filter (!·)).length=fuel->(∀i,On listed i->i<k)->e∉Agg .any l.toArray listed->Inv l (fun _=> []) (fun _=>Ext w0) (fun _ _=>True) Φ a0 listed a w->wpAny P .any l.toArray Q fuel listed a w:=by
 obtain⟨hek,hte⟩:=UA hte;have ht:∀i,k<=i->i<l.length->∀m,k<=m->m<i->((AN l []).getD i 0).testBit m=true:=fun i hi hl m hkm hm=>hte i hi hl m hm (by omega);have hkl:CT l (fun _=> [])=true:=by unfold CT;simp
 have hC:∀n m,n<l.length->m<l.length->n≠m->((AN l []).getD n 0).testBit m=false->∀w w',Ext w0 w->Ext w w' ->Ext w0 w' :=fun _ _ _ _ _ _ _ _ hc hr=>hc.trans hr;have hE:∀n listed (w w' :Ae3),n<l.length->listed.size=l.length->¬On listed n->(∀i k,On listed i\/i=n->((AN l []).getD i 0).testBit k=true->On listed k)->True->Ext w w' ->True:=fun _ _ _ _ _ _ _ _ _ _=>trivial;have hΦ:∀n i,n<l.length->i<l.length->i∉([]:List Nat)->i≠n->((AN l []).getD i 0).testBit n=false->∀v w w',Φ i v w->Ext w w' ->Φ i v w' :=fun _ i _ _ _ _ _ v w w' =>hst i v w w';have hRr:∀(n:Nat) o (w:Ae3),l[n]? =some o->o.guard.isSome=true->Ext w w:=fun _ _ w _ _=>Ad4 w;intro fuel
 induction fuel using Ahq with
 | _ fuel ih=>
 intro listed a w hf hoff hre h;by_cases hfull:∀i,i<k->On listed i
 ·have hon:∀i,On listed i↔i<k:=fun i=>⟨hoff i,hfull i⟩;refine Uz g ht fuel k listed a w h.size hon (Ae8 _) hk ?_ (hQ listed a w hon h);have f:=List.take_append_drop k listed.toList;rw[<-f,AhM,Ae9]at hf;have p:(listed.toList.drop k).filter (!·)=listed.toList.drop k:=List.filter_eq_self.2 fun b hb=>by
   obtain⟨j,hj,rfl⟩:=Agz hb;rw[List.getElem_drop];have hno:¬On listed (k+j):=fun x=>by have:=hoff _ x;omega
   rw[Afn]at hj;have hlt:k+j<listed.size:=by rw[<-Ag0];omega
   unfold On at hno;simp[hlt]at hno;simp[hno]
  rw[p,Afn]at hf;have hz:listed.toList.length=l.length:=by rw[Ag0];exact h.size
  omega
 ·have hunl:∀i,i<l.length->¬On listed i->listed.getD i true=false:=fun i hi hno=>by
   have hi' :i<listed.size:=by rw[h.size];exact hi
   unfold On at hno;simp[hi']at hno ⊢;exact hno
  have hlow:∃j,j<k/\j≠e/\¬On listed j:=by
   refine Agh fun hn=>hfull fun i hi=>Agh fun hx=> ?_;have hall:∀j,j<k->j≠e->On listed j:=fun j hj hje=>Agh fun hx=>hn ⟨j,hj,hje,hx⟩;have hie:i=e:=Agh fun hne=>hx (hall i hi hne);subst hie;refine hre (mem_ready.2 ⟨hunl i (by omega) hx,_,by rw[Af0];exact he,fun x hxm hb=> ?_⟩);have:=g.back i _ he x hxm hb;exact hall x.on (by omega) (by omega)
  obtain⟨j0,hj0,hj0e,hoff0⟩:=hlow;have hpos:∀(L:Array Bool) i,L.size=l.length->i<l.length->L.getD i true=false->∃m,(L.toList.filter (!·)).length=m+1/\((L.setIfInBounds i true).toList.filter (!·)).length=m:=fun L i hL hi hx=>by
   have hi' :i<L.size:=by omega
   have:=Ff L.toList i (by simp[hi']at hx;simp[hi',hx]);exact⟨_,this.symm,by rw[Array.toList_setIfInBounds]⟩
  obtain⟨f0,hf0,-⟩:=hpos listed j0 h.size (by omega) (hunl j0 (by omega) hoff0);obtain rfl:fuel=f0+1:=by omega
  refine⟨fun hr=> ?_,fun i hi=> ?_⟩
  ·exfalso;have full:∀i,i<l.length->On listed i:=by
    intro i
    induction i using Ahq with
    | _ i ih2=>
     intro hi;refine Agh fun hno=> ?_;have ho:l[i]? =some l[i]:=Afb hi;have:i∈Agg .any l.toArray listed:=mem_ready.2 ⟨hunl i hi hno,l[i],by rw[Af0];exact ho,fun x hx hb=>by
      have hlt:=g.back i _ ho x hx hb;exact ih2 x.on hlt (by omega)⟩
     rw[hr]at this;cases this
   exact hoff0 (full j0 (by omega))
  ·have hie:i≠e:=fun x=>hre (x▸hi);obtain⟨h1,o,ho,hall0⟩:=mem_ready.1 hi;have ho' :l[i]? =some o:=by simpa using ho
   have hilt:i<l.length:=(Afx.1 ho').1;have hil:i<listed.size:=by rw[h.size];exact hilt
   have hno:¬On listed i:=by
    unfold On;simp[hil]at h1 ⊢;exact h1
   have hall:∀x∈o.after,Ago .any x=true->On listed x.on:=fun x hx hb=>hall0 x hx hb;have hik:i<k:=by
    by_cases h2:i<k
    ·exact h2
    ·exact absurd (h.maskReady ho' hall (hte i (by omega) hilt j0 (by omega) hj0e)) hoff0
   obtain⟨f1,hf1,hcnt⟩:=hpos listed i h.size hilt h1;obtain rfl:f1=f0:=by omega
   refine h.step g hkl hC hE hΦ hRr ho' hno hall (hs i o ho' hik) fun a' w' h' => ?_;have hoff' :∀j,On (listed.setIfInBounds i true) j->j<k:=fun j hx=>by
    rcases(on_set hil).1 hx with rfl | h3
    ·exact hik
    ·exact hoff j h3
   by_cases hre' :e∈Agg .any l.toArray (listed.setIfInBounds i true)
   ·obtain⟨q1,oe',hoe,hq⟩:=mem_ready.1 hre';have hoe' :l[e]? =some oe' :=by simpa using hoe
    obtain rfl:=AfJ (he.symm.trans hoe');have helt:e<l.length:=by omega
    have hel:e<(listed.setIfInBounds i true).size:=by rw[h'.size];exact helt
    have hnoe:¬On (listed.setIfInBounds i true) e:=by
     unfold On;rw[AfS]at q1 ⊢;rw[AhY hel]at q1 ⊢;simp only[Af2]at q1 ⊢;rw[q1];decide
    have hw:=h'.step g hkl hC hE hΦ hRr he hnoe (fun x hx hb=>hq x hx hb) (hs e _ he hek) (K:=fun a2 w2=>Inv l (fun _=> []) (fun _=>Ext w0) (fun _ _=>True) Φ a0 ((listed.setIfInBounds i true).setIfInBounds e true) a2 w2) (Q:=fun _ _ _=>False) (fun _ _ hx=>hx);obtain⟨x,hy,hK⟩:=Pf hso he hw;obtain⟨f2,hf2,hcnt2⟩:=hpos _ e h'.size helt q1;obtain rfl:f1=f2+1:=by omega
    refine wpAny_first hoe (Region.noSelect_spec hsel) (hQp x) f2 _ a' w' (fun j oj hoj hje hjun hjno=> ?_) hre' hy (ih f2 (by omega) _ _ _ hcnt2 (fun j hx=> ?_) (fun hx=> ?_) hK)
    ·have hoj' :l[j]? =some oj:=by simpa using hoj
     have hjl:j<l.length:=(Afx.1 hoj').1;have hfj:=AfP.1 hfr j (by simpa using hjl);rw[hoj']at hfj;simp only[Ag7]at hfj;rcases hfj with h3 | h3 | h3 | h3
     ·exact absurd (AhQ h3) hje
     ·obtain⟨y,hy1,hy2⟩:=Array.any_eq_true'.1 h3;simp only[Agd,beq_iff_eq]at hy2;exact absurd hy2.2 (hjno y hy1 hy2.1)
     ·exact h3
     ·have hon:=h'.maskReady he (fun x hx hb=>hq x hx hb) h3;have hjl' :=hon.lt;unfold On at hon;rw[AfS,AhY hjl']at hon hjun;simp only[Af2]at hon hjun;rw[hon]at hjun;cases hjun
    ·rcases(on_set hel).1 hx with rfl | h3
     ·exact hek
     ·exact hoff' j h3
    ·have:=(mem_ready.1 hx).1;simp[hel]at this
   ·exact ih f1 (by omega) _ _ _ hcnt hoff' hre' h'
end
section
variable {P : AfD} {n : Nat} {ρ : Ae} {w : Ae3} {Q : BN}
theorem Mn{l r:List Oper}(e k0:Nat)(Φs:List Bm){id:Nat}(hm:P.follows .mixedOrders=true)(ds:List Tmp)(hg:CE l n=true){d:Tmp}{op:Op}(hso:JY P op){ty:Afa}{pos:String}{af:Array Edge}(he:l[e]? =some ⟨some d,op,ty,pos,af,none⟩)(hsel:AkG l.toArray=true) 
  (hn:LN l k0 e=true) (hfr:Sm l ⟨some d,op,ty,pos,af,none⟩ e=true) (haf:af.any (fun x=>Ago .any x)=true) (f:Nat.ble Φs.length k0=true) (hds:slotsW l=ds) (hr:(l.drop k0)=r) (hlt:Ag5 k0 l.length=true) (hst:AllStab Ext Φs)
  (hQp:∀c ρ ρ' w,Q (.panic c) ρ w->Q (.panic c) ρ' w)
  (hs:StepsFC P l k0 (fun _=>Ext w) (fun _=>Ext) (AU Φs) ρ 0 l)
  (hQ:∀(ρ' :Ae) w1,Ext w w1->EndF ds ρ ρ' ->Be l (fun _=> []) (AU Φs) ρ' w1 ds->Cn P l.toArray n Q r ρ' w1):B9 P n (.region id l.toArray true) Q ρ w:=by
 intro a ha;obtain⟨T,df⟩:=a;have hz:T.size=n:=ha.size;subst hz;have b:k0<l.length:=Afj hlt;have g:=GI hg;have hno0:∀i,¬On (Array.replicate l.toArray.size false) i:=fun i h=>by
  unfold On at h;rw[AfS,Array.getElem?_replicate]at h;split at h <;> simp at h
 refine wp_region_any hm (YS (a0:= { tmps:=T,defers:=df }) (w0:=w) (Φ:=AU Φs) g hsel hso he hn hfr (Nat.le_of_lt b) (fun i=>hst.get Φs i) (fun i o ho hi=> ?_) (fun v c a' w' hx=> ?_) (fun listed a' w' hon h=> ?_) _ _ _ _ (by simp) (fun i h=>absurd h (hno0 i)) ?_ ?_)
 ·have hst:=Ae0 l 0 hs i o ho (by omega);rw[Nat.zero_add]at hst;have h2:=Aez (P:=P) (l:=l) (C:=fun _=>Ext w) (R:=fun _=>Ext) (Φ:=AU Φs) (T:=T) ha.get [o] i ⟨hst,trivial⟩;exact h2.1
 ·obtain⟨ρ',hf,hq⟩:=hx;exact⟨fun t=>a'.tmps.getD t undef,⟨by have:=hf.size;simpa [Act.put] using this,by have:=hf.defers;simpa [Act.put] using this,fun _=>rfl⟩,hQp _ _ _ _ hq⟩
 ·have hw:∀d k,Dm l d l.length=some k->(Af9 l.length).all (fun n=> !([]:List Nat).contains k)=true->AU Φs k (a'.tmps.getD d undef) w' :=fun d k hk hall=>by
   obtain⟨h1,⟨o,ho,hd'⟩,h3⟩:=Eh _ hk;by_cases hkL:k0<=k
   ·have e:AU Φs k=fun _ _=>True:=by
     have:=Afj f;unfold AU;rw[Ae6,Agj (by omega)];rfl
    rw[e];trivial
   exact h.new d k o ho hd' ((hon k).2 (by omega)) (fun k' o' hkk ho' hd'' _=>h3 k' o' hkk (Afx.1 ho').1 ho' hd'') (fun n hn=>by simp)
  have hget:∀t,a'.tmps.getD t undef=if t∈ds then a'.tmps.getD t undef else ρ t:=fun t=>by
   by_cases hn:t∈ds
   ·rw[if_pos hn]
   ·rw[if_neg hn,<-ha.get];exact h.old t fun k o ho hd _=>hn (by
     rw[<-hds];unfold slotsW;rw[List.mem_eraseDups,List.mem_filterMap];exact⟨o,Agi ho,hd⟩)
  have hcl:=h.cls k0 b (fun x=>by have:=(hon k0).1 x;omega);have hend:EndF ds ρ (fun t=>a'.tmps.getD t undef):=⟨fun t ht=>by rw[hget t,if_neg (by simpa using ht)]⟩;have:=hQ (fun t=>a'.tmps.getD t undef) w' hcl hend (ES hw ds);rw[hr];exact this a' ⟨h.tmps,h.defers.trans ha.defers,fun t=>rfl⟩
 ·intro hx;obtain⟨-,o,ho,hall⟩:=mem_ready.1 hx;obtain rfl:=AfJ (he.symm.trans (by simpa using ho));obtain⟨x,j,m⟩:=Array.any_eq_true'.1 haf;exact hno0 _ (hall x j m)
 ·exact⟨Array.size_replicate,fun i o _ h=>absurd h (hno0 i),rfl,rfl,fun n hn _=>(Below.refl _ _).drew,trivial,fun t _=>rfl,fun t k o _ _ h=>absurd h (hno0 k)⟩
theorem FW{l r:List Oper}(e k0:Nat)(Φs:List Bm){id:Nat}(hm:P.follows .mixedOrders=true)(ds:List Tmp)(hg:CE l n=true){d:Tmp}{o1 o2 o3:Aff}{ty:Afa}{pos:String}{af:Array Edge}(he:l[e]? =some ⟨some d, .pick o1 o2 o3,ty,pos,af,none⟩)(hsel:AkG l.toArray=true) 
  (hn:LN l k0 e=true) (hfr:Sm l ⟨some d, .pick o1 o2 o3,ty,pos,af,none⟩ e=true) (haf:af.any (fun x=>Ago .any x)=true) (a:Nat.ble Φs.length k0=true) (hds:slotsW l=ds) (hr:(l.drop k0)=r) (hlt:Ag5 k0 l.length=true) (hst:AllStab Ext Φs)
  (hQp:∀c ρ ρ' w,Q (.panic c) ρ w->Q (.panic c) ρ' w)
  (hs:StepsFC P l k0 (fun _=>Ext w) (fun _=>Ext) (AU Φs) ρ 0 l)
  (hQ:∀(ρ' :Ae) w1,Ext w w1->EndF ds ρ ρ' ->Be l (fun _=> []) (AU Φs) ρ' w1 ds->Cn P l.toArray n Q r ρ' w1):B9 P n (.region id l.toArray true) Q ρ w:=
 Mn e k0 Φs hm ds hg (Sn _ _ _) he hsel hn hfr haf a hds hr hlt hst hQp hs hQ
end
def UB:Go.Shelf.Ren:=⟨fun | 137=>126 | 217=>170 | 266=>209 | n=>n,fun | 9=>9 | 5=>5 | 3=>3 | n=>n,fun | n=>n⟩
theorem Aas:Go.Proofs.Lays.n137 Ae5 UB:= {
  mixed:=by kernel_rfl
  f137:=Tryz.func126.trans (congrArg some (by kernel_rfl))
  f217:=Tryz.func170.trans (congrArg some (by kernel_rfl))
  f266:=Tryz.func209.trans (congrArg some (by kernel_rfl))
  t3:=Akv
  a3:=AlH
  z3:=Alz
  v3:=AkE
  t5:=AiI
  a5:=AlI
  z5:=AlA
  v5:=AkF
  t9:=AhH
  a9:=AiO
  z9:=Aiy
  v9:=AhR }
theorem LO(s:ByteArray)(c:Int)(w:Ae3):
 Calls Ae5 126 #[.string s, .int .u8 c] w fun e w' =>e = .returned (.int .i64 (Aj0 s.data.toList c.toNat.toUInt8))/\w' =w:=Any.strings_IndexByte Aas s c w
theorem So(w:Ae3)(c:UInt8):Calls Ae5 126 #[St ([48,49,50,51,52,53,54,55,56,57,97,98,99,100,101,102]:AlJ),B8 c] w fun e w' =>e = .returned (.int .i64 (FP c))/\w' =w:=by
 have h:=LO (⟨([48,49,50,51,52,53,54,55,56,57,97,98,99,100,101,102]:AlJ).toArray⟩:ByteArray) (c.toNat:Int) w;have e:Aj0 (⟨([48,49,50,51,52,53,54,55,56,57,97,98,99,100,101,102]:AlJ).toArray⟩:ByteArray).data.toList ((c.toNat:Int).toNat.toUInt8)=FP c:=by
  rw[<-Wh c];simp[digs]
 rw[e]at h;exact h
theorem UC{s:AlJ}{i k1 k2:Nat}(h1:dg (s.getD (2*i) 0)=some k1)(h2:dg (s.getD (2*i+1) 0)=some k2)(_:k2<16):FE s i=Aga (16*k1+k2):=by
 unfold FE;rw[h1,h2];rfl
theorem UD{s:AlJ}{i k1 k2:Nat}(h1:dg (s.getD (2*i) 0)=some k1)(h2:dg (s.getD (2*i+1) 0)=some k2)(hn:k2<16):FE s i=Aga (k1*2^4|||k2):=by
 rw[UC h1 h2 hn,K9 _ _ _ hn,Nat.mul_comm]
theorem YT{s:AlJ}{i k1 k2:Nat}(h:∀j,j<i->Gn s j=true)(h1:dg (s.getD (2*i) 0)=some k1)(h2:dg (s.getD (2*i+1) 0)=some k2):∀j,j<i+1->Gn s j=true:=fun j hj=>by
 by_cases he:j=i
 ·subst he;unfold Gn;rw[h1,h2];rfl
 ·exact h j (by omega)
theorem Sp:Plain Ae5 126:=fun _ _=>by kernel_rfl
theorem LP:Plain Ae5 125:=fun _ _=>by kernel_rfl
theorem M7(w:Ae3)(b:Nat)(s:AlJ)(hb:w.heap[b]? =some (.cells ([St s]:List Ae2).toArray 9 (0,0)))(i:Nat)(hi:i<s.length):
  Calls Ae5 125 #[NI i,PQ b 0] w fun e w' =>e = .returned (.int .i64 (FP (s.getD i 0)))/\Ext w w' :=by
 refine gG (args:= [NI i,PQ b 0]) Tryz.func125 rfl 8 rfl rfl ?_;have hE:=Ad4 w;refine gS (Aax QD rfl rfl (cellAt hb rfl) (gS (Aci (l:=s) (i:=i) QD rfl rfl (hi) (gS (AaA Sp rfl rfl ((So _ (s.getD (i) 0)).mono ?_))))));rintro e a ⟨rfl,hq⟩;refine⟨_,rfl,?_⟩;refine A8 rfl (vr (.int .i64 (FP (s.getD (i) 0):Int)) rfl) ?_;have hE:=hE.trans (show Ext w a from by rw[hq];exact Ad4 _);exact⟨rfl,hE⟩
theorem M8(w:Ae3)(s:AlJ)(hs:s.length<=9223372036854775807):
  Calls Ae5 76 #[St s] w fun e w' =>e = .returned (.tuple #[AB ((A7 s).1), .bool (A7 s).2])/\Ext w w' :=by
 refine gG (args:= [St (s)]) Tryz.func76 rfl 42 rfl rfl ?_;have hE:=Ad4 w;refine gS (Abx (vr (St (s)) rfl) rfl fun g w3 bb ak av bc=> ?_);have f:=ak;clear ak;have bd:g<w3.heap.size:=by omega
 refine gS (Ad9 VA fun t ae aw al af be=> ?_);have k:=Ad4 w3;have hE:=hE.trans av;have u:=hE.size;have c:=al;clear al;have bf:t<ae.heap.size:=by omega
 refine gS (Ad9 VA fun ag ax ah am n bg=> ?_);have m:=Ad4 ae;have hE:=hE.trans af;have k:=k.trans af;have ay:=hE.size;have az:=k.size;have an:=am;clear am;have bh:ag<ax.heap.size:=by omega
 have bi:=Av (bl f) aw;have f:=eb af f;have bj:=Av (bl f) ah;have f:=eb n f;refine gS (Aax QD rfl rfl (cellAt f rfl) (gS (AbF (l:=s) QD rfl (gS (Aay (a:=(s.length:Nat)) (b:=(64:Nat)) rfl rfl (AV _ _ _ _) ?_)))));refine cD rfl (fun h64=> ?_) fun h64=> ?_
 ·have hun:=KK (s:=s) (fun h=>h64 h.1);have a0:=Av (bl c) ah;have c:=eb n c;refine gS (AeB (v:=AB (Afk 32 0)) (by kernel_rfl) (gS (AaB (vr (PQ t 0) rfl) (vr (AB (Afk 32 0)) rfl) c (by first | rfl | (rw[Afr,Afl,Afp];rfl)) (by rw[Afr,Afl,Afp];exact SY) (Ag _) fun bk ao a1 bm=> ?_)));clear c;have c:=ao;clear ao;have bn:=bl c;have hE:=hE.trans n;have hE:=Ab hE a1 (Ae7 u (by omega));refine J8 rfl (Aee rfl c XM rfl (by rw[Afr,Afl];first | (rw[Afp];exact SY) | (rw[DF _ _ (by omega)];exact SY))) (vr (.bool (false)) rfl) ?_;refine⟨?_,hE⟩;rw[hun]
 have a2:s.length=64:=by omega
 have a0:=Av (bl c) ah;have c:=eb n c;have hE:=hE.trans n;have k:=k.trans n;have m:=m.trans n;refine gS (Abk (vs:= #[PQ g 0]) (by simp only[AfI,AfG,AfQ];exact congrArg Agp (K7 (vr (PQ g 0) rfl))) (gL (fun(ρ:Ae) (wz:Ae3)=>∃i:Nat,ρ 0=(St (s):Ae2)/\ρ 1=(PQ g 0:Ae2)/\ρ 2=(PQ t 0:Ae2)/\ρ 4=(PQ ag 0:Ae2)/\ρ 5=(.func (.func 125) #[] #[PQ g 0]:Ae2)/\ρ 14=(NI i:Ae2)/\Ext w wz/\wz.heap[g]? =some (.cells (([St (s)]:List Ae2)).toArray 9 (0,0))/\Ext w3 wz/\wz.heap[t]? =some (.cells (Ae4 (Afk 32 0)).toArray 33 (0,0))/\Ext ae wz/\wz.heap[ag]? =some (.cells (Ae4 (pre s i)).toArray 33 (0,0))/\(i<=32)/\(∀j,j<i->Gn s j=true)/\True) (fun ρ _=>32-(intOf (ρ 14)).toNat) ⟨0,rfl,rfl,rfl,rfl,rfl,rfl,hE,f,k,c,m,A5 an (rfl),AfC _,fun j hj=>by omega,trivial⟩ ?_));clear an;clear hE f c;rintro a3 bo ⟨i,T0,T1,o,T4,T5,p,hE,f,k,c,m,hb36l,hi,hall,-⟩;have q14:=p;have hpl:=DF s i hi;refine gS (Aay (a:=(i:Nat)) (b:=(32:Nat)) p rfl (AE _ _ _ _) ?_);refine cD rfl (fun a6=> ?_) fun a6=> ?_
 ·refine gS (Aaz (xv:=NI 2) (yv:=NI i) rfl p rfl (Cy _ _ _ (by omega)) (gS (AbG LP (caps:= #[PQ g 0]) T5 #[NI ((2)*(i)),PQ g 0] (by simp only[AfI,AfG,AfQ,Ag1,Af4,Af6];exact congrArg Agp (E2 rfl rfl)) ((M7 _ g s f ((2)*(i)) (by omega)).mono ?_))));rintro e bp ⟨rfl,y⟩;refine⟨_,rfl,?_⟩;have f:=eb y f;refine gS (Aaz (xv:=NI 2) (yv:=NI i) rfl p rfl (Cy _ _ _ (by omega)) (gS (Aaz (xv:=NI ((2)*(i))) (yv:=NI 1) rfl rfl rfl (Ah _ _ _ (by omega)) (gS (AbG LP (caps:= #[PQ g 0]) T5 #[NI (((2)*(i))+(1)),PQ g 0] (by simp only[AfI,AfG,AfQ,Ag1,Af4,Af6];exact congrArg Agp (E2 rfl rfl)) ((M7 _ g s f (((2)*(i))+(1)) (by omega)).mono ?_))))));rintro e bq ⟨rfl,z⟩;refine⟨_,rfl,?_⟩;obtain⟨x1,aa⟩:∃x,x=dg (s.getD (2*i) 0):=⟨_,rfl⟩;obtain⟨x2,ab⟩:∃x,x=dg (s.getD (2*i+1) 0):=⟨_,rfl⟩;rcases x1 with _ | k1
  ·have hno:Gn s i=false:=by unfold Gn;rw[<-aa];rfl
   have q:=(vr (.int .i64 (FP (s.getD (2*i) 0):Int)) rfl).trans (show AgQ .i64 (FP (s.getD (2*i) 0)) = .int .i64 (-1) by unfold FP;rw[<-aa]);have hZ1:=y.trans z;have c:=eb hZ1 c;refine gS (Aay q rfl (F4 _ .i64 (-1:Int) ((0:Nat):Int)) (kT (by decide) (gS (AaS rfl rfl (cT rfl (gS (AeB (v:=AB (Afk 32 0)) (by kernel_rfl) (gS (AaB o (vr (AB (Afk 32 0)) rfl) c (by first | rfl | (rw[Afr,Afl,Afp];rfl)) (by rw[Afr,Afl,Afp];exact SY) (Ag _) fun br ap a7 bs=> ?_)))))))));clear m;clear c;have c:=ap;clear ap;have bt:=bl c;have hun:=KK (s:=s) (fun h=>by have:=AfP.1 h.2 i (by simp;omega);rw[hno]at this;cases this);have hE:=hE.trans hZ1;have hE:=Ab hE a7 (Ae7 u (by omega));refine J8 rfl (Aee o c XM rfl (by rw[Afr,Afl];first | (rw[Afp];exact SY) | (rw[DF _ _ (by omega)];exact SY))) (vr (.bool (false)) rfl) ?_;refine⟨?_,hE⟩;rw[hun]
  have hd1:=aa.symm;have bu:=XS hd1;have q:=(vr (.int .i64 (FP (s.getD (2*i) 0):Int)) rfl).trans (show AgQ .i64 (FP (s.getD (2*i) 0))=NI k1 by unfold FP;rw[<-aa]);rcases x2 with _ | k2
  ·have hno:Gn s i=false:=by unfold Gn;rw[<-ab];simp
   have T8:=(vr (.int .i64 (FP (s.getD (2*i+1) 0):Int)) rfl).trans (show AgQ .i64 (FP (s.getD (2*i+1) 0)) = .int .i64 (-1) by unfold FP;rw[<-ab]);have hZ2:=y.trans z;have c:=eb hZ2 c;refine gS (Aay (a:=(k1:Nat)) (b:=(0:Nat)) q rfl (AE _ _ _ _) (kF (by omega) (gS (Aay T8 rfl (F4 _ .i64 (-1:Int) ((0:Nat):Int)) (kT (by decide) (gS (AaX rfl rfl (cT rfl (gS (AeB (v:=AB (Afk 32 0)) (by kernel_rfl) (gS (AaB o (vr (AB (Afk 32 0)) rfl) c (by first | rfl | (rw[Afr,Afl,Afp];rfl)) (by rw[Afr,Afl,Afp];exact SY) (Ag _) fun bv aq a8 bw=> ?_))))))))))));clear m;clear c;have c:=aq;clear aq;have bx:=bl c;have hun:=KK (s:=s) (fun h=>by have:=AfP.1 h.2 i (by simp;omega);rw[hno]at this;cases this);have hE:=hE.trans hZ2;have hE:=Ab hE a8 (Ae7 u (by omega));refine J8 rfl (Aee o c XM rfl (by rw[Afr,Afl];first | (rw[Afp];exact SY) | (rw[DF _ _ (by omega)];exact SY))) (vr (.bool (false)) rfl) ?_;refine⟨?_,hE⟩;rw[hun]
  have hd2:=ab.symm;have a9:=XS hd2;have T8:=(vr (.int .i64 (FP (s.getD (2*i+1) 0):Int)) rfl).trans (show AgQ .i64 (FP (s.getD (2*i+1) 0))=NI k2 by unfold FP;rw[<-ab]);have hZ3:=y.trans z;have hb36l:=eb hZ3 hb36l;refine gS (Aay (a:=(k1:Nat)) (b:=(0:Nat)) q rfl (AE _ _ _ _) (kF (by omega) (gS (Aay (a:=(k2:Nat)) (b:=(0:Nat)) T8 rfl (AE _ _ _ _) (kF (by omega) (gS (AaX rfl rfl (cF rfl (gS (Aaz (xv:=NI k1) (yv:= .int .u64 ((4:Nat):Int)) q rfl rfl (JS _ _ _ _ (by omega) (by omega)) (gS (Aaz (xv:=NI ((k1)*2^(4))) (yv:=NI k2) rfl T8 rfl (K8 _ _ _ (by omega) (by omega)) (gS (Abp Vx u5 rfl (HN (((k1)*2^(4))|||(k2))) (gS (Aa1 (i:=i) XM Rg T4 p (by omega) (gS (AbN (i:=i) (v:=Aga (((k1)*2^(4))|||(k2))) rfl rfl hb36l (by rw[hpl];omega) Zy fun bz ar r b0=> ?_))))))))))))))))));clear hb36l;have hb36l:=ar;clear ar;have b1:=bl hb36l;have hE:=hE.trans hZ3;have hE:=Ab hE r (Ae7 ay (by omega));have k:=k.trans hZ3;have k:=Ab k r (Ae7 az (by omega));have c:=eb hZ3 c;have c:=kb r c (by omega);have m:=m.trans hZ3;have m:=Ab m r (Ae7 (Ae8 _) (by omega));have f:=eb z f;have f:=kb r f (by omega);refine gS (Aaz (xv:=NI i) (yv:=NI 1) p rfl rfl (Ah _ _ _ (by omega)) (gK (AfF ⟨i+1,T0,T1,o,T4,T5,rfl,hE,f,k,c,m,A5 hb36l (congrArg Ae4 (by rw[<-Wi s i (by omega),UD hd1 hd2 a9])),by omega,YT hall hd1 hd2,trivial⟩ ?_)));show 32-(intOf (NI ((i)+(1)))).toNat<32-(intOf (a3 14)).toNat;rw[q14];simp only[intOf,Afg];omega
 have hi32:i=32:=by omega
 have hun:A7 s=(pre s i,true):=by rw[hi32,YH];exact M1 a2 (fun j hj=>hall j (by omega))
 refine gS (AaC T4 hb36l XM rfl (by rw[Afr,Afl,DF _ _ (by omega)];exact SY) (gS (AaB o (vr (AB (pre s i)) rfl) c (by first | rfl | (rw[Afr,Afl,DF _ _ (by omega)];rfl)) (by rw[Afr,Afl,DF _ _ (by omega)];exact SY) (Ag _) fun b2 au ba b3=> ?_)));clear m;clear c;have c:=au;clear au;have b4:=bl c;have hE:=Ab hE ba (Ae7 u (by omega));refine J8 rfl (Aee o c XM rfl (by rw[Afr,Afl];first | (rw[Afp];exact SY) | (rw[DF _ _ (by omega)];exact SY))) (vr (.bool (true)) rfl) ?_;refine⟨?_,hE⟩;rw[hun]
def Dr(l:List Bs):Prop:=l.Pairwise fun a b=>Aft a b<0
theorem UE{a:Int}(h:a<=0)(h2:a≠0):a<0:=by omega
theorem UF{a b c:Bs}(h1:Aft a b<0)(h2:Aft b c<0):Aft a c<0:=by
 have h:=Ga (a:=a) (b:=b) (c:=c) (by omega) (by omega);refine UE h fun e=> ?_;have e:=FR e;subst e;have:=Fh a b;omega
theorem getD_mem'{l:List Bs}{i:Nat}(hi:i<l.length):l.getD i []∈l:=getD_mem [] hi
theorem DQ{l:List Bs}{i:Nat}(hi:i<l.length):l.getD i []=l[i]:=by rw[Ae6,Afb hi];rfl
theorem ZU{l:List Bs}(h:Dj l){i j:Nat}(hij:i<j)(hj:j<l.length):Aft (l.getD i []) (l.getD j [])<=0:=by
 rw[DQ (by omega),DQ hj];exact Agx.1 h i j (by omega) hj hij
theorem Mo{l:List Bs}(h:Dr l){i j:Nat}(hij:i<j)(hj:j<l.length):Aft (l.getD i []) (l.getD j [])<0:=by
 rw[DQ (by omega),DQ hj];exact Agx.1 h i j (by omega) hj hij
theorem UG{l:List Bs}{i:Nat}{x:Bs}(h:x∈l.take i):∃j,j<i/\j<l.length/\x=l.getD j []:=by
 obtain⟨j,hj,rfl⟩:=Ahm.1 h;rw[Afi]at hj;exact⟨j,by omega,by omega,by rw[Aiu,DQ]⟩
theorem M9{l:List Bs}{i:Nat}{x:Bs}(hi:i<l.length):x∈l.take (i+1)↔x∈l.take i\/x=l.getD i []:=by
 rw[Afv hi,Afy,Afh,DQ hi]
section
variable {m o : List Bs} {i : Nat}
theorem Pg(hm:Dj m)(hi:i<m.length)(hS:Dr o)(hmem:∀x,x∈o↔x∈m.take i)(h:o.length=0\/o.getD (o.length-1) []≠m.getD i []):Dr (o++ [m.getD i []]):=by
 refine List.pairwise_append.2 ⟨hS,by simp,fun a ha b hb=> ?_⟩;rw[Afh.1 hb];have hle:∀c∈o,Aft c (m.getD i [])<=0:=fun c hc=>by
  obtain⟨j,h1,h2,rfl⟩:=UG ((hmem c).1 hc);exact ZU hm h1 hi
 refine UE (hle a ha) fun e=> ?_;have e:=FR e;obtain⟨k,hk,hka⟩:=Ahm.1 ha;rcases h with h | h
 ·omega
 ·by_cases hkl:k=o.length-1
  ·refine h ?_;rw[DQ (by omega),<-e,<-hka]
   congr 1
   omega
  ·have h1:=Mo hS (i:=k) (j:=o.length-1) (by omega) (by omega);rw[DQ hk,hka,e]at h1;have h2:=hle _ (getD_mem' (l:=o) (i:=o.length-1) (by omega));have h3:=Fh (m.getD i []) (o.getD (o.length-1) []);omega
theorem Na(hi:i<m.length)(hmem:∀x,x∈o↔x∈m.take i):∀x,x∈o++ [m.getD i []]↔x∈m.take (i+1):=fun x=>by
 rw[M9 hi,Afy,Afh,hmem]
theorem UH(hi:i<m.length)(hmem:∀x,x∈o↔x∈m.take i)(h0:¬o.length=0)(h:¬o.getD (o.length-1) []≠m.getD i []):∀x,x∈o↔x∈m.take (i+1):=fun x=>by
 rw[M9 hi,<-hmem];constructor
 ·exact .inl
 ·rintro(h1 | rfl)
  ·exact h1
  ·rw[<-Classical.not_not.1 h];exact getD_mem' (by omega)
end
section
variable {l : List Bs} {x : Bs} {i : Nat}
theorem Ws(hS:Dr l)(hi:i<l.length)(h:Aft (l.getD i []) x<0):∀j,j<i+1->Aft (l.getD j []) x<0:=fun j hj=>by
 by_cases e:j=i
 ·rw[e];exact h
 ·exact UF (Mo hS (by omega) hi) h
theorem Wt(hS:Dr l)(h:0<Aft (l.getD i []) x):∀j,i<=j->j<l.length->0<Aft (l.getD j []) x:=fun j hj hl=>by
 by_cases e:i=j
 ·rw[<-e];exact h
 ·have h1:=Mo hS (i:=i) (j:=j) (by omega) hl;have h2:=Fh x (l.getD i []);have h4:=Fh x (l.getD j []);have h3:=UF (a:=x) (b:=l.getD i []) (c:=l.getD j []) (by omega) h1;omega
theorem Wu{p:Nat}(h1:∀j,j<p->Aft (l.getD j []) x<0)(h2:∀j,p<=j->j<l.length->0<Aft (l.getD j []) x):x∉l:=fun hx=>by
 obtain⟨j,hj,e⟩:=Ahm.1 hx;have e:l.getD j []=x:=by rw[DQ hj,e]
 by_cases h:j<p
 ·have:=h1 j h;rw[e,GT]at this;omega
 ·have:=h2 j (by omega) hj;rw[e,GT]at this;omega
end
def F7(a b:List Bs)(q:Bool):List Bs:=a.filter fun x=>decide (x∈b)==q
theorem Nb{a b:List Bs}{q:Bool}:∀ {i:Nat},i<a.length->F7 (a.take (i+1)) b q=F7 (a.take i) b q++(if(decide (a.getD i []∈b)==q)=true then [a.getD i []]else []):=fun {i} hi=>by
 unfold F7;rw[Afv hi,AhM,DQ hi]
 congr 1
 rw[List.filter_cons,List.filter_nil]
theorem UI{a b:List Bs}{q:Bool}(h:Dr a):Dr (F7 a b q):=h.filter _
theorem Nc:∀(cs:Array Ae2),cs.size=32->∀w:Ae3,(AfM 42 1 #[(0, .agg cs)]).run Ae5 w = .ok (.slice (some ⟨w.heap.size,0,none⟩) 1 1) (w.alloc (.cells cs 33))
 | ⟨[c0,c1,c2,c3,c4,c5,c6,c7,c8,c9,c10,c11,c12,c13,c14,c15,c16,c17,c18,c19,c20,c21,c22,c23,c24,c25,c26,c27,c28,c29,c30,c31]⟩,_,w=>VB c0 c1 c2 c3 c4 c5 c6 c7 c8 c9 c10 c11 c12 c13 c14 c15 c16 c17 c18 c19 c20 c21 c22 c23 c24 c25 c26 c27 c28 c29 c30 c31 w
theorem H7(w:Ae3)(v:Ae2)(l:List Bs)(hr:RG 32 Ae4 w v l)(hl:l.length<=100000):
  Calls Ae5 23 #[v] w fun e w' =>∃v' o,e = .returned v' /\OG w.heap.size 33 32 Ae4 w' v' o/\Dr o/\(∀x,x∈o↔x∈l)/\o.length<=l.length/\Ext w w' :=by
 refine gG (args:= [v]) Tryz.func23 rfl 32 rfl rfl ?_;have hE:=Ad4 w;refine gS (AaE VI rfl ((Om _ v l (by omega) hr).mono ?_));rintro e k ⟨v5,rfl,n,au⟩;refine⟨_,rfl,?_⟩;have n:=AaR n;obtain⟨m,hm⟩:∃m,m=AR l:=⟨_,rfl⟩;rw[<-hm]at n;have hml:m.length=l.length:=by rw[hm,Gb]
 have hma:Dj m:=by rw[hm];exact Hd l
 have hmm:∀x,x∈m↔x∈l:=fun x=>by rw[hm];exact(sortB_perm l).mem_iff
 refine gS (AaW Oi (AaD n rfl) ?_);have c:=Ad4 k;have hE:=hE.trans au;have z:=hE.size;have hrow0:OG k.heap.size 33 32 Ae4 k (Afc none 0 0) ([]:List Bs):=Aem _ _ _ _ _;refine gL (fun(ρ:Ae) (wz:Ae3)=>∃i:Nat,∃o:List Bs,∃vo:Ae2,ρ 0=(v:Ae2)/\ρ 2=((Afc none 0 0):Ae2)/\ρ 7=(v5:Ae2)/\ρ 8=(NI m.length:Ae2)/\ρ 9=(NI i:Ae2)/\ρ 3=(vo:Ae2)/\Ext w wz/\Ext k wz/\OG k.heap.size 33 32 (Ae4) wz vo (o)/\(i<=m.length)/\(Dr o)/\(∀x,x∈o↔x∈m.take i)/\(o.length<=i)/\True) (fun ρ _=>m.length-(intOf (ρ 9)).toNat) ⟨0,[],(Afc none 0 0),rfl,rfl,rfl,rfl,rfl,rfl,hE,c,Bd hrow0 (rfl),AfC _,List.Pairwise.nil,(fun x=>by simp),Ae8 _,trivial⟩ ?_;clear hrow0;clear hE;rintro aa av ⟨i,o,vo,T0,T2,t,u,p,h,hE,c,hr_vo,hi,hS,hmem,hol,-⟩;have q9:=p;refine gS (Aay (a:=(i:Nat)) (b:=(m.length:Nat)) p u (AE _ _ _ _) ?_);refine cD rfl (fun ah=> ?_) fun ah=> ?_
 ·have hlt:i<m.length:=ah;have j:(Ae4 (m.getD (i) ([]:AlJ))).length=32:=(Aec (n.keep c) ([]:AlJ) (by omega));refine gS (AaZ Oi Td (by decide) ([]:AlJ) (AaD (n.keep c) t) p (by omega) fun a8 ai=>(gS (Aa4 (Aa6 ai rfl) XM rfl (by rw[j];exact SY) (gS (Ad9 VA fun ad aw a9 aj ax ba=> ?_)))));have g:=Ad4 av;have bb:=hE.size;have bc:=c.size;have ak:OB vo ad:=A4 hr_vo.2 (by omega);have f:=aj;clear aj;have bd:ad<aw.heap.size:=by omega
  refine gS (AaB (vr (PQ ad 0) rfl) (vr (AB (m.getD (i) ([]:AlJ))) rfl) f (by exact Bp (Ay (j)) Afp) (by exact Ac (Ay (j))) (Ag _) fun be al ay bf=> ?_);clear f;have f:=al;clear al;have bg:=bl f;clear ai;have g:=g.trans ax;have g:=Ab g ay (Ae7 (Ae8 _) (by omega));have c:=c.trans g;have hxl:(m.getD i []).length=32:=Ay ((n.keep c).1 _ (getD_mem [] hlt));by_cases h0:o.length=0
  ·refine Co [0,1,2,3,4,5,6,7,8,9,10,11,12] [] [] fun bh ae=> ?_;have g:=g.trans ae;have hr_vo:=hr_vo.keep g;have f:=eb ae f;refine ys (AaW Oi (AaD (AaR hr_vo) h) zz) (ys (Aay (a:=(o.length:Nat)) (b:=(0:Nat)) rfl rfl (AH _ _ _ _) zz) (kT (h0) (ys (AaS rfl rfl zz) (cT rfl (gS (AaC rfl f XM rfl (by exact Ac (Ay (j))) (gS (Abg (a:=(m.getD (i) ([]:AlJ))) (enc:=Ae4) (vr (AB (m.getD (i) ([]:AlJ))) rfl) (by rw[Afl];exact(Ay (j))) Nc fun az a0 am y=> ?_))))))));have c:=c.trans (ae.trans y);have hr_vo:=hr_vo.keep y;refine gS (Aa2 _ _ k.heap.size _ 32 Oi pk6_ig33.choose_spec.1 pk6_ig33.choose_spec.2 Oi (o) ([(m.getD (i) ([]:AlJ))]) (Aen hr_vo h) (AaD am (vr az rfl)) (fun _ _=>Ag _) (by simp only[AfA,AfK];omega) (by simp only[AfA,AfK];omega) c.size fun an a1 a2 q=> ?_);have q:Grew a0 a1 vo an:= .eqv h q;have f:=eb y f;have g:=g.trans y;have hE:=hE.trans g;have hE:=As hE q hr_vo.2 z;have c:=As c q hr_vo.2 (Ae8 _);have f:=Aq f q ak;clear am;clear hr_vo;have hq:o.length=0\/o.getD (o.length-1) []≠m.getD i []:= .inl h0;refine gS (Aaz (xv:=NI i) (yv:=NI 1) p rfl rfl (Ah _ _ _ (by omega)) (gK (AfF ⟨i+1,o++ [m.getD i []],an,T0,T2,t,u,rfl,rfl,hE,c,Bd a2 (rfl),by omega,Pg hma hlt hS hmem hq,Na hlt hmem,(by simp only[Ae9,AfA,AfK];omega),trivial⟩ ?_)));show m.length-(intOf (NI ((i)+(1)))).toNat<m.length-(intOf (aa 9)).toNat;rw[q9];simp only[intOf,Afg];omega
  have hr_vo:=hr_vo.keep g;have hyl:(o.getD (o.length-1) []).length=32:=Ay (hr_vo.1 _ (getD_mem [] (by omega)));refine Co [0,1,2,3,4,5,6,7,8,9,10,11,12] [] [] fun bi r=> ?_;have hr_vo:=hr_vo.keep r;refine ys (AaW Oi (AaD (AaR hr_vo) h) zz) (ys (Aay (a:=(o.length:Nat)) (b:=(0:Nat)) rfl rfl (AH _ _ _ _) zz) (kF (h0) (ys (AaW Oi (AaD (AaR hr_vo) h) zz) (ys (Aaz (xv:=NI o.length) (yv:=NI 1) rfl rfl rfl (BL _ _ _ (by omega) (by omega)) zz) ?_))));have a3:(Ae4 (o.getD ((o.length)-(1)) ([]:AlJ))).length=32:=(Aec (AaR hr_vo) ([]:AlJ) (by omega));have f:=eb r f;refine yA (AaZ Oi Td (by decide) ([]:AlJ) (AaD (AaR hr_vo) h) rfl (by omega) fun bj ao=>(ys (Aa4 (Aa6 ao rfl) XM rfl (by rw[a3];exact SY) zz) (ys (AaC rfl f XM rfl (by exact Ac (Ay (j))) zz) (ys (Ab4 (l1:=(o.getD ((o.length)-(1)) ([]:AlJ))) (l2:=(m.getD (i) ([]:AlJ))) XM u5 Rg TM rfl rfl (hyl) (hxl) zz) (ys (AaX rfl rfl zz) ?_)))));clear ao;refine cD rfl (fun af=> ?_) fun af=> ?_
  ·have hq:o.length=0\/o.getD (o.length-1) []≠m.getD i []:= .inr af;refine gS (AaC rfl f XM rfl (by exact Ac (Ay (j))) (gS (Abg (a:=(m.getD (i) ([]:AlJ))) (enc:=Ae4) (vr (AB (m.getD (i) ([]:AlJ))) rfl) (by rw[Afl];exact(Ay (j))) Nc fun a4 a5 ap ag=> ?_)));have hZ1:=r.trans ag;have c:=c.trans hZ1;have hr_vo:=hr_vo.keep ag;refine gS (Aa2 _ _ k.heap.size _ 32 Oi pk6_ig33.choose_spec.1 pk6_ig33.choose_spec.2 Oi (o) ([(m.getD (i) ([]:AlJ))]) (Aen hr_vo h) (AaD ap (vr a4 rfl)) (fun _ _=>Ag _) (by simp only[AfA,AfK];omega) (by simp only[AfA,AfK];omega) c.size fun aq a6 a7 s=> ?_);have s:Grew a5 a6 vo aq:= .eqv h s;have f:=eb ag f;have g:=g.trans hZ1;have hE:=hE.trans g;have hE:=As hE s hr_vo.2 z;have c:=As c s hr_vo.2 (Ae8 _);have f:=Aq f s ak;clear ap;clear hr_vo;refine gS (Aaz (xv:=NI i) (yv:=NI 1) p rfl rfl (Ah _ _ _ (by omega)) (gK (AfF ⟨i+1,o++ [m.getD i []],aq,T0,T2,t,u,rfl,rfl,hE,c,Bd a7 (rfl),by omega,Pg hma hlt hS hmem hq,Na hlt hmem,(by simp only[Ae9,AfA,AfK];omega),trivial⟩ ?_)));show m.length-(intOf (NI ((i)+(1)))).toNat<m.length-(intOf (aa 9)).toNat;rw[q9];simp only[intOf,Afg];omega
  have hq:¬o.getD (o.length-1) []≠m.getD i []:=af;have g:=g.trans r;have hE:=hE.trans g;have c:=c.trans r;refine gS (Aaz (xv:=NI i) (yv:=NI 1) p rfl rfl (Ah _ _ _ (by omega)) (gK (AfF ⟨i+1,o,vo,T0,T2,t,u,rfl,h,hE,c,Bd hr_vo (rfl),by omega,hS,UH hlt hmem h0 hq,by omega,trivial⟩ ?_)));show m.length-(intOf (NI ((i)+(1)))).toNat<m.length-(intOf (aa 9)).toNat;rw[q9];simp only[intOf,Afg];omega
 refine A8 rfl h ?_;rw[show i=m.length by omega,Af8]at hmem;exact⟨_,o,rfl,AeR hr_vo (by have:=z;omega),hS,fun x=>(hmem x).trans (hmm x),by omega,hE⟩
theorem UJ(p s:AlJ):(AC p s).1.length<=s.length:=by
 unfold AC;split
 ·show(s.drop p.length).length<=_;rw[Afn];omega
 ·exact Ae8 _
section
variable {D : Ad} {s : AlJ}
theorem YU(h:(AC [111,45] s).2=false):(CS D s).isSome=false:=by unfold CS;rw[if_neg (fun q=>by rw[h]at q;cases q.1)];rfl
theorem Sq(h:(A7 (AC [111,45] s).1).2=false):(CS D s).isSome=false:=by unfold CS;rw[if_neg (fun q=>by rw[h]at q;cases q.2.1)];rfl
theorem Wv(h:(AC [111,45] s).2=true)(h2:(A7 (AC [111,45] s).1).2=true):(CS D s).isSome=decide ((getL D (A7 (AC [111,45] s).1).1).2=0):=by
 unfold CS;by_cases q:(getL D (A7 (AC [111,45] s).1).1).2=0
 ·rw[if_pos ⟨h,h2,q⟩,decide_eq_true q];rfl
 ·rw[if_neg (fun x=>q x.2.2),decide_eq_false q];rfl
theorem UK(h:(CS D s).isSome=true):CS D s=some (A7 (AC [111,45] s).1).1:=by
 unfold CS at h ⊢;split
 ·rfl
 ·rename_i q;rw[if_neg q]at h;cases h
theorem YV{l:List AlJ}{i:Nat}{x:AlJ}(h:i<l.length)(hx:CS D (l.getD i [])=some x):(l.take i).filterMap (CS D)++ [x]=(l.take (i+1)).filterMap (CS D):=by
 rw[Afv h,Aiz];rw[Ae6,Afb h,Af2]at hx;rw[List.filterMap_cons_some hx];rfl
theorem ZV{l:List AlJ}{i:Nat}(h:i<l.length)(hx:CS D (l.getD i [])=none):(l.take i).filterMap (CS D)=(l.take (i+1)).filterMap (CS D):=by
 rw[Afv h,Aiz];rw[Ae6,Afb h,Af2]at hx;rw[List.filterMap_cons_none hx];simp
theorem UL(h:DOk D){i:Nat}(hi:i<(AF D).length):((AF D).getD i []).length<=80:=by
 unfold AF at hi ⊢;split
 ·rename_i q;rw[if_pos q]at hi;cases hi
 ·rename_i q
  rw[if_neg q,Afu]at hi;rw[Ae6,Agw,Afb hi];exact(B1 (h.now.may _ (Agv hi))).2
theorem YW(h:(AF D).length<=100000):(Gp D).length<=100000:=Ae7 (AhE _ _) h
end
theorem Ww:Plain Ae5 75:=fun _ _=>by kernel_rfl
theorem Wx:Plain Ae5 76:=fun _ _=>by kernel_rfl
theorem Wy:Plain Ae5 97:=fun _ _=>by kernel_rfl
theorem Wz:Plain Ae5 27:=fun _ _=>by kernel_rfl
theorem WA:Plain Ae5 96:=fun _ _=>by kernel_rfl
theorem WB:∀(cs:Array Ae2),cs.size=32->∀w:Ae3,(AfM 42 1 #[(0, .agg cs)]).run Ae5 w = .ok (.slice (some ⟨w.heap.size,0,none⟩) 1 1) (w.alloc (.cells cs 33))
 | ⟨[c0,c1,c2,c3,c4,c5,c6,c7,c8,c9,c10,c11,c12,c13,c14,c15,c16,c17,c18,c19,c20,c21,c22,c23,c24,c25,c26,c27,c28,c29,c30,c31]⟩,_,w=>VB c0 c1 c2 c3 c4 c5 c6 c7 c8 c9 c10 c11 c12 c13 c14 c15 c16 c17 c18 c19 c20 c21 c22 c23 c24 c25 c26 c27 c28 c29 c30 c31 w
theorem WC:Plain Ae5 23:=fun _ _=>by kernel_rfl
theorem UM(wb w:Ae3)(g:Nat)(H:Dk)(D:Ad)(hD:DkG wb w g H D)(hG:Laid wb)(hL:De D)(s:AlJ)(hs:s.length<=9223372036854775807)(bd:Nat)(hbd:w.heap[bd]? =some (.cells ([PQ g 0]).toArray 50 (0,0))):
  Calls Ae5 96 #[St s,PQ bd 0] w fun e w' =>e = .returned (.tuple #[AB ((A7 (AC [111,45] s).1).1), .bool (CS D s).isSome])/\Ext w w' :=by
 refine gG (args:= [St (s),PQ bd 0]) Tryz.func96 rfl 29 rfl rfl ?_;have hE:=Ad4 w;refine gS (Ad9 VA fun v w3 a0 ag ah bb=> ?_);have bc:=Av (bl hbd) a0;have hbd:=eb ah hbd;have hE:=hE.trans ah;have a:=ag;clear ag;have be:v<w3.heap.size:=by omega
 refine gS (AaA Ww rfl rfl ((IT _ s [111,45] hs).mono ?_));rintro e bf ⟨rfl,aa⟩;refine⟨_,rfl,?_⟩;have hbd:=eb aa hbd;have hE:=hE.trans aa;have a:=eb aa a;refine gS (Ad5 (vs:= [St ((AC [111,45] s).1), .bool ((AC [111,45] s).2)]) rfl rfl (gS (Ad5 (vs:= [St ((AC [111,45] s).1), .bool ((AC [111,45] s).2)]) rfl rfl (gS (AaE Wx rfl ((M8 _ (AC [111,45] s).1 (Ae7 (UJ _ _) hs)).mono ?_))))));rintro e a1 ⟨rfl,ab⟩;refine⟨_,rfl,?_⟩;have hbd:=eb ab hbd;have hE:=hE.trans ab;have a:=eb ab a;refine gS (Ad5 (vs:= [AB ((A7 (AC [111,45] s).1).1), .bool ((A7 (AC [111,45] s).1).2)]) rfl rfl (gS (Ad5 (vs:= [AB ((A7 (AC [111,45] s).1).1), .bool ((A7 (AC [111,45] s).1).2)]) rfl rfl (gS (Ad9 VA fun f a2 ai aj y bg=> ?_)))));have c:=Ad4 a1;have bh:=hE;have a3:=hE.size;have bi:=Av (bl hbd) ai;have bj:=Av (bl a) ai;have hbd:=eb y hbd;have hE:=hE.trans y;have a:=eb y a;have c:=c.trans y;have b:=aj;clear aj;have bk:f<a2.heap.size:=by omega
 refine gS (AaB (vr (PQ f 0) rfl) (vr (AB ((A7 (AC [111,45] s).1).1)) rfl) b (by exact Bp (A2 _) Afp) (by exact Ac (A2 _)) (Ag _) fun bm ak z bn=> ?_);have hbd:=kb z hbd (by omega);have hE:=Ab hE z (Ae7 a3 (by omega));have a:=kb z a (by omega);have c:=Ab c z (Ae7 (Ae8 _) (by omega));clear b;have b:=ak;clear ak;have bo:=bl b;rcases Ah5 (AC [111,45] s).2 with hc | hc
 ·rcases Ah5 (A7 (AC [111,45] s).1).2 with hu | hu
  ·refine gR ?_;refine FW 9 10 [Is (AB ((A7 (AC [111,45] s).1).1)),Is (.bool (true)),Is (.bool (true)),Is (.bool (true)),Is (.bool (true)),Is (.bool (true)),Is (PQ g 0),Is (AB ((A7 (AC [111,45] s).1).1)),Is (.bool (decide ((getL D (A7 (AC [111,45] s).1).1).2=0))),Is (.bool (decide ((getL D (A7 (AC [111,45] s).1).1).2=0)))] (by kernel_rfl) [19,20,21,22,23,24,25,26,27,28,4] (by kernel_rfl) rfl (by kernel_rfl) (by kernel_rfl) (by kernel_rfl) (by kernel_rfl) (by kernel_rfl) (by kernel_rfl) rfl rfl (Vn trivial) (fun _ _ _ _ h=>h) ?a4 ?hQ1003
   case a4=>
    refine⟨?_,?_,?_,?_,?_,?_,?_,?_,?_,?_,?_,?_,trivial⟩
    ·refine By (Af rfl fun σ w1 hC h=> ?_);have j:σ 7=PQ f 0:=(An (h 7 (by decide))).trans rfl;exact AaC j (eb hC b) XM rfl (by exact Ac (A2 _)) ⟨Ad4 _,rfl⟩
    ·refine By (Af rfl fun σ w1 hC h=> ?_);have k:σ 6 = .bool (true):=(An (h 6 (by decide))).trans ((show _=AfE (AC [111,45] s).2 from rfl).trans (congrArg AfE hc));exact Aeb k ⟨Ad4 _,rfl⟩
    ·refine By (Af rfl fun σ w1 hC h=> ?_);have l:=An (h 20 (by decide));exact Aeb l ⟨Ad4 _,rfl⟩
    ·refine By (Ce 2 true 21 rfl rfl (fun _ _ h=>h) fun σ w1 hC h=> ?_);have e8:σ 8 = .bool (true):=(An (h 8 (by decide))).trans ((show _=AfE (A7 (AC [111,45] s).1).2 from rfl).trans (congrArg AfE hu));exact Aeb e8 ⟨Ad4 _,rfl⟩
    ·refine By (Af rfl fun σ w1 hC h=> ?_);have m:=An (h 21 (by decide));have ac:=An (h 22 (by decide));exact AaS m ac ⟨Ad4 _,rfl⟩
    ·refine By (Af rfl fun σ w1 hC h=> ?_);have n:=An (h 23 (by decide));exact Aeb n ⟨Ad4 _,rfl⟩
    ·refine By (Ce 5 true 24 rfl rfl (fun _ _ h=>h) fun σ w1 hC h=> ?_);have e1:σ 1=PQ bd 0:=(An (h 1 (by decide))).trans rfl;exact Aax VY rfl e1 (cellAt (eb hC hbd) (show _=some (PQ g 0:Ae2)from rfl)) ⟨Ad4 _,rfl⟩
    ·refine By (Ce 5 true 24 rfl rfl (fun _ _ h=>h) fun σ w1 hC h=> ?_);have j:σ 7=PQ f 0:=(An (h 7 (by decide))).trans rfl;exact AaC j (eb hC b) XM rfl (by exact Ac (A2 _)) ⟨Ad4 _,rfl⟩
    ·refine By (Ce 5 true 24 rfl rfl (fun _ _ h=>h) fun σ w1 hC h=> ?_);have a6:=An (h 25 (by decide));have a7:=An (h 26 (by decide));refine AaA Wy a6 a7 ((YR wb _ g H D (hD.keep (hE.trans hC)) hG hL (A7 (AC [111,45] s).1).1 (A2 _)).mono ?_);rintro e w2 ⟨rfl,hx⟩;exact⟨_,rfl,hx,rfl⟩
    ·refine By (Af rfl fun σ w1 hC h=> ?_);have o:=An (h 24 (by decide));have a8:=An (h 27 (by decide));exact AaS o a8 ⟨Ad4 _,rfl⟩
    ·exact trivial
    ·exact trivial
   intro al bp p he hf;obtain⟨k19,-,-,-,-,-,-,-,-,k28,-⟩:=hf;obtain⟨T0,T1,i,T5,T6,T7,T8,-⟩:=he.hold [(0,St (s)),(1,PQ bd 0),(3,PQ v 0),(5,St ((AC [111,45] s).1)),(6,_),(7,PQ f 0),(8,_)] ⟨rfl,rfl,rfl,rfl,((show _=AfE (AC [111,45] s).2 from rfl).trans (congrArg AfE hc)),rfl,((show _=AfE (A7 (AC [111,45] s).1).2 from rfl).trans (congrArg AfE hu)),trivial⟩ rfl;clear he;have hbd:=eb p hbd;have hE:=hE.trans p;have a:=eb p a;have c:=c.trans p;have b:=eb p b;have q:al 19=AB ((A7 (AC [111,45] s).1).1):=k19;have r:al 28 = .bool (decide ((getL D (A7 (AC [111,45] s).1).1).2=0)):=k28;clear k19 k28;refine gZ (gS (AaB i q a (by exact Bp (A2 _) Afp) (by exact Ac (A2 _)) (Ag _) fun bq au ad br=> ?_));have hbd:=kb ad hbd (by omega);have hE:=Ab hE ad (Ae7 (Ae8 _) (by omega));clear c;have b:=kb ad b (by omega);clear a;have a:=au;clear au;have bs:=bl a;refine J8 rfl (Aee i a XM rfl (by exact Ac (A2 _))) r ?_;exact⟨by rw[Wv hc hu],hE⟩
  refine gR ?_;refine FW 9 10 [Is (AB ((A7 (AC [111,45] s).1).1)),Is (.bool (true)),Is (.bool (true)),Is (.bool (false)),Is (.bool (false)),Is (.bool (false)),Is undef,Is undef,Is undef,Is (.bool (false))] (by kernel_rfl) [19,20,21,22,23,24,25,26,27,28,4] (by kernel_rfl) rfl (by kernel_rfl) (by kernel_rfl) (by kernel_rfl) (by kernel_rfl) (by kernel_rfl) (by kernel_rfl) rfl rfl (Vn trivial) (fun _ _ _ _ h=>h) ?a9 ?hQ2003
  case a9=>
   refine⟨?_,?_,?_,?_,?_,?_,?_,?_,?_,?_,?_,?_,trivial⟩
   ·refine By (Af rfl fun σ w1 hC h=> ?_);have j:σ 7=PQ f 0:=(An (h 7 (by decide))).trans rfl;exact AaC j (eb hC b) XM rfl (by exact Ac (A2 _)) ⟨Ad4 _,rfl⟩
   ·refine By (Af rfl fun σ w1 hC h=> ?_);have k:σ 6 = .bool (true):=(An (h 6 (by decide))).trans ((show _=AfE (AC [111,45] s).2 from rfl).trans (congrArg AfE hc));exact Aeb k ⟨Ad4 _,rfl⟩
   ·refine By (Af rfl fun σ w1 hC h=> ?_);have l:=An (h 20 (by decide));exact Aeb l ⟨Ad4 _,rfl⟩
   ·refine By (Ce 2 true 21 rfl rfl (fun _ _ h=>h) fun σ w1 hC h=> ?_);have e8:σ 8 = .bool (false):=(An (h 8 (by decide))).trans ((show _=AfE (A7 (AC [111,45] s).1).2 from rfl).trans (congrArg AfE hu));exact Aeb e8 ⟨Ad4 _,rfl⟩
   ·refine By (Af rfl fun σ w1 hC h=> ?_);have m:=An (h 21 (by decide));have ac:=An (h 22 (by decide));exact AaS m ac ⟨Ad4 _,rfl⟩
   ·refine By (Af rfl fun σ w1 hC h=> ?_);have n:=An (h 23 (by decide));exact Aeb n ⟨Ad4 _,rfl⟩
   ·refine By (Ds 5 true 24 rfl rfl (fun x _ (h:x = .bool false)=>by rw[h];intro h;cases h) fun _=>rfl)
   ·refine By (Ds 5 true 24 rfl rfl (fun x _ (h:x = .bool false)=>by rw[h];intro h;cases h) fun _=>rfl)
   ·refine By (Ds 5 true 24 rfl rfl (fun x _ (h:x = .bool false)=>by rw[h];intro h;cases h) fun _=>rfl)
   ·refine By (Af rfl fun σ w1 hC h=> ?_);have o:=An (h 24 (by decide));exact AaX o (vr (.bool (false)) rfl) ⟨Ad4 _,rfl⟩
   ·exact trivial
   ·exact trivial
  intro av bt t he hf;obtain⟨k19,-,-,-,-,-,-,-,-,k28,-⟩:=hf;obtain⟨T0,T1,i,T5,T6,T7,T8,-⟩:=he.hold [(0,St (s)),(1,PQ bd 0),(3,PQ v 0),(5,St ((AC [111,45] s).1)),(6,_),(7,PQ f 0),(8,_)] ⟨rfl,rfl,rfl,rfl,((show _=AfE (AC [111,45] s).2 from rfl).trans (congrArg AfE hc)),rfl,((show _=AfE (A7 (AC [111,45] s).1).2 from rfl).trans (congrArg AfE hu)),trivial⟩ rfl;clear he;have hbd:=eb t hbd;have hE:=hE.trans t;have a:=eb t a;have c:=c.trans t;have b:=eb t b;have q:av 19=AB ((A7 (AC [111,45] s).1).1):=k19;have r:av 28 = .bool (false):=k28;clear k19 k28;refine gZ (gS (AaB i q a (by exact Bp (A2 _) Afp) (by exact Ac (A2 _)) (Ag _) fun bu aw ae bv=> ?_));have hbd:=kb ae hbd (by omega);have hE:=Ab hE ae (Ae7 (Ae8 _) (by omega));clear c;have b:=kb ae b (by omega);clear a;have a:=aw;clear aw;have bw:=bl a;refine J8 rfl (Aee i a XM rfl (by exact Ac (A2 _))) r ?_;exact⟨by rw[Sq hu],hE⟩
 refine gR ?_;refine FW 9 10 [Is (AB ((A7 (AC [111,45] s).1).1)),Is (.bool (false)),Is (.bool (false)),Is undef,Is (.bool (false)),Is (.bool (false)),Is undef,Is undef,Is undef,Is (.bool (false))] (by kernel_rfl) [19,20,21,22,23,24,25,26,27,28,4] (by kernel_rfl) rfl (by kernel_rfl) (by kernel_rfl) (by kernel_rfl) (by kernel_rfl) (by kernel_rfl) (by kernel_rfl) rfl rfl (Vn trivial) (fun _ _ _ _ h=>h) ?ba ?hQ3003
 case ba=>
  refine⟨?_,?_,?_,?_,?_,?_,?_,?_,?_,?_,?_,?_,trivial⟩
  ·refine By (Af rfl fun σ w1 hC h=> ?_);have j:σ 7=PQ f 0:=(An (h 7 (by decide))).trans rfl;exact AaC j (eb hC b) XM rfl (by exact Ac (A2 _)) ⟨Ad4 _,rfl⟩
  ·refine By (Af rfl fun σ w1 hC h=> ?_);have k:σ 6 = .bool (false):=(An (h 6 (by decide))).trans ((show _=AfE (AC [111,45] s).2 from rfl).trans (congrArg AfE hc));exact Aeb k ⟨Ad4 _,rfl⟩
  ·refine By (Af rfl fun σ w1 hC h=> ?_);have l:=An (h 20 (by decide));exact Aeb l ⟨Ad4 _,rfl⟩
  ·refine By (Ds 2 true 21 rfl rfl (fun x _ (h:x = .bool false)=>by rw[h];intro h;cases h) fun _=>rfl)
  ·refine By (Af rfl fun σ w1 hC h=> ?_);have m:=An (h 21 (by decide));exact AaX m (vr (.bool (false)) rfl) ⟨Ad4 _,rfl⟩
  ·refine By (Af rfl fun σ w1 hC h=> ?_);have n:=An (h 23 (by decide));exact Aeb n ⟨Ad4 _,rfl⟩
  ·refine By (Ds 5 true 24 rfl rfl (fun x _ (h:x = .bool false)=>by rw[h];intro h;cases h) fun _=>rfl)
  ·refine By (Ds 5 true 24 rfl rfl (fun x _ (h:x = .bool false)=>by rw[h];intro h;cases h) fun _=>rfl)
  ·refine By (Ds 5 true 24 rfl rfl (fun x _ (h:x = .bool false)=>by rw[h];intro h;cases h) fun _=>rfl)
  ·refine By (Af rfl fun σ w1 hC h=> ?_);have o:=An (h 24 (by decide));exact AaX o (vr (.bool (false)) rfl) ⟨Ad4 _,rfl⟩
  ·exact trivial
  ·exact trivial
 intro ax bx u he hf;obtain⟨k19,-,-,-,-,-,-,-,-,k28,-⟩:=hf;obtain⟨T0,T1,i,T5,T6,T7,T8,-⟩:=he.hold [(0,St (s)),(1,PQ bd 0),(3,PQ v 0),(5,St ((AC [111,45] s).1)),(6,_),(7,PQ f 0),(8, .bool ((A7 (AC [111,45] s).1).2))] ⟨rfl,rfl,rfl,rfl,((show _=AfE (AC [111,45] s).2 from rfl).trans (congrArg AfE hc)),rfl,rfl,trivial⟩ rfl;clear he;have hbd:=eb u hbd;have hE:=hE.trans u;have a:=eb u a;have c:=c.trans u;have b:=eb u b;have q:ax 19=AB ((A7 (AC [111,45] s).1).1):=k19;have r:ax 28 = .bool (false):=k28;clear k19 k28;refine gZ (gS (AaB i q a (by exact Bp (A2 _) Afp) (by exact Ac (A2 _)) (Ag _) fun bz ay af b0=> ?_));have hbd:=kb af hbd (by omega);have hE:=Ab hE af (Ae7 (Ae8 _) (by omega));clear c;have b:=kb af b (by omega);clear a;have a:=ay;clear ay;have b1:=bl a;refine J8 rfl (Aee i a XM rfl (by exact Ac (A2 _))) r ?_;exact⟨by rw[YU hc],hE⟩
theorem WD(wb w:Ae3)(g:Nat)(H:Dk)(D:Ad)(hD:DkG wb w g H D)(hG:Laid wb)(hL:De D)(hnm:(AF D).length<=100000):
  Calls Ae5 53 #[PQ g 0] w fun e w' =>∃v o,e = .returned v/\OG w.heap.size 33 32 (Ae4) w' v o/\Dr o/\(∀x,x∈o↔x∈Gp D)/\o.length<=(Gp D).length/\Ext w w' :=by
 refine gG (args:= [PQ g 0]) Tryz.func53 rfl 31 rfl rfl ?_;have hE:=Ad4 w;refine gS (Abx (vr (PQ g 0) rfl) rfl fun j w3 bh an a1 bi=> ?_);have hE:=hE.trans a1;have c:=an;clear an;have bj:j<w3.heap.size:=by omega
 refine gS (Abk (vs:= #[PQ j 0]) (by simp only[AfI,AfG,AfQ];exact congrArg Agp (K7 (vr (PQ j 0) rfl))) (gS (Aax VY rfl rfl (cellAt c rfl) ?_)));have q:=Ad4 w3;have bk:=hE;have bm:=hE.size;refine gS (AaE Wz rfl (((hD.keep hE).list hL).mono ?_));rintro e n ⟨ao,rfl,ap,ae⟩;refine⟨_,rfl,?_⟩;have bn:OB ao j:=DA ap.2 (bl c);have hE:=hE.trans ae;have c:=eb ae c;have q:=q.trans ae;have af:=AaR ap;refine gS (AaW OY (AaD af rfl) ?_);have f:=Ad4 n;have bo:=hE;have bp:=q;have a2:=hE.size;have bq:=q.size;have hrow0:OG n.heap.size 33 32 (Ae4) n (Afc none 0 0) ([]:List AlJ):=Aem _ _ _ _ _;have a3:Afd (Afc none 0 0)≠some j:=fun e_=>by cases e_
 have hDk:=hD;have hL100:=hnm;refine gL (fun(ρ:Ae) (wz:Ae3)=>∃i:Nat,∃r:Ae2,ρ 0=(PQ g 0:Ae2)/\ρ 1=(PQ j 0:Ae2)/\ρ 2=((Afc none 0 0):Ae2)/\ρ 3=(.func (.func 96) #[] #[PQ j 0]:Ae2)/\ρ 11=(ao:Ae2)/\ρ 12=(NI (((AF D)).length):Ae2)/\ρ 13=(NI i:Ae2)/\ρ 4=(r:Ae2)/\Ext w wz/\wz.heap[j]? =some (.cells (([PQ g 0]:List Ae2)).toArray 50 (0,0))/\Ext n wz/\OG n.heap.size 33 32 (Ae4) wz r (((AF D).take i).filterMap (CS D))/\(i<=(AF D).length)/\(OB r j)/\True) (fun ρ _=>(AF D).length-(intOf (ρ 13)).toNat) ⟨0,(Afc none 0 0),rfl,rfl,rfl,rfl,rfl,rfl,rfl,rfl,hE,c,f,Bd hrow0 (rfl),AfC _,a3,trivial⟩ ?_;clear q;clear hrow0;clear hE c f;rintro aq ar ⟨i,r,T0,T1,T2,T3,ah,ai,s,z,hE,c,f,hr_r,hi,hap_r_n2,-⟩;have q13:=s;refine gS (Aay (a:=(i:Nat)) (b:=(((AF D)).length:Nat)) s ai (AE _ _ _ _) ?_);refine cD rfl (fun aj=> ?_) fun aj=> ?_
 ·have hlt:i<(AF D).length:=aj;have hel:=UL hDk.st.ok hlt;have hfl:(((AF D).take i).filterMap (CS D)).length<=i:=Ae7 (AhE _ _) (by rw[Afi];exact AiT _ _);have br:(CQ (((AF D)).getD (i) ([]:AlJ))).length=1:=(Aec (af.keep f) ([]:AlJ) (by omega));refine gS (AaZ OY VZ (by decide) ([]:AlJ) (AaD (af.keep f) ah) s (by omega) fun bs ax=>(gS (AaY QD rfl (Aef (Aa6 ax rfl) rfl) ?_)));clear ax;refine gS (AbG WA (caps:= #[PQ j 0]) T3 #[St (((AF D)).getD (i) ([]:AlJ)),PQ j 0] (by simp only[AfI,AfG,AfQ,Ag1,Af4,Af6];exact congrArg Agp (E2 rfl rfl)) ((UM wb _ g H D (hD.keep hE) hG hL ((AF D).getD (i) ([]:AlJ)) (by omega) j c).mono ?_));rintro e a4 ⟨rfl,aa⟩;refine⟨_,rfl,?_⟩;have hE:=hE.trans aa;have c:=eb aa c;have f:=f.trans aa;have hr_r:=hr_r.keep aa;refine gS (Ad5 (vs:= [AB ((A7 (AC [111,45] ((AF D).getD (i) ([]:AlJ))).1).1), .bool ((CS D ((AF D).getD (i) ([]:AlJ))).isSome)]) rfl rfl (gS (Ad5 (vs:= [AB ((A7 (AC [111,45] ((AF D).getD (i) ([]:AlJ))).1).1), .bool ((CS D ((AF D).getD (i) ([]:AlJ))).isSome)]) rfl rfl (gS (Ad9 VA fun ab a5 a6 ay t bt=> ?_)))));have m:=Ad4 a4;have bu:=hE;have bv:=f;have a7:=hE.size;have a8:=f.size;have bw:=Av (bl c) a6;have ak:OB r ab:=A4 hr_r.2 (by omega);have hE:=hE.trans t;have c:=eb t c;have f:=f.trans t;have hr_r:=hr_r.keep t;have m:=m.trans t;have k:=ay;clear ay;have bx:ab<a5.heap.size:=by omega
  refine gS (AaB (vr (PQ ab 0) rfl) (vr (AB ((A7 (AC [111,45] ((AF D).getD (i) ([]:AlJ))).1).1)) rfl) k (by exact Bp (A2 _) Afp) (by exact Ac (A2 _)) (Ag _) fun bz az u b0=> ?_);have hE:=Ab hE u (Ae7 a7 (by omega));have c:=kb u c (by omega);have f:=Ab f u (Ae7 a8 (by omega));have hr_r:=Aei hr_r u ak;have m:=Ab m u (Ae7 (Ae8 _) (by omega));clear k;have k:=az;clear az;have b1:=bl k;refine cB ((CS D ((AF D).getD (i) ([]:AlJ))).isSome) rfl (fun al=> ?_) fun al=> ?_
  ·have hi1:CS D ((AF D).getD (i) ([]:AlJ))=some (A7 (AC [111,45] ((AF D).getD (i) ([]:AlJ))).1).1:=UK al;refine gS (AaC rfl k XM rfl (by exact Ac (A2 _)) (gS (Abg (a:=(A7 (AC [111,45] ((AF D).getD (i) ([]:AlJ))).1).1) (enc:=Ae4) (vr (AB ((A7 (AC [111,45] ((AF D).getD (i) ([]:AlJ))).1).1)) rfl) ((by rw[Afl,(A2 _)])) WB fun a9 ba a0 p=> ?_)));have hE:=hE.trans p;have c:=eb p c;have f:=f.trans p;have hr_r:=hr_r.keep p;have m:=m.trans p;have k:=eb p k;refine gS (Aa2 _ _ n.heap.size _ 32 Oi pk6_ig33.choose_spec.1 pk6_ig33.choose_spec.2 Oi (((AF D).take i).filterMap (CS D)) ([(A7 (AC [111,45] ((AF D).getD (i) ([]:AlJ))).1).1]) (Aen hr_r z) (AaD a0 (vr a9 rfl)) (fun y _=>Ag y) (by simp only[Afs];omega) (by simp only[Afs];omega) f.size fun ac bb bc l=> ?_);have l:Grew ba bb r ac:= .eqv z l;have bd:OB ac j:=Ap l hap_r_n2 (bl c);have b2:OB ac ab:=Ap l ak (bl k);have hE:=As hE l hr_r.2 a2;have c:=Aq c l hap_r_n2;have f:=As f l hr_r.2 (Ae8 _);clear m;have k:=Aq k l ak;clear a0;clear hr_r;refine gS (Aaz (xv:=NI i) (yv:=NI 1) s rfl rfl (Ah _ _ _ (by omega)) (gK (AfF ⟨i+1,ac,T0,T1,T2,T3,ah,ai,rfl,rfl,hE,c,f,Bd bc ((YV hlt hi1)),by omega,bd,trivial⟩ ?_)));show(AF D).length-(intOf (NI ((i)+(1)))).toNat<(AF D).length-(intOf (aq 13)).toNat;rw[q13];simp only[intOf,Afg];omega
  have hi0:CS D ((AF D).getD (i) ([]:AlJ))=none:=by simpa using al
  refine gS (Aaz (xv:=NI i) (yv:=NI 1) s rfl rfl (Ah _ _ _ (by omega)) (gK (AfF ⟨i+1,r,T0,T1,T2,T3,ah,ai,rfl,z,hE,c,f,Bd hr_r ((ZV hlt hi0)),by omega,hap_r_n2,trivial⟩ ?_)));show(AF D).length-(intOf (NI ((i)+(1)))).toNat<(AF D).length-(intOf (aq 13)).toNat;rw[q13];simp only[intOf,Afg];omega
 have hie:i=(AF D).length:=by have h:=aj;omega
 have hrl:RG 32 (Ae4) ar r (Gp D):=Aac (AaR hr_r) (by rw[hie,Af8];rfl);have hsz9:w.heap.size<=ar.heap.size:=hE.size;refine gS (AaE WC z ((H7 _ _ (Gp D) hrl (YW hL100)).mono ?_));rintro e b3 ⟨be,o,rfl,bf,hS,hM,hN,ad⟩;refine⟨_,rfl,?_⟩;have hE:=hE.trans ad;have c:=eb ad c;have f:=f.trans ad;have hr_r:=hr_r.keep ad;have bg:=bf;refine A8 rfl (vr be rfl) ?_;exact⟨_,o,rfl,AeR bg hsz9,hS,hM,hN,hE⟩
theorem Ph{D:Ad}(h:DOk D){i:Nat}(hi:i<(AF D).length):((AF D).getD i []).length<=80:=by
 unfold AF at hi ⊢;split
 ·rename_i q;rw[if_pos q]at hi;cases hi
 ·rename_i q
  rw[if_neg q,Afu]at hi;rw[Ae6,Agw,Afb hi];exact(B1 (h.now.may _ (Agv hi))).2
theorem QO{α:Type}{l:List α}{p:α->Bool}{i:Nat}{d:α}(h:i<l.length)(hp:p (l.getD i d)=true):(l.take i).filter p++ [l.getD i d]=(l.take (i+1)).filter p:=by
 rw[Afv h,AhM];rw[Ae6,Afb h,Af2]at hp ⊢;rw[List.filter_cons_of_pos hp];rfl
theorem UN{α:Type}{l:List α}{p:α->Bool}{i:Nat}{d:α}(h:i<l.length)(hp:p (l.getD i d)=false):(l.take i).filter p=(l.take (i+1)).filter p:=by
 rw[Afv h,AhM];rw[Ae6,Afb h,Af2]at hp;rw[List.filter_cons_of_neg (by rw[hp];decide)];simp
theorem WE:Plain Ae5 74:=fun _ _=>by kernel_rfl
theorem va1_ig9:∃z,(Tryz.prog.info? 9).map (fun i=>(i.zero,i.size,i.bytes))=some (some z,1,16)/\z.cells.size=1:=FS (by kernel_rfl)
theorem WF(w:Ae3)(sg s:AlJ)(hs:s.length<=9223372036854775807)(bd:Nat)(hbd:w.heap[bd]? =some (.cells ([St sg]).toArray 9 (0,0))):
  Calls Ae5 74 #[St s,PQ bd 0] w fun e w' =>e = .returned (.bool (Du sg s))/\Ext w w' :=by
 refine Qq (args:= [St (s),PQ bd 0]) Tryz.func74 rfl 23 rfl rfl ?_;have hE:=Ad4 w;refine gS (Aax QD rfl rfl (cellAt hbd rfl) (gS (AaA Ww rfl rfl ((IT _ s sg hs).mono ?_))));rintro e m ⟨rfl,j⟩;refine⟨_,rfl,?_⟩;refine gS (Ad5 (vs:= [St ((AC sg s).1), .bool ((AC sg s).2)]) rfl rfl (gS (Ad5 (vs:= [St ((AC sg s).1), .bool ((AC sg s).2)]) rfl rfl (gS (AaE Wx rfl ((M8 _ (AC sg s).1 (Ae7 (UJ _ _) hs)).mono ?_))))));rintro e n ⟨rfl,k⟩;refine⟨_,rfl,?_⟩;refine gS (Ad5 (vs:= [AB ((A7 (AC sg s).1).1), .bool ((A7 (AC sg s).1).2)]) rfl rfl (gS (Ad5 (vs:= [AB ((A7 (AC sg s).1).1), .bool ((A7 (AC sg s).1).2)]) rfl rfl (gS (Ad9 VA fun b l o c f p=> ?_)))));have hZ1:=j.trans k;have hE:=hE.trans hZ1;have g:=hE.size;have a:=c;clear c;have q:b<l.heap.size:=by omega
 refine gS (AaB (vr (PQ b 0) rfl) (vr (AB ((A7 (AC sg s).1).1)) rfl) a (by exact Bp (A2 _) Afp) (by exact Ac (A2 _)) (Ag _) fun r h i t=> ?_);clear a;have a:=h;clear h;have u:=bl a;rcases Ah5 (AC sg s).2 with hc | hc
 ·refine gY rfl (vr (.bool (true)) ((show _=AfE (AC sg s).2 from rfl).trans (congrArg AfE hc))) (gS (AaS (vr (.bool (true)) ((show _=AfE (AC sg s).2 from rfl).trans (congrArg AfE hc))) rfl (A8 rfl (vr (.bool ((A7 (AC sg s).1).2)) rfl) ?_)));have hE:=hE.trans f;have hE:=Ab hE i (Ae7 g (by omega));exact⟨by unfold Du;rw[hc,Bool.true_and],hE⟩
 refine gN rfl rfl (vr (.bool (false)) ((show _=AfE (AC sg s).2 from rfl).trans (congrArg AfE hc))) rfl (gS (AaX (vr (.bool (false)) ((show _=AfE (AC sg s).2 from rfl).trans (congrArg AfE hc))) rfl (A8 rfl (vr (.bool (false)) rfl) ?_)));have hE:=hE.trans f;have hE:=Ab hE i (Ae7 g (by omega));exact⟨by unfold Du;rw[hc,Bool.false_and],hE⟩
theorem KQ(wb w:Ae3)(g:Nat)(H:Dk)(D:Ad)(hD:DkG wb w g H D)(hL:De D)(sg:AlJ)(hnm:(AF D).length<=100000):
  Calls Ae5 41 #[PQ g 0,St sg] w fun e w' =>∃v,e = .returned v/\OG w.heap.size 9 1 CQ w' v (Az D sg)/\Ext w w' :=by
 refine gG (args:= [PQ g 0,St (sg)]) Tryz.func41 rfl 26 rfl rfl ?_;have hE:=Ad4 w;refine gS (Abx (vr (St (sg)) rfl) rfl fun j w3 ay ab al az=> ?_);have c:=ab;clear ab;have a0:j<w3.heap.size:=by omega
 refine gS (Abk (vs:= #[PQ j 0]) (by simp only[AfI,AfG,AfQ];exact congrArg Agp (K7 (vr (PQ j 0) rfl))) ?_);have hE:=hE.trans al;have a1:=hE.size;refine gS (AaE Wz rfl (((hD.keep hE).list hL).mono ?_));rintro e k ⟨am,rfl,an,ac⟩;refine⟨_,rfl,?_⟩;have p:=AaR an;refine gS (AaW OY (AaD p rfl) ?_);have f:=Ad4 k;have hE:=hE.trans ac;have ao:=hE.size;have hrow0:OG k.heap.size 9 1 (CQ) k (Afc none 0 0) ([]:List AlJ):=Aem _ _ _ _ _;have ap:Afd (Afc none 0 0)≠some j:=fun e_=>by cases e_
 have hDk:=hD;have hL100:=hnm;have hE1_:=hE.size;have c:=eb ac c;refine gL (fun(ρ:Ae) (wz:Ae3)=>∃i:Nat,∃r:Ae2,ρ 0=(PQ g 0:Ae2)/\ρ 1=(St (sg):Ae2)/\ρ 3=(PQ j 0:Ae2)/\ρ 4=((Afc none 0 0):Ae2)/\ρ 5=(.func (.func 74) #[] #[PQ j 0]:Ae2)/\ρ 11=(am:Ae2)/\ρ 12=(NI (((AF D)).length):Ae2)/\ρ 13=(NI i:Ae2)/\ρ 6=(r:Ae2)/\Ext w wz/\wz.heap[j]? =some (.cells (([St (sg)]:List Ae2)).toArray 9 (0,0))/\Ext k wz/\OG k.heap.size 9 1 (CQ) wz r (((AF D).take i).filter (Du sg))/\(i<=(AF D).length)/\(OB r j)/\True) (fun ρ _=>(AF D).length-(intOf (ρ 13)).toNat) ⟨0,(Afc none 0 0),rfl,rfl,rfl,rfl,rfl,rfl,rfl,rfl,rfl,hE,c,f,Bd hrow0 (rfl),AfC _,ap,trivial⟩ ?_;clear hrow0;clear hE c;rintro ad a2 ⟨i,r,T0,T1,T3,T4,q,s,t,m,o,hE,c,f,hr_r,hil,hap_r_n2,-⟩;have q13:=m;refine gS (Aay (a:=(i:Nat)) (b:=(((AF D)).length:Nat)) m t (AE _ _ _ _) ?_);refine cD rfl (fun x=> ?_) fun x=> ?_
 ·have hlt:i<(AF D).length:=x;have hel:=Ph hDk.st.ok hlt;have hfl:(((AF D).take i).filter (Du sg)).length<=i:=Ae7 (List.length_filter_le _ _) (by rw[Afi];exact AiT _ _);have a3:(CQ (((AF D)).getD (i) ([]:AlJ))).length=1:=(Aec (p.keep f) ([]:AlJ) (hlt));refine gS (AaZ OY VZ (by decide) ([]:AlJ) (AaD (p.keep f) s) m (hlt) fun a4 ai=>(gS (AaY QD rfl (Aef (Aa6 ai rfl) rfl) ?_)));clear ai;refine gS (AbG WE (caps:= #[PQ j 0]) q #[St (((AF D)).getD (i) ([]:AlJ)),PQ j 0] (by simp only[AfI,AfG,AfQ,Ag1,Af4,Af6];exact congrArg Agp (E2 rfl rfl)) ((WF _ sg ((AF D).getD (i) ([]:AlJ)) (by omega) j c).mono ?_));rintro e a5 ⟨rfl,n⟩;refine⟨_,rfl,?_⟩;refine cB (Du sg ((AF D).getD (i) ([]:AlJ))) rfl (fun z=> ?_) fun z=> ?_
  ·refine gS (Abh (a:=((AF D)).getD (i) ([]:AlJ)) (enc:=CQ) (vr (St (((AF D)).getD (i) ([]:AlJ))) rfl) rfl (fun w=>KH _ w) fun aq ar aj au=> ?_);have hZ1:=n.trans au;have f:=f.trans hZ1;have hr_r:=hr_r.keep hZ1;refine gS (Aa2 _ _ k.heap.size _ 16 OY va1_ig9.choose_spec.1 va1_ig9.choose_spec.2 OY (((AF D).take i).filter (Du sg)) ([((AF D)).getD (i) ([]:AlJ)]) (Aen hr_r o) (AaD aj (vr aq rfl)) (fun y hy u hu=>by rw[Afh.1 hu];rfl) (by simp only[Afs];omega) (by simp only[Afs];omega) f.size fun aa av aw l=> ?_);have l:Grew ar av r aa:= .eqv o l;have c:=eb hZ1 c;have ax:OB aa j:=Ap l hap_r_n2 (bl c);have hE:=hE.trans hZ1;have hE:=As hE l hr_r.2 ao;have c:=Aq c l hap_r_n2;have f:=As f l hr_r.2 (Ae8 _);clear aj;clear hr_r;refine gS (Aaz (xv:=NI i) (yv:=NI 1) m rfl rfl (Ah _ _ _ (by omega)) (gK (AfF ⟨i+1,aa,T0,T1,T3,T4,q,s,t,rfl,rfl,hE,c,f,Bd aw ((QO hlt z)),by omega,ax,trivial⟩ ?_)));show(AF D).length-(intOf (NI ((i)+(1)))).toNat<(AF D).length-(intOf (ad 13)).toNat;rw[q13];simp only[intOf,Afg];omega
  have hE:=hE.trans n;have c:=eb n c;have f:=f.trans n;have hr_r:=hr_r.keep n;refine gS (Aaz (xv:=NI i) (yv:=NI 1) m rfl rfl (Ah _ _ _ (by omega)) (gK (AfF ⟨i+1,r,T0,T1,T3,T4,q,s,t,rfl,o,hE,c,f,Bd hr_r ((UN hlt z)),by omega,hap_r_n2,trivial⟩ ?_)));show(AF D).length-(intOf (NI ((i)+(1)))).toNat<(AF D).length-(intOf (ad 13)).toNat;rw[q13];simp only[intOf,Afg];omega
 have hie:i=(AF D).length:=by have h:=x;omega
 refine A8 rfl o ?_;exact⟨_,rfl,AeR (Bd hr_r (by rw[hie,Af8];rfl)) hE1_,hE⟩
theorem EC(w:Ae3)(hG:Laid w)(v:Ae2)(b:AlJ)(hr:RB w v b)(hb:b.length<=1099511627776):
  Calls Ae5 44 #[v] w fun e w' =>e = .returned (St (Au b))/\Ext w w' :=by
 refine gG (args:= [v]) Tryz.func44 rfl 8 rfl rfl ?_;have hE:=Ad4 w;refine gS (Abf GV (AaF (hr.keep hE) (vr v rfl)) fun a i c f=> ?_);have hE:=hE.trans f;refine gS (AaE KB rfl ((Dq _ (hG.keep hE) a b c (by omega)).mono ?_));rintro e j ⟨rfl,g⟩;refine⟨_,rfl,?_⟩;refine gS (AaE Wl rfl ((QI _ (Sha.sum b) (Sha.sum_length _)).mono ?_));rintro e k ⟨rfl,h⟩;refine⟨_,rfl,?_⟩;refine gS (AcF (l:=([112,45]:AlJ)) (m:=hexOf (Sha.sum b)) rfl rfl (by rw[C5,Sha.sum_length];simp) (A8 rfl (vr (St ((([112,45]:AlJ):AlJ)++(hexOf (Sha.sum b):AlJ))) rfl) ?_));have hZ1:=g.trans h;have hE:=hE.trans hZ1;exact⟨rfl,hE⟩
theorem Sr:∀u:Ae3,(zeroValue 89).run Ae5 u = .ok (.pointer none) u:=fun _=>by kernel_rfl
theorem DkG.offN{wb w:Ae3}{g:Nat}{H:Dk}{D:Ad}(h:DkG wb w g H D){k:Nat}(hk:w.heap.size<=k):Cl H D k:=fun q=>by
 have:=(h.st.foot q).2.1;omega
theorem OpenNew.okV{n:Nat}{w:Ae3}{v:Ae2}{r:Except Nat AT}{p:AT}{c:Nat}(h:OpenNew n w v r c)(e:r = .ok p):c=0/\PackNew n w v p:=by subst e;exact h
abbrev Ae1:=@OpenNew.okV
theorem Ach{n:Nat}{w:Ae3}{v:Ae2}{r:Except Nat AT}{p:AT}{c:Nat}(h:OpenNew n w v r c)(e:r = .ok p):∃gp,v=pN gp:=by
 obtain⟨g,-,-,-,h1,-⟩:=(h.okV e).2;exact⟨g,h1⟩
theorem OpenNew.bad{n:Nat}{w:Ae3}{v:Ae2}{b:Bs}{e c:Nat}(h:OpenNew n w v (BJ b) c)(he:BJ b = .error e):c≠0:=by
 have:=YM he;rw[he]at h;rw[h.1];exact this
theorem PackP.set{Q:Nat->Prop}{w w' :Ae3}{v:Ae2}{p:AT}(h:PackP Q w v p){b:Nat}(hg:w.grownBy w' (some b))(hne:∀k,Q k->k≠b):PackP Q w' v p:=
 h.chg (B:=fun k=>k=b) (Abd hg fun i e=> .inl (AfJ e).symm) fun k _ q=>⟨hne k q,q⟩
theorem Ss{D:Ad}(h:DOk D):SortS (AF D):=by
 unfold AF;split
 ·exact List.Pairwise.nil
 ·exact List.pairwise_map.2 h.now.sort
theorem FG{D:Ad}(h:DOk D)(sg:Bs):SortS (Az D sg):=(Ss h).filter _
theorem UO{D:Ad}{sg s:Bs}(h:s∈Az D sg):s∈AF D:=(Agr.1 h).1
theorem Nd{D:Ad}(h:DOk D){sg:Bs}{i:Nat}(hi:i<(Az D sg).length):((Az D sg).getD i ([]:AlJ)).length<=80:=by
 have hm:=UO (getD_mem ([]:Bs) hi);obtain⟨k,hk,e⟩:=Agz hm;have:=Ph h hk;rw[Ae6,Afb hk,Af2,e]at this;exact this
theorem Kl(D:Ad)(l:List Bs):(l.filterMap (DH D)).map AfB=l.filter fun s=>(Gh D s).isSome:=by
 induction l with
 | nil=>rfl
 | cons s r ih=>
  rw[AjH,List.filter_cons];unfold DH;cases Gh D s with
  | none=>exact ih
  | some p=>exact congrArg (s :: ·) ih
theorem Su{D:Ad}(h:DOk D):SortS ((openV D).map AfB):=by
 unfold openV;rw[Kl];exact(FG h _).filter _
theorem YX{D:Ad}{l:List Bs}{L:AQ}{i:Nat}{pk:AT}(hlt:i<l.length)(hLe:L=(l.take i).filterMap (DH D))(hv:Gh D (l.getD i ([]:AlJ))=some pk):L++ [(l.getD i ([]:AlJ),pk)]=(l.take (i+1)).filterMap (DH D):=by
 rw[Ae6,Afb hlt,Af2]at hv ⊢;rw[Afv hlt,Aiz,hLe];unfold DH;rw[AjH,hv];rfl
theorem UP{D:Ad}{l:List Bs}{L:AQ}{i:Nat}(hlt:i<l.length)(hLe:L=(l.take i).filterMap (DH D))(hv:Gh D (l.getD i ([]:AlJ))=none):L=(l.take (i+1)).filterMap (DH D):=by
 rw[Ae6,Afb hlt,Af2]at hv;rw[Afv hlt,Aiz,hLe];unfold DH;rw[AjH,hv];exact(List.append_nil _).symm
theorem YY{D:Ad}(h:DOk D){sg:Bs}{L:AQ}{i:Nat}(hlt:i<(Az D sg).length)(hLe:L=((Az D sg).take i).filterMap (DH D)):(Az D sg).getD i ([]:AlJ)∉L.map AfB:=by
 rw[hLe,Kl];intro q;have hm:=(Agr.1 q).1;obtain⟨k,hk,e⟩:=Agz hm;rw[Afi]at hk;rw[Aiu,Ae6,Afb hlt,Af2]at e;have:=(List.nodup_iff_pairwise_ne.1 (FG h sg).nodup);have h2:=Agx.1 this k i (by omega) hlt (by omega);exact h2 e
theorem DBd.addK{n k:Nat}{D:Ad}(h:DBd n D)(s:AlJ){b:AlJ}(hk:1<=k)(hb:b.length<=300*k):DBd (n+k) (Cg D s b):=by
 unfold Cg;split
 ·rename_i j _
  refine⟨h.quota,Ae7 h.refused (Ahh _ _),h.arm,Ae7 h.acts (Ahh _ _),Ae7 h.now (Ahh _ _),fun x hx=> ?_⟩;rcases AhZ hx with hx | rfl
  ·have:=h.files x hx;omega
  ·have:=h.file j;show((AG D j).1++b).length<=_;rw[Ae9];omega
 ·have h1:=(h.turned ⟨[],s,D.files.length⟩).mono (show n+1<=n+k by omega);refine⟨h1.quota,h1.refused,h1.arm,h1.acts,h1.now,fun x hx=> ?_⟩;rcases Afy.1 hx with hx | hx
  ·have:=h.files x hx;omega
  ·rw[Afh.1 hx];show b.length<=_;omega
theorem DBd.appendK{n k:Nat}{D:Ad}(h:DBd n D)(s:AlJ){b:AlJ}(hk:1<=k)(hb:b.length<=300*k):DBd (n+k) (A3 D s b).1:=by
 unfold A3;split
 ·exact h.mono (Ahh _ _)
 ·split
  ·have h2:=h.mono (Ahh n k);have:=h.refused;exact⟨h2.quota,by show D.refused+1<=_;omega,h2.arm,h2.acts,h2.now,h2.files⟩
  ·split
   ·exact h.armed.mono (Ahh _ _)
   ·exact h.armed.addK s hk hb
theorem Nf{l:List Bs}{i:Nat}(h:i<l.length):l.drop i=l.getD i ([]:AlJ) :: l.drop (i+1):=by
 rw[Ae6,Afb h,Af2];exact Agq h
def dropsD(D:Ad):List Bs->Ad × Nat
 | []=>(D,0)
 | s :: r=>if(Bx D s).2≠0 then Bx D s else dropsD (Bx D s).1 r
theorem FH(D:Ad)(s:Bs)(r:List Bs):dropsD D (s :: r)=if(Bx D s).2≠0 then Bx D s else dropsD (Bx D s).1 r:=rfl
theorem DBd.drops{m:Nat}{D:Ad}(h:DBd m D)(l:List Bs):DBd (m+l.length) (dropsD D l).1:=by
 induction l generalizing m D with
 | nil=>exact h
 | cons s r ih=>
  rw[FH,AfA];have h1:=h.drop s;split
  ·exact h1.mono (by omega)
  ·exact(ih h1).mono (by omega)
def FI(D:Ad)(b:Bs):Ad × Bool × Nat:=
 if(A3 D (Au b) b).2≠0 then((A3 D (Au b) b).1,false,(A3 D (Au b) b).2)
 else((BD (A3 D (Au b) b).1 (Au b)).1,true,(BD (A3 D (Au b) b).1 (Au b)).2)
def G8(x:Ad × Nat)(b:Bs):Ad × Bool × Nat:=if x.2≠0/\x.2≠4 then(x.1,false,x.2)else FI x.1 b
def AJ(D:Ad)(b:Bs):Ad × Bool × Nat:=
 if(Ar D (Au b)).2=0/\(Ar D (Au b)).1=b then((BD D (Au b)).1,false,(BD D (Au b)).2)
 else if(Ar D (Au b)).2=0/\Au (Ar D (Au b)).1=Au b then(D,false,7)
 else G8 (if(Ar D (Au b)).2=0 then Bx D (Au b)else(D,(Ar D (Au b)).2)) b
section
variable {D : Ad} {b : Bs}
theorem Sv(h0:(Ar D (Au b)).2=0)(h1:(Ar D (Au b)).1=b):AJ D b=((BD D (Au b)).1,false,(BD D (Au b)).2):=if_pos ⟨h0,h1⟩
theorem Sw(h1:¬(Ar D (Au b)).1=b)(h0:(Ar D (Au b)).2=0)(h2:Au (Ar D (Au b)).1=Au b):AJ D b=(D,false,7):=(if_neg fun q=>h1 q.2).trans (if_pos ⟨h0,h2⟩)
theorem FJ(h1:¬(Ar D (Au b)).1=b)(h0:(Ar D (Au b)).2=0)(h2:¬Au (Ar D (Au b)).1=Au b):AJ D b=G8 (Bx D (Au b)) b:=((if_neg fun q=>h1 q.2).trans (if_neg fun q=>h2 q.2)).trans (congrArg (G8 · b) (if_pos h0))
theorem FK(h0:¬(Ar D (Au b)).2=0):AJ D b=G8 (D,(Ar D (Au b)).2) b:=((if_neg fun q=>h0 q.1).trans (if_neg fun q=>h0 q.1)).trans (congrArg (G8 · b) (if_neg h0))
end
def Ng:Go.Shelf.Ren:=⟨fun | 7=>84 | 10=>138 | n=>n,fun | 23=>84 | 26=>9 | 3=>89 | 28=>111 | 0=>0 | 27=>110 | 33=>139 | 4=>4 | n=>n,fun | n=>n⟩
theorem XT:Go.Proofs.SlLaysZ.n7 Ae5 Ng:= {
  mixed:=by kernel_rfl
  f7:=⟨Tryz.f84.name,by decide,Tryz.func84.trans (congrArg some (by kernel_rfl))⟩
  f10:=⟨Tryz.f138.name,by decide,Tryz.func138.trans (congrArg some (by kernel_rfl))⟩
  t0:=AiK
  a0:=AjP
  z0:=AjA
  v0:=AiU
  t4:=Tryz.underlying4
  a4:=Tryz.isAgg4
  z4:=Tryz.sizeOf4
  v4:=Tryz.zeroValue4
  t23:=Tryz.underlying84
  a23:=Tryz.isAgg84
  z23:=Tryz.sizeOf84
  v23:=Tryz.zeroValue84
  t26:=AhH
  a26:=AiO
  z26:=Aiy
  v26:=AhR
  t27:=Tryz.underlying110
  a27:=Tryz.isAgg110
  z27:=Tryz.sizeOf110
  v27:=Tryz.zeroValue110
  t28:=Tryz.underlying111
  a28:=Tryz.isAgg111
  z28:=Tryz.sizeOf111
  v28:=Tryz.zeroValue111
  t33:=Tryz.underlying139
  a33:=Tryz.isAgg139
  z33:=Tryz.sizeOf139
  v33:=Tryz.zeroValue139 }
open Go.RowKit Go.Shelf
theorem UQ(w:Ae3)(b:Nat):Calls Ae5 84 #[.map (some b)] w fun e w' =>e = .returned (.func (.func 138) #[] #[.pointer (some ⟨w.heap.size,0,none⟩)])/\w' =w.alloc (.cells #[.map (some b)] 84):=by
 have h:=AnyZ.keys_in XT Fence.wide 5 trivial rfl (some b) w;exact callsIn_wide.1 h
theorem Pi{l ss:List AlJ}(h:SortS l)(hp:ss.Perm l):ss.mergeSort (fun x y=>decide (x<=y))=l:=by
 have h1:=mergeSort_of_perm hp;refine h1.trans (List.mergeSort_of_pairwise ?_);refine List.Pairwise.imp (fun {a b} q=> ?_) h;rw[bytesLess_eq,decide_eq_true_eq]at q;simp only[decide_eq_true_eq];exact List.le_of_lt q
set_option maxHeartbeats 1000000 in
theorem Qb(w w2:Ae3){b:Nat}{ev:Nat->Ae2}{G:AlJ->Option Nat}{l:List AlJ}(hw:w2=w.alloc (.cells #[.map (some b)] 84))(h:MapF St ev Nm w b G)(hl:SortS l)(hG:∀s,(G s).isSome=true↔s∈l)(hlen:l.length<1099511627776):
  Calls Ae5 58 #[.func (.func 138) #[] #[.pointer (some ⟨w.heap.size,0,none⟩)]] w2 fun e w' =>∃v,e = .returned v/\OG w2.heap.size 9 1 CQ w' v l/\Ext w2 w' :=by
 subst hw;obtain⟨D0,hown,hperm,hsize⟩:=h.owns (P:=Ae5) (k:=9) (by kernel_rfl) (fun a q=>Ae7 q (by decide)) (keys:=l) (SortS.nodup hl) hG (by simp only[maxLen];omega);have hbl:=hown.lt;have hseq:SeqGives Fence.wide 2 Ae5 138 #[.pointer (some ⟨w.heap.size,0,none⟩)] encStr (fun ss=>ss.Perm (strKeys D0)) (Maps.size D0) (w.alloc (.cells #[.map (some b)] 84)):=
  AnyZ.keys_gives (ρ:=Ng) { XT with } Fence.wide _ trivial rfl (by omega) w.heap.size b _ D0 _ (by simp) (by simp) (by
   obtain⟨es,clock,hb,Ft,hs,hD⟩:=hown;exact⟨es,clock,(Below.heap_alloc _ _ b hbl).trans hb,Ft,hs,hD⟩)
 have hS:=AnyZ.sorted_in QG Fence.wide 5 trivial trivial trivial trivial rfl (by omega) (Uh _) (enters_of Tryz.func103 (by kernel_rfl) rfl) 138 #[.pointer (some ⟨w.heap.size,0,none⟩)] trivial (enters_of Tryz.func138 (by kernel_rfl) rfl) _ _ (by rw[hsize];simp only[maxLen];omega) (by rw[hsize];omega) _ hseq;refine(callsIn_wide.1 hS).mono fun e w' q=> ?_;obtain⟨v,ss,he,hp,hrow,-,hB⟩:=q;refine⟨v,he,⟨fun _ _=>rfl,?_⟩,hB⟩;have hs:=Pi hl (hp.trans hperm);rw[hs]at hrow;rw[OX];have hlen:ss.length=l.length:=(hp.trans hperm).length_eq;rw[hlen]at hrow;exact hrow
end Go.Proofs.YtfpekahfdalfkaaGreatDoor
