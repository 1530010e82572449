/- Part 7 of what stands behind these statements: laws and walks of the functions that are reached. Conditions: those that each theorem names. -/
import Derived.Test.YtfpekahfdalfkaaGreatDoorB6
set_option linter.unusedVariables false
set_option linter.unusedSimpArgs false
namespace Go.Proofs.YtfpekahfdalfkaaGreatDoor
open _root_.Int renaming natCast_nonneg → AfU, tmod → Ae7, emod → Aft, toNat_natCast → Ac0
open _root_.Go renaming TypeId → AcR, binOp → Adq, Program → Adg, Value → AcJ, World → AcK, Edge → AdL, Operand → AcW, MapEntry → Aev
open _root_.Go.Sem renaming run_bind → Ac1, run_pure → Ac3
open _root_.Go.Result renaming andThen_ok → AcV
open _root_.List renaming map_toArray → Ads, map_cons → Ado, map_nil → AdA, mem_singleton → AcY, length_singleton → Ac9, take_succ_eq_append_getElem → Adi, getD_eq_getElem?_getD → AcO, getElem?_eq_getElem → AcS, map_append → Aei, length_map → Ada, mem_append → Adf, map_map → AfD, mem_map → Adx, mem_of_getElem? → AdX, getElem?_map → Aej, getElem?_zip_eq_some → Agu, eq_nil_of_length_eq_zero → Adw, mem_cons → Adz, not_mem_nil → Aeu, length_take → Ac8, length_replicate → Ac7, mem_cons_self → AdM, take_length → Ad6, length → AgQ, mem_cons_of_mem → AdO, length_nil → Adp, length_filter_le → AeE, length_append → AcQ, perm_ext_iff_of_nodup → Ae3, mem_map_of_mem → AfK, length_cons → Adh, length_filterMap_le → AfE, filter_sublist → AiJ, pairwise_append → Aee, takeWhile_sublist → Af1, pairwise_cons → AdZ, dropWhile_sublist → Af2, takeWhile_append_dropWhile → AfM, mem_filter → Aes, getElem?_set_self → Af0, getElem?_append_right → AdB, ext_getElem → AgT, getElem_set → AhQ, set_append_right → Aeg, getElem?_append_left → AdF, nodup_cons → AeQ, nodup_append → AeY, findSome?_cons → Ahe, flatMap_cons → AdJ, range → AdN, getElem?_eq_some_iff → Adc, drop_drop → Ahh, take_append_drop → Afb, all_eq_true → Adv, all_append → Ah5, all_cons → Ahs, all_nil → AiZ, append_nil → AeA, getElem_mem → Ad9, drop_of_length_le → AdR, mem_filterMap → AeI
open _root_.Go.Proofs.Tryz renaming prog → AcM, underlying181 → Ahq
open _root_.Exists renaming elim → Aeo
open _root_.Go.Value renaming slice → AcU, int → AeJ, ownBlock → AcT, okWide → Ai3
open _root_.Nat renaming zero_le → Adm, le_refl → AcP, mod_lt → Aiv, not_lt_zero → Aet, le_trans → AcN, min_le_left → Ags, le_of_ble_eq_true → Ac2, lt_of_le_of_lt → AfW, sub_self → Aez, zero_add → Ad4, add_mul → AeV, div_lt_of_lt_mul → Aiq, mul_comm → Agz, le_of_eq → AiW
open _root_.And renaming intro → Adr
open _root_.Decidable renaming byContradiction → AhG, not_not → Afu
open _root_.Option renaming getD_some → AdI, map_eq_some_iff → Afi, isNone_iff_eq_none → AhF, bind_some → Ae4
open _root_.Go.Instr renaming buildSlice → Adt, build → AeH
open _root_.Go.Lib renaming byteCells → AcL, byteCells_length → AcZ
open _root_.Option.some renaming inj → Adu
open _root_.Prod renaming fst → Adk
open _root_.List.Pairwise renaming nil → AeN, of_map → Afx, map → AgM, sublist → Aik
open _root_.Go.Addr renaming add → AeO
open _root_.Go.World renaming cell? → Afc
open _root_.Array renaming getElem?_eq_some_iff → Ade
open _root_.Go.Builtin renaming len_ → AhM
open _root_.Go.MapKept renaming run_getObj_map → Ad5
open _root_.Go.Op renaming bytesLess → Ad2
open _root_.Bool renaming and_eq_true_iff → Ag7, or_eq_false_iff → Aix
open _root_.Go.DataW renaming trod → Aim
open _root_.Go.IntKind renaming min → Aia, max → Aib, signed → AeK, bits → Ad0
open Go.RowKit
set_option maxRecDepth 100000
theorem Yw{s:EA}(h:(decide (1024≤s.depths.length)||decide (131072≤s.total))=true):⟨s.at_+1,0,[],s.packs,s.bases⟩=turnPk s:=(if_pos h).symm
theorem Yx{s:EA}(h:(decide (1024≤s.depths.length)||decide (131072≤s.total))=false):s=turnPk s:=(if_neg (by unfold Lg;rw[h];decide)).symm
theorem XG{s:EA}{b:Int}{n:Nat}(h:b=((n:Nat):Int)):LN s b=s.depths.getD (n) 0+1:=by
 subst h;exact if_pos (AfU _)
theorem XH(t:AcR)(x:Int)(m:Nat)(y:Int)(hy:y=Ae7 x ((m+1:Nat):Int)+m+1):Adq .rem t (.int .i64 y) (NI (m+1))=pure (.int .i64 (Aft x ((m+1:Nat):Int))):=by
 have h:=Ti t y ((m+1:Nat):Int) (by omega);rw[hy,Tq]at h;rw[hy];exact h
theorem XI(x:Int)(m:Nat):0≤Aft x ((m+1:Nat):Int)∧Aft x ((m+1:Nat):Int)≤m:=by
 have h1:0≤Aft x ((m+1:Nat):Int):=Int.emod_nonneg _ (by omega);have h2:Aft x ((m+1:Nat):Int)<((m+1:Nat):Int):=Int.emod_lt_of_pos _ (by omega);omega
theorem AcD{P:Adg}{K:AcJ→AcK→Prop}{ρ:Ad}{w:AcK}{d:Option Tmp}{ty:AcR}{pos:String}{af:Array AdL}{gd:Option (Nat × Bool)}{t1 t2:AcR}{x y:AcW}{n m:Nat}(hx:Aa ρ x=NI n)(hy:Aa ρ y=NI m)(hk:K (NI (min n m)) w):Yk P K ((execOp (Aa ρ) ⟨d, .call ⟨.builtin .min,#[x,y],#[t1,t2]⟩,ty,pos,af,gd⟩).run P w):=by
 refine Yk.value (v:=NI (min n m)) (w' :=w) ?_ hk;have he:(if((m:Nat):Int)<((n:Nat):Int)then((m:Nat):Int)else((n:Nat):Int))=((min n m:Nat):Int):=by split <;> omega
 have hr:=run_min_int2 (P:=P) w #[t1,t2] ty .i64 .i64 n m;rw[he]at hr;unfold execOp;simp only[resolve,invoke,builtin,Ac1,Ac3,AcV,Ads,Ado,AdA,hx,hy,hr]
theorem va5_ig3:∃z,(Tryz.prog.info? 3).map (fun i=>(i.zero,i.size,i.bytes))=some (some z,1,8)∧z.cells.size=1:=Fl (by kernel_rfl)
set_option maxHeartbeats 1600000
theorem Vx(w:AcK)(vz vc:AcJ)(sz ch:List Int)(hz:RG 1 BV w vz sz)(hc:RG 1 BV w vc ch)(hzl:sz.length≤100000)(hcl:ch.length≤1099511627776):
  Calls AcM 9 #[vz,vc] w fun e w' =>∃va vb,e = .returned (.tuple #[va,vb])∧OG w.heap.size 3 1 BV w' va (planGo ch sz sz.length).packs∧OG w.heap.size 3 1 BV w' vb (planGo ch sz sz.length).bases∧Ext w w' :=by
 refine PB (args:= [vz,vc]) Tryz.func9 rfl 83 rfl rfl ?_;have hE:=Ext.refl w;have hw_:=hE.size;refine Aeo (⟨_,rfl⟩:∃v:AcJ,(AcU none 0 0)=v) fun nv4 hnv4=> ?_;have hrow4:OG w.heap.size 3 1 BV w nv4 ([]:List Int):=hnv4▸OG.nil _ _ _ _ _;refine Aeo (⟨_,rfl⟩:∃v:AcJ,(AcU none 0 0)=v) fun nv5 hnv5=> ?_;have hrow5:OG w.heap.size 3 1 BV w nv5 ([]:List Int):=hnv5▸OG.nil _ _ _ _ _;have a9:Ai nv5 nv4:=fun k h=>by rw[←hnv5]at h;cases h
 have ba:Ai nv4 nv5:=fun k _ h=>by rw[←hnv5]at h;cases h
 refine Aeo (⟨_,rfl⟩:∃v:AcJ,(AcU none 0 0)=v) fun nv8 hnv8=> ?_;have hrow8:OG w.heap.size 3 1 BV w nv8 ([]:List Int):=hnv8▸OG.nil _ _ _ _ _;have bc:Ai nv8 nv4:=fun k h=>by rw[←hnv8]at h;cases h
 have bd:Ai nv4 nv8:=fun k _ h=>by rw[←hnv8]at h;cases h
 have be:Ai nv8 nv5:=fun k h=>by rw[←hnv8]at h;cases h
 have bf:Ai nv5 nv8:=fun k _ h=>by rw[←hnv8]at h;cases h
 refine gS (ZI L9 (ZC (hz.keep hE) rfl) (gL (fun(ρ:Ad) (wz:AcK)=>∃i:Nat,∃s:EA,∃r4:AcJ,∃r5:AcJ,∃r8:AcJ,ρ 0=(vz:AcJ)∧ρ 1=(vc:AcJ)∧ρ 15=(vz:AcJ)∧ρ 16=(NI sz.length:AcJ)∧ρ 17=(NI i:AcJ)∧ρ 6=(NI s.at_:AcJ)∧ρ 7=(NI s.total:AcJ)∧ρ 4=(r4:AcJ)∧ρ 5=(r5:AcJ)∧ρ 8=(r8:AcJ)∧Ext w wz∧OG w.heap.size 3 1 (BV) wz r4 (s.packs)∧OG w.heap.size 3 1 (BV) wz r5 (s.bases)∧OG w.heap.size 3 1 (BV) wz r8 (s.depths)∧(i≤sz.length)∧(s=planGo ch sz i)∧(Ai r4 r5)∧(Ai r4 r8)∧(Ai r5 r4)∧(Ai r5 r8)∧(Ai r8 r4)∧(Ai r8 r5)∧True) (fun ρ _=>sz.length-(intOf (ρ 17)).toNat) ⟨0,(planGo ch sz 0),nv4,nv5,nv8,rfl,rfl,rfl,rfl,rfl,rfl,rfl,((show _=(AcU none 0 0)from rfl).trans hnv4),((show _=(AcU none 0 0)from rfl).trans hnv5),((show _=(AcU none 0 0)from rfl).trans hnv8),hE,Bc hrow4 (rfl),Bc hrow5 (rfl),Bc hrow8 (rfl),Adm _,rfl,ba,bd,a9,bf,bc,be,trivial⟩ ?_));clear hrow4;clear hrow5;clear hrow8;clear hE;rintro bg bh ⟨i,s,r4,r5,r8,t,g,p,q,f,r,x,l,o,j,hE,hr_r4,hr_r5,hr_r8,hil,hs,hap_r4_r5,hap_r4_r8,hap_r5_r4,hap_r5_r8,hap_r8_r4,hap_r8_r5,-⟩;have q17:=f;refine gS (Zv (a:=(i:Nat)) (b:=(sz.length:Nat)) f q (AI _ _ _ _) ?_);refine cD rfl (fun aq=> ?_) fun aq=> ?_
 ·have hlt:i<sz.length:=aq;have hok:=Ex ch sz i;rw[←hs]at hok;have bi:=hok.lp;have bj:=hok.lb;have b8:=hok.ld;have b9:=hok.at_;have ca:=hok.tot;have cb:(BV (sz.getD (i) (0:Int))).length=1:=(RG.elem (hz.keep hE) (0:Int) (hlt));refine gS (ZO L9 Hg (by decide) (0:Int) (ZC (hz.keep hE) p) f (hlt) fun cc av=>(gS (ZL Uo rfl (PR.cell (ZT av rfl) rfl) ?_)));clear av;refine gJ (fun ρ wz=>∃x8:AcJ,∃s1:EA,ρ 0=(vz:AcJ)∧ρ 1=(vc:AcJ)∧ρ 4=(r4:AcJ)∧ρ 5=(r5:AcJ)∧ρ 9=(NI i:AcJ)∧ρ 10=(.int .i64 (sz.getD (i) (0:Int):Int):AcJ)∧ρ 15=(vz:AcJ)∧ρ 16=(NI sz.length:AcJ)∧ρ 17=(NI i:AcJ)∧ρ 8=(x8:AcJ)∧ρ 6=(NI s1.at_:AcJ)∧ρ 7=(NI s1.total:AcJ)∧Ext w wz∧OG w.heap.size 3 1 (BV) wz r4 (s.packs)∧OG w.heap.size 3 1 (BV) wz r5 (s.bases)∧OG w.heap.size 3 1 BV wz x8 s1.depths∧(s1=turnPk s)∧(Ai x8 r4)∧(Ai x8 r5)∧(Ai r4 x8)∧(Ai r5 x8)∧True) 1 rfl ?_ fun hJK21=> ?_
  ·clear hE hr_r4 hr_r5;rintro cd ce ⟨x8,s1,t,g,l,o,T9,ab,p,q,f,j,r,x,hE,hr_r4,hr_r5,c,aw,ha84,ha85,ha48,ha58,-⟩;have hok1:=Mv hok;rw[←aw]at hok1;have hj1:=hok1.2.1;have hj2:=hok1.2.2.1;have hj3:s1.at_≤i+1:=hok1.1.at_;have hj4:s1.packs=s.packs:=hok1.2.2.2.1;have hj5:s1.bases=s.bases:=hok1.2.2.2.2;have hj7:s1.packs.length=i:=by rw[hj4];exact bi
   have hj8:s1.bases.length=i:=by rw[hj5];exact bj
   have hj6:∀d∈s1.depths,0≤d∧d≤50:=hok1.1.dp;refine gS (ZI L9 (ZC (ZG c) j) ?_);refine gJ (fun ρ wz=>∃bz:Int,ρ 0=(vz:AcJ)∧ρ 1=(vc:AcJ)∧ρ 4=(r4:AcJ)∧ρ 5=(r5:AcJ)∧ρ 6=(NI s1.at_:AcJ)∧ρ 7=(NI s1.total:AcJ)∧ρ 8=(x8:AcJ)∧ρ 9=(NI i:AcJ)∧ρ 10=(.int .i64 (sz.getD (i) (0:Int):Int):AcJ)∧ρ 11=(NI ((s1.depths).length):AcJ)∧ρ 15=(vz:AcJ)∧ρ 16=(NI sz.length:AcJ)∧ρ 17=(NI i:AcJ)∧ρ 12=(.int .i64 (bz:Int):AcJ)∧Ext w wz∧OG w.heap.size 3 1 (BV) wz r4 (s.packs)∧OG w.heap.size 3 1 (BV) wz r5 (s.bases)∧OG w.heap.size 3 1 BV wz x8 s1.depths∧(F6 ch i s1.depths.length=bz)∧True) 1 rfl ?_ fun hJK27=> ?_
   ·clear hE hr_r4 hr_r5 c;rintro cf cg ⟨bz,t,g,l,o,r,x,j,T9,ab,ai,p,q,f,ad,hE,hr_r4,hr_r5,c,hbz,-⟩;have hbl:=Kk ch i s1.depths.length;rw[hbz]at hbl;refine gJ (fun ρ wz=>∃d0:Int,ρ 0=(vz:AcJ)∧ρ 1=(vc:AcJ)∧ρ 4=(r4:AcJ)∧ρ 5=(r5:AcJ)∧ρ 6=(NI s1.at_:AcJ)∧ρ 7=(NI s1.total:AcJ)∧ρ 8=(x8:AcJ)∧ρ 9=(NI i:AcJ)∧ρ 10=(.int .i64 (sz.getD (i) (0:Int):Int):AcJ)∧ρ 11=(NI ((s1.depths).length):AcJ)∧ρ 12=(.int .i64 (bz:Int):AcJ)∧ρ 15=(vz:AcJ)∧ρ 16=(NI sz.length:AcJ)∧ρ 17=(NI i:AcJ)∧ρ 14=(.int .i64 (d0:Int):AcJ)∧Ext w wz∧OG w.heap.size 3 1 (BV) wz r4 (s.packs)∧OG w.heap.size 3 1 (BV) wz r5 (s.bases)∧OG w.heap.size 3 1 BV wz x8 s1.depths∧(LN s1 bz=d0)∧True) 1 rfl ?_ fun hJK32=> ?_
    ·clear hE hr_r4 hr_r5 c;rintro ci cj ⟨d0,t,g,l,o,r,x,j,T9,ab,ai,ad,p,q,f,am,hE,hr_r4,hr_r5,c,hd0,-⟩;refine gJ (fun ρ wz=>∃bb:Int,∃dd:Int,ρ 0=(vz:AcJ)∧ρ 1=(vc:AcJ)∧ρ 4=(r4:AcJ)∧ρ 5=(r5:AcJ)∧ρ 6=(NI s1.at_:AcJ)∧ρ 7=(NI s1.total:AcJ)∧ρ 8=(x8:AcJ)∧ρ 9=(NI i:AcJ)∧ρ 10=(.int .i64 (sz.getD (i) (0:Int):Int):AcJ)∧ρ 11=(NI ((s1.depths).length):AcJ)∧ρ 15=(vz:AcJ)∧ρ 16=(NI sz.length:AcJ)∧ρ 17=(NI i:AcJ)∧ρ 12=(.int .i64 (bb:Int):AcJ)∧ρ 14=(.int .i64 (dd:Int):AcJ)∧Ext w wz∧OG w.heap.size 3 1 (BV) wz r4 (s.packs)∧OG w.heap.size 3 1 (BV) wz r5 (s.bases)∧OG w.heap.size 3 1 BV wz x8 s1.depths∧(Dw ch i (sz.getD i 0) s1=⟨s1.at_,s1.total+Gy (sz.getD i 0),s1.depths++ [dd],s1.packs++ [(s1.at_:Int)],s1.bases++ [bb]⟩)∧True) 1 rfl ?_ fun hJK36=> ?_
     ·clear hE hr_r4 hr_r5 c;rintro ck cl ⟨bb,dd,t,g,l,o,r,x,j,T9,ab,ai,p,q,f,ad,am,hE,hr_r4,hr_r5,c,hst,-⟩;refine gS (ZZ (a:=s1.at_) (enc:=BV) r rfl (fun w=>QD _ w) fun bk bm ax an=> ?_);have hE:=hE.trans an;have hr_r4:=hr_r4.keep an;refine gS (ZM _ _ w.heap.size _ 8 L9 va5_ig3.choose_spec.1 va5_ig3.choose_spec.2 L9 (s.packs) ([s1.at_]) (OG.of hr_r4 l) (ZC ax (vr bk rfl)) (fun y hy u hu=>by rw[AcY.1 hu];rfl) (by simp only[Ac9];omega) (by simp only[Ac9];omega) hE.size fun ac bo z af=> ?_);have af:Grew bm bo r4 ac:= .eqv l af;have hr_r5:=hr_r5.keep an;have bp:Ai ac r5:=AK af hap_r4_r5 hr_r5.2;have ay:Ai r5 ac:=fun k h1 h2=>bp k h2 h1;have c:=c.keep an;have bq:Ai ac x8:=AK af ha48 c.2;have az:Ai x8 ac:=fun k h1 h2=>bq k h2 h1;have hE:=Aq hE af hr_r4.2 (AcP _);have hr_r5:=Bg hr_r5 af hap_r4_r5;have c:=Bg c af ha48;clear ax;clear hr_r4;refine gS (ZZ (a:=bb) (enc:=BV) ad rfl (fun w=>QD _ w) fun br bs a0 ao=> ?_);have hE:=hE.trans ao;have hr_r5:=hr_r5.keep ao;refine gS (ZM _ _ w.heap.size _ 8 L9 va5_ig3.choose_spec.1 va5_ig3.choose_spec.2 L9 (s.bases) ([bb]) (OG.of hr_r5 o) (ZC a0 (vr br rfl)) (fun y hy u hu=>by rw[AcY.1 hu];rfl) (by simp only[Ac9];omega) (by simp only[Ac9];omega) hE.size fun ae bt aj ag=> ?_);have ag:Grew bs bt r5 ae:= .eqv o ag;have c:=c.keep ao;have bu:Ai ae x8:=AK ag ha58 c.2;have a1:Ai x8 ae:=fun k h1 h2=>bu k h2 h1;have z:=z.keep ao;have a2:Ai ae ac:=AK ag ay z.2;have bv:Ai ac ae:=fun k h1 h2=>a2 k h2 h1;have hE:=Aq hE ag hr_r5.2 (AcP _);have c:=Bg c ag ha58;have z:=Bg z ag ay;clear a0;clear hr_r5;refine gS (ZZ (a:=dd) (enc:=BV) am rfl (fun w=>QD _ w) fun bw bx a3 ap=> ?_);have hE:=hE.trans ap;have c:=c.keep ap;refine gS (ZM _ _ w.heap.size _ 8 L9 va5_ig3.choose_spec.1 va5_ig3.choose_spec.2 L9 (s1.depths) ([dd]) (OG.of c j) (ZC a3 (vr bw rfl)) (fun y hy u hu=>by rw[AcY.1 hu];rfl) (by simp only[Ac9];omega) (by simp only[Ac9];omega) hE.size fun ak b0 b1 ah=> ?_);have ah:Grew bx b0 x8 ak:= .eqv j ah;have z:=z.keep ap;have a4:Ai ak ac:=AK ah az z.2;have b2:Ai ac ak:=fun k h1 h2=>a4 k h2 h1;have aj:=aj.keep ap;have a5:Ai ak ae:=AK ah a1 aj.2;have b3:Ai ae ak:=fun k h1 h2=>a5 k h2 h1;have hE:=Aq hE ah c.2 (AcP _);have z:=Bg z ah az;have aj:=Bg aj ah a1;clear a3;clear c;refine gS (AcA ab rfl (gS (AcD (n:=(sz.getD i 0).toNat) (m:=131072) rfl rfl (gS (Zw (xv:=NI s1.total) (yv:=NI (Gy (sz.getD i 0))) x rfl rfl (Ag _ _ _ (by have:=PX (sz.getD i 0);omega)) (gS (Zw (xv:=NI i) (yv:=NI 1) f rfl rfl (Ag _ _ _ (by omega)) (gK (Adr ⟨i+1,⟨s1.at_,s1.total+Gy (sz.getD i 0),s1.depths++ [dd],s1.packs++ [(s1.at_:Int)],s1.bases++ [bb]⟩,ac,ae,ak,t,g,p,q,rfl,r,rfl,rfl,rfl,rfl,hE,Bc z ((congrArg (· ++ [(s1.at_:Int)]) hj4.symm)),Bc aj ((congrArg (· ++ [bb]) hj5.symm)),Bc b1 (rfl),by omega,by rw[I1,←hs,←aw,hst],bv,b2,a2,b3,a4,a5,trivial⟩ ?_)))))))));show sz.length-(intOf (NI ((i)+(1)))).toNat<sz.length-(intOf (bg 17)).toNat;rw[q17];simp only[intOf,Ac0];omega
     refine gS (Zv am rfl (Qk _ .i64 (d0:Int) ((50:Nat):Int)) ?_);refine cD rfl (fun a6=> ?_) fun a6=> ?_
     ·exact hJK36 _ _ ⟨-1,((0:Nat):Int),t,g,l,o,r,x,j,T9,ab,ai,p,q,f,rfl,rfl,hE,hr_r4,hr_r5,c,Vf hbz hd0 a6,trivial⟩
     exact hJK36 _ _ ⟨bz,d0,t,g,l,o,r,x,j,T9,ab,ai,p,q,f,ad,am,hE,hr_r4,hr_r5,c,Ru hbz hd0 (by omega),trivial⟩
    refine gS (Zv ad rfl (M8 _ .i64 (bz:Int) ((0:Nat):Int)) ?_);refine cD rfl (fun ar=> ?_) fun ar=> ?_
    ·refine Aeo (Int.eq_ofNat_of_zero_le ar) fun bn hbn=> ?_;have hbl2:bn<s1.depths.length:=by omega
     have hnn:=PY hj6 bn;have cm:(BV ((s1.depths).getD (bn) (0:Int))).length=1:=(RG.elem (ZG c) (0:Int) (hbl2));refine gS (ZO L9 Hg (by decide) (0:Int) (ZC (ZG c) j) (vr (NI bn) (ad.trans (congrArg (AeJ .i64) hbn))) (hbl2) fun cn a7=>(gS (ZL Uo rfl (PR.cell (ZT a7 rfl) rfl) (gS (Zw (xv:= .int .i64 ((s1.depths).getD (bn) (0:Int))) (yv:= .int .i64 (((1:Nat):Int))) rfl rfl rfl (Oc _ ((s1.depths).getD (bn) (0:Int)) (((1:Nat):Int)) (by omega)) ?_)))));clear a7;exact hJK32 _ _ ⟨(((s1.depths).getD (bn) (0:Int))+(((1:Nat):Int))),t,g,l,o,r,x,j,T9,ab,ai,ad,p,q,f,rfl,hE,hr_r4,hr_r5,c,XG hbn,trivial⟩
    exact hJK32 _ _ ⟨((0:Nat):Int),t,g,l,o,r,x,j,T9,ab,ai,ad,p,q,f,rfl,hE,hr_r4,hr_r5,c,if_neg ar,trivial⟩
   refine gS (ZI L9 (ZC (hc.keep hE) g) (gS (Zv (a:=(ch.length:Nat)) (b:=(0:Nat)) rfl rfl (Bh _ _ _ _) ?_)));refine cD rfl (fun al=> ?_) fun al=> ?_
   ·have hbd:=Xc (ch.getD ((i)%(ch.length)) 0) s1.depths.length;have hbe:=XI (ch.getD ((i)%(ch.length)) 0) s1.depths.length;refine gS (ZI L9 (ZC (hc.keep hE) g) (gS (Zw (xv:=NI i) (yv:=NI ch.length) T9 rfl rfl (Hb _ _ _ (by omega)) ?_)));have co:(BV (ch.getD ((i)%(ch.length)) (0:Int))).length=1:=(RG.elem (hc.keep hE) (0:Int) (Aiv _ al));refine gS (ZO L9 Hg (by decide) (0:Int) (ZC (hc.keep hE) g) rfl (Aiv _ al) fun cp a8=>(gS (ZL Uo rfl (PR.cell (ZT a8 rfl) rfl) (gS (Zw (xv:=NI ((s1.depths).length)) (yv:=NI 1) rfl rfl rfl (Ag _ _ _ (by omega)) (gS (Zw (xv:= .int .i64 (ch.getD ((i)%(ch.length)) (0:Int))) (yv:=NI (((s1.depths).length)+(1))) rfl rfl rfl (Ti _ (ch.getD ((i)%(ch.length)) (0:Int)) _ (by omega)) ?_)))))));clear a8;refine gS (Zw (xv:= .int .i64 ((Ae7 (ch.getD ((i)%(ch.length)) 0) ((s1.depths.length+1:Nat):Int)))) (yv:= .int .i64 ((((s1.depths).length:Nat):Int))) rfl rfl rfl (Oc _ ((Ae7 (ch.getD ((i)%(ch.length)) 0) ((s1.depths.length+1:Nat):Int))) ((((s1.depths).length:Nat):Int)) (by omega)) (gS (Zw (xv:= .int .i64 ((((Ae7 (ch.getD ((i)%(ch.length)) 0) ((s1.depths.length+1:Nat):Int)))+((((s1.depths).length:Nat):Int))))) (yv:= .int .i64 (((1:Nat):Int))) rfl rfl rfl (Oc _ ((((Ae7 (ch.getD ((i)%(ch.length)) 0) ((s1.depths.length+1:Nat):Int)))+((((s1.depths).length:Nat):Int)))) (((1:Nat):Int)) (by omega)) (gS (Zw (xv:=NI ((s1.depths).length)) (yv:=NI 1) rfl rfl rfl (Ag _ _ _ (by omega)) (gS (Zw (xv:= .int .i64 ((((((Ae7 (ch.getD ((i)%(ch.length)) 0) ((s1.depths.length+1:Nat):Int)))+((((s1.depths).length:Nat):Int))))+(((1:Nat):Int))))) (yv:=NI (((s1.depths).length)+(1))) rfl rfl rfl (XH _ (ch.getD ((i)%(ch.length)) 0) (s1.depths.length) _ rfl) (gS (Zw (xv:= .int .i64 ((Aft (ch.getD ((i)%(ch.length)) 0) ((s1.depths.length+1:Nat):Int)))) (yv:= .int .i64 (((1:Nat):Int))) rfl rfl rfl (Od _ ((Aft (ch.getD ((i)%(ch.length)) 0) ((s1.depths.length+1:Nat):Int))) (((1:Nat):Int)) (by omega)) ?_)))))))));exact hJK27 _ _ ⟨(((Aft (ch.getD ((i)%(ch.length)) 0) ((s1.depths.length+1:Nat):Int)))-(((1:Nat):Int))),t,g,l,o,r,x,j,T9,ab,rfl,p,q,f,rfl,hE,hr_r4,hr_r5,c,if_pos al,trivial⟩
   exact hJK27 _ _ ⟨-1,t,g,l,o,r,x,j,T9,ab,rfl,p,q,f,rfl,hE,hr_r4,hr_r5,c,if_neg al,trivial⟩
  refine gS (ZI L9 (ZC (ZG hr_r8) j) (gS (Zv (a:=((s.depths).length:Nat)) (b:=(1024:Nat)) rfl rfl (EM _ _ _ _) (gO fun _=>BB (NI s.total) rfl rfl (gF rfl) (fun hG89=>Yk.move x ⟨rfl,rfl⟩) (EF (gO fun _=>BB (.bool (decide ((131072)≤(s.total)))) rfl rfl (gF rfl) (fun hG90=>Zv (a:=((s.total:Nat):Int)) (b:=((131072:Nat):Int)) (DG rfl hG90) rfl (EM _ .i64 (s.total) (131072)) ⟨rfl,rfl⟩) (EF (gS (Aax rfl rfl (fun hA=>(DG rfl (KE hA))) fun bb91 hbb92=> ?_)))))))));refine cB (bb91) rfl (fun au=> ?_) fun au=> ?_
  ·subst hbb92;refine gS (Zw (xv:=NI s.at_) (yv:=NI 1) r rfl rfl (Ag _ _ _ (by omega)) (Aeo (⟨_,rfl⟩:∃v:AcJ,(AcU none 0 0)=v) fun nx8 hnx8=> ?_));have hx8n:OG w.heap.size 3 1 BV bh nx8 ([]:List Int):=hnx8▸OG.nil _ _ _ _ _;have b4:Ai nx8 r4:=fun k h=>by rw[←hnx8]at h;cases h
   have b5:Ai r4 nx8:=fun k _ h=>by rw[←hnx8]at h;cases h
   have b6:Ai nx8 r5:=fun k h=>by rw[←hnx8]at h;cases h
   have b7:Ai r5 nx8:=fun k _ h=>by rw[←hnx8]at h;cases h
   exact hJK21 _ _ ⟨nx8,⟨s.at_+1,0,[],s.packs,s.bases⟩,t,g,l,o,f,rfl,p,q,f,((show _=(AcU none 0 0)from rfl).trans hnx8),rfl,rfl,hE,hr_r4,hr_r5,hx8n,Yw au,b4,b6,b5,b7,trivial⟩
  subst hbb92;exact hJK21 _ _ ⟨r8,s,t,g,l,o,f,rfl,p,q,f,j,r,x,hE,hr_r4,hr_r5,hr_r8,Yx au,hap_r8_r4,hap_r8_r5,hap_r4_r8,hap_r5_r8,trivial⟩
 refine BF rfl l o ?_;have hie:i=sz.length:=by have h:=aq;omega
 rw[hie]at hs;exact⟨_,_,rfl,hs▸hr_r4,hs▸hr_r5,hE⟩
structure AllN (n : Nat) (w : AcK) (us : List AcJ) (bs : List Bs) : Prop where
 len:us.length=bs.length
 rb:∀i,i<bs.length→RB w (us.getD i undef) (bs.getD i [])
 new:∀i,i<bs.length→NewI n w (us.getD i undef)
theorem AllN.keep{n:Nat}{w w' :AcK}{us:List AcJ}{bs:List Bs}(h:AllN n w us bs)(k:Ext w w'):AllN n w' us bs:=⟨h.len,fun i hi=>(h.rb i hi).keep k,fun i hi=>(h.new i hi).keep k⟩
theorem AllN.nil(n:Nat)(w:AcK):AllN n w [] []:=⟨rfl,fun i hi=>absurd hi (Aet _),fun i hi=>absurd hi (Aet _)⟩
section
variable {D : Ae} {L : AN} {ids : List Bs} {i : Nat}
theorem Ia{α:Type}{l:List α}{i:Nat}(d:α)(h:i<l.length):l.take (i+1)=l.take i++ [l.getD i d]:=by
 rw[Adi h,AcO,AcS h];rfl
theorem ML(h:i<ids.length):By D L (ids.take i)++ [(getV D L (ids.getD (i) ([]:List UInt8))).1]=By D L (ids.take (i+1)):=by
 unfold By;rw[Ia ([]:List UInt8) h,Aei];rfl
theorem Vy(h:i<ids.length):szV D L (ids.take i)++ [(((getV D L (ids.getD (i) ([]:List UInt8))).1.length:Nat):Int)]=szV D L (ids.take (i+1)):=by
 unfold szV;rw[←ML h,Aei];rfl
theorem Dx(D:Ae)(L:AN)(ids:List Bs):(By D L ids).length=ids.length:=Ada ..
theorem Gd(D:Ae)(L:AN)(ids:List Bs):(szV D L ids).length=ids.length:=by unfold szV;rw[Ada,Dx]
theorem Vz(D:Ae)(L:AN):¬D9 D L (ids.take 0):=fun⟨id,h,_⟩=>by simp at h
theorem XJ(h:i<ids.length)(hn:¬D9 D L (ids.take i))(hc:¬(getV D L (ids.getD (i) ([]:List UInt8))).2≠0):¬D9 D L (ids.take (i+1)):=fun⟨id,h1,h2⟩=>by
 rw[Ia ([]:List UInt8) h]at h1;rcases Adf.1 h1 with h1 | h1
 ·exact hn ⟨id,h1,h2⟩
 ·rw[AcY.1 h1]at h2;exact hc h2
theorem miss_yes(h:i<ids.length)(hc:(getV D L (ids.getD (i) ([]:List UInt8))).2≠0):D9 D L ids:=⟨_,getD_mem _ h,hc⟩
theorem TM(hs:∀id∈ids,(getV D L id).2=0→(getV D L id).1.length≤200)(hn:¬D9 D L ids):∀z∈szV D L ids,0≤z∧z≤200:=fun z hz=>by
 unfold szV By at hz;rw[AfD]at hz;obtain⟨id,hid,rfl⟩:=Adx.1 hz;have h0:(getV D L id).2=0:=AhG fun q=>hn ⟨id,hid,q⟩;have:=hs id hid h0;show(0:Int)≤(((getV D L id).1.length:Nat):Int)∧(((getV D L id).1.length:Nat):Int)≤200;omega
end
theorem XK{w w' :AcK}{v v' x:AcJ}{m:List UInt8}(h:RB w x m)(gr:Grew w w' v v')(ha:Ai v x):RB w' x m:=HP h (fun k hk e=>ha k e hk) gr
theorem Y3{l:List Int}(h:∀p∈l,p=0)(i j:Nat):l.getD i 0=l.getD j 0:=by
 have k:∀i,l.getD i 0=0:=fun i=>by
  rw[AcO];cases e:l[i]? with
  | none=>rfl
  | some x=>exact h x (AdX e)
 rw[k,k]
theorem XL{l:List Int}(h:∀b∈l,-1≤b∧b≤60)(i:Nat): -9223372036854775808≤l.getD (i) (0:Int)∧l.getD (i) (0:Int)≤9223372036854775807:=by
 rw[AcO];cases e:l[i]? with
 | none=>simp
 | some x=>have:=h x (AdX e);simp only[AdI];omega
section
variable {D : Ae} {L : AN} {ids : List Bs} {ch : List Int}
theorem Ga(hbl:(BK D L ids ch).bases.length=ids.length):(AR D L ids ch).length=ids.length:=by
 unfold AR;rw[Ada,List.length_zip,Dx,hbl,Nat.min_self]
theorem RL{qs:List Pt}{us:List AcJ}{j:Nat}(hbl:(BK D L ids ch).bases.length=ids.length)(hj:j<ids.length)(hq:qs.map EB=((AR D L ids ch).take j).map EB):(qs++ [(⟨us.getD (j) undef,(By D L ids).getD (j) ([]:List UInt8),(BK D L ids ch).bases.getD (j) (0:Int)⟩:Pt)]).map EB=((AR D L ids ch).take (j+1)).map EB:=by
 rw[Ia AC (by rw[Ga hbl];exact hj),Aei,Aei,hq];have h1:j<(By D L ids).length:=by rw[Dx];exact hj
 have h2:j<(BK D L ids ch).bases.length:=by rw[hbl];exact hj
 have e:(AR D L ids ch).getD j AC=⟨.slice none 0 0,(By D L ids).getD (j) ([]:List UInt8),(BK D L ids ch).bases.getD (j) (0:Int)⟩:=by
  unfold AR;rw[AcO,Aej,(Agu (z:=((By D L ids)[j],(BK D L ids ch).bases[j]))).2 ⟨AcS h1,AcS h2⟩,AcO,AcO,AcS h1,AcS h2];rfl
 rw[e];rfl
theorem I6(hbl:(BK D L ids ch).bases.length=ids.length)(hn:ids.length≤60)(hs:∀id∈ids,(getV D L id).2=0→(getV D L id).1.length≤200)(hm:¬D9 D L ids):Ct (AR D L ids ch):=by
 refine⟨by rw[Ga hbl];exact hn,fun p hp=> ?_⟩;unfold AR at hp;obtain⟨x,hx,rfl⟩:=Adx.1 hp;have h1:=(List.of_mem_zip hx).1;unfold By at h1;obtain⟨id,hid,h2⟩:=Adx.1 h1;show x.1.length≤200;rw[←h2];exact hs id hid (AhG fun q=>hm ⟨id,hid,q⟩)
theorem VA(hm:¬D9 D L ids)(hp:0<ids.length)(hc:(AZ (AR D L ids ch)).2≠0):AP D L ids ch=([],(AZ (AR D L ids ch)).2):=by
 unfold AP;rw[if_neg hm,if_neg (fun q=>by rw[q]at hp;cases hp),if_neg hc]
theorem TN{f:Nat}(hm:¬D9 D L ids)(hf:f=0∨(f=ids.length∧0<ids.length∧(AZ (AR D L ids ch)).2=0))(hfe:¬f<ids.length):AP D L ids ch=((if f=0 then []else [(AZ (AR D L ids ch)).1]),0):=by
 unfold AP;rw[if_neg hm];rcases hf with h | ⟨h1,h2,h3⟩
 ·have:ids= []:=Adw (by omega);rw[if_pos this,if_pos h]
 ·rw[if_neg (fun q=>by rw[q]at h2;cases h2),if_pos h3,if_neg (by omega)]
end
theorem VB{n:Nat}{w w0:AcK}{R:List AcJ}{v:AcJ}{b:Bs}(h:AllIn w R [v] [b])(hN:NewI n w0 v):AllN n w ([]++ [v]) [b]:=by
 refine⟨rfl,h.rb,fun i hi k hk=> ?_⟩;have h0:i=0:=by simp at hi;omega
 subst h0;exact⟨(hN k hk).1,h.lt 0 hi k hk⟩
theorem XM{w w2:AcK}{v a b:AcJ}{m1 m2 c f z1 z2:Nat}{g h:AcR}{xs ys:List AcJ}(hN:NewI w.heap.size w2 v)(ha:w.ownsRow m1 g z1 a c xs)(hb:w.ownsRow m2 h z2 b f ys):∀k,v.ownBlock=some k→∀u∈ [a,b],u.ownBlock≠some k:=fun k hk u hu e=>by
 have h1:=(hN k hk).1;simp only[Adz,Aeu,or_false]at hu;rcases hu with rfl | rfl
 ·have:=(ha.lt k e).2;omega
 ·have:=(hb.lt k e).2;omega
theorem Oz(ao:Option Addr)(n:Nat)(c:Nat)(w:AcK):(Adt 38 1 #[(0, .slice ao n c)]).run AcM w = .ok (.slice (some ⟨w.heap.size,0,none⟩) 1 1) (w.alloc (.cells #[.slice ao n c] 27)):=by kernel_rfl
theorem va7_ig27:∃z,(Tryz.prog.info? 27).map (fun i=>(i.zero,i.size,i.bytes))=some (some z,1,24)∧z.cells.size=1:=Fl (by kernel_rfl)
theorem XN:Plain AcM 9:=fun _ _=>by kernel_rfl
theorem XO{v:AcJ}(h:∃ao n c,v = .slice ao n c)(z:Int)(w:AcK):(AeH 156 #[(0,v),(1, .int .i64 z)]).run AcM w = .ok (.agg ([v, .int .i64 z]:List AcJ).toArray) w:=by obtain⟨_,_,_,rfl⟩:=h;kernel_rfl
theorem TO(c0 c1:AcJ)(w:AcK):(Adt 154 1 #[(0, .agg #[c0,c1])]).run AcM w = .ok (.slice (some ⟨w.heap.size,0,none⟩) 1 1) (w.alloc (.cells #[c0,c1] 156)):=by kernel_rfl
theorem TP:∀(cs:Array AcJ),cs.size=2→∀w:AcK,(Adt 154 1 #[(0, .agg cs)]).run AcM w = .ok (.slice (some ⟨w.heap.size,0,none⟩) 1 1) (w.alloc (.cells cs 156))
 | ⟨[c0,c1]⟩,_,w=>TO c0 c1 w
theorem va7_ig156:∃z,(Tryz.prog.info? 156).map (fun i=>(i.zero,i.size,i.bytes))=some (some z,2,32)∧z.cells.size=2:=Fl (by kernel_rfl)
theorem VC:Plain AcM 91:=fun _ _=>by kernel_rfl
theorem VD(wb w:AcK)(g:Nat)(H:Dk)(D:Ae)(hD:DkG wb w g H D)(hG:Laid wb)(hL:Df D)(n:Nat)(gv bm:Nat)(L:AN)(ptr:Bs→Nat)(hV:VtAt n (Cd H D) w gv g bm L ptr)(hgL:GoodL L)(hLn:L.length≤100000)(vi:AcJ)(ids:List Bs)(hid_:RG 32 AcL w vi ids)(hi32a:∀id∈ids,id.length=32)(bp:ids.length≤60)(hsmall:∀id∈ids,(getV D L id).2=0→(getV D L id).1.length≤200)(vc:AcJ)(ch:List Int)(hch:RG 1 BV w vc ch)(hchl:ch.length≤1099511627776):
  Calls AcM 49 #[PQ gv 0,vi,vc] w fun e w' =>∃v us,e = .returned (.tuple #[v,NI (AP D L ids ch).2])∧OG w.heap.size 27 1 Ez w' v us∧AllN w.heap.size w' us (AP D L ids ch).1∧Ext w w' :=by
 have hvb:=hV.blk;have hvm:=hV.map;have hpk:=hV.pk;have hsrt:=hV.sort;have hV0:=hV;refine gG (args:= [PQ gv 0,vi,vc]) Tryz.func49 rfl 100 rfl rfl ?_;have hE:=Ext.refl w;refine Aeo (⟨_,rfl⟩:∃v:AcJ,(AcU none 0 0)=v) fun nv8 hnv8=> ?_;have hrow8:OG w.heap.size 27 1 Ez w nv8 ([]:List AcJ):=hnv8▸OG.nil _ _ _ _ _;have cf:OB nv8 gv:=fun e_=>by rw[←hnv8]at e_;cases e_
 have cg:OB nv8 bm:=fun e_=>by rw[←hnv8]at e_;cases e_
 refine Aeo (⟨_,rfl⟩:∃v:AcJ,(AcU none 0 0)=v) fun nv9 hnv9=> ?_;have hrow9:OG w.heap.size 3 1 BV w nv9 ([]:List Int):=hnv9▸OG.nil _ _ _ _ _;have ci:Ai nv9 nv8:=fun k h=>by rw[←hnv9]at h;cases h
 have cj:Ai nv8 nv9:=fun k _ h=>by rw[←hnv9]at h;cases h
 have ck:OB nv9 gv:=fun e_=>by rw[←hnv9]at e_;cases e_
 have cl:OB nv9 bm:=fun e_=>by rw[←hnv9]at e_;cases e_
 refine gS (ZI NB (ZC (hid_.keep hE) rfl) (gL (fun(ρ:Ad) (wz:AcK)=>∃i:Nat,∃us:List AcJ,∃r8:AcJ,∃r9:AcJ,ρ 0=(PQ gv 0:AcJ)∧ρ 1=(vi:AcJ)∧ρ 2=(vc:AcJ)∧ρ 22=(vi:AcJ)∧ρ 23=(NI ids.length:AcJ)∧ρ 24=(NI i:AcJ)∧ρ 8=(r8:AcJ)∧ρ 9=(r9:AcJ)∧wz.heap[gv]? =some (.cells ([PQ g 0, .map (some bm)]).toArray 86 (0,0))∧MapF St pN Nm wz bm (pkG L ptr)∧Ext w wz∧AllIn wz [r8,r9] us (By D L (ids.take i))∧OG w.heap.size 27 1 (Ez) wz r8 (us)∧OG w.heap.size 3 1 (BV) wz r9 (szV D L (ids.take i))∧(i≤ids.length)∧(¬D9 D L (ids.take i))∧(OB r8 gv)∧(OB r8 bm)∧(Ai r8 r9)∧(Ai r9 r8)∧(OB r9 gv)∧(OB r9 bm)∧True) (fun ρ _=>ids.length-(intOf (ρ 24)).toNat) ⟨0,[],nv8,nv9,rfl,rfl,rfl,rfl,rfl,rfl,((show _=(AcU none 0 0)from rfl).trans hnv8),((show _=(AcU none 0 0)from rfl).trans hnv9),hvb,hvm,hE,AllIn.nil _ _,Bc hrow8 (rfl),Bc hrow9 (rfl),Adm _,Vz _ _,cf,cg,cj,ci,ck,cl,trivial⟩ ?_));clear hrow8;clear hrow9;clear hvb hvm hE;rintro cm aw ⟨i,us,r8,r9,T0,T1,T2,ao,ap,ac,r,T9,hvb,hvm,hE,hAl,hr_r8,hr_r9,hil,hnm,hap_r8_gv,hap_r8_bm,hap_r8_r9,hap_r9_r8,hap_r9_gv,hap_r9_bm,-⟩;have q24:=ac;refine gS (Zv (a:=(i:Nat)) (b:=(ids.length:Nat)) ac ap (AI _ _ _ _) ?_);refine cD rfl (fun bf=> ?_) fun bf=> ?_
 ·have hlt:i<ids.length:=bf;have hi32:(ids.getD (i) ([]:List UInt8)).length=32:=hi32a _ (getD_mem _ hlt);have hsl:(szV D L (ids.take i)).length=i:=by rw[Gd,Ac8];omega
  have hul:us.length=i:=by rw[hAl.len,Dx,Ac8];omega
  have a8:(AcL (ids.getD (i) ([]:List UInt8))).length=32:=(RG.elem (hid_.keep hE) ([]:List UInt8) (hlt));refine gS (ZO NB Sj (by decide) ([]:List UInt8) (ZC (hid_.keep hE) ao) ac (hlt) fun d6 bq=>(gS (ZS (ZT bq rfl) Wq rfl (by rw[a8];exact R4) (gS (Yk.alloc Ur fun a9 cn co br bs d7=> ?_)))));have aa:=Ext.refl aw;have d8:=hE.size;have d9:=As hvm.lt co;have cp:OB r8 a9:=A3 hr_r8.2 (by omega);have cq:OB r9 a9:=A3 hr_r9.2 (by omega);have q:=br;clear br;have ea:a9<cn.heap.size:=by omega
  refine gS (Zy (vr (PQ a9 0) rfl) (vr (AB (ids.getD (i) ([]:List UInt8))) rfl) q (by exact Bn (AD (a8)) Ac7) (by exact Ac (AD (a8))) (Af _) fun ec bt bu ed=> ?_);have hvm:=hvm.keep bs;have hvm:=MapF.other hvm bu (Ak (by omega));clear q;have q:=bt;clear bt;have ee:=bl q;clear bq;have aa:=aa.trans bs;have aa:=Ab aa bu (AcN (AcP _) (by omega));have hE:=hE.trans aa;refine gS (Zz rfl q Wq rfl (by exact Ac (AD (a8))) (gS (Zx Vu T0 rfl ((LQ wb _ g H D (hD.keep hE) hG hL n gv bm L ptr (hV0.keep hE) hgL hLn (ids.getD (i) ([]:List UInt8)) hi32).mono ?_))));rintro e ef ⟨ae,rfl,af,bv,bw⟩;refine⟨_,rfl,?_⟩;have hvb:=eb aa hvb;have hr_r8:=hr_r8.keep aa;have hr_r9:=hr_r9.keep aa;have hoff8:∀k,AcT ae=some k→∀u∈ [r8,r9],u.ownBlock≠some k:=XM bw hr_r8.2 hr_r9.2;have hap8v:Ai r8 ae:=fun k h1 h2=>hoff8 k h2 _ AdM h1;have hvn:=bw;refine gS (Yk.extract (vs:= [ae,NI ((getV D L (ids.getD (i) ([]:List UInt8))).2)]) rfl rfl (gS (Yk.extract (vs:= [ae,NI ((getV D L (ids.getD (i) ([]:List UInt8))).2)]) rfl rfl (gS (Zv (a:=((getV D L (ids.getD (i) ([]:List UInt8))).2:Nat)) (b:=(0:Nat)) rfl rfl (AY _ _ _ _) ?_)))));refine cD rfl (fun ba=> ?_) fun ba=> ?_
  ·refine BF rfl (vr (AcU none 0 0) rfl) (vr (NI 12) rfl) ?_;have hV:AP D L ids ch=([],12):=if_pos (miss_yes hlt ba);have hE:=hE.trans bv;exact⟨_,[],by rw[hV],OG.nil _ _ _ _ _,by rw[hV];exact AllN.nil _ _,hE⟩
  have hve:=RB.slice af;have hve1:=(RB.one af).2;have cr:(getV D L (ids.getD (i) ([]:List UInt8))).2=0:=Afu.1 ba;have hgb:=hsmall _ (getD_mem _ hlt) cr;refine gS (ZZ (a:=(ae)) (enc:=Ez) (vr ae rfl) rfl (fun w=>by obtain⟨_,_,_,rfl⟩:=hve;exact Oz _ _ _ w) fun cs ct bx bg=> ?_);have hZ1:=bv.trans bg;have aa:=aa.trans hZ1;have hvn:=hvn.keep bg;have af:=af.keep bg;have hAl:=Aa8 (hAl.keep aa) af (fun k hk=>⟨(hvn k hk).2,hoff8 k hk⟩);have hE:=hE.trans hZ1;have hr_r8:=hr_r8.keep hZ1;refine gS (ZM _ _ w.heap.size _ 24 Mg va7_ig27.choose_spec.1 va7_ig27.choose_spec.2 Mg (us) ([(ae)]) (OG.of hr_r8 r) (ZC bx (vr cs rfl)) (fun y hy u hu=>by rw[AcY.1 hu,AcY.1 hy];exact hve1) (by simp only[Ac9];omega) (by simp only[Ac9];omega) hE.size fun ag cu ax s=> ?_);have hAl_:=hAl;have s:Grew ct cu r8 ag:= .eqv r s;have hvb:=eb hZ1 hvb;have cv:OB ag gv:=An s hap_r8_gv (bl hvb);have hvm:=hvm.keep hZ1;have cw:OB ag bm:=An s hap_r8_bm hvm.lt;have hr_r9:=hr_r9.keep hZ1;have cx:Ai ag r9:=AK s hap_r8_r9 hr_r9.2;have bz:Ai r9 ag:=fun k h1 h2=>cx k h2 h1;have q:=eb hZ1 q;have hvb:=Ao hvb s hap_r8_gv;have hvm:=MapF.grew hvm s hap_r8_bm;have hE:=Aq hE s hr_r8.2 (AcP _);have hr_r9:=Bg hr_r9 s hap_r8_r9;have q:=Ao q s cp;clear hvn;have af:=XK af s hap8v;clear bx;clear hr_r8;have hAl:=AllIn.swap (AllIn.grew hAl_ s);clear hAl_;refine gS (ZF Gj (ZB af rfl) (gS (ZZ (a:=((getV D L (ids.getD (i) ([]:List UInt8))).1:List UInt8).length) (enc:=BV) (vr (NI (((getV D L (ids.getD (i) ([]:List UInt8))).1:List UInt8).length)) rfl) rfl (fun w=>QD _ w) fun cy b0 b1 au=> ?_)));have hAl:AllIn b0 [r9,ag] (us++ [ae]) (By D L (ids.take i)++ [(getV D L (ids.getD (i) ([]:List UInt8))).1]):=(hAl.keep au);have hAl:=hAl;have hE:=hE.trans au;have hr_r9:=hr_r9.keep au;refine gS (ZM _ _ w.heap.size _ 8 L9 va5_ig3.choose_spec.1 va5_ig3.choose_spec.2 L9 (szV D L (ids.take i)) ([((getV D L (ids.getD (i) ([]:List UInt8))).1:List UInt8).length]) (OG.of hr_r9 T9) (ZC b1 (vr cy rfl)) (fun y hy u hu=>by rw[AcY.1 hu];rfl) (by simp only[Ac9];omega) (by simp only[Ac9];omega) hE.size fun ay cz c0 ab=> ?_);have hAl_:=hAl;have ab:Grew b0 cz r9 ay:= .eqv T9 ab;have hvb:=eb au hvb;have c1:OB ay gv:=An ab hap_r9_gv (bl hvb);have hvm:=hvm.keep au;have c2:OB ay bm:=An ab hap_r9_bm hvm.lt;have q:=eb au q;have ax:=ax.keep au;have b2:Ai ay ag:=AK ab bz ax.2;have c3:Ai ag ay:=fun k h1 h2=>b2 k h2 h1;have hvb:=Ao hvb ab hap_r9_gv;have hvm:=MapF.grew hvm ab hap_r9_bm;have hE:=Aq hE ab hr_r9.2 (AcP _);have q:=Ao q ab cq;clear af;have ax:=Bg ax ab bz;clear b1;clear hr_r9;have hAl:=AllIn.swap (AllIn.grew hAl_ ab);clear hAl_;refine gS (Zw (xv:=NI i) (yv:=NI 1) ac rfl rfl (Ag _ _ _ (by omega)) (gK (Adr ⟨i+1,us++ [ae],ag,ay,T0,T1,T2,ao,ap,rfl,rfl,rfl,hvb,hvm,hE,(ML (D:=D) (L:=L) hlt)▸hAl,Bc ax (rfl),Bc c0 ((Vy hlt)),by omega,XJ hlt hnm ba,cv,cw,c3,b2,c1,c2,trivial⟩ ?_)));show ids.length-(intOf (NI ((i)+(1)))).toNat<ids.length-(intOf (cm 24)).toNat;rw[q24];simp only[intOf,Ac0];omega
 have hie:i=ids.length:=by have h:=bf;omega
 rw[hie,Ad6]at hAl hnm hr_r9;have hul:us.length=ids.length:=by rw[hAl.len,Dx]
 have hzr:=Kq ch (TM hsmall hnm) _ (show(szV D L ids).length≤60 by rw[Gd];exact bp);have hbl:(BK D L ids ch).bases.length=ids.length:=(Ex ch (szV D L ids) (szV D L ids).length).lb.trans (Gd D L ids);have hpl:(BK D L ids ch).packs.length=ids.length:=(Ex ch (szV D L ids) (szV D L ids).length).lp.trans (Gd D L ids);refine gS (Zx XN T9 T2 ((Vx _ r9 vc (szV D L ids) ch (ZG hr_r9) (hch.keep hE) (by rw[Gd];omega) hchl).mono ?_));rintro e c4 ⟨t,z,rfl,c,l,az⟩;refine⟨_,rfl,?_⟩;have bh:=Ext.refl aw;have eg:=hE.size;refine gS (Yk.extract (vs:= [t,z]) rfl rfl (gS (Yk.extract (vs:= [t,z]) rfl rfl (Aeo (⟨_,rfl⟩:∃v:AcJ,(AcU none 0 0)=v) fun nv16 hnv16=> ?_))));have hrow16:OG w.heap.size 27 1 Ez c4 nv16 ([]:List AcJ):=hnv16▸OG.nil _ _ _ _ _;have c5:Ai nv16 r8:=fun k h=>by rw[←hnv16]at h;cases h
 have c6:Ai nv16 r9:=fun k h=>by rw[←hnv16]at h;cases h
 have c7:Ai nv16 t:=fun k h=>by rw[←hnv16]at h;cases h
 have c8:Ai nv16 z:=fun k h=>by rw[←hnv16]at h;cases h
 have c9:OB nv16 gv:=fun e_=>by rw[←hnv16]at e_;cases e_
 have da:OB nv16 bm:=fun e_=>by rw[←hnv16]at e_;cases e_
 have bh:=bh.trans az;have b3:=((hAl.keep bh)).sub (S:= [nv16]) (fun v hv=> .inr (by rw[AcY.1 hv,←hnv16];rfl));have hvb:=eb az hvb;have hvm:=hvm.keep az;have hE:=hE.trans az;have hr_r8:=hr_r8.keep az;have hr_r9:=hr_r9.keep az;refine gL (fun(ρ:Ad) (wz:AcK)=>∃f:Nat,∃ou:List AcJ,∃r16:AcJ,ρ 0=(PQ gv 0:AcJ)∧ρ 1=(vi:AcJ)∧ρ 2=(vc:AcJ)∧ρ 8=(r8:AcJ)∧ρ 9=(r9:AcJ)∧ρ 14=(t:AcJ)∧ρ 15=(z:AcJ)∧ρ 22=(vi:AcJ)∧ρ 23=(NI ids.length:AcJ)∧ρ 24=(NI i:AcJ)∧ρ 17=(NI f:AcJ)∧ρ 16=(r16:AcJ)∧wz.heap[gv]? =some (.cells ([PQ g 0, .map (some bm)]).toArray 86 (0,0))∧MapF St pN Nm wz bm (pkG L ptr)∧Ext w wz∧OG w.heap.size 27 1 (Ez) wz r8 (us)∧OG w.heap.size 3 1 (BV) wz r9 (szV D L ids)∧OG aw.heap.size 3 1 BV wz t (BK D L ids ch).packs∧OG aw.heap.size 3 1 BV wz z (BK D L ids ch).bases∧AllIn wz [r16] us (By D L ids)∧AllN w.heap.size wz ou (if f=0 then []else [(AZ (AR D L ids ch)).1])∧OG w.heap.size 27 1 (Ez) wz r16 (ou)∧(f=0∨(f=ids.length∧0<ids.length∧(AZ (AR D L ids ch)).2=0))∧(Ai r16 r8)∧(Ai r16 r9)∧(Ai r16 t)∧(Ai r16 z)∧(OB r16 gv)∧(OB r16 bm)∧True) (fun ρ _=>ids.length-(intOf (ρ 17)).toNat) ⟨0,[],nv16,T0,T1,T2,r,T9,rfl,rfl,ao,ap,ac,rfl,((show _=(AcU none 0 0)from rfl).trans hnv16),hvb,hvm,hE,hr_r8,hr_r9,c,l,b3,AllN.nil _ _,Bc hrow16 (rfl), .inl rfl,c5,c6,c7,c8,c9,da,trivial⟩ ?_;clear hrow16;clear b3;clear hvb hvm hE hr_r8 hr_r9 c l;rintro db dc ⟨f,ou,r16,T0,T1,T2,r,T9,a0,a4,ao,ap,ac,av,a1,hvb,hvm,hE,hr_r8,hr_r9,c,l,bi,hO,hr_r16,hf,hap_r16_r8,hap_r16_r9,hap_r16_v80,hap_r16_v81,hap_r16_gv,hap_r16_bm,-⟩;have q17:=av;refine gS (ZI Mg (ZC (ZG hr_r8) r) (gS (Zv (a:=(f:Nat)) (b:=(us.length:Nat)) av rfl (AI _ _ _ _) ?_)));refine cD rfl (fun bb=> ?_) fun bb=> ?_
 ·have hf0:f=0:=by rcases hf with h | h;exact h;(have:=bb;omega)
  have hpos:0<ids.length:=by have:=bb;omega
  have hou:ou= []:=by have h:=(hO).len;rw[if_pos hf0]at h;exact Adw h
  refine Aeo (⟨_,rfl⟩:∃v:AcJ,(AcU none 0 0)=v) fun nv19 hnv19=> ?_;have hrow19:OG w.heap.size 156 2 partC dc nv19 ([]:List Pt):=hnv19▸OG.nil _ _ _ _ _;have dd:Ai nv19 r8:=fun k h=>by rw[←hnv19]at h;cases h
  have de:Ai nv19 r9:=fun k h=>by rw[←hnv19]at h;cases h
  have df:Ai nv19 t:=fun k h=>by rw[←hnv19]at h;cases h
  have dh:Ai nv19 z:=fun k h=>by rw[←hnv19]at h;cases h
  have di:Ai nv19 r16:=fun k h=>by rw[←hnv19]at h;cases h
  have dj:OB nv19 gv:=fun e_=>by rw[←hnv19]at e_;cases e_
  have dk:OB nv19 bm:=fun e_=>by rw[←hnv19]at e_;cases e_
  have b4:=(bi).sub (S:= [nv19,r16]) (fun v hv=>by rcases Adz.1 hv with h | h;(exact .inr (by rw[h,←hnv19];rfl));exact .inl h);refine gL (fun(ρ:Ad) (wz:AcK)=>∃j:Nat,∃qs:List Pt,∃r19:AcJ,ρ 0=(PQ gv 0:AcJ)∧ρ 1=(vi:AcJ)∧ρ 2=(vc:AcJ)∧ρ 8=(r8:AcJ)∧ρ 9=(r9:AcJ)∧ρ 14=(t:AcJ)∧ρ 15=(z:AcJ)∧ρ 16=(r16:AcJ)∧ρ 17=(NI 0:AcJ)∧ρ 22=(vi:AcJ)∧ρ 23=(NI ids.length:AcJ)∧ρ 24=(NI i:AcJ)∧ρ 18=(NI j:AcJ)∧ρ 19=(r19:AcJ)∧wz.heap[gv]? =some (.cells ([PQ g 0, .map (some bm)]).toArray 86 (0,0))∧MapF St pN Nm wz bm (pkG L ptr)∧Ext w wz∧OG w.heap.size 27 1 (Ez) wz r8 (us)∧OG w.heap.size 3 1 (BV) wz r9 (szV D L ids)∧OG aw.heap.size 3 1 BV wz t (BK D L ids ch).packs∧OG aw.heap.size 3 1 BV wz z (BK D L ids ch).bases∧OG w.heap.size 27 1 (Ez) wz r16 (ou)∧PartsIn wz r19 qs∧AllIn wz [r19,r16] us (By D L ids)∧OG w.heap.size 156 2 (partC) wz r19 (qs)∧(j≤ids.length)∧(qs.map EB=((AR D L ids ch).take j).map EB)∧(Ai r19 r8)∧(Ai r19 r9)∧(Ai r19 t)∧(Ai r19 z)∧(Ai r19 r16)∧(OB r19 gv)∧(OB r19 bm)∧True) (fun ρ _=>ids.length-(intOf (ρ 18)).toNat) ⟨0,[],nv19,T0,T1,T2,r,T9,a0,a4,a1,(av.trans (congrArg (fun n:Nat=>NI n) hf0)),ao,ap,ac,(av.trans (congrArg (fun n:Nat=>NI n) hf0)),((show _=(AcU none 0 0)from rfl).trans hnv19),hvb,hvm,hE,hr_r8,hr_r9,c,l,hr_r16,PartsIn.nil _ _,b4,Bc hrow19 (rfl),Adm _,rfl,dd,de,df,dh,di,dj,dk,trivial⟩ ?_;clear hO;clear hrow19;clear b4;clear hvb hvm hE hr_r8 hr_r9 c l hr_r16;rintro b5 eh ⟨j,qs,r19,T0,T1,T2,r,T9,a0,a4,a1,av,ao,ap,ac,ah,bj,hvb,hvm,hE,hr_r8,hr_r9,c,l,hr_r16,hIn,m,hr_r19,hj,hq,hap_r19_r8,hap_r19_r9,hap_r19_v80,hap_r19_v81,hap_r19_r16,hap_r19_gv,hap_r19_bm,-⟩;have q18:=ah;by_cases hjl:j<ids.length
  ·have hje:=(m).rb j (by rw[Dx];exact hjl);have hjk:=(m).lt j (by rw[Dx];exact hjl);have hjo:=(m).off j (by rw[Dx];exact hjl);have hql:qs.length=j:=by have h:=congrArg AgQ hq;simp only[Ada,Ac8,Ga hbl]at h;omega
   have hbb:=XL hzr.2.2.2.2 j;refine CD [0,1,2,3,4,5,6,7,8,9,10,11,12,13,14] [] [] fun b6 a5=> ?_;have hIn:PartsIn b6 r19 qs:=(hIn.keep a5);have m:AllIn b6 [r19,r16] us (By D L ids):=(m.keep a5);have hr_r8:=hr_r8.keep a5;refine ys (ZI Mg (ZC (ZG hr_r8) r) zz) (ys (Zv (a:=(j:Nat)) (b:=(us.length:Nat)) ah rfl (AI _ _ _ _) zz) (kT (by omega) ?_));have c:=c.keep a5;have ei:(BV (((BK D L ids ch).packs).getD (j) (0:Int))).length=1:=(RG.elem (ZG c) (0:Int) (by omega));refine yA (ZO L9 Hg (by decide) (0:Int) (ZC (ZG c) a0) ah (by omega) fun ej b7=>(ys (ZL Uo rfl (PR.cell (ZT b7 rfl) rfl) zz) ?_));have el:(BV (((BK D L ids ch).packs).getD (0) (0:Int))).length=1:=(RG.elem (ZG c) (0:Int) (by omega));refine yA (ZO L9 Hg (by decide) (0:Int) (ZC (ZG c) a0) av (by omega) fun em b8=>(ys (ZL Uo rfl (PR.cell (ZT b8 rfl) rfl) zz) (ys (Zv rfl rfl (YL _ .i64 (((BK D L ids ch).packs).getD (j) (0:Int):Int) (((BK D L ids ch).packs).getD (0) (0:Int):Int)) zz) (kT ((Y3 hzr.2.2.2.1 _ _)) (ys (ZE rfl rfl zz) ?_)))));clear b7;clear b8;refine cT rfl (CD [0,1,2,3,4,5,6,7,8,9,10,11,12] [10,11,12] [] fun b9 a6=> ?_);have hIn:PartsIn b9 r19 qs:=(hIn.keep a6);have m:AllIn b9 [r19,r16] us (By D L ids):=(m.keep a6);have hr_r8:=hr_r8.keep a6;have en:(Ez (us.getD (j) undef)).length=1:=(RG.elem (ZG hr_r8) undef (by omega));refine yA (ZO Mg SE (by decide) undef (ZC (ZG hr_r8) r) ah (by omega) fun eo bc=>(ys (ZL Gj rfl (PR.cell (ZT bc rfl) rfl) zz) ?_));have hZ2:=a5.trans a6;have l:=l.keep hZ2;have ep:(BV (((BK D L ids ch).bases).getD (j) (0:Int))).length=1:=(RG.elem (ZG l) (0:Int) (by omega));have hje:=hje.keep hZ2;refine yA (ZO L9 Hg (by decide) (0:Int) (ZC (ZG l) a4) ah (by omega) fun eq bd=>(ys (ZL Uo rfl (PR.cell (ZT bd rfl) rfl) zz) (ys (Aai (vr (us.getD (j) undef) rfl) (vr (.int .i64 (((BK D L ids ch).bases).getD (j) (0:Int):Int)) rfl) (fun w=>XO (RB.slice hje) _ w) zz) (yC (Z2 (a:=(⟨us.getD (j) undef,(By D L ids).getD (j) ([]:List UInt8),(BK D L ids ch).bases.getD (j) (0:Int)⟩:Pt)) (enc:=partC) (vr (.agg (partC (⟨us.getD (j) undef,(By D L ids).getD (j) ([]:List UInt8),(BK D L ids ch).bases.getD (j) (0:Int)⟩:Pt)).toArray) rfl) (rfl) TP fun dl bk ca ai=> ?_)))));have hIn:PartsIn bk r19 qs:=(hIn.keep ai);have m:AllIn bk [r19,r16] us (By D L ids):=(m.keep ai);have bc:=PR.keep bc ai;have bd:=PR.keep bd ai;have m:=m;have hje:=hje.keep ai;have hIn:=Abt (x:=(⟨us.getD (j) undef,(By D L ids).getD (j) ([]:List UInt8),(BK D L ids ch).bases.getD (j) (0:Int)⟩:Pt)) hIn hje hbb (fun k hk=>⟨m.lt j (by rw[Dx];exact hjl) k hk,hjo k hk _ AdM⟩);have hZ3:=hZ2.trans ai;have hE:=hE.trans hZ3;have hr_r19:=hr_r19.keep hZ3;refine yC (ZM _ _ w.heap.size _ 32 FG va7_ig156.choose_spec.1 va7_ig156.choose_spec.2 FG (qs) ([(⟨us.getD (j) undef,(By D L ids).getD (j) ([]:List UInt8),(BK D L ids ch).bases.getD (j) (0:Int)⟩:Pt)]) (OG.of hr_r19 bj) (ZC ca (vr dl rfl)) (fun y hy=>by rw[AcY.1 hy];exact partC_one (RB.one hje)) (by simp only[Ac9];omega) (by simp only[Ac9];omega) hE.size fun aj dm dn o=> ?_);have hIn_:=hIn;have hA5_:=m;have o:Grew bk dm r19 aj:= .eqv bj o;have hr_r8:=hr_r8.keep ai;have dp:Ai aj r8:=AK o hap_r19_r8 hr_r8.2;have hr_r9:=hr_r9.keep hZ3;have dq:Ai aj r9:=AK o hap_r19_r9 hr_r9.2;have c:=c.keep (a6.trans ai);have dr:Ai aj t:=AK o hap_r19_v80 c.2;have l:=l.keep ai;have ds:Ai aj z:=AK o hap_r19_v81 l.2;have hr_r16:=hr_r16.keep hZ3;have dt:Ai aj r16:=AK o hap_r19_r16 hr_r16.2;have hvb:=eb hZ3 hvb;have du:OB aj gv:=An o hap_r19_gv (bl hvb);have hvm:=hvm.keep hZ3;have dv:OB aj bm:=An o hap_r19_bm hvm.lt;have hvb:=Ao hvb o hap_r19_gv;have hvm:=MapF.grew hvm o hap_r19_bm;have hE:=Aq hE o hr_r19.2 (AcP _);have hr_r8:=Bg hr_r8 o hap_r19_r8;have hr_r9:=Bg hr_r9 o hap_r19_r9;have c:=Bg c o hap_r19_v80;have l:=Bg l o hap_r19_v81;have hr_r16:=Bg hr_r16 o hap_r19_r16;clear hje;clear bc;clear bd;clear ca;clear hr_r19;have hIn:=PartsIn.grew hIn_ o;clear hIn_;have m:=AllIn.grew hA5_ o;clear hA5_;refine yC (Yk.assign rfl (gS (Zw (xv:=NI j) (yv:=NI 1) ah rfl rfl (Ag _ _ _ (by omega)) (gK (Adr ⟨j+1,qs++ [(⟨us.getD (j) undef,(By D L ids).getD (j) ([]:List UInt8),(BK D L ids ch).bases.getD (j) (0:Int)⟩:Pt)],aj,T0,T1,T2,r,T9,a0,a4,a1,av,ao,ap,ac,rfl,rfl,hvb,hvm,hE,hr_r8,hr_r9,c,l,hr_r16,hIn,m,Bc dn (rfl),by omega,RL hbl hjl hq,dp,dq,dr,ds,dt,du,dv,trivial⟩ ?_)))));show ids.length-(intOf (NI ((j)+(1)))).toNat<ids.length-(intOf (b5 18)).toNat;rw[q18];simp only[intOf,Ac0];omega
  refine CD [0,1,2,3,4,5,6,7,8,9,10,11,12,13,14] [] [] fun cb ak=> ?_;have hIn:PartsIn cb r19 qs:=(hIn.keep ak);have m:AllIn cb [r19,r16] us (By D L ids):=(m.keep ak);have hr_r8:=hr_r8.keep ak;refine ys (ZI Mg (ZC (ZG hr_r8) r) zz) (ys (Zv (a:=(j:Nat)) (b:=(us.length:Nat)) ah rfl (AI _ _ _ _) zz) (kF (by omega) (ys (ZH rfl rfl zz) (cF rfl ?_))));have hje2:j=ids.length:=by omega
  have hqs:qs.map EB=(AR D L ids ch).map EB:=by rw[hje2,←Ga (ch:=ch) hbl,Ad6]at hq;exact hq
  have hLp:Ct (AR D L ids ch):=I6 hbl bp hsmall hnm;have hE:=hE.trans ak;have hr_r19:=hr_r19.keep ak;refine gS (ZA VC bj ((LT _ (hG.keep ((hD.keep hE)).ext) r19 (AR D L ids ch) qs (ZG hr_r19) (hIn).ok hqs hLp).mono ?_));rintro e cc ⟨al,rfl,bn,a7⟩;refine⟨_,rfl,?_⟩;have hvb:=eb ak hvb;have hvm:=hvm.keep ak;have hr_r16:=hr_r16.keep ak;have hvo:∀k,AcT al=some k→∀u∈ [r16],u.ownBlock≠some k:=fun k hk u hu e=>by have h1:=(bn.lt k hk).1;rw[AcY.1 hu]at e;have h2:=(hr_r16.2.lt k e).2;omega
  have hszb:=(hE).size;have hIn:PartsIn cc r19 qs:=(hIn.keep a7);have m:AllIn cc [r19,r16] us (By D L ids):=(m.keep a7);have hvn:=(AaW bn).low hszb;have a2:=ZP bn;refine gS (Yk.extract (vs:= [al,NI ((AZ (AR D L ids ch)).2)]) rfl rfl (gS (Yk.extract (vs:= [al,NI ((AZ (AR D L ids ch)).2)]) rfl rfl (gS (Zv (a:=((AZ (AR D L ids ch)).2:Nat)) (b:=(0:Nat)) rfl rfl (AY _ _ _ _) ?_)))));refine cD rfl (fun bo=> ?_) fun bo=> ?_
  ·refine BF rfl (vr (AcU none 0 0) rfl) (vr (NI ((AZ (AR D L ids ch)).2)) rfl) ?_;have hV:AP D L ids ch=([],(AZ (AR D L ids ch)).2):=VA hnm hpos bo;have hE:=hE.trans a7;exact⟨_,[],by rw[hV],OG.nil _ _ _ _ _,by rw[hV];exact AllN.nil _ _,hE⟩
  have hbz:=Afu.1 bo;have hve:=RB.slice a2;have hve1:=(RB.one a2).2;refine gS (ZZ (a:=(al)) (enc:=Ez) (vr al rfl) rfl (fun w=>by obtain⟨_,_,_,rfl⟩:=hve;exact Oz _ _ _ w) fun dw be cd a3=> ?_);have hIn:PartsIn be r19 qs:=(hIn.keep a3);have m:AllIn be [r19,r16] us (By D L ids):=(m.keep a3);have dx:=(m).sub (S:= [r16]) (fun u hu=> .inl (AdO _ hu));have hvn:=hvn.keep a3;have a2:=a2.keep a3;have hO1:AllIn be [r16] [al] [(AZ (AR D L ids ch)).1]:=Aa8 (AllIn.nil _ _) a2 (fun k hk=>⟨(hvn k hk).2,hvo k hk⟩);have dy:=hvn;have hZ4:=a7.trans a3;have hE:=hE.trans hZ4;have hr_r16:=hr_r16.keep hZ4;refine gS (ZM _ _ w.heap.size _ 24 Mg va7_ig27.choose_spec.1 va7_ig27.choose_spec.2 Mg (ou) ([(al)]) (OG.of hr_r16 a1) (ZC cd (vr dw rfl)) (fun y hy u hu=>by rw[AcY.1 hu,AcY.1 hy];exact hve1) (by rw[hou];simp only[Adp,Ac9];omega) (by rw[hou];simp only[Adp,Ac9];omega) hE.size fun aq ce dz p=> ?_);have hA6_:=dx;have hO1_:=hO1;have p:Grew be ce r16 aq:= .eqv a1 p;have hr_r8:=hr_r8.keep hZ4;have d0:Ai aq r8:=AK p hap_r16_r8 hr_r8.2;have hZ5:=(ak.trans a7).trans a3;have hr_r9:=hr_r9.keep hZ5;have d1:Ai aq r9:=AK p hap_r16_r9 hr_r9.2;have c:=c.keep hZ5;have d2:Ai aq t:=AK p hap_r16_v80 c.2;have l:=l.keep hZ5;have d3:Ai aq z:=AK p hap_r16_v81 l.2;have hvb:=eb hZ4 hvb;have d4:OB aq gv:=An p hap_r16_gv (bl hvb);have hvm:=hvm.keep hZ4;have d5:OB aq bm:=An p hap_r16_bm hvm.lt;have hr_r19:=hr_r19.keep hZ4;have hvb:=Ao hvb p hap_r16_gv;have hvm:=MapF.grew hvm p hap_r16_bm;have hE:=Aq hE p hr_r16.2 (AcP _);have hr_r8:=Bg hr_r8 p hap_r16_r8;have hr_r9:=Bg hr_r9 p hap_r16_r9;have c:=Bg c p hap_r16_v80;have l:=Bg l p hap_r16_v81;have hr_r19:=Bg hr_r19 p (fun k h1 h2=>hap_r19_r16 k h2 h1);clear a2;clear cd;clear hr_r16;have bi:=AllIn.grew hA6_ p;clear hA6_;have hO2:=AllIn.grew hO1_ p;clear hO1_;have hO:AllN w.heap.size ce (ou++ [al]) (if j=0 then []else [(AZ (AR D L ids ch)).1]):=by rw[hou,if_neg (by omega)];exact VB hO2 dy
  refine gK (Adr ⟨j,ou++ [al],aq,T0,T1,T2,r,T9,a0,a4,ao,ap,ac,ah,rfl,hvb,hvm,hE,hr_r8,hr_r9,c,l,bi,hO,Bc dz (rfl), .inr ⟨hje2,hpos,hbz⟩,d0,d1,d2,d3,d4,d5,trivial⟩ ?_);show ids.length-(intOf (b5 18)).toNat<ids.length-(intOf (db 17)).toNat;rw[ah,q17];simp only[intOf,Ac0];omega
 refine BF rfl a1 (vr (NI 0) rfl) ?_;have hfe:¬f<ids.length:=by have:=bb;omega
 have hV:AP D L ids ch=((if f=0 then []else [(AZ (AR D L ids ch)).1]),0):=TN hnm hf hfe;exact⟨_,_,by rw[hV],hr_r16,by rw[hV];exact hO,hE⟩
def A2(D:Ae)(L:AN)(o:List Bs)(ch:List Int)(i:Nat):Bs:=(AP D L o ch).1.getD i []
theorem Acp{wb w w1 w2:AcK}{g b:Nat}{H H1:Dk}{D D1:Ae}{α β:Type}{ek:α→AcJ}{ev:β→AcJ}{E:α→Prop}{G:α→Option β}(h:DkW wb w g H D w1 H1 D1)(hg:w1.grownBy w2 (some b))(hm:MapF ek ev E w1 b G)(ho:Cd H1 D1 b)(hw:w.heap.size≤b)(hwb:wb.heap.size≤w.heap.size):DkW wb w g H D w2 H1 D1:=by
  obtain⟨es,c,hb,-⟩:=hm;have hc:Chg (fun i=>i=b) w1 w2:=ZX hg fun i e=> .inl (Adu e).symm;exact⟨⟨hc.ext h.g.ext (fun i q=>by have q:i=b:=q;omega),h.g.st.keepB hc (fun i q e=>ho (e▸q)) (fun i _ e=>by subst e;exact .inl ⟨_,_,hb⟩),h.g.hg⟩,h.chg.set hg (.inr hw),h.foot⟩
def KSt(D:Ae)(L:AN)(o:List Bs)(ch:List Int)(H:Dk)(i:Nat)(Hi:Dk)(Di:Ae)(M:AN)(r:AcJ):Prop:=
  (i=0∧Di=D∧Hi=H∧M= []∧r = .slice none 0 0)∨(i=(AP D L o ch).1.length∧∃p,(AP D L o ch).1= [A2 D L o ch 0]∧B4 (A2 D L o ch 0) = .ok p∧M= [(Ax (A2 D L o ch 0),p)]∧Di=(AH D (A2 D L o ch 0)).1∧(AH D (A2 D L o ch 0)).2.2=0)
section
variable {D Di : Ae} {L M : AN} {o : List Bs} {ch : List Int} {H Hi : Dk} {i : Nat} {r : AcJ}
theorem KSt.zero(h:KSt D L o ch H i Hi Di M r)(hi:i<(AP D L o ch).1.length):i=0∧Di=D∧Hi=H∧M= []∧r = .slice none 0 0:=h.resolve_right fun q=>by have:=q.1;omega
theorem GW(hm:¬D9 D L o→Ct (AR D L o ch))(h0:¬(AP D L o ch).2≠0):(AP D L o ch).1= []∨∃p,(AP D L o ch).1= [A2 D L o ch 0]∧B4 (A2 D L o ch 0) = .ok p∧(A2 D L o ch 0).length≤40000:=by
  have h0:(AP D L o ch).2=0:=Afu.1 h0;have hmi:¬D9 D L o:=fun q=>by
    unfold AP at h0;rw[if_pos q]at h0;cases h0
  have hL:=hm hmi;rcases RJ hL h0 with h | ⟨p,h1,h2⟩
  · exact .inl h
  · have e:A2 D L o ch 0=(AZ (AR D L o ch)).1:=by unfold A2;rw[h1];rfl
    rw[e];refine .inr ⟨p,h1,h2,?_⟩;cases hb:C4 (AR D L o ch) (AR D L o ch).length with
    | error x=>
      rw[Ox hb]at h2;cases h2
    | ok s=>exact MJ hL hb
theorem Y4{p:AU}(h1:(AP D L o ch).1= []∨∃p,(AP D L o ch).1= [A2 D L o ch 0]∧B4 (A2 D L o ch 0) = .ok p∧(A2 D L o ch 0).length≤40000)(hi:i<(AP D L o ch).1.length)(h0:i=0):(AP D L o ch).1= [A2 D L o ch i]∧(∃p,B4 (A2 D L o ch i) = .ok p)∧(A2 D L o ch i).length≤40000:=by
  subst h0;rcases h1 with h | ⟨p,h1,h2,h3⟩
  · rw[h]at hi;cases hi
  · exact⟨h1,⟨p,h2⟩,h3⟩
theorem KSt.next(hs:i=0∧Di=D∧Hi=H∧M= []∧r = .slice none 0 0){H2:Dk}{r2:AcJ}{p:AU}(h1:(AP D L o ch).1= [A2 D L o ch i])(h2:B4 (A2 D L o ch i) = .ok p)(hc:(AH Di (A2 D L o ch i)).2.2=0):KSt D L o ch H (i+1) H2 (AH Di (A2 D L o ch i)).1 (M++ [(Ax (A2 D L o ch i),p)]) r2:=by
  obtain⟨rfl,rfl,rfl,rfl,rfl⟩:=hs;exact .inr ⟨by rw[h1];rfl,p,h1,h2,rfl,rfl,hc⟩
theorem KSt.one(hs:i=0∧Di=D∧Hi=H∧M= []∧r = .slice none 0 0){p:AU}(h0:¬(AP D L o ch).2≠0)(h1:(AP D L o ch).1= [A2 D L o ch i])(h2:B4 (A2 D L o ch i) = .ok p):BC D L o ch=EK L (A2 D L o ch i) p (AH Di (A2 D L o ch i)):=by
  obtain⟨rfl,rfl,rfl,rfl,rfl⟩:=hs;exact Kr h0 h1 h2
theorem KSt.done(h:KSt D L o ch H i Hi Di M r)(hi:¬i<(AP D L o ch).1.length)(h0:¬(AP D L o ch).2≠0):BC D L o ch=ES Di L M:=by
  rcases h with ⟨h1,h2,h3,h4,h5⟩ | ⟨h1,p,h2,h3,h4,h5,h6⟩
  · rw[I3 h0 (Adw (by omega)),h2,h4]
  · rw[Kr h0 h2 h3];unfold EK;rw[h6,if_neg (by decide),if_neg (by decide),if_neg (fun q=>q rfl),h4,h5]
theorem KSt.sort(h:KSt D L o ch H i Hi Di M r):SortS (M.map Adk):=by
  rcases h with ⟨h1,h2,h3,h4,h5⟩ | ⟨h1,p,h2,h3,h4,h5,h6⟩
  · rw[h4];exact AeN
  · rw[h4];exact List.pairwise_singleton _ _
end
theorem DBd.write{m:Nat}{D:Ae}(h:DBd m D){b:Bs}(hb:b.length≤60000):DBd (m+202) (AH D b).1:=by
  have h3:∀E:Ae,DBd (m+1) E→DBd (m+202) (FQ E b).1:=fun E hE=>by
    have ha:=hE.appendK (Ax b) (b:=b) (k:=200) (by omega) (by omega);unfold FQ;split
    · exact ha.mono (by omega)
    · exact(ha.sync (Ax b)).mono (by omega)
  have h2:∀x:Ae × Nat,DBd (m+1) x.1→DBd (m+202) (Gz x b).1:=fun x hx=>by
    unfold Gz;split
    · exact hx.mono (by omega)
    · exact h3 _ hx
  unfold AH;split
  · exact(h.sync _).mono (by omega)
  · split
    · exact h.mono (by omega)
    · refine h2 _ ?_;split
      · exact h.drop _
      · exact h.mono (by omega)
theorem KSt.bd{D Di:Ae}{L M:AN}{o:List Bs}{ch:List Int}{H Hi:Dk}{i m:Nat}{r:AcJ}(h:KSt D L o ch H i Hi Di M r)(hB:DBd m D)(hp:(AP D L o ch).1= []∨∃p,(AP D L o ch).1= [A2 D L o ch 0]∧B4 (A2 D L o ch 0) = .ok p∧(A2 D L o ch 0).length≤40000):DBd (m+202) Di:=by
  rcases h with ⟨h1,h2,h3,h4,h5⟩ | ⟨h1,p,h2,h3,h4,h5,h6⟩
  · rw[h2];exact hB.mono (by omega)
  · rw[h5];refine hB.write ?_;rcases hp with hp | ⟨q,q1,q2,q3⟩
    · rw[hp]at h2;cases h2
    · omega
theorem Yy{D:Ae}{s:Bs}:(BG D s).2=0∨(BG D s).2=9∨(BG D s).2=10∨(BG D s).2=4:=by
  unfold BG;split
  · rename_i e he
    unfold FO at he;split at he
    · cases he;unfold CH;split
      · exact .inr (.inl rfl)
      · split
        · exact .inl rfl
        · exact .inr (.inr (.inl rfl))
    · split at he
      · cases he
      · cases he;exact .inr (.inr (.inr rfl))
  · unfold D8;split
    · exact .inr (.inl rfl)
    · exact .inl rfl
theorem Pp{D:Ae}{b:Bs}(h:(AH D b).2.1=true):(AH D b).2.2≠8∧(AH D b).2.2≠7:=by
  have h3:∀E:Ae,(FQ E b).2.1=true→(FQ E b).2.2≠8∧(FQ E b).2.2≠7:=fun E hE=>by
    unfold FQ at hE ⊢;split at hE
    · cases hE
    · rename_i q
      rw[if_neg q];show(BG _ _).2≠8∧(BG _ _).2≠7;have:=Yy (D:=(A5 E (Ax b) b).1) (s:=Ax b);omega
  have h2:∀x:Ae × Nat,(Gz x b).2.1=true→(Gz x b).2.2≠8∧(Gz x b).2.2≠7:=fun x hx=>by
    unfold Gz at hx ⊢;split at hx
    · cases hx
    · rename_i q
      rw[if_neg q];exact h3 _ hx
  unfold AH at h ⊢;split at h
  · cases h
  · rename_i q
    rw[if_neg q];split at h
    · cases h
    · rename_i q2
      rw[if_neg q2];exact h2 _ h
section
variable {L : AN} {b : Bs} {p : AU} {x : Ae × Bool × Nat}
theorem MM(h8:¬x.2.2=8)(h7:¬x.2.2=7)(h:x.2.2≠0):EK L b p x=(x.1,L,[],x.2.2):=(if_neg h8).trans ((if_neg h7).trans (if_pos h))
theorem RM(h:x.2.2=7):EK L b p x=(x.1,L,[b,(Ap x.1 (Ax b)).1],7):=(if_neg (by omega)).trans (if_pos h)
theorem Lr(hf:x.2.1=false)(h:x.2.2=8):EK L b p x=(x.1,L,[],8):=by
  unfold EK;rw[if_pos h,hf];exact if_neg fun q=>q rfl
end
def PlZ(i n:Nat)(w:AcK)(v:AcJ)(us:List AcJ)(bs:List Bs):Prop:=i=0→OG n 27 1 Ez w v us∧AllN n w us bs
theorem PlZ.done{i n:Nat}{w:AcK}{v:AcJ}{us:List AcJ}{bs:List Bs}:PlZ (i+1) n w v us bs:=fun q=>absurd q (Nat.succ_ne_zero i)
section
variable {wb w w1 w2 : AcK} {n g gv bm bm2 : Nat} {H Hi H2 : Dk} {D Di D2 : Ae} {L M : AN} {ptr ptr2 : Bs → Nat}
theorem PksAt.stepW(h:PksAt (fun k=>Cd Hi Di k∧k≠gv∧k≠bm2) w1 M ptr2)(hW:DkW wb w1 g Hi Di w2 H2 D2):PksAt (fun k=>Cd H2 D2 k∧k≠gv∧k≠bm2) w2 M ptr2:=
  h.chg hW.chg fun k hk q=>⟨q.1,fun z=>(hW.foot k z).elim q.1 fun z=>by omega,q.2⟩
theorem DkW.offB(hW:DkW wb w1 g Hi Di w2 H2 D2){k:Nat}(hk:k<w1.heap.size)(h:Cd Hi Di k):Cd H2 D2 k:=fun z=>(hW.foot k z).elim h fun z=>by omega
theorem Acq(hV:VtAt n (Cd H D) w gv g bm L ptr)(hW:DkW wb w g H D w1 Hi Di)(hn:wb.heap.size≤n)(hmp:MapF St pN Nm w1 bm2 (pkG M ptr2))(hPk:PksAt (fun k=>Cd Hi Di k∧k≠gv∧k≠bm2) w1 M ptr2)(hs:SortS (M.map Adk))(a:Cd Hi Di bm2)(hne:bm2≠gv){cs:Array AcJ}{fr:Nat × Nat}(b:w1.heap[gv]? =some (.cells cs 86 fr))(hb:w2.heap[gv]? =some (.cells ([PQ g 0, .map (some bm2)]).toArray 86 (0,0)))(hg:w1.grownBy w2 (some gv)):VtK wb w n g gv H D w2 Hi Di M:=by
  have hV1:=hV.step hW;refine⟨hW.g.setT hg b (AcN hn hV.lo) (by decide) (by decide) (by decide) (by decide) (by decide) (by decide),⟨bm2,ptr2,hb,hmp.other hg (Ak hne.symm),hPk.set hg (fun k q=>q.2.1),hs,hV1.g0,a,hV.lo⟩,?_,hW.foot⟩;exact(hW.chg.monoV fun k q=> .inl q).set hg (.inl (.inr ⟨rfl,hV.lo⟩))
end
theorem Fw(D:Ae)(sg:Bs):(Av D sg).length≤(AE D).length:=AeE _ _
theorem DBd.list{m:Nat}{D:Ae}(h:DBd m D):(AE D).length≤m:=by
  unfold AE;split
  · exact Adm _
  · rw[Ada];exact h.now
theorem P3{m:Nat}{D:Ae}(h:DBd m D)(M:AN):(goneV D M).length≤m+m:=by
  have h1:=h.list;have h2:=Fw D [112,45];have h3:=Fw D [111,45];have h4:=AeE (fun s=>(M.lookup s).isNone) (Av D [112,45]);unfold goneV;rw[AcQ];omega
theorem OA:Plain AcM 44:=fun _ _=>by kernel_rfl
theorem Ib:Plain AcM 90:=fun _ _=>by kernel_rfl
theorem VE:Plain AcM 52:=fun _ _=>by kernel_rfl
theorem P4(wb w:AcK)(g:Nat)(H:Dk)(D:Ae)(hD:DkG wb w g H D)(bs:Nat)(v:AcJ)(l:List Bs)(hl:OG bs 9 1 CX w v l)(m:Nat)(hB:DBd m D)(hm:m+l.length≤100000):
  Calls AcM 51 #[v, .func (.func 52) #[PQ g 0] #[]] w fun e w' =>∃H',e = .returned (NI (BQ D l).2)∧DkW wb w g H D w' H' (BQ D l).1∧OG bs 9 1 CX w' v l:=by
 refine gG (args:= [v, .func (.func 52) #[PQ g 0] #[]]) Tryz.func51 rfl 21 rfl rfl ?_;have hE:=Ext.refl w;refine gS (ZI N9 (ZC (ZG hl) rfl) (gL (fun(ρ:Ad) (wz:AcK)=>∃i:Nat,∃Hi:Dk,∃Di:Ae,ρ 0=(v:AcJ)∧ρ 1=(.func (.func 52) #[PQ g 0] #[]:AcJ)∧ρ 9=(NI l.length:AcJ)∧ρ 8=(v:AcJ)∧ρ 10=(NI i:AcJ)∧DkW wb w g H D wz Hi Di∧OG bs 9 1 CX wz v l∧(i≤l.length)∧(BQ D l=BQ Di (l.drop i))∧(DBd (m+i) Di)∧True) (fun ρ _=>l.length-(intOf (ρ 10)).toNat) ⟨0,H,D,rfl,rfl,rfl,rfl,rfl,Aaj hD hE,hl,Adm _,rfl,hB,trivial⟩ ?_));clear hl;clear hE;rintro r u ⟨i,Hi,Di,s,k,n,o,c,hW,hli,hi,hq,hBi,-⟩;have q10:=c;refine gS (Zv (a:=(i:Nat)) (b:=(l.length:Nat)) c n (AI _ _ _ _) ?_);refine cD rfl (fun f=> ?_) fun f=> ?_
 ·have hlt:i<l.length:=f;have x:(CX (l.getD (i) ([]:List UInt8))).length=1:=(RG.elem (ZG hli) ([]:List UInt8) (hlt));refine gS (ZO N9 UR (by decide) ([]:List UInt8) (ZC (ZG hli) o) c (hlt) fun y p=>(gS (ZL PO rfl (PR.cell (ZT p rfl) rfl) ?_)));clear p;refine gS (Ab9 (bd:= #[PQ g 0]) (caps:= #[]) (fun _ _=>by kernel_rfl) k rfl rfl (hW.g.dropW (l.getD (i) ([]:List UInt8)) (hBi.lt (by omega))) fun H2 z hW2=> ?_);have hW3:=hW.trans hW2;have q:=AcH hW.g hW2.chg hli (by decide) (by decide) (by decide) (by decide);refine gS (Zv (a:=((BA Di (l.getD (i) ([]:List UInt8))).2:Nat)) (b:=(0:Nat)) rfl rfl (AY _ _ _ _) ?_);refine cD rfl (fun j=> ?_) fun j=> ?_
  ·refine Bb rfl (vr (NI ((BA Di (l.getD (i) ([]:List UInt8))).2)) rfl) ?_;have hV:BQ D l=BA Di (l.getD (i) ([]:List UInt8)):=by rw[hq,MB hlt,F8,if_pos j]
   exact⟨H2,by rw[hV],by rw[hV];exact hW3,q⟩
  have hq3:BQ D l=BQ (BA Di (l.getD (i) ([]:List UInt8))).1 (l.drop (i+1)):=by rw[hq,MB hlt,F8,if_neg j]
  have t:=hBi.drop (l.getD (i) ([]:List UInt8));refine gS (Zw (xv:=NI i) (yv:=NI 1) c rfl rfl (Ag _ _ _ (by omega)) (gK (Adr ⟨i+1,H2,(BA Di (l.getD (i) ([]:List UInt8))).1,s,k,n,o,rfl,hW3,q,by omega,hq3,t,trivial⟩ ?_)));show l.length-(intOf (NI ((i)+(1)))).toNat<l.length-(intOf (r 10)).toNat;rw[q10];simp only[intOf,Ac0];omega
 refine Bb rfl (vr (NI 0) rfl) ?_;have hie:i=l.length:=by have h:=f;omega
 have hV:BQ D l=(Di,0):=by rw[hq,hie,List.drop_length];rfl
 exact⟨Hi,by rw[hV],by rw[hV];exact hW,hli⟩

theorem TQ(wb w:AcK)(g:Nat)(H:Dk)(D:Ae)(hD:DkG wb w g H D)(hG:Laid wb)(gv bm:Nat)(hvb:w.heap[gv]? =some (.cells ([PQ g 0, .map (some bm)]).toArray 86 (0,0)))(vb:AcJ)(b:List UInt8)(hr:RB w vb b)(hoff:b= []∨∀i,vb.ownBlock=some i→¬BZ H D.files.length i)(hbl:b.length≤60000)(m:Nat)(hB:DBd m D)(hm:m≤99000):
  Calls AcM 50 #[PQ gv 0,vb] w fun e w' =>∃H',e = .returned (.tuple #[.bool (AH D b).2.1,NI (AH D b).2.2])∧DkW wb w g H D w' H' (AH D b).1:=by
 refine gG (args:= [PQ gv 0,vb]) Tryz.func50 rfl 75 rfl rfl ?_;have hE:=Ext.refl w;have hwb:=hD.ext.size;have hW:DkW wb w g H D w H D:=Aaj hD hE;have hrl:=H6 (hB.lt (by omega)) (Ax b);refine gS (ZA OA rfl ((Em _ (hG.keep (hW).g.ext) vb b (hr.keep hE) (by omega)).mono ?_));rintro e t ⟨rfl,p⟩;refine⟨_,rfl,?_⟩;have hW:DkW wb w g H (D) t H (D):=(hW.keep p);have hvb:=eb p hvb;refine gS (Yk.nilCheck rfl (gS (Yk.fieldAt Lm rfl (gS (Zu UQ rfl rfl (cellAt hvb rfl) (gS (Zx Vd rfl rfl (((hW).g.read (Ax b) (hB.lt (by omega))).mono ?_))))))));rintro e u ⟨r,rfl,v,n⟩;refine⟨_,rfl,?_⟩;have hW:DkW wb w g H (D) u H (D):=(hW.keep n);have o:=ZP v;refine gS (Yk.extract (vs:= [r,NI ((Ap D (Ax b)).2)]) rfl rfl (gS (Yk.extract (vs:= [r,NI ((Ap D (Ax b)).2)]) rfl rfl ?_)));by_cases h0:(Ap D (Ax b)).2=0
 ·have hE:=hE.trans (p.trans n);refine gS (Zv (a:=((Ap D (Ax b)).2:Nat)) (b:=(0:Nat)) rfl rfl (AF _ _ _ _) (kT (h0) (gS (Z3 Gj u5 PO (ZB o rfl) (gS (Z3 Gj u5 PO (ZB (hr.keep hE) rfl) (gS (Aao (l:=(Ap D (Ax b)).1) (m:=b) (.inl rfl) rfl rfl (decide ((Ap D (Ax b)).1=b)) rfl (gS (ZE rfl rfl ?_))))))))));refine cD rfl (fun h=> ?_) fun h=> ?_
  ·have hvb:=eb n hvb;refine gS (Yk.nilCheck rfl (gS (Yk.fieldAt Lm rfl (gS (Zu UQ rfl rfl (cellAt hvb rfl) ?_)))));have hWc:=hW;refine gS (Zx Ib rfl rfl ((hWc.g.syncW (Ax b) ((hB).lt (by omega))).mono ?_));rintro e x ⟨H14,rfl,hW15⟩;refine⟨_,rfl,?_⟩;have hWn:=hWc.trans hW15;have hvb:x.heap[gv]? =some (.cells ([PQ g 0, .map (some bm)]).toArray 86 (0,0)):=DkG.box hWc.g hW15.chg hvb (by decide) (by decide) (by decide) (by decide);clear hE;clear hW;clear o;have hW:=hWn;refine BF rfl (vr (.bool (false)) rfl) (vr (NI ((BG D (Ax b)).2)) rfl) ?_;have hV:=RE h0 h;exact⟨H14,by rw[hV],by rw[hV];exact hW⟩
  refine gS (Zv (a:=((Ap D (Ax b)).2:Nat)) (b:=(0:Nat)) rfl rfl (AF _ _ _ _) (kT (h0) (gS (ZA OA rfl ((Em _ (hG.keep (hW).g.ext) r (Ap D (Ax b)).1 o (by omega)).mono ?_)))));rintro e y ⟨rfl,s⟩;refine⟨_,rfl,?_⟩;have hW:DkW wb w g H (D) y H (D):=(hW.keep s);refine gS (Aao (l:=Ax (Ap D (Ax b)).1) (m:=(Ax b)) (.inl rfl) rfl rfl (decide ((Ax (Ap D (Ax b)).1:List UInt8)=((Ax b):List UInt8))) rfl (gS (ZE rfl rfl ?_)));refine cD rfl (fun j=> ?_) fun j=> ?_
  ·refine BF rfl (vr (.bool (false)) rfl) (vr (NI 7) rfl) ?_;have hV:=RF h h0 j;exact⟨H,by rw[hV],by rw[hV];exact hW⟩
  have hvb:=eb (n.trans s) hvb;refine gS (Zv (a:=((Ap D (Ax b)).2:Nat)) (b:=(0:Nat)) rfl rfl (AF _ _ _ _) (kT (h0) (cT rfl (gS (Yk.nilCheck rfl (gS (Yk.fieldAt Lm rfl (gS (Zu UQ rfl rfl (cellAt hvb rfl) ?_)))))))));have hWc:=hW;refine gS (Zx VE rfl rfl ((hWc.g.dropW (Ax b) ((hB).lt (by omega))).mono ?_));rintro e z ⟨H24,rfl,hW25⟩;refine⟨_,rfl,?_⟩;have hWn:=hWc.trans hW25;have hvb:z.heap[gv]? =some (.cells ([PQ g 0, .map (some bm)]).toArray 86 (0,0)):=DkG.box hWc.g hW25.chg hvb (by decide) (by decide) (by decide) (by decide);clear hE;clear hW;clear o;have hW:=hWn;by_cases hd0:(BA D (Ax b)).2=0
  ·refine gS (Zv (a:=((BA D (Ax b)).2:Nat)) (b:=(0:Nat)) rfl rfl (AY _ _ _ _) (kF ((fun q=>q hd0)) (gS (ZH rfl rfl (cF rfl (gS (Yk.nilCheck rfl (gS (Yk.fieldAt Lm rfl (gS (Zu UQ rfl rfl (cellAt hvb rfl) ?_)))))))))));have hWc:=hW;refine gS (ZV Va rfl rfl rfl ((hWc.g.appendW (Ax b) vb b (hr.chg hWc.chg hoff) (hWc.off hr hoff) (by omega) (((hB).drop (Ax b)).lt (by omega))).mono ?_));rintro e aa ⟨H31,rfl,hW32⟩;refine⟨_,rfl,?_⟩;have hWn:=hWc.trans hW32;have hvb:aa.heap[gv]? =some (.cells ([PQ g 0, .map (some bm)]).toArray 86 (0,0)):=DkG.box hWc.g hW32.chg hvb (by decide) (by decide) (by decide) (by decide);clear hW;have hW:=hWn;refine gS (Zv (a:=((A5 ((BA D (Ax b)).1) (Ax b) b).2:Nat)) (b:=(0:Nat)) rfl rfl (AY _ _ _ _) ?_);refine cD rfl (fun c=> ?_) fun c=> ?_
   ·refine BF rfl (vr (.bool (false)) rfl) (vr (NI ((A5 ((BA D (Ax b)).1) (Ax b) b).2)) rfl) ?_;have hV:=((Fg h h0 j).trans (if_neg (fun q=>q.1 hd0))).trans (if_pos c);exact⟨H31,by rw[hV],by rw[hV];exact hW⟩
   refine gS (Yk.nilCheck rfl (gS (Yk.fieldAt Lm rfl (gS (Zu UQ rfl rfl (cellAt hvb rfl) ?_)))));have hWc:=hW;refine gS (Zx Ib rfl rfl ((hWc.g.syncW (Ax b) ((((hB).drop (Ax b)).appendK (Ax b) (k:=200) (by omega) (by omega)).lt (by omega))).mono ?_));rintro e ab ⟨H37,rfl,hW38⟩;refine⟨_,rfl,?_⟩;have hWn:=hWc.trans hW38;have hvb:ab.heap[gv]? =some (.cells ([PQ g 0, .map (some bm)]).toArray 86 (0,0)):=DkG.box hWc.g hW38.chg hvb (by decide) (by decide) (by decide) (by decide);clear hW;have hW:=hWn;refine BF rfl (vr (.bool (true)) rfl) (vr (NI ((BG ((A5 ((BA D (Ax b)).1) (Ax b) b).1) (Ax b)).2)) rfl) ?_;have hV:=((Fg h h0 j).trans (if_neg (fun q=>q.1 hd0))).trans (if_neg c);exact⟨H37,by rw[hV],by rw[hV];exact hW⟩
  refine gS (Zv (a:=((BA D (Ax b)).2:Nat)) (b:=(0:Nat)) rfl rfl (AY _ _ _ _) (kT (hd0) (gS (Zv (a:=((BA D (Ax b)).2:Nat)) (b:=(4:Nat)) rfl rfl (AY _ _ _ _) (gS (ZE rfl rfl ?_))))));refine cD rfl (fun f=> ?_) fun f=> ?_
  ·refine BF rfl (vr (.bool (false)) rfl) (vr (NI ((BA D (Ax b)).2)) rfl) ?_;have hV:=(Fg h h0 j).trans (if_pos ⟨hd0,f⟩);exact⟨H24,by rw[hV],by rw[hV];exact hW⟩
  refine gS (Yk.nilCheck rfl (gS (Yk.fieldAt Lm rfl (gS (Zu UQ rfl rfl (cellAt hvb rfl) ?_)))));have hWc:=hW;refine gS (ZV Va rfl rfl rfl ((hWc.g.appendW (Ax b) vb b (hr.chg hWc.chg hoff) (hWc.off hr hoff) (by omega) (((hB).drop (Ax b)).lt (by omega))).mono ?_));rintro e ac ⟨H45,rfl,hW46⟩;refine⟨_,rfl,?_⟩;have hWn:=hWc.trans hW46;have hvb:ac.heap[gv]? =some (.cells ([PQ g 0, .map (some bm)]).toArray 86 (0,0)):=DkG.box hWc.g hW46.chg hvb (by decide) (by decide) (by decide) (by decide);clear hW;have hW:=hWn;refine gS (Zv (a:=((A5 ((BA D (Ax b)).1) (Ax b) b).2:Nat)) (b:=(0:Nat)) rfl rfl (AY _ _ _ _) ?_);refine cD rfl (fun c=> ?_) fun c=> ?_
  ·refine BF rfl (vr (.bool (false)) rfl) (vr (NI ((A5 ((BA D (Ax b)).1) (Ax b) b).2)) rfl) ?_;have hV:=((Fg h h0 j).trans (if_neg (fun q=>f q.2))).trans (if_pos c);exact⟨H45,by rw[hV],by rw[hV];exact hW⟩
  refine gS (Yk.nilCheck rfl (gS (Yk.fieldAt Lm rfl (gS (Zu UQ rfl rfl (cellAt hvb rfl) ?_)))));have hWc:=hW;refine gS (Zx Ib rfl rfl ((hWc.g.syncW (Ax b) ((((hB).drop (Ax b)).appendK (Ax b) (k:=200) (by omega) (by omega)).lt (by omega))).mono ?_));rintro e ad ⟨H51,rfl,hW52⟩;refine⟨_,rfl,?_⟩;have hWn:=hWc.trans hW52;have hvb:ad.heap[gv]? =some (.cells ([PQ g 0, .map (some bm)]).toArray 86 (0,0)):=DkG.box hWc.g hW52.chg hvb (by decide) (by decide) (by decide) (by decide);clear hW;have hW:=hWn;refine BF rfl (vr (.bool (true)) rfl) (vr (NI ((BG ((A5 ((BA D (Ax b)).1) (Ax b) b).1) (Ax b)).2)) rfl) ?_;have hV:=((Fg h h0 j).trans (if_neg (fun q=>f q.2))).trans (if_neg c);exact⟨H51,by rw[hV],by rw[hV];exact hW⟩
 refine gS (Zv (a:=((Ap D (Ax b)).2:Nat)) (b:=(0:Nat)) rfl rfl (AF _ _ _ _) (kF (h0) (gS (ZH rfl rfl (cF rfl (gS (Zv (a:=((Ap D (Ax b)).2:Nat)) (b:=(0:Nat)) rfl rfl (AF _ _ _ _) (kF (h0) (gS (ZH rfl rfl (cF rfl (gS (Zv (a:=((Ap D (Ax b)).2:Nat)) (b:=(0:Nat)) rfl rfl (AF _ _ _ _) (kF (h0) (cF rfl (gS (Zv (a:=((Ap D (Ax b)).2:Nat)) (b:=(0:Nat)) rfl rfl (AY _ _ _ _) (kT (h0) (gS (Zv (a:=((Ap D (Ax b)).2:Nat)) (b:=(4:Nat)) rfl rfl (AY _ _ _ _) (gS (ZE rfl rfl ?_))))))))))))))))))))));refine cD rfl (fun f=> ?_) fun f=> ?_
 ·refine BF rfl (vr (.bool (false)) rfl) (vr (NI ((Ap D (Ax b)).2)) rfl) ?_;have hV:=(F9 h0).trans (if_pos ⟨h0,f⟩);exact⟨H,by rw[hV],by rw[hV];exact hW⟩
 have hvb:=eb n hvb;refine gS (Yk.nilCheck rfl (gS (Yk.fieldAt Lm rfl (gS (Zu UQ rfl rfl (cellAt hvb rfl) ?_)))));have hWc:=hW;refine gS (ZV Va rfl rfl rfl ((hWc.g.appendW (Ax b) vb b (hr.chg hWc.chg hoff) (hWc.off hr hoff) (by omega) ((hB).lt (by omega))).mono ?_));rintro e ae ⟨H65,rfl,hW66⟩;refine⟨_,rfl,?_⟩;have hWn:=hWc.trans hW66;have hvb:ae.heap[gv]? =some (.cells ([PQ g 0, .map (some bm)]).toArray 86 (0,0)):=DkG.box hWc.g hW66.chg hvb (by decide) (by decide) (by decide) (by decide);clear hE;clear hW;clear o;have hW:=hWn;refine gS (Zv (a:=((A5 D (Ax b) b).2:Nat)) (b:=(0:Nat)) rfl rfl (AY _ _ _ _) ?_);refine cD rfl (fun c=> ?_) fun c=> ?_
 ·refine BF rfl (vr (.bool (false)) rfl) (vr (NI ((A5 D (Ax b) b).2)) rfl) ?_;have hV:=((F9 h0).trans (if_neg (fun q=>f q.2))).trans (if_pos c);exact⟨H65,by rw[hV],by rw[hV];exact hW⟩
 refine gS (Yk.nilCheck rfl (gS (Yk.fieldAt Lm rfl (gS (Zu UQ rfl rfl (cellAt hvb rfl) ?_)))));have hWc:=hW;refine gS (Zx Ib rfl rfl ((hWc.g.syncW (Ax b) (((hB).appendK (Ax b) (k:=200) (by omega) (by omega)).lt (by omega))).mono ?_));rintro e af ⟨H71,rfl,hW72⟩;refine⟨_,rfl,?_⟩;have hWn:=hWc.trans hW72;have hvb:af.heap[gv]? =some (.cells ([PQ g 0, .map (some bm)]).toArray 86 (0,0)):=DkG.box hWc.g hW72.chg hvb (by decide) (by decide) (by decide) (by decide);clear hW;have hW:=hWn;refine BF rfl (vr (.bool (true)) rfl) (vr (NI ((BG ((A5 D (Ax b) b).1) (Ax b)).2)) rfl) ?_;have hV:=((F9 h0).trans (if_neg (fun q=>f q.2))).trans (if_neg c);exact⟨H71,by rw[hV],by rw[hV];exact hW⟩
theorem OC:Plain AcM 40:=fun _ _=>by kernel_rfl
theorem M6(z0:Nat)(z1:Nat)(w:AcK):(AeH 86 #[(0,PQ z0 0),(1, .map (some z1))]).run AcM w = .ok (.agg ([PQ z0 0, .map (some z1)]:List AcJ).toArray) w:=by kernel_rfl
theorem VF:Plain AcM 41:=fun _ _=>by kernel_rfl
theorem VG:Plain AcM 43:=fun _ _=>by kernel_rfl
theorem VH(wb w:AcK)(g:Nat)(H:Dk)(D:Ae)(hD:DkG wb w g H D)(hG:Laid wb)(hL:Df D)(hnm:(AE D).length≤100000):
  Calls AcM 13 #[PQ g 0] w fun e w' =>(D.down=true∧e = .returned (.tuple #[.pointer none,NI 9])∧Ext w w')∨(D.down=false∧∃gv bm ptr,e = .returned (.tuple #[PQ gv 0,NI 0])∧VtAt w.heap.size (Cd H D) w' gv g bm (GT D) ptr∧Ext w w'):=by
 refine gG (args:= [PQ g 0]) Tryz.func13 rfl 53 rfl rfl ?_;have hE:=Ext.refl w;have hDk:=hD;rcases hdn:D.down with _ | _
 ·refine gS (ZR UQ rfl (cF rfl (gS (ZA OC rfl (((show Calls _ _ _ _ (fun e w2=>e = .returned (.bool false)∧Ext _ w2)from by have h:=(hD.keep hE).down;rw[hdn]at h;exact h)).mono ?_)))));rintro e w7 ⟨rfl,a1⟩;refine⟨_,rfl,?_⟩;refine cF rfl (gS (Aan St pN Nm fun o a2 ba t ar bb=> ?_));have f:=Ext.refl w7;have hE:=hE.trans a1;have a3:=hE.size;have bc:o<a2.heap.size:=by omega
  refine gS (Aai (vr (PQ g 0) rfl) (vr (.map (some o)) rfl) (fun w=>M6 (g) (o) w) (gS (Yk.box (cs:=([PQ g 0, .map (some o)]:List AcJ).toArray) (show _=(.agg ([PQ g 0, .map (some o)]).toArray:AcJ)from rfl) fun r a4 a5 au ah bd=> ?_)));have hE:=hE.trans ar;have f:=f.trans ar;have be:=hE.size;have bf:=f.size;have bg:=As t.lt a5;have j:=au;clear au;have bh:r<a4.heap.size:=by omega
  have hbo_:Cd H D o:=hDk.offN (by omega);have hgo_:Cd H D r:=hDk.offN (by omega);have hlg_:w.heap.size≤r:=by omega
  have hE:=hE.trans ah;have f:=f.trans ah;have bi:=hE.size;have bj:=f.size;refine gS (Zx VF rfl rfl ((Km wb _ g H D (hD.keep hE) hL [112,45] hnm).mono ?_));rintro e bk ⟨ai,rfl,av,ac⟩;refine⟨_,rfl,?_⟩;have t:=t.keep ah;have a6:OB ai o:=Dp av.2 t.lt;have p:=ZG av;have hE:=hE.trans ac;have f:=f.trans ac;have t:=t.keep ac;have j:=eb ac j;refine gS (ZI N9 (ZC p rfl) (gL (fun(ρ:Ad) (wz:AcK)=>∃i:Nat,∃L:AN,∃ptr:Bs→Nat,ρ 0=(PQ g 0:AcJ)∧ρ 2=(.pointer none:AcJ)∧ρ 3=(NI 0:AcJ)∧ρ 4=(PQ r 0:AcJ)∧ρ 12=(.bool (false):AcJ)∧ρ 14=(.bool (false):AcJ)∧ρ 20=(ai:AcJ)∧ρ 21=(NI (((Av D [112,45])).length):AcJ)∧ρ 22=(NI i:AcJ)∧Ext w wz∧Ext w7 wz∧wz.heap[r]? =some (.cells ([PQ g 0, .map (some o)]).toArray 86 (0,0))∧RG 1 (CX) wz ai (Av D [112,45])∧PksAt (fun k=>Cd H D k∧k≠r∧k≠o) wz L ptr∧MapF St pN Nm wz o (pkG L ptr)∧(i≤(Av D [112,45]).length)∧(L=((Av D [112,45]).take i).filterMap (Ey D))∧True) (fun ρ _=>(Av D [112,45]).length-(intOf (ρ 22)).toNat) ⟨0,[],(fun _=>0),rfl,rfl,rfl,rfl,rfl,rfl,rfl,rfl,rfl,hE,f,j,p,PksAt.nil _ _ _,Cb t (rfl),Adm _,rfl,trivial⟩ ?_));clear t;clear hE j p;rintro aj bn ⟨i,L,ptr,T0,T2,T3,z,am,an,ae,af,v,hE,f,j,p,hpk,hb12l,hil,hLe,-⟩;have q22:=v;refine gS (Zv (a:=(i:Nat)) (b:=(((Av D [112,45])).length:Nat)) v af (AI _ _ _ _) ?_);refine cD rfl (fun ao=> ?_) fun ao=> ?_
  ·have hnc:(Av D [112,45]).length≤(AE D).length:=AeE _ _;have hlt:i<(Av D [112,45]).length:=ao;have hel:=MA hDk.st.ok hlt;have hrl:=H6 hL ((Av D [112,45]).getD (i) ([]:List UInt8));have hni:((Av D [112,45]).getD (i) ([]:List UInt8))∉L.map Adk:=Xy hDk.st.ok hlt hLe;have bo:(CX (((Av D [112,45])).getD (i) ([]:List UInt8))).length=1:=(RG.elem p ([]:List UInt8) (hlt));refine gS (ZO N9 UR (by decide) ([]:List UInt8) (ZC p ae) v (hlt) fun bp aw=>(gS (ZL PO rfl (PR.cell (ZT aw rfl) rfl) ?_)));clear aw;refine gS (Zx Vd T0 rfl (((hD.keep hE).read ((Av D [112,45]).getD (i) ([]:List UInt8)) hL).mono ?_));rintro e bq ⟨aa,rfl,a7,x⟩;refine⟨_,rfl,?_⟩;have u:=ZP a7;refine gS (Yk.extract (vs:= [aa,NI ((Ap D ((Av D [112,45]).getD (i) ([]:List UInt8))).2)]) rfl rfl (gS (Yk.extract (vs:= [aa,NI ((Ap D ((Av D [112,45]).getD (i) ([]:List UInt8))).2)]) rfl rfl ?_)));have hE:=hE.trans x;have hsz_:=hE.size;have hDo:=(hD.keep hE);have j:=eb x j;have hlb1_:=bl j;have hb12l:=hb12l.keep x;have hlb2_:=(hb12l).lt;refine gS (ZA VG rfl ((N3 _ (hG.keep ((hD.keep hE)).ext) aa (Ap D ((Av D [112,45]).getD (i) ([]:List UInt8))).1 u).mono ?_));rintro e a8 ⟨_,rfl,pp,cc,rfl,hON,s⟩;refine⟨_,rfl,?_⟩;refine gS (Yk.extract (vs:= [pp,NI cc]) rfl rfl (gS (Yk.extract (vs:= [pp,NI cc]) rfl rfl ?_)));rcases hop:B4 (Ap D ((Av D [112,45]).getD (i) ([]:List UInt8))).1 with er | pk
   rotate_left
   ·have ax:=(OpenNew.okV hON hop).1;refine Aeo (Aa0 hON hop) fun gp hpp=> ?_;have hPP:PackP (fun k=>Cd H D k∧k≠r∧k≠o) a8 (pN gp) pk:=AaZ (hpp▸(OpenNew.okV hON hop).2) (fun k h1 h2=>⟨hDo.offN h1,by omega,by omega⟩);by_cases hnp:((Av D [112,45]).getD (i) ([]:List UInt8))=Ax (Ap D ((Av D [112,45]).getD (i) ([]:List UInt8))).1
    ·have hvp:Hs D ((Av D [112,45]).getD (i) ([]:List UInt8))=some pk:=by unfold Hs;rw[hop];exact if_pos hnp.symm
     have hE:=hE.trans s;have u:=u.keep s;refine gS (Zv (a:=(0:Nat)) (b:=(0:Nat)) (vr (NI 0) (congrArg (fun n:Nat=>NI n) ax)) rfl (AF _ _ _ _) (kT (rfl) (gS (ZA OA rfl ((Em _ (hG.keep ((hD.keep hE)).ext) aa (Ap D ((Av D [112,45]).getD (i) ([]:List UInt8))).1 u (by omega)).mono ?_)))));rintro e ay ⟨rfl,ag⟩;refine⟨_,rfl,?_⟩;have hZ1:=s.trans ag;have j:=eb hZ1 j;refine gS (Aao (l:=Ax (Ap D ((Av D [112,45]).getD (i) ([]:List UInt8))).1) (m:=((Av D [112,45])).getD (i) ([]:List UInt8)) (.inl rfl) rfl rfl (decide ((Ax (Ap D ((Av D [112,45]).getD (i) ([]:List UInt8))).1:List UInt8)=(((Av D [112,45])).getD (i) ([]:List UInt8):List UInt8))) rfl (kT (hnp.symm) (gS (ZE rfl rfl (cT rfl (gS (Yk.nilCheck z (gS (Yk.fieldAt Ll rfl (gS (Zu Kn rfl rfl (cellAt j rfl) ?_)))))))))));have hZ2:=(x.trans s).trans ag;have hpk:=hpk.keep hZ2;have hpk:PksAt (fun k=>Cd H D k∧k≠r∧k≠o) ay L ptr:=hpk;have hPP:=hPP.keep ag;have hPP:PackP (fun k=>Cd H D k∧k≠r∧k≠o) ay (pN gp) pk:=hPP;have hb12l:=hb12l.keep hZ1;refine gS (Aak (ek:=St) (ev:=pN) (D:=Nm) (c:=gp) Fp Ew Kn (vr (.map (some o)) rfl) (vr (St (((Av D [112,45])).getD (i) ([]:List UInt8))) rfl) (vr (PQ gp 0) hpp) hb12l (by exact hel) fun ap az y br=> ?_);have p:=p.keep hZ2;have p:=RG.kept p y (.inr a6);have hpk:PksAt (fun k=>Cd H D k∧k≠r∧k≠o) ap L ptr:=PksAt.set hpk y (fun k q=>q.2.2);clear u;have hPP:PackP (fun k=>Cd H D k∧k≠r∧k≠o) ap (pN gp) pk:=PackP.set hPP y (fun k q=>q.2.2);clear hb12l;have bs:o<ap.heap.size:=az.lt;have hpk:=Aa7 hpk hni hPP;have f:=f.trans hZ2;have f:=Ab f y (AcN (AcP _) (by omega));have hE:=hE.trans ag;have hE:=Ab hE y (AcN a3 (by omega));have j:=kb y j (by omega);refine gS (Zw (xv:=NI i) (yv:=NI 1) v rfl rfl (Ag _ _ _ (by omega)) (gK (Adr ⟨i+1,L++ [(((Av D [112,45]).getD (i) ([]:List UInt8)),pk)],updP ptr ((Av D [112,45]).getD (i) ([]:List UInt8)) gp,T0,T2,T3,z,am,an,ae,af,rfl,hE,f,j,p,hpk,Cb az ((Kl hni)),by omega,(Xx hlt hLe hvp),trivial⟩ ?_)));show(Av D [112,45]).length-(intOf (NI ((i)+(1)))).toNat<(Av D [112,45]).length-(intOf (aj 22)).toNat;rw[q22];simp only[intOf,Ac0];omega
    have hvp:Hs D ((Av D [112,45]).getD (i) ([]:List UInt8))=none:=by unfold Hs;rw[hop];exact if_neg (fun q=>hnp q.symm)
    have hE:=hE.trans s;have u:=u.keep s;refine gS (Zv (a:=(0:Nat)) (b:=(0:Nat)) (vr (NI 0) (congrArg (fun n:Nat=>NI n) ax)) rfl (AF _ _ _ _) (kT (rfl) (gS (ZA OA rfl ((Em _ (hG.keep ((hD.keep hE)).ext) aa (Ap D ((Av D [112,45]).getD (i) ([]:List UInt8))).1 u (by omega)).mono ?_)))));rintro e a0 ⟨rfl,ab⟩;refine⟨_,rfl,?_⟩;have hZ3:=x.trans s;have hpk:=hpk.keep hZ3;have hpk:PksAt (fun k=>Cd H D k∧k≠r∧k≠o) a0 L ptr:=(hpk.keep ab);have hPP:PackP (fun k=>Cd H D k∧k≠r∧k≠o) a0 (pN gp) pk:=(hPP.keep ab);have hZ4:=hZ3.trans ab;have f:=f.trans hZ4;have p:=p.keep hZ4;have hZ5:=s.trans ab;have j:=eb hZ5 j;have hb12l:=hb12l.keep hZ5;have hE:=hE.trans ab;refine gS (Aao (l:=Ax (Ap D ((Av D [112,45]).getD (i) ([]:List UInt8))).1) (m:=((Av D [112,45])).getD (i) ([]:List UInt8)) (.inl rfl) rfl rfl (decide ((Ax (Ap D ((Av D [112,45]).getD (i) ([]:List UInt8))).1:List UInt8)=(((Av D [112,45])).getD (i) ([]:List UInt8):List UInt8))) rfl (kF ((fun q=>hnp q.symm)) (gS (ZE rfl rfl (cF rfl (gS (Zw (xv:=NI i) (yv:=NI 1) v rfl rfl (Ag _ _ _ (by omega)) (gK (Adr ⟨i+1,L,ptr,T0,T2,T3,z,am,an,ae,af,rfl,hE,f,j,p,hpk,Cb hb12l (rfl),by omega,(TF hlt hLe hvp),trivial⟩ ?_)))))))));show(Av D [112,45]).length-(intOf (NI ((i)+(1)))).toNat<(Av D [112,45]).length-(intOf (aj 22)).toNat;rw[q22];simp only[intOf,Ac0];omega
   have hce:=OpenNew.bad hON hop;have hvp:Hs D ((Av D [112,45]).getD (i) ([]:List UInt8))=none:=by unfold Hs;rw[hop]
   have hZ6:=x.trans s;have f:=f.trans hZ6;have p:=p.keep hZ6;have hpk:=hpk.keep hZ6;have hE:=hE.trans s;have j:=eb s j;have hb12l:=hb12l.keep s;refine gS (Zv (a:=(cc:Nat)) (b:=(0:Nat)) rfl rfl (AF _ _ _ _) (kF (hce) (gS (ZH rfl rfl (cF rfl (gS (Zw (xv:=NI i) (yv:=NI 1) v rfl rfl (Ag _ _ _ (by omega)) (gK (Adr ⟨i+1,L,ptr,T0,T2,T3,z,am,an,ae,af,rfl,hE,f,j,p,hpk,Cb hb12l (rfl),by omega,(TF hlt hLe hvp),trivial⟩ ?_)))))))));show(Av D [112,45]).length-(intOf (NI ((i)+(1)))).toNat<(Av D [112,45]).length-(intOf (aj 22)).toNat;rw[q22];simp only[intOf,Ac0];omega
  refine BF rfl z (vr (NI 0) rfl) ?_;have hie:i=(Av D [112,45]).length:=by have h:=ao;omega
  rw[hie,Ad6]at hLe;exact .inr ⟨rfl,_,_,ptr,rfl,⟨j,(show L=GT D from hLe)▸hb12l,(show L=GT D from hLe)▸hpk,RD hDk.st.ok,hgo_,hbo_,hlg_⟩,hE⟩
 refine gS (ZR UQ rfl (cF rfl (gS (ZA OC rfl (((show Calls _ _ _ _ (fun e w2=>e = .returned (.bool true)∧Ext _ w2)from by have h:=(hD.keep hE).down;rw[hdn]at h;exact h)).mono ?_)))));rintro e bt ⟨rfl,a9⟩;refine⟨_,rfl,?_⟩;refine cT rfl (BF rfl (vr (.pointer none) rfl) (vr (NI 9) rfl) ?_);have hE:=hE.trans a9;exact .inl ⟨rfl,rfl,hE⟩
theorem Yz{w w' :AcK}{b:Nat}{v:AcJ}{l:List UInt8}{α β:Type}{ek:α→AcJ}{ev:β→AcJ}{E:α→Prop}{G:α→Option β}(h:RB w v l)(hg:w.grownBy w' (some b))(hm:MapF ek ev E w b G):RB w' v l:=by
 by_cases hl:l= []
 ·subst hl;exact h.chg (B:=fun _=>True) (ZX hg fun _ _=> .inl trivial) (.inl rfl)
 ·obtain⟨es,c,hb,-⟩:=hm;refine h.chg (B:=fun k=>k=b) (ZX hg fun i e=> .inl (Adu e).symm) (.inr fun k hk q=> ?_);subst q;obtain⟨q1,ao,cap,rfl,q2,q3,q4,q5⟩:=h;cases ao with
  | none=>cases hk
  | some a=>
   cases l with
   | nil=>exact hl rfl
   | cons x r=>
    have hc:=q5 a rfl 0 _ (show _=some (B8 x)from rfl);have e:(a.add 0).block=a.block:=by unfold AeO;split <;> rfl
    have hk:a.block=k:=Adu hk;unfold Afc at hc;rw[e,hk,hb]at hc;cases hc
theorem VI:Plain AcM 49:=fun _ _=>by kernel_rfl
theorem VJ:Plain AcM 50:=fun _ _=>by kernel_rfl
theorem OD:Plain AcM 51:=fun _ _=>by kernel_rfl
theorem OE(ao:Option Addr)(n c:Nat)(ao' :Option Addr)(n' c' :Nat)(w:AcK):(Adt 38 2 #[(0, .slice ao n c),(1, .slice ao' n' c')]).run AcM w = .ok (.slice (some ⟨w.heap.size,0,none⟩) 2 2) (w.alloc (.cells #[.slice ao n c, .slice ao' n' c'] 27)):=by kernel_rfl
theorem TR:(Tryz.prog.info? 84).map (·.size)=some 1:=by kernel_rfl
theorem VK(wb w:AcK)(g:Nat)(H:Dk)(D:Ae)(hD:DkG wb w g H D)(hG:Laid wb)(hL:Df D)(n:Nat)(gv bm:Nat)(L:AN)(ptr:Bs→Nat)(hV:VtAt n (Cd H D) w gv g bm L ptr)(hgL:GoodL L)(hLn:L.length≤100000)(hnw:wb.heap.size≤n)(vi:AcJ)(ids:List Bs)(hid_:RG 32 AcL w vi ids)(hi32a:∀id∈ids,id.length=32)(dc:ids.length≤60)(hsmall:∀id∈ids,(getV D L id).2=0→(getV D L id).1.length≤200)(vc:AcJ)(ch:List Int)(hch:RG 1 BV w vc ch)(hchl:ch.length≤1099511627776)(m:Nat)(hB:DBd m D)(hm:m≤30000):
  Calls AcM 16 #[PQ gv 0,vi,vc] w fun e w' =>∃H' vcl o,e = .returned (.tuple #[vcl,NI (BC D L o ch).2.2.2])∧Ek o∧(∀x,x∈o↔x∈ids)∧RBs w' vcl (BC D L o ch).2.2.1∧VtK wb w n g gv H D w' H' (BC D L o ch).1 (BC D L o ch).2.1:=by
 have hvb:=hV.blk;have hvm:=hV.map;have hpk:=hV.pk;have hsrt:=hV.sort;have hV0:=hV;refine gG (args:= [PQ gv 0,vi,vc]) Tryz.func16 rfl 136 rfl rfl ?_;have hE:=Ext.refl w;refine gS (ZR Ot rfl (cF rfl (gS (ZA Vn rfl ((Jv _ _ ids (hid_.keep hE) (by omega)).mono ?_)))));rintro e w8 ⟨v5,o,rfl,cj,hS,hM,hN,bs⟩;refine⟨_,rfl,?_⟩;have hE:=hE.trans bs;have de:=hE.size;have hszp_:=(hE).size;have hi32o:∀id∈o,id.length=32:=fun id h=>hi32a id ((hM id).1 h);have hsmo:∀id∈o,(getV D L id).2=0→(getV D L id).1.length≤200:=fun id h=>hsmall id ((hM id).1 h);refine gS (ZV VI rfl rfl rfl ((VD wb _ g H D (hD.keep hE) hG hL n gv bm L ptr (hV0.keep hE) hgL hLn v5 o (ZG cj) hi32o (by omega) hsmo vc ch (hch.keep hE) hchl).mono ?_));rintro e bt ⟨v9,us,rfl,hrow_,hall_,ba⟩;refine⟨_,rfl,?_⟩;have husl:=hall_.len;have hrowp:=OG.low hrow_ hszp_;have husp:AllN w.heap.size bt us (AP D L o ch).1:=⟨hall_.len,hall_.rb,fun i hi=>(hall_.new i hi).low hszp_⟩;refine gS (Yk.extract (vs:= [v9,NI ((AP D L o ch).2)]) rfl rfl (gS (Yk.extract (vs:= [v9,NI ((AP D L o ch).2)]) rfl rfl (gS (Zv (a:=((AP D L o ch).2:Nat)) (b:=(0:Nat)) rfl rfl (AY _ _ _ _) ?_)))));refine cD rfl (fun ad=> ?_) fun ad=> ?_
 ·refine BF rfl (vr (AcU none 0 0) rfl) (vr (NI ((AP D L o ch).2)) rfl) ?_;have hV:BC D L o ch=(D,L,[],(AP D L o ch).2):=Vw ad;have hE:=hE.trans ba;exact⟨_,_,o,by rw[hV],hS,hM,by rw[hV];exact RBs.nil _,by rw[hV];exact AaC hV0 (Aaj hD hE)⟩
 have hpp:=GW (fun hm=>I6 ((Ex ch (szV D L o) (szV D L o).length).lb.trans (Gd D L o)) (by omega) hsmo hm) ad;have hE:=hE.trans ba;have hszq_:=(hE).size;have hgvl_:=(bl hV0.blk);have hwb_:=hD.ext.size;refine gS (Aan St pN Nm fun l ck bu bv a2 df=> ?_);have bb:=Ext.refl bt;have dh:=hE.size;have hZ1:=bs.trans ba;have hvm:=hvm.keep hZ1;have di:=As hvm.lt bu;have dj:l<ck.heap.size:=by omega
 have hbml_:w.heap.size≤l:=by omega
 have hbo2:Cd H D l:=hD.offN hbml_;have hne2:l≠gv:=by omega
 have hrowp:=hrowp.keep a2;refine gS (ZI Mg (ZC (ZG hrowp) rfl) ?_);have hE:=hE.trans a2;have hW0:=Aaj hD hE;have hrowp0:=hrowp;have bb:=bb.trans a2;have husp0:=(husp.keep bb);have hvb:=eb hZ1 hvb;have dk:=As (bl hvb) bu;have hvb:=eb a2 hvb;refine gL (fun(ρ:Ad) (wz:AcK)=>∃i:Nat,∃Hi:Dk,∃Di:Ae,∃M:AN,∃ptr2:Bs→Nat,∃r10:AcJ,ρ 0=(PQ gv 0:AcJ)∧ρ 1=(vi:AcJ)∧ρ 2=(vc:AcJ)∧ρ 8=(v9:AcJ)∧ρ 9=(.map (some l):AcJ)∧ρ 25=(.bool (false):AcJ)∧ρ 38=(v9:AcJ)∧ρ 39=(NI us.length:AcJ)∧ρ 40=(NI i:AcJ)∧ρ 10=(r10:AcJ)∧wz.heap[gv]? =some (.cells ([PQ g 0, .map (some bm)]).toArray 86 (0,0))∧DkW wb w g H D wz Hi Di∧PksAt (fun k=>Cd Hi (Di) k∧k≠gv∧k≠l) wz (M) (ptr2)∧PlZ i w.heap.size wz v9 us (AP D L o ch).1∧MapF St pN Nm wz l (pkG M ptr2)∧(i≤(AP D L o ch).1.length)∧(KSt D L o ch H i Hi Di M r10)∧(Cd Hi Di l)∧True) (fun ρ _=>(AP D L o ch).1.length-(intOf (ρ 40)).toNat) ⟨0,H,D,[],ptr,(AcU none 0 0),rfl,rfl,rfl,rfl,rfl,rfl,rfl,rfl,rfl,rfl,hvb,hW0,PksAt.nil _ _ _,(fun _=>⟨hrowp0,husp0⟩),Cb bv (rfl),Adm _, .inl ⟨rfl,rfl,rfl,rfl,rfl⟩,hbo2,trivial⟩ ?_;clear hvm;clear bv;clear hvb;rintro bw bx ⟨i,Hi,Di,M,ptr2,r10,T0,T1,T2,T8,T9,ao,ai,aj,ac,ae,hvb,hW,hPk,hun,hb22l,hil,hst,hbo,-⟩;have q40:=ac;refine gS (Zv (a:=(i:Nat)) (b:=(us.length:Nat)) ac aj (AI _ _ _ _) ?_);refine cD rfl (fun aq=> ?_) fun aq=> ?_
 ·have hlt:i<(AP D L o ch).1.length:=by rw[←husl];exact aq
  have t:=hst.zero hlt;have hpz:=hun t.1;have hpk1:=Y4 (p:=([],fun _=>none)) hpp hlt t.1;refine Aeo hpk1.2.1 fun p hop=> ?_;have dl:=hpk1.2.2;have hrow1:=hpz.1;have hus1:=hpz.2;have hbr:=hus1.rb i hlt;have hbn:=hus1.new i hlt;have hni:Ax (A2 D L o ch i)∉M.map Adk:=by rw[t.2.2.2.1];exact Aeu
  have dm:(Ez (us.getD (i) undef)).length=1:=(RG.elem (ZG hrow1) undef (aq));refine gS (ZO Mg SE (by decide) undef (ZC (ZG hrow1) ai) ac (aq) fun dn bz=>(gS (ZL Gj rfl (PR.cell (ZT bz rfl) rfl) ?_)));clear bz;have hDo:=(hW).g;have hlb1_:=bl hvb;have hlb2_:=(hb22l).lt;refine gS (ZA VG rfl ((N3 _ (hG.keep (hW).g.ext) (us.getD (i) undef) (A2 D L o ch i) hbr).mono ?_));rintro e b0 ⟨_,rfl,pp,cc,rfl,hON,bc⟩;refine⟨_,rfl,?_⟩;have hW:DkW wb w g H D b0 Hi (Di):=(hW.keep bc);refine gS (Yk.extract (vs:= [pp,NI cc]) rfl rfl (gS (Yk.extract (vs:= [pp,NI cc]) rfl rfl (Aeo (Aa0 hON hop) fun gp hpp2=> ?_))));have hPP:PackP (fun k=>Cd Hi Di k∧k≠gv∧k≠l) b0 (pN gp) p:=AaZ (hpp2▸(OpenNew.okV hON hop).2) (fun k h1 h2=>⟨hDo.offN h1,by omega,by omega⟩);have hbr:=hbr.keep bc;refine gS (ZA OA rfl ((Em _ (hG.keep (hW).g.ext) (us.getD (i) undef) (A2 D L o ch i) hbr (by omega)).mono ?_));rintro e a3 ⟨rfl,a4⟩;refine⟨_,rfl,?_⟩;have hW:DkW wb w g H D a3 Hi (Di):=(hW.keep a4);have hZ2:=bc.trans a4;have hPk:=hPk.keep hZ2;have hPk:PksAt (fun k=>Cd Hi (Di) k∧k≠gv∧k≠l) a3 (M) (ptr2):=hPk;have hPP:=hPP.keep a4;have hPP:PackP (fun k=>Cd Hi Di k∧k≠gv∧k≠l) a3 (pN gp) p:=hPP;have hbr:=hbr.keep a4;have hbr:RB a3 (us.getD (i) undef) (A2 D L o ch i):=hbr;have hb22l:=hb22l.keep hZ2;refine gS (Aak (ek:=St) (ev:=pN) (D:=Nm) (c:=gp) Fp Ew Kn T9 (vr (St (Ax (A2 D L o ch i))) rfl) (vr (PQ gp 0) hpp2) hb22l (by show(Ax _).length≤80;rw[LP];decide) fun ar b1 au dp=> ?_);have hW:DkW wb w g H D ar Hi (Di):=Acp hW au hb22l hbo hbml_ hwb_;have hPk:PksAt (fun k=>Cd Hi (Di) k∧k≠gv∧k≠l) ar (M) (ptr2):=PksAt.set hPk au (fun k q=>q.2.2);have hbr:RB ar (us.getD (i) undef) (A2 D L o ch i):=Yz hbr au hb22l;have hPP:PackP (fun k=>Cd Hi Di k∧k≠gv∧k≠l) ar (pN gp) p:=PackP.set hPP au (fun k q=>q.2.2);clear hb22l;have dq:l<ar.heap.size:=b1.lt;have hPk:=Aa7 hPk hni hPP;have hWc:=hW;have hMc:=b1;have hPc:=hPk;have hrc:=hbr;have hvb:=eb hZ2 hvb;have hvb:=kb au hvb (by omega);have hvc:=hvb;have hBi:DBd m Di:=t.2.1▸hB;have hoff:∀k,AcT (us.getD (i) undef)=some k→Cd Hi Di k:=fun k hk=>by rw[t.2.1,t.2.2.1];exact hD.offN (hbn k hk).1
  refine gS (Zx VJ T0 rfl ((TQ wb _ g Hi Di hWc.g hG gv bm hvc (us.getD (i) undef) (A2 D L o ch i) hrc (.inr hoff) (by omega) m hBi (by omega)).mono ?_));rintro e dr ⟨H59,rfl,hW2⟩;refine⟨_,rfl,?_⟩;have hW:=hWc.trans hW2;have hvb:=DkG.box hWc.g hW2.chg hvc (by decide) (by decide) (by decide) (by decide);have hmp:=MapF.chg hMc hW2.chg hbo;have hPk:=PksAt.stepW hPc hW2;have hbr:=hrc.chg hW2.chg (.inr hoff);have hbo3:=hW2.offB hMc.lt hbo;have b2:DBd (m+202) (AH Di (A2 D L o ch i)).1:=hBi.write (by omega);refine gS (Yk.extract (vs:= [.bool ((AH Di (A2 D L o ch i)).2.1),NI ((AH Di (A2 D L o ch i)).2.2)]) rfl rfl (gS (Yk.extract (vs:= [.bool ((AH Di (A2 D L o ch i)).2.1),NI ((AH Di (A2 D L o ch i)).2.2)]) rfl rfl ?_)));refine cB ((AH Di (A2 D L o ch i)).2.1) rfl (fun be=> ?_) fun be=> ?_
  ·have hwf:=Pp be;refine gS (ZA OA rfl ((Em _ (hG.keep (hW).g.ext) (us.getD (i) undef) (A2 D L o ch i) hbr (by omega)).mono ?_));rintro e cl ⟨rfl,b3⟩;refine⟨_,rfl,?_⟩;have hW:DkW wb w g H D cl H59 ((AH Di (A2 D L o ch i)).1):=(hW.keep b3);refine gS (ZZ (a:=Ax (A2 D L o ch i)) (enc:=CX) (vr (St (Ax (A2 D L o ch i))) rfl) rfl (fun w=>Ke _ w) fun cm av cn b4=> ?_);have hW:DkW wb w g H D av H59 ((AH Di (A2 D L o ch i)).1):=(hW.keep b4);have a5:=Ext.refl av;refine gS (ZM _ _ av.heap.size _ 16 N9 va1_ig9.choose_spec.1 va1_ig9.choose_spec.2 N9 ([]) ([Ax (A2 D L o ch i)]) (OG.of (OG.nil _ _ _ _ _) (vr (AcU none 0 0) (ae.trans t.2.2.2.2))) (ZC cn (vr cm rfl)) (fun y hy u hu=>by rw[AcY.1 hu];rfl) (by simp only[Ac9,Adp];omega) (by simp only[Ac9,Adp];omega) a5.size fun b5 bf ds bg=> ?_);have bg:Grew av bf (.slice none 0 0) b5:= .eqv (ae.trans t.2.2.2.2) bg;have hZ3:=b3.trans b4;have hvb:=eb hZ3 hvb;have dt:=(bl hvb);have hmp:=hmp.keep hZ3;have du:=hmp.lt;have hx_:Ext av bf:=AaQ (by have:=bg.by_;exact this);have hW:DkW wb w g H D bf H59 ((AH Di (A2 D L o ch i)).1):=(hW.keep hx_);refine gS (Zv (a:=((AH Di (A2 D L o ch i)).2.2:Nat)) (b:=(8:Nat)) rfl rfl (AF _ _ _ _) (kF (hwf.1) (cF rfl (gS (Zv (a:=((AH Di (A2 D L o ch i)).2.2:Nat)) (b:=(7:Nat)) rfl rfl (AF _ _ _ _) (kF (hwf.2) (cF rfl (gS (Zv (a:=((AH Di (A2 D L o ch i)).2.2:Nat)) (b:=(0:Nat)) rfl rfl (AY _ _ _ _) ?_)))))))));refine cD rfl (fun ak=> ?_) fun ak=> ?_
   ·refine BF rfl (vr (AcU none 0 0) rfl) (vr (NI ((AH Di (A2 D L o ch i)).2.2)) rfl) ?_;have hV:BC D L o ch=((AH Di (A2 D L o ch i)).1,L,[],(AH Di (A2 D L o ch i)).2.2):=(KSt.one t ad hpk1.1 hop).trans (MM hwf.1 hwf.2 ak);exact⟨_,_,o,by rw[hV],hS,hM,by rw[hV];exact RBs.nil _,by rw[hV];exact AaC hV0 hW⟩
   have hPk:=hPk.keep hZ3;have hvb:=eb hx_ hvb;have hmp:=hmp.keep hx_;have a5:=a5.trans hx_;refine gS (Zw (xv:=NI i) (yv:=NI 1) ac rfl rfl (Ag _ _ _ (by omega)) (gK (Adr ⟨i+1,H59,(AH Di (A2 D L o ch i)).1,M++ [(Ax (A2 D L o ch i),p)],updP ptr2 (Ax (A2 D L o ch i)) gp,b5,T0,T1,T2,T8,T9,ao,ai,aj,rfl,rfl,hvb,hW,(hPk.keep a5),PlZ.done,Cb hmp ((Kl hni)),by omega,KSt.next t hpk1.1 hop (Afu.1 ak),hbo3,trivial⟩ ?_)));show(AP D L o ch).1.length-(intOf (NI ((i)+(1)))).toNat<(AP D L o ch).1.length-(intOf (bw 40)).toNat;rw[q40];simp only[intOf,Ac0];omega
  refine gS (Zv (a:=((AH Di (A2 D L o ch i)).2.2:Nat)) (b:=(8:Nat)) rfl rfl (AF _ _ _ _) ?_);refine cD rfl (fun a6=> ?_) fun a6=> ?_
  ·refine gS (Yk.nilCheck T0 (gS (Yk.fieldAt Lm rfl (gS (Zu UQ rfl rfl (cellAt hvb rfl) (gS (Aau (vr (PQ g 0) rfl) ?_)))))));have hWd:=hW;refine gS (Zx OD (vr (AcU none 0 0) (ae.trans t.2.2.2.2)) rfl ((P4 wb _ g H59 (AH Di (A2 D L o ch i)).1 hWd.g 0 (.slice none 0 0) [] (OG.nil _ _ _ _ _) (m+202) b2 (by show _+0≤_;omega)).mono ?_));rintro e co ⟨H87,rfl,hW9,-⟩;refine⟨_,rfl,?_⟩;have hW:DkW wb w g H D co H87 (AH Di (A2 D L o ch i)).1:=hWd.trans hW9;refine gS (Zv (a:=((BQ (AH Di (A2 D L o ch i)).1 []).2:Nat)) (b:=(0:Nat)) rfl rfl (AY _ _ _ _) (kF (fun q=>q rfl) (cF rfl (gS (Zv (a:=((AH Di (A2 D L o ch i)).2.2:Nat)) (b:=(7:Nat)) rfl rfl (AF _ _ _ _) (kF (by omega) (cF rfl (gS (Zv (a:=((AH Di (A2 D L o ch i)).2.2:Nat)) (b:=(0:Nat)) rfl rfl (AY _ _ _ _) (kT (by omega) (cT rfl (BF rfl (vr (AcU none 0 0) rfl) (vr (NI ((AH Di (A2 D L o ch i)).2.2)) rfl) ?_))))))))))));have hV:BC D L o ch=((AH Di (A2 D L o ch i)).1,L,[],8):=(KSt.one t ad hpk1.1 hop).trans (Lr be a6);exact⟨_,_,o,by rw[hV,a6],hS,hM,by rw[hV];exact RBs.nil _,by rw[hV];exact AaC hV0 hW⟩
  refine gS (Zv (a:=((AH Di (A2 D L o ch i)).2.2:Nat)) (b:=(7:Nat)) rfl rfl (AF _ _ _ _) ?_);refine cD rfl (fun a7=> ?_) fun a7=> ?_
  ·refine D6 [0,1,2,3,4,5,6,7,8,9,10,11] [5,6] [1,2] [3] fun b6 bh=> ?_;have hW:DkW wb w g H D b6 H59 ((AH Di (A2 D L o ch i)).1):=(hW.keep bh);have a8:=Ext.refl b6;have hvb:=eb bh hvb;have hbr:=hbr.keep bh;refine DM a8 ?_;refine yp (Yk.nilCheck T0 zz) (yp (Yk.fieldAt Lm rfl zz) (yf (fun _ ⟨hZ,_⟩=>Zu UQ rfl rfl (cellAt (eb hZ hvb) rfl) zz) (yE (ZA OA rfl ((Em _ (hG.keep (hW).g.ext) (us.getD (i) undef) (A2 D L o ch i) hbr (by omega)).mono ?_)))));rintro e cp ⟨rfl,bi⟩;refine⟨_,rfl,?_⟩;have hW:DkW wb w g H D cp H59 ((AH Di (A2 D L o ch i)).1):=(hW.keep bi);have a8:=a8.trans bi;refine⟨a8,?_⟩;refine yD rfl (Zx Vd rfl rfl (((hW).g.read (Ax (A2 D L o ch i)) (b2.lt (by omega))).mono ?_));rintro e cq ⟨bj,rfl,cr,b7⟩;refine⟨_,rfl,?_⟩;have hW:DkW wb w g H D cq H59 ((AH Di (A2 D L o ch i)).1):=(hW.keep b7);have cs:=ZP cr;have hZ4:=bi.trans b7;have hbr:=hbr.keep hZ4;refine ys (Yk.extract (vs:= [bj,NI ((Ap (AH Di (A2 D L o ch i)).1 (Ax (A2 D L o ch i))).2)]) rfl rfl zz) (ys (Yk.extract (vs:= [bj,NI ((Ap (AH Di (A2 D L o ch i)).1 (Ax (A2 D L o ch i))).2)]) rfl rfl zz) (gS (Acf OE (ZB hbr (vr (us.getD (i) undef) rfl)) (ZB cs (vr bj rfl)) fun ct cu cv cw=> ?_)));have hW:DkW wb w g H D cu H59 ((AH Di (A2 D L o ch i)).1):=(hW.keep cw);refine BF rfl (vr ct rfl) (vr (NI ((AH Di (A2 D L o ch i)).2.2)) rfl) ?_;have hV:BC D L o ch=((AH Di (A2 D L o ch i)).1,L,[(A2 D L o ch i),(Ap (AH Di (A2 D L o ch i)).1 (Ax (A2 D L o ch i))).1],7):=(KSt.one t ad hpk1.1 hop).trans (RM a7);exact⟨_,_,o,by rw[hV,a7],hS,hM,by rw[hV];exact cv,by rw[hV];exact AaC hV0 hW⟩
  refine gS (Zv (a:=((AH Di (A2 D L o ch i)).2.2:Nat)) (b:=(0:Nat)) rfl rfl (AY _ _ _ _) ?_);refine cD rfl (fun ak=> ?_) fun ak=> ?_
  ·refine BF rfl (vr (AcU none 0 0) rfl) (vr (NI ((AH Di (A2 D L o ch i)).2.2)) rfl) ?_;have hV:BC D L o ch=((AH Di (A2 D L o ch i)).1,L,[],(AH Di (A2 D L o ch i)).2.2):=(KSt.one t ad hpk1.1 hop).trans (MM a6 a7 ak);exact⟨_,_,o,by rw[hV],hS,hM,by rw[hV];exact RBs.nil _,by rw[hV];exact AaC hV0 hW⟩
  refine gS (Zw (xv:=NI i) (yv:=NI 1) ac rfl rfl (Ag _ _ _ (by omega)) (gK (Adr ⟨i+1,H59,(AH Di (A2 D L o ch i)).1,M++ [(Ax (A2 D L o ch i),p)],updP ptr2 (Ax (A2 D L o ch i)) gp,(AcU none 0 0),T0,T1,T2,T8,T9,ao,ai,aj,rfl,(ae.trans t.2.2.2.2),hvb,hW,hPk,PlZ.done,Cb hmp ((Kl hni)),by omega,KSt.next t hpk1.1 hop (Afu.1 ak),hbo3,trivial⟩ ?_)));show(AP D L o ch).1.length-(intOf (NI ((i)+(1)))).toNat<(AP D L o ch).1.length-(intOf (bw 40)).toNat;rw[q40];simp only[intOf,Ac0];omega
 have hkl:=hst.done (by rw[←husl];exact aq) ad;have hMs:=hst.sort;have hBD:=hst.bd hB hpp;have hLi:Df Di:=hBD.lt (by omega);have hnl:=hBD.list;refine gS (Yk.nilCheck T0 (gS (Yk.fieldAt Lm rfl (gS (Zu UQ rfl rfl (cellAt hvb rfl) ?_)))));have f:=Ext.refl bx;refine gS (Zx VF rfl rfl ((Km wb _ g Hi Di ((hW.keep f)).g hLi [112,45] (by omega)).mono ?_));rintro e af ⟨cx,rfl,cy,bk⟩;refine⟨_,rfl,?_⟩;have bn:=ZG cy;refine gS (ZI N9 (ZC bn rfl) ?_);have r:=Ext.refl af;have f:=f.trans bk;have b8:=f.size;refine Aeo (⟨_,rfl⟩:∃v:AcJ,(AcU none 0 0)=v) fun nv20 hnv20=> ?_;have hrow20:OG af.heap.size 9 1 CX af nv20 ([]:List (List UInt8)):=hnv20▸OG.nil _ _ _ _ _;have cz:OB nv20 gv:=fun e_=>by rw[←hnv20]at e_;cases e_
 have c0:OB nv20 l:=fun e_=>by rw[←hnv20]at e_;cases e_
 have hvb:=eb bk hvb;have hb22l:=hb22l.keep bk;refine gL (fun(ρ:Ad) (wz:AcK)=>∃j:Nat,∃r20:AcJ,ρ 0=(PQ gv 0:AcJ)∧ρ 1=(vi:AcJ)∧ρ 2=(vc:AcJ)∧ρ 8=(v9:AcJ)∧ρ 9=(.map (some l):AcJ)∧ρ 10=(r10:AcJ)∧ρ 25=(.bool (false):AcJ)∧ρ 38=(v9:AcJ)∧ρ 39=(NI us.length:AcJ)∧ρ 40=(NI i:AcJ)∧ρ 101=(cx:AcJ)∧ρ 102=(NI (((Av Di [112,45])).length):AcJ)∧ρ 103=(NI j:AcJ)∧ρ 20=(r20:AcJ)∧wz.heap[gv]? =some (.cells ([PQ g 0, .map (some bm)]).toArray 86 (0,0))∧MapF St pN Nm wz l (pkG M ptr2)∧Ext bx wz∧Ext af wz∧OG af.heap.size 9 1 (CX) wz r20 (((Av Di [112,45]).take j).filter (fun s=>(M.lookup s).isNone))∧(j≤(Av Di [112,45]).length)∧(OB r20 gv)∧(OB r20 l)∧True) (fun ρ _=>(Av Di [112,45]).length-(intOf (ρ 103)).toNat) ⟨0,nv20,T0,T1,T2,T8,T9,ae,ao,ai,aj,ac,rfl,rfl,rfl,((show _=(AcU none 0 0)from rfl).trans hnv20),hvb,hb22l,f,r,Bc hrow20 (rfl),Adm _,cz,c0,trivial⟩ ?_;clear hrow20;clear hvb hb22l;rintro b9 dv ⟨j,r20,T0,T1,T2,T8,T9,ae,ao,ai,aj,ac,bo,bp,aw,ax,hvb,hb22l,f,r,hr_r20,hjl,hap_r20_gv,hap_r20_n19,-⟩;have q103:=aw;refine gS (Zv (a:=(j:Nat)) (b:=(((Av Di [112,45])).length:Nat)) aw bp (AI _ _ _ _) ?_);refine cD rfl (fun bq=> ?_) fun bq=> ?_
 ·have ay:j<(Av Di [112,45]).length:=bq;have hel:=MA ((hW.keep f)).g.st.ok ay;have hnl2:=Fw Di [112,45];have hfl:(((Av Di [112,45]).take j).filter (fun s=>(M.lookup s).isNone)).length≤j:=AcN (AeE _ _) (by rw[Ac8];exact Ags _ _);have dw:(CX (((Av Di [112,45])).getD (j) ([]:List UInt8))).length=1:=(RG.elem (bn.keep r) ([]:List UInt8) (ay));refine gS (ZO N9 UR (by decide) ([]:List UInt8) (ZC (bn.keep r) bo) aw (ay) fun dx ca=>(gS (ZL PO rfl (PR.cell (ZT ca rfl) rfl) ?_)));clear ca;rcases hlk:M.lookup ((Av Di [112,45]).getD (j) ([]:List UInt8))with _ | pk
  ·refine gS (AaT (ek:=St) (ev:=pN) (D:=Nm) Fp Ew (fun _ _=>C5) Kn (z:= .pointer none) RA T9 rfl hb22l (by exact hel) (show pkG M ptr2 ((Av Di [112,45]).getD (j) ([]:List UInt8))=none from by unfold pkG;rw[hlk];rfl) (gS (ZR FI rfl (cT rfl (gS (ZZ (a:=((Av Di [112,45])).getD (j) ([]:List UInt8)) (enc:=CX) (vr (St (((Av Di [112,45])).getD (j) ([]:List UInt8))) rfl) rfl (fun w=>Ke _ w) fun c1 c2 cb az=> ?_))))));have r:=r.trans az;have hr_r20:=hr_r20.keep az;refine gS (ZM _ _ af.heap.size _ 16 N9 va1_ig9.choose_spec.1 va1_ig9.choose_spec.2 N9 (((Av Di [112,45]).take j).filter (fun s=>(M.lookup s).isNone)) ([((Av Di [112,45])).getD (j) ([]:List UInt8)]) (OG.of hr_r20 ax) (ZC cb (vr c1 rfl)) (fun y hy u hu=>by rw[AcY.1 hu];rfl) (by simp only[Ac9,Adp];omega) (by simp only[Ac9,Adp];omega) r.size fun a9 c3 c4 ag=> ?_);have ag:Grew c2 c3 r20 a9:= .eqv ax ag;have hvb:=eb az hvb;have c5:OB a9 gv:=An ag hap_r20_gv (bl hvb);have hb22l:=hb22l.keep az;have c6:OB a9 l:=An ag hap_r20_n19 hb22l.lt;have hvb:=Ao hvb ag hap_r20_gv;have hb22l:=MapF.grew hb22l ag hap_r20_n19;have f:=f.trans az;have f:=Aq f ag hr_r20.2 b8;have r:=Aq r ag hr_r20.2 (AcP _);clear cb;clear hr_r20;refine gS (Zw (xv:=NI j) (yv:=NI 1) aw rfl rfl (Ag _ _ _ (by omega)) (gK (Adr ⟨j+1,a9,T0,T1,T2,T8,T9,ae,ao,ai,aj,ac,bo,bp,rfl,rfl,hvb,hb22l,f,r,Bc c4 ((P0 ay (show(M.lookup _).isNone=true by rw[hlk];rfl))),by omega,c5,c6,trivial⟩ ?_)));show(Av Di [112,45]).length-(intOf (NI ((j)+(1)))).toNat<(Av Di [112,45]).length-(intOf (b9 103)).toNat;rw[q103];simp only[intOf,Ac0];omega
  refine gS (Aaq (ek:=St) (ev:=pN) (D:=Nm) Fp Ew (fun _ _=>C5) Kn (z:= .pointer none) RA T9 rfl hb22l (by exact hel) (show pkG M ptr2 ((Av Di [112,45]).getD (j) ([]:List UInt8))=some (ptr2 ((Av Di [112,45]).getD (j) ([]:List UInt8)))from by unfold pkG;rw[hlk];rfl) (gS (ZR FI rfl (cF rfl (gS (Zw (xv:=NI j) (yv:=NI 1) aw rfl rfl (Ag _ _ _ (by omega)) (gK (Adr ⟨j+1,r20,T0,T1,T2,T8,T9,ae,ao,ai,aj,ac,bo,bp,rfl,ax,hvb,hb22l,f,r,Bc hr_r20 ((TD ay (show(M.lookup _).isNone=false by rw[hlk];rfl))),by omega,hap_r20_gv,hap_r20_n19,trivial⟩ ?_))))))));show(Av Di [112,45]).length-(intOf (NI ((j)+(1)))).toNat<(Av Di [112,45]).length-(intOf (b9 103)).toNat;rw[q103];simp only[intOf,Ac0];omega
 have hje:j=(Av Di [112,45]).length:=by have h:=bq;omega
 have hgv:((Av Di [112,45]).take j).filter (fun s=>(M.lookup s).isNone)++(Av Di [111,45])=goneV Di M:=by unfold goneV;rw[hje,Ad6]
 have hgl:=P3 hBD M;have hnl2:=Fw Di [112,45];have hnl3:=Fw Di [111,45];have hfl:(((Av Di [112,45]).take j).filter (fun s=>(M.lookup s).isNone)).length≤j:=AcN (AeE _ _) (by rw[Ac8];exact Ags _ _);refine D6 [0,1,2,3,4,7,8,9,10,11,5,6,12,13] [5,6,12] [8,9,11] [10] fun dy a0=> ?_;have hvb:=eb a0 hvb;refine Za hvb ?_;refine ys (Yk.nilCheck T0 zz) (ys (Yk.fieldAt Lm rfl zz) (ys (Zu UQ rfl rfl (cellAt hvb rfl) zz) (yp (Yk.nilCheck T0 zz) (yp (Yk.fieldAt Lm rfl zz) (yf (fun _ ⟨hvb,_⟩=>Zu UQ rfl rfl (cellAt hvb rfl) zz) (yp (Aau (vr (PQ g 0) rfl) zz) ?_))))));have f:=f.trans a0;have r:=r.trans a0;have dz:=f.size;have d0:=r.size;refine yI (Zx VF rfl rfl ((Km wb _ g Hi Di ((hW.keep f)).g hLi [111,45] (by omega)).mono ?_));rintro e c7 ⟨c8,rfl,c9,a1⟩;refine⟨_,rfl,?_⟩;have hb22l:=hb22l.keep a0;have cd:=ZG c9;have hr_r20:=hr_r20.keep (a0.trans a1);have hvb:=eb a1 hvb;have r:=r.trans a1;refine⟨⟨hvb,trivial⟩,?_⟩;refine yI (ZM _ _ af.heap.size _ 16 N9 va1_ig9.choose_spec.1 va1_ig9.choose_spec.2 N9 (((Av Di [112,45]).take j).filter (fun s=>(M.lookup s).isNone)) ((Av Di [111,45])) (OG.of hr_r20 ax) (ZC cd (vr c8 rfl)) (fun y hy u hu=>by rw[AcY.1 hu];rfl) (by omega) (by omega) r.size fun ce da db ap=> ?_);have ap:Grew c7 da r20 ce:= .eqv ax ap;have hb22l:=hb22l.keep a1;have hvb:=Ao hvb ap hap_r20_gv;have hb22l:=MapF.grew hb22l ap hap_r20_n19;have f:=f.trans a1;have f:=Aq f ap hr_r20.2 b8;have r:=Aq r ap hr_r20.2 (AcP _);clear cd;clear hr_r20;refine⟨⟨hvb,trivial⟩,?_⟩;have hWd:=(hW.keep f);have hMc:=hb22l;have hPc:=(hPk.keep f);have hvc:=hvb;have hrg:=Bc db hgv;refine yD rfl (Zx OD rfl rfl ((P4 wb _ g Hi Di hWd.g af.heap.size ce (goneV Di M) hrg (m+202) hBD (by omega)).mono ?_));rintro e d1 ⟨H174,rfl,hW9,-⟩;refine⟨_,rfl,?_⟩;have hW:=hWd.trans hW9;have hvb:=DkG.box hWd.g hW9.chg hvc (by decide) (by decide) (by decide) (by decide);have hmp:=MapF.chg hMc hW9.chg hbo;have hPk:=PksAt.stepW hPc hW9;have hbo4:=hW9.offB hMc.lt hbo;refine gS (Zv (a:=((BQ Di (goneV Di M)).2:Nat)) (b:=(0:Nat)) rfl rfl (AY _ _ _ _) ?_);refine cD rfl (fun br=> ?_) fun br=> ?_
 ·refine BF rfl (vr (AcU none 0 0) rfl) (vr (NI ((BQ Di (goneV Di M)).2)) rfl) ?_;have hV:BC D L o ch=((BQ Di (goneV Di M)).1,L,[],(BQ Di (goneV Di M)).2):=hkl.trans (if_pos br);exact⟨_,_,o,by rw[hV],hS,hM,by rw[hV];exact RBs.nil _,by rw[hV];exact AaC hV0 hW⟩
 refine gS (Yk.nilCheck T0 (gS (Yk.fieldAt Ll rfl ?_)));have hWf:=hW;have hMf:=hmp;have hPf:=hPk;have hvf:=hvb;refine gS (ZK (i:=1) (v:= .map (some l)) rfl T9 hvb (Ac2 rfl) TR rfl rfl fun d2 cf cg d3=> ?_);have hmp:=MapF.other hmp cg (Ak (by omega));clear hPk;clear hW;clear hvb;have hvb:=cf;clear cf;have d4:=bl hvb;refine BF rfl (vr (AcU none 0 0) rfl) (vr (NI 0) rfl) ?_;have hV:BC D L o ch=((BQ Di (goneV Di M)).1,M,[],0):=hkl.trans (if_neg br);exact⟨_,_,o,by rw[hV],hS,hM,by rw[hV];exact RBs.nil _,by rw[hV];exact Acq hV0 hWf hnw hMf hPf hMs hbo4 hne2 hvf hvb cg⟩
section
variable {P : Adg} {K : AcJ → AcK → Prop} {ρ : Ad} {w : AcK} {d : Option Tmp} {ty : AcR} {pos : String} {af : Array AdL} {gd : Option (Nat × Bool)}
variable {α β : Type} {ek : α → AcJ} {ev : β → AcJ} {D : α → Prop} {b : Nat} {G : α → Option β} {t Kt E : AcR}
theorem MIt.keep{ek:α→AcJ}{ev:β→AcJ}{w w' :AcK}{g bm:Nat}{left:List (α × β)}(h:MIt ek ev w g bm left)(k:Ext w w'):MIt ek ev w' g bm left:=by
  obtain⟨es,clock,since,seen,c0,hg,hb,r⟩:=h;exact⟨es,clock,since,seen,c0,Ext.blk' k hg,Ext.blk' k hb,r⟩
theorem MIt.grew{ek:α→AcJ}{ev:β→AcJ}{w w' :AcK}{g bm:Nat}{left:List (α × β)}{v v' :AcJ}(h:MIt ek ev w g bm left)(gr:Grew w w' v v')(h1:v.ownBlock≠some g)(h2:v.ownBlock≠some bm):MIt ek ev w' g bm left:=by
  obtain⟨es,clock,since,seen,c0,hg,hb,r⟩:=h;exact⟨es,clock,since,seen,c0,(gr.by_.block g (Ade.1 hg).1 (fun e=>h1 e.symm)).trans hg,(gr.by_.block bm (Ade.1 hb).1 (fun e=>h2 e.symm)).trans hb,r⟩
theorem MapF.card(hi:∀a c,ek a=ek c→a=c)(h:MapF ek ev D w b G){ps:List (α × β)}(hn:(ps.map Adk).Nodup)(hG:∀a y,G a=some y↔(a,y)∈ps):∃es c,w.heap[b]? =some (.map es c)∧es.size=ps.length:=by
  obtain⟨es,c,hb,H,hS⟩:=h;have hp:(es.map fun e=>(e.key,e.val)).Perm (ps.map fun p=>(ek p.1,ev p.2)):=by
    refine(Ae3 ?_ ?_).2 fun q=> ?_
    · exact Afx (S:=(· ≠ ·)) Adk (fun a c hne e=>hne (by rw[e])) (by rw[AfD];exact H.keys)
    · refine AgM _ (fun p q hne e=>hne ?_) (Afx (S:=(· ≠ ·)) (R:=fun p q:α × β=>p.1≠q.1) Adk (fun _ _ h=>h) hn);exact hi _ _ (congrArg Adk e)
    · constructor
      · intro hq;obtain⟨e,he,rfl⟩:=Adx.1 hq;obtain⟨a,y,-,h2,h3,h4⟩:=H.ent e he;exact Adx.2 ⟨(a,y),(hG a y).1 h4,by rw[h2,h3]⟩
      · intro hq;obtain⟨p,hp,rfl⟩:=Adx.1 hq;have hg:=(hG p.1 p.2).2 hp;obtain⟨-,e,he,hek⟩:=H.all p.1 p.2 hg;obtain⟨a,y,-,h2,h3,h4⟩:=H.ent e he;have ha:a=p.1:=hi _ _ (h2.symm.trans hek);rw[ha,hg]at h4;cases h4;exact Adx.2 ⟨e,he,by rw[hek,h3]⟩
  have:=hp.length_eq;exact⟨_,c,hb,by simpa using this⟩
theorem AcE(ht:P.underlying t=some (.map Kt E)){x:AcW}{es:Array Aev}{c n:Nat}(hx:Aa ρ x = .map (some b))(hb:w.heap[b]? =some (.map es c))(hn:es.size=n)(hk:K (NI n) w):Yk P K ((execOp (Aa ρ) ⟨d, .call ⟨.builtin .len,#[x],#[t]⟩,ty,pos,af,gd⟩).run P w):=by
  subst hn;refine Yk.value (v:=NI es.size) (w' :=w) ?_ hk;unfold execOp;simp[resolve,invoke,builtin,AhM,hx,run_underlying ht,goInt,Ad5 hb]
end
theorem Ks{L:AN}(ptr:Bs→Nat)(h:SortS (L.map Adk)):((L.map fun e=>(e.1,ptr e.1)).map Adk).Nodup:=by
 rw[AfD];exact h.nodup
theorem OF{L:AN}{ptr:Bs→Nat}(h:SortS (L.map Adk))(a:Bs)(y:Nat):pkG L ptr a=some y↔(a,y)∈L.map fun e=>(e.1,ptr e.1):=by
 unfold pkG;constructor
 ·intro q;obtain⟨p,hp,he⟩:=Afi.1 q;exact Adx.2 ⟨(a,p),Lh hp,by rw[he]⟩
 ·intro q;obtain⟨e,he,h2⟩:=Adx.1 q;cases h2;rw[GU h he];rfl
theorem TS(w:AcK)(n:Nat)(Q:Nat→Prop)(gv gd bm:Nat)(L:AN)(ptr:Bs→Nat)(hV:VtAt n Q w gv gd bm L ptr)(hgL:GoodL L)(hLn:L.length≤100000):
  Calls AcM 19 #[PQ gv 0] w fun e w' =>e = .returned (NI L.length)∧Ext w w' :=by
 have hvb:=hV.blk;have hvm:=hV.map;have hpk:=hV.pk;have hsrt:=hV.sort;have hV0:=hV;refine gG (args:= [PQ gv 0]) Tryz.func19 rfl 10 rfl rfl ?_;have hE:=Ext.refl w;refine gS (ZR Ot rfl (cF rfl (gS (Yk.nilCheck rfl (gS (Yk.fieldAt Ll rfl (gS (Zu Kn rfl rfl (cellAt hvb rfl) (gS (AcE Kn rfl ((hvm).card (fun _ _=>C5) (Ks ptr hsrt) (OF hsrt)).choose_spec.choose_spec.1 (((hvm).card (fun _ _=>C5) (Ks ptr hsrt) (OF hsrt)).choose_spec.choose_spec.2.trans (Ada ..)) (Bb rfl (vr (NI L.length) rfl) ?_)))))))))));exact⟨rfl,hE⟩
def FS(L:AN)(s:Bs):AU:=(L.lookup s).getD ([],fun _=>none)
def OH(D:Ae)(L:AN)(x:Bs):Prop:=x∈EX D∨∃e∈L,x∈e.2.1
def IdsLeft(D:Ae)(L:AN)(left:List (Bs × Nat))(acc:List Bs):Prop:=∀x,(x∈acc∨∃p∈left,x∈(FS L p.1).1)↔OH D L x
theorem OI{L:AN}{ptr:Bs→Nat}(h:SortS (L.map Adk)){a:Bs}{y:Nat}(hm:(a,y)∈L.map fun e=>(e.1,ptr e.1)):y=ptr a∧(a,FS L a)∈L:=by
 obtain⟨e,he,h2⟩:=Adx.1 hm;cases h2;refine⟨rfl,?_⟩;unfold FS;rw[GU h he];exact he
theorem YA{Q:Nat→Prop}{w:AcK}{L:AN}{ptr:Bs→Nat}(h:PksAt Q w L ptr){a:Bs}{p:AU}(hm:(a,p)∈L):PackP Q w (pN (ptr a)) p:=h _ hm
theorem Pq{D:Ae}{L:AN}{ptr:Bs→Nat}{o:List Bs}(h:SortS (L.map Adk))(hM:∀x,x∈o↔x∈EX D):IdsLeft D L (L.map fun e=>(e.1,ptr e.1)) o:=fun x=>by
 unfold OH;rw[hM];refine or_congr Iff.rfl ⟨fun⟨p,hp,hx⟩=> ?_,fun⟨e,he,hx⟩=>⟨_,AfK he,?_⟩⟩
 ·exact⟨_,(OI (a:=p.1) (y:=p.2) h hp).2,hx⟩
 ·show x∈(FS L e.1).1;unfold FS;rw[GU h he];exact hx
theorem IdsLeft.step{D:Ae}{L:AN}{left rest:List (Bs × Nat)}{acc:List Bs}{a:Bs}{y:Nat}(h:IdsLeft D L left acc)(hp:left.Perm ((a,y) :: rest))(_hm:(a,FS L a)∈L):IdsLeft D L rest (acc++(FS L a).1):=fun x=>by
 rw[←h x,Adf];constructor
 ·rintro((q | q) | ⟨p,b,q⟩)
  ·exact .inl q
  ·exact .inr ⟨(a,y),hp.mem_iff.2 AdM,q⟩
  ·exact .inr ⟨p,hp.mem_iff.2 (AdO _ b),q⟩
 ·rintro(q | ⟨p,b,q⟩)
  ·exact .inl (.inl q)
  ·rcases Adz.1 (hp.mem_iff.1 b)with e | e
   ·subst e;exact .inl (.inr q)
   ·exact .inr ⟨p,e,q⟩
theorem IdsLeft.done{D:Ae}{L:AN}{left:List (Bs × Nat)}{acc:List Bs}(h:IdsLeft D L left acc)(h0:left= [])(x:Bs):x∈acc↔OH D L x:=by
 rw[←h x,h0];simp
theorem VL:Plain AcM 53:=fun _ _=>by kernel_rfl
theorem VM:Plain AcM 54:=fun _ _=>by kernel_rfl
theorem XP(wb w:AcK)(g:Nat)(H:Dk)(D:Ae)(hD:DkG wb w g H D)(hG:Laid wb)(hL:Df D)(hnm:(AE D).length≤100000)(n:Nat)(gv bm:Nat)(L:AN)(ptr:Bs→Nat)(hV:VtAt n (Cd H D) w gv g bm L ptr)(hgL:GoodL L)(hLn:L.length≤100000)(hLi:∀e∈L,e.2.1.length≤1000)(hLs:(EX D).length+1000*L.length≤100000):
  Calls AcM 18 #[PQ gv 0] w fun e w' =>∃v o,e = .returned v∧OG w.heap.size 33 32 (AcL) w' v o∧Ek o∧(∀x,x∈o↔OH D L x)∧Ext w w' :=by
 have hvb:=hV.blk;have hvm:=hV.map;have hpk:=hV.pk;have hsrt:=hV.sort;have hV0:=hV;refine gG (args:= [PQ gv 0]) Tryz.func18 rfl 28 rfl rfl ?_;have hE:=Ext.refl w;refine gS (ZR Ot rfl (cF rfl (gS (Yk.nilCheck rfl (gS (Yk.fieldAt Lm rfl (gS (Zu UQ rfl rfl (cellAt hvb rfl) (gS (ZA VL rfl ((Vo wb _ g H D (hD.keep hE) hG hL hnm).mono ?_)))))))))));rintro e w8 ⟨m,o1,rfl,h,a1,hM1,a2,z⟩;refine⟨_,rfl,?_⟩;have ag:OB m gv:=Dp h.2 (bl hvb);have ah:OB m bm:=Dp h.2 hvm.lt;have hvb:=eb z hvb;refine gS (Yk.nilCheck rfl (gS (Yk.fieldAt Ll rfl (gS (Zu Kn rfl rfl (cellAt hvb rfl) ?_)))));have hvm:=hvm.keep z;have hbml_:=(hvm).lt;have hgvl_:=bl hvb;refine gS (Abg (fun a c=>C5) Kn rfl hvm (Ks ptr hsrt) (OF hsrt) fun b a3 a4 ab q a5=> ?_);have hE:=hE.trans z;have ai:=hE.size;have aj:OB m b:=A3 h.2 (by omega);have hI23:=ab;clear ab;have hgi:=MIt.lt hI23;have hbmn_:bm<b:=by omega
 have hgvn_:gv<b:=by omega
 have hvb:=eb q hvb;have hvm:=hvm.keep q;have hE:=hE.trans q;have h:=h.keep q;refine gL (fun(ρ:Ad) (wz:AcK)=>∃left:List (Bs × Nat),∃acc:List Bs,∃r3:AcJ,ρ 0=(PQ gv 0:AcJ)∧ρ 2=((AcU none 0 0):AcJ)∧ρ 7=(.bool (false):AcJ)∧ρ 17=(PQ b 0:AcJ)∧ρ 3=(r3:AcJ)∧wz.heap[gv]? =some (.cells ([PQ g 0, .map (some bm)]).toArray 86 (0,0))∧MapF St pN Nm wz bm (pkG L ptr)∧Ext w wz∧MIt St pN wz b bm left∧OG w.heap.size 33 32 (AcL) wz r3 (acc)∧(OB r3 b)∧(∀p∈left,p∈(L.map fun e=>(e.1,ptr e.1)))∧(IdsLeft D L left acc)∧(acc.length+1000*left.length≤o1.length+1000*L.length)∧(OB r3 gv)∧(OB r3 bm)∧True) (fun ρ wz=>Aad wz b) ⟨(L.map fun e=>(e.1,ptr e.1)),o1,m,rfl,rfl,rfl,rfl,rfl,hvb,hvm,hE,hI23,Bc h (rfl),aj,fun p hp=>hp,Pq hsrt hM1,by rw[Ada];exact AcP _,ag,ah,trivial⟩ ?_;clear h;clear hI23;clear hvb hvm hE;rintro a6 ac ⟨left,acc,r3,T0,T2,T7,r,T3,hvb,hvm,hE,hI,hr_r3,hapg,hsub,hids,hacl,hap_r3_gv,hap_r3_bm,-⟩;by_cases s:left= []
 ·refine gS (AaY r hI s (gS (Yk.extract (vs:= [.bool (false)]) rfl rfl (cF rfl ?_))));have hsz9:w.heap.size≤ac.heap.size:=hE.size;have hll:=hacl;have hlz:left.length=0:=by rw[s];rfl
  refine gS (ZA Vn T3 ((Jv _ _ acc (ZG hr_r3) (by omega)).mono ?_));rintro e an ⟨ao,o,rfl,ap,hS,hM,hN,ad⟩;refine⟨_,rfl,?_⟩;have hI:MIt St pN an b bm left:=(hI.keep ad);have aq:=ap;refine Bb rfl (vr ao rfl) ?_;have hE:=hE.trans ad;exact⟨_,o,rfl,OG.low aq hsz9,hS,fun x=>(hM x).trans (hids.done s x),hE⟩
 refine gS (Aa6 r hI s fun a34 y35 rest36 ar i hI39 au t a7=> ?_);have hm0:=AaH hI;have hmem:(a34,y35)∈(L.map fun e=>(e.1,ptr e.1)):=hsub _ (i.mem_iff.2 AdM);obtain⟨hyp,hlk⟩:=OI hsrt hmem;have hpl_:=i.length_eq;rw[Adh]at hpl_;have hvm:=MapF.other hvm t (Ak (by omega));clear hI;have hI:=hI39;clear hI39;have hgi:=MIt.lt hI;refine gS (Yk.extract (vs:= [.bool (true),St (a34),PQ y35 0]) rfl rfl (cT rfl (gS (Abh r au (gS (Yk.extract (vs:= [St (a34),PQ y35 0]) rfl rfl ?_))))));have hE:=Ab hE t (AcN ai (by omega));have hpp:PackP (fun k=>Cd H D k∧k≠gv∧k≠bm) ar (pN y35) (FS L a34):=by rw[hyp];exact YA (hpk.keep hE) hlk
 have hil:(FS L a34).1.length≤1000:=hLi _ hlk;refine gS (ZA VM rfl ((UG _ (pN y35) (some (FS L a34)) hpp.opt (AfW hil (by decide))).mono ?_));rintro e av ⟨ae,rfl,u,j⟩;refine⟨_,rfl,?_⟩;have a8:=hE.size;have hvb:=kb t hvb (by omega);have hr_r3:=OG.kept hr_r3 t hapg;have aw:Ai r3 ae:=DN hr_r3.2 u.2;have hI8:=MIt.keep hI j;have hgi2:=MIt.lt hI8;have hE:=hE.trans j;have hr_r3:=hr_r3.keep j;refine gS (ZM _ _ w.heap.size _ 32 NB pk6_ig33.choose_spec.1 pk6_ig33.choose_spec.2 NB (acc) ((FS L a34).1) (OG.of hr_r3 T3) (ZC (ZG u) (vr ae rfl)) (fun y _=>Af y) (by omega) (by omega) hE.size fun l af ax f=> ?_);have hIq:=hI8;have f:Grew av af r3 l:= .eqv T3 f;have hvb:=eb j hvb;have ay:OB l gv:=An f hap_r3_gv (bl hvb);have hvm:=hvm.keep j;have az:OB l bm:=An f hap_r3_bm hvm.lt;have hvb:=Ao hvb f hap_r3_gv;have hvm:=MapF.grew hvm f hap_r3_bm;have hE:=Aq hE f hr_r3.2 (AcP _);have u:=Bg u f aw;clear hr_r3;have hapg2:OB l b:=An f hapg hgi2;have hI9:=MIt.grew hIq f hapg hap_r3_bm;clear hIq;refine gK (Adr ⟨rest36,acc++(FS L a34).1,l,T0,T2,T7,r,rfl,hvb,hvm,hE,hI9,Bc ax (rfl),hapg2,fun p hp=>hsub p (i.mem_iff.2 (AdO _ hp)),hids.step i hlk,by have:=i.length_eq;rw[Adh]at this;rw[AcQ];omega,ay,az,trivial⟩ ?_);show Aad af b<Aad ac b;rw[AaH hI9,hm0,i.length_eq];simp
structure VtS (wb : AcK) (n g gv : Nat) (w : AcK) (H : Dk) (D : Ae) (L : AN) : Prop where
  dk:DkG wb w g H D
  v:∃bm ptr,VtAt n (Cd H D) w gv g bm L ptr
  good:GoodL L
  lo:wb.heap.size≤n
  len:L.length≤100000
def Ls(H:Dk)(D:Ae)(gv:Nat)(k:Nat):Prop:=BZ H D.files.length k∨k=gv
section
variable {wb w w' : AcK} {n g gv : Nat} {H H' : Dk} {D D' : Ae} {L L' : AN}
theorem VtS.keep(h:VtS wb n g gv w H D L)(k:Ext w w'):VtS wb n g gv w' H D L:=by
  obtain⟨bm,ptr,hv⟩:=h.v;exact⟨h.dk.keep k,⟨bm,ptr,hv.keep k⟩,h.good,h.lo,h.len⟩
theorem VtS.tag(h:VtS wb n g gv w H D L):CT w gv=some (86+1):=by
  obtain⟨bm,ptr,hv⟩:=h.v;exact B6 hv.blk
theorem VtS.step(h:VtS wb n g gv w H D L)(hW:DkW wb w g H D w' H' D'):VtS wb n g gv w' H' D' L∧Chg (Ls H D gv) w w' :=by
  obtain⟨bm,ptr,hv⟩:=h.v;exact⟨⟨hW.g,⟨bm,ptr,hv.step hW⟩,h.good,h.lo,h.len⟩,hW.chg.monoV fun k q=> .inl q⟩
theorem VtS.kept(h:VtS wb n g gv w H D L)(hK:VtK wb w n g gv H D w' H' D' L')(hg:GoodL L')(hl:L'.length≤100000):VtS wb n g gv w' H' D' L' ∧Chg (Ls H D gv) w w' :=
  ⟨⟨hK.dk,hK.v,hg,h.lo,hl⟩,hK.chg.monoV fun k q=>q.imp id fun q=>q.1⟩
theorem VtS.off(h:VtS wb n g gv w H D L){k:Nat}(hk:Ls H D gv k):k<w.heap.size∧wb.heap.size≤k:=by
  rcases hk with q | rfl
  · exact⟨(h.dk.st.foot q).2.1,(h.dk.st.foot q).2.2⟩
  · obtain⟨bm,ptr,hv⟩:=h.v;exact⟨bl hv.blk,AcN h.lo hv.lo⟩
theorem VtS.box(h:VtS wb n g gv w H D L)(hc:Chg (Ls H D gv) w w'){b:Nat}{cs:Array AcJ}{t:AcR}{fr:Nat × Nat}(hb:w.heap[b]? =some (.cells cs t fr))(h1:t≠107)(h2:t≠133)(h3:t≠5)(h4:t≠131)(h5:t≠86):w'.heap[b]? =some (.cells cs t fr):=
  (hc.blk b (bl hb) fun q=>q.elim (h.dk.st.offT hb h1 h2 h3 h4) fun e=>by
    have ht:=h.tag;rw[←e,B6 hb]at ht;exact h5 (by simpa using ht)).trans hb
theorem Abu(h:VtS wb n g gv w H D L)(hc:Chg (Ls H D gv) w w'){α:Type}{b k:Nat}{t:AcR}{enc:α→List AcJ}{v:AcJ}{l:List α}(hr:OG b t k enc w v l)(h1:t≠107)(h2:t≠133)(h3:t≠5)(h4:t≠131)(h5:t≠86):OG b t k enc w' v l:=by
  refine⟨hr.1,C9 hc hr.2 fun i hi q=> ?_⟩;have ht:=Ho hr.2 hi;rcases q with q | q
  · rcases(h.dk.st.foot q).1 with ⟨es,c,e⟩ | ⟨cs,t',fr,e,ht'⟩
    · unfold CT at ht;rw[e]at ht;cases ht
    · have:=B6 e;rw[this]at ht;have ht:t' =t:=by simpa using ht
      subst ht;rcases ht' with q | q | q | q
      · exact h1 q
      · exact h2 q
      · exact h3 q
      · exact h4 q
  · have hv:=h.tag;rw[←q,ht]at hv;exact h5 (by simpa using hv)
theorem VtS.rbNew(h:VtS wb n g gv w H D L){w1:AcK}(hc:Chg (Ls H D gv) w1 w'){v:AcJ}{l:List UInt8}(hr:RB w1 v l)(hN:NewI w.heap.size w1 v):RB w' v l:=
  hr.chg hc (.inr fun k hk q=>by have:=(h.off q).1;have:=(hN k hk).1;omega)
theorem VtS.offR(h:VtS wb n g gv w H D L){v:AcJ}{l:List UInt8}(hr:RB wb v l):l= []∨∀i,v.ownBlock=some i→¬BZ H D.files.length i:=h.dk.off hr
end
section
variable {D : Ae} {L : AN} {o : List Bs} {ch : List Int}
theorem RN(h:GoodL L):GoodL (BC D L o ch).2.1∧((BC D L o ch).2.1.length≤L.length∨(BC D L o ch).2.1.length≤1):=by
  have hl:∀(E:Ae) (M:AN),GoodL M→M.length≤1→GoodL (ES E L M).2.1∧((ES E L M).2.1.length≤L.length∨(ES E L M).2.1.length≤1):=fun E M hM hm=>by
    unfold ES;split
    · exact⟨h, .inl (AcP _)⟩
    · exact⟨hM, .inr hm⟩
  unfold BC;split
  · exact⟨h, .inl (AcP _)⟩
  · split
    · exact hl D [] (fun e he=>by cases he) (Adm _)
    · rename_i b _ _
      unfold Lo;split
      · rename_i p hp
        unfold EK;split
        · have f:∀(c:Prop) [Decidable c] (a b:Ae × AN × List Bs × Nat),a.2.1=L→b.2.1=L→(if c then a else b).2.1=L:=fun c _ a b h1 h2=>by split <;> assumption
          rw[f _ _ _ rfl rfl];exact⟨h, .inl (AcP _)⟩
        · split
          · exact⟨h, .inl (AcP _)⟩
          · split
            · exact⟨h, .inl (AcP _)⟩
            · exact hl _ _ (fun e he=>by rw[AcY.1 he];exact⟨b,hp,rfl⟩) (AcP _)
      · exact⟨h, .inl (AcP _)⟩
end
section
variable (wb w : AcK) (n g gv : Nat) (H : Dk) (D : Ae) (L : AN) (h : VtS wb n g gv w H D L) (hG : Laid wb) (hL : Df D)
theorem P5(wb w:AcK)(g:Nat)(H:Dk)(D:Ae)(hD:DkG wb w g H D)(hG:Laid wb)(hL:Df D)(hnm:(AE D).length≤100000)(hd:D.down=false):
    Calls AcM 13 #[PQ g 0] w fun e w' =>∃gv,e = .returned (.tuple #[PQ gv 0,NI 0])∧VtS wb w.heap.size g gv w' H D (GT D)∧Ext w w' :=
  (VH wb w g H D hD hG hL hnm).mono fun e w' q=>by
    rcases q with ⟨q,-⟩ | ⟨-,gv,bm,ptr,he,hv,hx⟩
    · rw[hd]at q;cases q
    · refine⟨gv,he,⟨hD.keep hx,⟨bm,ptr,hv⟩,RH D,hD.ext.size,?_⟩,hx⟩;exact AcN (AfE _ _) (AcN (Fw D _) hnm)
include h hG
theorem TT(vb:AcJ)(b:List UInt8)(hr:RB w vb b)(hoff:b= []∨∀i,vb.ownBlock=some i→¬BZ H D.files.length i)(hbl:b.length≤300)(m:Nat)(hB:DBd m D)(hm:m≤99000)(r:Ae × Bs × Bs × Nat)(hrr:DC D L b=r):
    Calls AcM 14 #[PQ gv 0,vb] w fun e w' =>∃H' vo,e = .returned (.tuple #[.agg (AcL r.2.1).toArray,vo,NI r.2.2.2])∧RB w' vo r.2.2.1∧VtS wb n g gv w' H' r.1 L∧Chg (Ls H D gv) w w' :=by
  subst hrr;obtain⟨bm,ptr,hv⟩:=h.v;exact(XE wb w g H D h.dk hG (hB.lt (by omega)) n gv bm L ptr hv h.good h.len vb b hr hoff hbl m hB hm).mono fun e w' ⟨H',vo,he,hr,hW,_⟩=>⟨H',vo,he,hr,h.step hW⟩
theorem XQ(vi:AcJ)(ids:List Bs)(hid_:RG 32 AcL w vi ids)(hi32a:∀id∈ids,id.length=32)(a:ids.length≤60)(hsmall:∀id∈ids,(getV D L id).2=0→(getV D L id).1.length≤200)(vc:AcJ)(ch:List Int)(hch:RG 1 BV w vc ch)(hchl:ch.length≤1099511627776)(m:Nat)(hB:DBd m D)(hm:m≤30000):
    Calls AcM 16 #[PQ gv 0,vi,vc] w fun e w' =>∃H' vcl o,e = .returned (.tuple #[vcl,NI (BC D L o ch).2.2.2])∧Ek o∧(∀x,x∈o↔x∈ids)∧RBs w' vcl (BC D L o ch).2.2.1∧VtS wb n g gv w' H' (BC D L o ch).1 (BC D L o ch).2.1∧Chg (Ls H D gv) w w' :=by
  obtain⟨bm,ptr,hv⟩:=h.v;exact(VK wb w g H D h.dk hG (hB.lt (by omega)) n gv bm L ptr hv h.good h.len h.lo vi ids hid_ hi32a a hsmall vc ch hch hchl m hB hm).mono fun e w' ⟨H',vcl,o,he,h1,h2,h3,hK⟩=>by
    obtain⟨g1,g2⟩:=RN (D:=D) (o:=o) (ch:=ch) h.good;have:=h.len;exact⟨H',vcl,o,he,h1,h2,h3,h.kept hK g1 (by omega)⟩
theorem LV(vi:AcJ)(ids:List Bs)(hid_:RG 32 AcL w vi ids)(hi32a:∀id∈ids,id.length=32)(a:ids.length≤60)(hsmall:∀id∈ids,(getV D L id).2=0→(getV D L id).1.length≤200)(vc:AcJ)(ch:List Int)(hch:RG 1 BV w vc ch)(hchl:ch.length≤1099511627776)(m:Nat)(hB:DBd m D)(hm:m≤30000)(P:Ae × AN × List Bs × Nat→Prop)(hP:∀o,Ek o→(∀x,x∈o↔x∈ids)→P (BC D L o ch)):
    Calls AcM 16 #[PQ gv 0,vi,vc] w fun e w' =>∃H' vcl r,e = .returned (.tuple #[vcl,NI r.2.2.2])∧P r∧RBs w' vcl r.2.2.1∧VtS wb n g gv w' H' r.1 r.2.1∧Chg (Ls H D gv) w w' :=
  (XQ wb w n g gv H D L h hG vi ids hid_ hi32a a hsmall vc ch hch hchl m hB hm).mono fun e w' ⟨H',vcl,o,he,h1,h2,h3,h4⟩=>⟨H',vcl,_,he,hP o h1 h2,h3,h4⟩
include hL
theorem YB(id:List UInt8)(hid:id.length=32)(r:Bs × Nat)(hrr:getV D L id=r):
    Calls AcM 15 #[PQ gv 0, .agg (AcL id).toArray] w fun e w' =>∃v,e = .returned (.tuple #[v,NI r.2])∧RB w' v r.1∧Ext w w' ∧NewI w.heap.size w' v:=by
  subst hrr;obtain⟨bm,ptr,hv⟩:=h.v;exact LQ wb w g H D h.dk hG hL n gv bm L ptr hv h.good h.len id hid
theorem YC(id:List UInt8)(hid:id.length=32):
    Calls AcM 17 #[PQ gv 0, .agg (AcL id).toArray] w fun e w' =>e = .returned (.bool (decide ((getV D L id).2=0)))∧Ext w w' :=by
  obtain⟨bm,ptr,hv⟩:=h.v;exact XD wb w g H D h.dk hG hL n gv bm L ptr hv h.good h.len id hid
theorem YD(hnm:(AE D).length≤100000)(hLi:∀e∈L,e.2.1.length≤1000)(hLs:(EX D).length+1000*L.length≤100000):
    Calls AcM 18 #[PQ gv 0] w fun e w' =>∃v o,e = .returned v∧OG w.heap.size 33 32 (AcL) w' v o∧Ek o∧(∀x,x∈o↔OH D L x)∧Ext w w' :=by
  obtain⟨bm,ptr,hv⟩:=h.v;exact XP wb w g H D h.dk hG hL hnm n gv bm L ptr hv h.good h.len hLi hLs
omit hG hL
theorem VN:Calls AcM 19 #[PQ gv 0] w fun e w' =>e = .returned (NI L.length)∧Ext w w' :=by
  obtain⟨bm,ptr,hv⟩:=h.v;exact TS w n (Cd H D) gv g bm L ptr hv h.good h.len
end
def InjD(l:B5):Prop:=l.Pairwise fun a b=>a.2≠b.2
theorem InjD.wo{l:B5}(h:InjD l)(s:List UInt8):InjD (Hn l s):=Aik AiJ h
theorem InjD.ins{l:B5}(h:InjD l)(s:List UInt8){k:Nat}(hk:∀e∈l,e.2≠k):InjD (Gv l s k):=by
  unfold Gv InjD;rw[Aee];refine⟨h.sublist (Af1 _),AdZ.2 ⟨fun e he=>(hk e ((Af2 _).subset he)).symm,h.sublist (Af2 _)⟩,fun a ha b hb=> ?_⟩;rcases Adz.1 hb with rfl | hb
  · exact hk a ((Af1 _).subset ha)
  · have h2:(l.takeWhile (fun e=>Ad2 e.1 s)++l.dropWhile (fun e=>Ad2 e.1 s)).Pairwise fun a b=>a.2≠b.2:=by rw[AfM];exact h
    exact(Aee.1 h2).2.2 a ha b hb
theorem InjD.turn{l:B5}(h:InjD l)(a:C0)(hk:a.to.length≠0→∀e∈l,e.2=a.file→e.1=a.frm):InjD (turnD l a):=by
  unfold turnD;split
  · exact h.wo _
  · rename_i hn
    refine((h.wo _).wo _).ins _ fun e he q=> ?_;have h1:=IV he;have h2:=hk hn e (IV h1) q;have h3:=(Aes.1 h1).2;simp[h2]at h3
theorem InjD.add{D:Ae}(h:InjD D.now)(hok:DOk D)(s b:List UInt8):InjD (Cl D s b).now:=by
  unfold Cl;split
  · exact h
  · exact h.turn _ fun _ e he q=>absurd (hok.now.num e he) (by rw[q];exact Nat.lt_irrefl _)
theorem FK{D:Ae}{s t:List UInt8}(hd:D.down=false)(hs:Br s=true)(ht:Br t=true):CH D s t=0:=by
  unfold CH;rw[if_neg (by rw[hd];decide),if_pos ⟨hs,ht⟩]
theorem OJ{D:Ae}(ha:D.arm=0):C1 D=(D,false):=by
  unfold C1;exact if_pos ha
theorem MN{D:Ae}{s b:List UInt8}(hd:D.down=false)(ha:D.arm=0)(hm:Br s=true)(hq:usedD D+b.length≤D.quota):A5 D s b=(Cl D s b,0):=by
  unfold A5;rw[if_neg (by rw[FK hd hm hm];exact fun q=>q rfl),if_neg (by omega),OJ ha];rfl
theorem LW{D:Ae}{s:List UInt8}{k:Nat}(hd:D.down=false)(ha:D.arm=0)(hm:Br s=true)(hk:Aw D.now s=some k):
    BG D s=({ D with files:=D.files.set k ((A0 D k).1,(A0 D k).1.length),kept:=D.now,acts:= [] },0):=by
  have h:FO D s s = .ok k:=by
    unfold FO;rw[if_neg (by rw[FK hd hm hm];exact fun q=>q rfl),hk]
  unfold BG;rw[h];show D8 D _=_;unfold D8;rw[OJ ha];rfl
theorem Pr{l:List (List UInt8 × Nat)}{k:Nat}{x:List UInt8 × Nat}(h:k<l.length):(l.set k x).getD k ([],0)=x:=by
  rw[AcO,Af0 h];rfl
structure Sy (D : Ae) (s : List UInt8) (k n0 : Nat) (al : List UInt8) : Prop where
  down:D.down=false
  arm:D.arm=0
  ok:DOk D
  may:Br s=true
  inj:InjD D.now
  now:Aw D.now s=some k
  kept:Aw D.kept s=some k
  acts:∀a∈D.acts,a.to≠s∧a.frm≠s
  file:A0 D k=(al,n0)
theorem P6(D:Ae)(s b:List UInt8):(Cl D s b).arm=D.arm∧(Cl D s b).down=D.down:=by
  unfold Cl;split <;> exact⟨rfl,rfl⟩
structure ReadyL (D : Ae) : Prop where
  down:D.down=false
  arm:D.arm=0
  ok:DOk D
  inj:InjD D.now
theorem Sy.ready{D:Ae}{s al:List UInt8}{k a:Nat}(h:Sy D s k a al):ReadyL D:=⟨h.down,h.arm,h.ok,h.inj⟩
theorem LX{b:List UInt8}(h:b.length=32):Br (nmO b)=true:=by
  unfold Br;rw[Xj h];rfl
section
variable {D : Ae} {s b : List UInt8} {k : Nat}
theorem Sy.sync(h:ReadyL D)(hm:Br s=true)(hk:Aw D.now s=some k):(BG D s).2=0∧Sy (BG D s).1 s k (A0 D k).1.length (A0 D k).1:=by
  have e:=LW h.down h.arm hm hk;have hkl:=(h.ok.now.look hk).1;rw[e];exact⟨rfl,h.down,h.arm,h.ok.synced k,hm,h.inj,hk,hk,(fun a h=>by cases h),Pr hkl⟩
theorem XR(hd:D.down=false)(ha:D.arm=0)(hm:Br s=true)(hk:Aw D.now s=some k):BA D s=(turnedD D ⟨s,[],k⟩,0):=by
  have h:FO D s s = .ok k:=by
    unfold FO;rw[if_neg (by rw[FK hd hm hm];exact fun q=>q rfl),hk]
  unfold BA;rw[h];show D8 D _=_;unfold D8;rw[OJ ha];rfl
theorem ReadyL.dropped(h:ReadyL D)(hm:Br s=true)(hk:Aw D.now s=some k):ReadyL (turnedD D ⟨s,[],k⟩):=
  ⟨h.down,h.arm,h.ok.turned ⟨(h.ok.now.look hk).1,fun q=>absurd rfl q,(Cp hm).2⟩,InjD.turn h.inj ⟨s,[],k⟩ fun q=>absurd rfl q⟩
theorem OL(hl:Aw D.now s=none):Cl D s b = { turnedD D ⟨[],s,D.files.length⟩with files:=D.files++ [(b,0)] } :=by
  unfold Cl;rw[hl]
theorem OM(hm:Br s=true)(hl:Aw D.now s=none):Aw (Cl D s b).now s=some D.files.length∧A0 (Cl D s b) D.files.length=(b,0):=by
  have h0:=(Cp hm).1;rw[OL hl];refine⟨?_,?_⟩
  · show Aw (turnD D.now ⟨[],s,D.files.length⟩) s=_;rw[look_turn,if_neg (show ¬s.length=0 by omega),if_pos (show s=s from rfl)]
  · show(D.files++ [(b,0)]).getD D.files.length ([],0)=_;rw[AcO,AdB (AcP _),Aez];rfl
theorem ReadyL.add(h:ReadyL D)(hm:Br s=true)(b:List UInt8):ReadyL (Cl D s b):=
  ⟨(P6 D s b).2.trans h.down,(P6 D s b).1.trans h.arm,h.ok.add b hm,h.inj.add h.ok s b⟩
theorem I7{a:Stp}{r:List Stp}(h:(CY D s a).2=0):AT D s (a :: r)=AT (CY D s a).1 s r:=by
  rw[Ff,if_neg (by rw[h];exact fun q=>q rfl)]
theorem GX(hd:D.down=false)(hm:Br s=true)(h:Aw D.now s=none):Ap D s=([],4):=by
  unfold Ap FO;rw[if_neg (by rw[FK hd hm hm];exact fun q=>q rfl),h]
theorem TU(D:Ae)(id:List UInt8):DK (D,0) id=(D,id,[],0):=if_neg fun q=>q rfl
theorem Sy.put(h:Sy D (nmO (Sha.sum b)) k b.length b):BT D b=({ D with kept:=D.now,acts:= [] },Sha.sum b,[],0):=by
  have hr:Ap D (nmO (Sha.sum b))=(b,0):=by rw[LU h.down h.may h.now,h.file]
  have e:=LW h.down h.arm h.may h.now;have hkl:=(h.ok.now.look h.now).1;have hs:D.files.set k ((A0 D k).1,(A0 D k).1.length)=D.files:=by
    rw[h.file];refine AgT (by simp) fun i h1 h2=> ?_;rw[AhQ];split
    · rename_i q
      subst q;have:=h.file;unfold A0 at this;rw[AcO,AcS hkl]at this;exact this.symm
    · rfl
  rw[hs]at e;unfold BT;rw[hr,if_neg (show ¬(0:Nat)=4 by decide),if_neg (show ¬(0:Nat)≠0 from fun q=>q rfl),if_pos rfl,I7 (a:= .sync) (by show(BG D _).2=0;rw[e])];show DK (AT (BG D _).1 _ []) _=_;rw[e];exact TU _ _
end
theorem P7{a b:Bs}(ha:a.length=32)(hb:b.length=32)(h:nmO a=nmO b):a=b:=by
  have q1:hexOf a=hexOf b:=List.append_cancel_left h;have q2:=EJ a ha;rw[q1,EJ b hb]at q2;exact(congrArg Adk q2).symm
theorem Y5(b x:Bs):Ax b≠nmO x:=fun h=>by
  have h2:=congrArg (fun l:Bs=>l.getD 0 0) h;have h3:(112:UInt8)=111:=h2;exact absurd h3 (by decide)
theorem XS(b:Bs):Br (Ax b)=true:=by
  unfold Br;rw[LP];rfl
theorem Wz{x:Bs}(hx:x.length=32):D5 [111,45] (nmO x)=true:=by
  have hc:Ay [111,45] (nmO x)=(hexOf x,true):=rfl;unfold D5;rw[hc,EJ x hx];rfl
theorem Y6(b:Bs):D5 [112,45] (Ax b)=true:=by
  have hc:Ay [112,45] (Ax b)=(hexOf (Sha.sum b),true):=rfl;unfold D5;rw[hc,EJ _ (Sha.sum_length b)];rfl
theorem P8{p s:Bs}(h:(Ay p s).2=true):s.take p.length=p:=by
  unfold Ay at h;split at h
  · rename_i q;exact q.2
  · cases h
theorem VO{s:Bs}(h:D5 [112,45] s=true):D5 [111,45] s=false:=by
  cases q:D5 [111,45] s with
  | false=>rfl
  | true=>
    unfold D5 at h q;have h1:=P8 (Ag7.1 h).1;have h2:=P8 (Ag7.1 q).1;have h3:s.take 2= [112,45]:=h1;have h4:s.take 2= [111,45]:=h2;rw[h3]at h4;exact absurd h4 (by decide)
section
variable {D : Ae} {b : Bs}
structure LoD (D : Ae) : Prop where
  ready:ReadyL D
  kept:D.kept=D.now
  acts:D.acts= []
  file:∀e∈D.now,∃c,A0 D e.2=(c,c.length)∧e.1=nmO (Sha.sum c)∧c.length≤200
theorem LoD.new(q:Nat):LoD (D4 q):=⟨⟨rfl,rfl,⟨DirOk.nil _,DirOk.nil _,(fun _ h=>by cases h),(fun _ h=>by cases h)⟩,AeN⟩,rfl,rfl,fun e h=>by cases h⟩
theorem LoD.get_some(h:LoD D){id:Bs}(hid:id.length=32){k:Nat}(hk:Aw D.now (nmO id)=some k):∃c,A0 D k=(c,c.length)∧Sha.sum c=id∧c.length≤200∧BH D id=(c,0):=by
  obtain⟨c,h1,h2,h3⟩:=h.file _ (Ej hk);have e:Sha.sum c=id:=(P7 hid (Sha.sum_length c) h2).symm;have hr:Ap D (nmO id)=(c,0):=by rw[LU h.ready.down (LX hid) hk,h1]
  refine⟨c,h1,e,h3,?_⟩;unfold BH;rw[hr,if_neg (fun q=>q.elim (fun x=>by cases x) fun q=>q.2 e)]
theorem Fx(hd:D.down=false){id:Bs}(hid:id.length=32)(hk:Aw D.now (nmO id)=none):BH D id=([],12):=by
  unfold BH;rw[GX hd (LX hid) hk,if_pos (.inl rfl)]
theorem LoD.get_zero(h:LoD D){id:Bs}(hid:id.length=32)(h0:(BH D id).2=0):∃k c,Aw D.now (nmO id)=some k∧A0 D k=(c,c.length)∧Sha.sum c=id∧c.length≤200∧BH D id=(c,0):=by
  cases hk:Aw D.now (nmO id)with
  | none=>rw[Fx h.ready.down hid hk]at h0;cases h0
  | some k=>
    obtain⟨c,h1⟩:=h.get_some hid hk;exact⟨k,c,rfl,h1⟩
theorem JU{s:Bs}(hd:D.down=false)(hm:Br s=true)(hq:D.quota<usedD D+b.length):A5 D s b=({ D with refused:=D.refused+1 },8):=by
  unfold A5;rw[if_neg (by rw[FK hd hm hm];exact fun q=>q rfl),if_pos hq]
theorem LoD.same(h:LoD D):({ D with kept:=D.now,acts:= [] } :Ae)=D:=by
  have h1:=h.kept;have h2:=h.acts;cases D;simp only at h1 h2;subst h1 h2;rfl
theorem LoD.sy(h:LoD D){s:Bs}{k:Nat}(hk:Aw D.now s=some k):∃c,A0 D k=(c,c.length)∧Sy D s k c.length c:=by
  obtain⟨c,h1,-⟩:=h.file _ (Ej hk);exact⟨c,h1,h.ready.down,h.ready.arm,h.ready.ok,(h.ready.ok.now.look hk).2,h.ready.inj,hk,by rw[h.kept];exact hk,(fun a q=>by rw[h.acts]at q;cases q),h1⟩
def addS(D:Ae)(s b:Bs):Ae:= { turnedD D ⟨[],s,D.files.length⟩with files:=D.files++ [(b,b.length)],kept:=turnD D.now ⟨[],s,D.files.length⟩,acts:= [] }
theorem VP{l:List (List UInt8 × Nat)}{x y:List UInt8 × Nat}:(l++ [x]).set l.length y=l++ [y]:=by
  rw[Aeg _ _ (AcP _),Aez];rfl
theorem Ku(h:ReadyL D){s:Bs}(hm:Br s=true)(hl:Aw D.now s=none):BG (Cl D s b) s=(addS D s b,0):=by
  obtain⟨l1,l2⟩:=OM (b:=b) hm hl;have hr:=h.add hm b;rw[LW hr.down hr.arm hm l1,l2];rw[OL hl];show(({ turnedD D ⟨[],s,D.files.length⟩with files:=(D.files++ [(b,0)]).set D.files.length (b,b.length),kept:=turnD D.now ⟨[],s,D.files.length⟩,acts:= [] } :Ae),0)=_;rw[VP];rfl
theorem I8{s:Bs}(hm:Br s=true)(t:Bs)(ht:t≠ []):Aw (addS D s b).now t=if t=s then some D.files.length else Aw D.now t:=by
  have h0:=(Cp hm).1;show Aw (turnD D.now ⟨[],s,D.files.length⟩) t=_;rw[look_turn,if_neg (show ¬s.length=0 by omega)];show(if t=s then some D.files.length else if t= []then none else Aw D.now t)=_;rw[if_neg ht]
theorem MO{s:Bs}:A0 (addS D s b) D.files.length=(b,b.length):=by
  show(D.files++ [(b,b.length)]).getD D.files.length ([],0)=_;rw[AcO,AdB (AcP _),Aez];rfl
theorem ON{s:Bs}{k:Nat}(hk:k<D.files.length):A0 (addS D s b) k=A0 D k:=by
  show(D.files++ [(b,b.length)]).getD k ([],0)=_;rw[AcO,AdF hk];rfl
theorem Lt(h:ReadyL D){s:Bs}(hm:Br s=true)(hl:Aw D.now s=none):ReadyL (addS D s b):=by
  obtain⟨l1,l2⟩:=OM (b:=b) hm hl;have:=(Sy.sync (h.add hm b) hm l1).2.ready;rw[Ku h hm hl]at this;exact this
theorem VQ{s:Bs}{e:List UInt8 × Nat}(he:e∈(addS D s b).now):e∈D.now∨e=(s,D.files.length):=(Kd he).imp id fun q=>q.2
theorem TV(x:Bs):nmO x≠ []:=fun h=>by cases h
theorem LoD.put(h:LoD D)(hb:b.length≤200):
    (∃c,BT D b=(D,Sha.sum b,c,7)∧BH D (Sha.sum b)=(c,0)∧c≠b) ∨
    (BT D b=({ D with refused:=D.refused+1 },GS,[],8)∧D.quota<usedD D+b.length) ∨
    (∃D',BT D b=(D',Sha.sum b,[],0)∧LoD D' ∧D'.refused=D.refused∧D'.quota=D.quota∧BH D' (Sha.sum b)=(b,0)∧∀id:Bs,id.length=32→id≠Sha.sum b→BH D' id=BH D id):=by
  have hs:=Sha.sum_length b;have hm:Br (nmO (Sha.sum b))=true:=LX hs;cases hk:Aw D.now (nmO (Sha.sum b))with
  | none=>
    have g:BT D b=DK (AT D (nmO (Sha.sum b)) [.add b, .sync]) (Sha.sum b):=by
      unfold BT;rw[GX h.ready.down hm hk,if_pos rfl]
    by_cases hq:D.quota<usedD D+b.length
    · refine .inr (.inl ⟨?_,hq⟩);have f:CY D (nmO (Sha.sum b)) (.add b)=({ D with refused:=D.refused+1 },8):=JU h.ready.down hm hq;rw[g,Ff,f,if_pos (show ¬(8:Nat)=0 by decide)];rfl
    · have f:CY D (nmO (Sha.sum b)) (.add b)=(Cl D (nmO (Sha.sum b)) b,0):=MN h.ready.down h.ready.arm hm (by omega);have i:CY (Cl D (nmO (Sha.sum b)) b) (nmO (Sha.sum b)) .sync=(addS D (nmO (Sha.sum b)) b,0):=Ku h.ready hm hk;have l:BT D b=(addS D (nmO (Sha.sum b)) b,Sha.sum b,[],0):=by
        rw[g,I7 (by rw[f]),f,I7 (by rw[i]),i];exact TU _ _
      have j:=Lt (b:=b) h.ready hm hk;have hf:∀e∈(addS D (nmO (Sha.sum b)) b).now,∃c,A0 (addS D (nmO (Sha.sum b)) b) e.2=(c,c.length)∧e.1=nmO (Sha.sum c)∧c.length≤200:=fun e he=>by
        rcases VQ he with he | rfl
        · rw[ON (h.ready.ok.now.num e he)];exact h.file e he
        · exact⟨b,MO,rfl,hb⟩
      have hL:LoD (addS D (nmO (Sha.sum b)) b):=⟨j,rfl,rfl,hf⟩;refine .inr (.inr ⟨_,l,hL,rfl,rfl,?_,fun id hid hne=> ?_⟩)
      · obtain⟨c,q1,q2,q3,q4⟩:=hL.get_some hs (by rw[I8 hm _ (TV _),if_pos rfl]);rw[MO]at q1;cases q1;exact q4
      · have hlk:Aw (addS D (nmO (Sha.sum b)) b).now (nmO id)=Aw D.now (nmO id):=by rw[I8 hm _ (TV _),if_neg fun q=>hne (P7 hid hs q)]
        cases a:Aw D.now (nmO id)with
        | none=>rw[Fx h.ready.down hid a,Fx j.down hid (hlk.trans a)]
        | some k=>
          obtain⟨c,q1,q2,q3,q4⟩:=h.get_some hid a;obtain⟨c',p1,p2,p3,p4⟩:=hL.get_some hid (hlk.trans a);rw[ON (h.ready.ok.now.look a).1,q1]at p1;rw[q4,p4,(Prod.mk.inj p1).1]
  | some k=>
    obtain⟨c,q1,q2,q3,q4⟩:=h.get_some hs hk;have hr:Ap D (nmO (Sha.sum b))=(c,0):=by rw[LU h.ready.down hm hk,q1]
    by_cases hc:c=b
    · subst hc;refine .inr (.inr ⟨D,?_,h,rfl,rfl,q4,fun _ _ _=>rfl⟩);obtain⟨c2,p1,hsy⟩:=h.sy hk;rw[q1]at p1;cases p1;rw[hsy.put,h.same]
    · refine .inl ⟨c,?_,q4,hc⟩;unfold BT;rw[hr,if_neg (show ¬(0:Nat)=4 by decide),if_neg (show ¬(0:Nat)≠0 from fun q=>q rfl),if_neg hc,if_pos q2]
theorem Lu:∀(l:List Bs) {D:Ae},ReadyL D→l.Nodup→(∀s∈l,∃k,Aw D.now s=some k)→∃D',BQ D l=(D',0)∧ReadyL D' ∧D'.files=D.files∧D'.quota=D.quota∧D'.refused=D.refused∧∀t,Aw D'.now t=if t∈l then none else Aw D.now t
  | [],D,h,_,_=>⟨D,rfl,h,rfl,rfl,rfl,fun t=>(if_neg Aeu).symm⟩
  | s :: r,D,h,hn,hl=>by
    obtain⟨k,hk⟩:=hl s AdM;obtain⟨a,b⟩:=AeQ.1 hn;have hm:=(h.ok.now.look hk).2;have e:=XR h.down h.arm hm hk;have hlk:∀t,Aw (turnedD D ⟨s,[],k⟩).now t=if t=s then none else Aw D.now t:=fun t=>by
      show Aw (turnD D.now ⟨s,[],k⟩) t=_;rw[look_turn,if_pos (show([]:List UInt8).length=0 from rfl)]
    obtain⟨D',q1,q2,q3,q4,q5,q6⟩:=Lu r (h.dropped hm hk) b fun t ht=>by
      obtain⟨j,hj⟩:=hl t (AdO _ ht);exact⟨j,by rw[hlk,if_neg (fun(q:t=s)=>a (q▸ht))];exact hj⟩
    refine⟨D',?_,q2,q3,q4,q5,fun t=> ?_⟩
    · rw[F8,e,if_neg (fun q=>q rfl)];exact q1
    · rw[q6,hlk];by_cases h1:t=s
      · rw[if_pos h1,if_pos (show t∈s :: r by rw[h1];exact AdM)];split <;> rfl
      · rw[if_neg h1];by_cases h2:t∈r
        · rw[if_pos h2,if_pos (AdO _ h2)]
        · rw[if_neg h2,if_neg (fun q=>(Adz.1 q).elim h1 h2)]
theorem P9(hd:D.down=false):AE D=D.now.map Adk:=if_neg (by rw[hd];decide)
theorem FL(h:ReadyL D){s:Bs}:s∈AE D↔∃k,Aw D.now s=some k:=by
  rw[P9 h.down];constructor
  · intro q;obtain⟨e,he,rfl⟩:=Adx.1 q;exact⟨_,Jq h.ok.now.sort he⟩
  · rintro⟨k,hk⟩;exact Adx.2 ⟨_,Ej hk,rfl⟩
theorem Ic{M:AN}{s:Bs}:s∈goneV D M↔s∈AE D∧((D5 [112,45] s=true∧M.lookup s=none)∨D5 [111,45] s=true):=by
  unfold goneV Av;rw[Adf,Aes,Aes,Aes,AhF];constructor
  · rintro(⟨⟨h1,h2⟩,h3⟩ | ⟨h1,h2⟩)
    · exact⟨h1, .inl ⟨h2,h3⟩⟩
    · exact⟨h1, .inr h2⟩
  · rintro⟨h1,⟨h2,h3⟩ | h2⟩
    · exact .inl ⟨⟨h1,h2⟩,h3⟩
    · exact .inr ⟨h1,h2⟩
theorem RO(h:DOk D)(M:AN):(goneV D M).Nodup:=by
  unfold goneV;refine AeY.2 ⟨((F7 h _).nodup).filter _,(F7 h _).nodup,fun a ha c hc e=> ?_⟩;subst e;have h1:=(Aes.1 (Aes.1 ha).1).2;have h2:=(Aes.1 hc).2;rw[VO h1]at h2;cases h2
theorem I9(h:ReadyL D)(L M:AN):∃D',ES D L M=(D',M,[],0)∧ReadyL D' ∧D'.files=D.files∧D'.quota=D.quota∧D'.refused=D.refused∧∀t,Aw D'.now t=if t∈goneV D M then none else Aw D.now t:=by
  obtain⟨D',q1,q2⟩:=Lu (goneV D M) h (RO h.ok M) fun s hs=>(FL h).1 (Ic.1 hs).1;refine⟨D',?_,q2⟩;unfold ES;rw[q1,if_neg (fun q=>q rfl)]
end
section
variable {D : Ae} {o : List Bs} {ch : List Int}
theorem OO(D:Ae)(id:Bs):getV D [] id=BH D id:=rfl
theorem keep_lo(h:LoD D)(h60:o.length≤60)(hn:o.Nodup)(hv:H9 D [] o):
    (BC D [] o ch=({ D with refused:=D.refused+1 },[],[],8)∧D.quota<usedD D+40000) ∨
    ∃D' M,BC D [] o ch=(D',M,[],0)∧ReadyL D' ∧D'.refused=D.refused∧(∀t k,Aw D'.now t=some k→∃e∈M,t=e.1)∧M.length=(if o= []then 0 else 1)∧(∀id∈o,AA M id=some (BH D id).1)∧GoodL M:=by
  have hnam:∀t k,Aw D.now t=some k→∃x:Bs,x.length=32∧t=nmO x:=fun t k hk=>by
    obtain⟨c,h1,h2,h3⟩:=h.file _ (Ej hk);exact⟨_,Sha.sum_length c,h2⟩
  by_cases hne:o= []
  · subst hne;have hp:AP D [] [] ch=([],0):=by
      unfold AP;rw[if_neg (Lq hv),if_pos rfl]
    obtain⟨D',q1,q2,q3,q4,q5,q6⟩:=I9 h.ready [] [];refine .inr ⟨D',[],?_,q2,q5,fun t k hk=> ?_,rfl,(fun id hid=>by cases hid),fun e he=>by cases he⟩
    · rw[I3 (by rw[hp];exact fun q=>q rfl) (by rw[hp])];exact q1
    · exfalso;rw[q6]at hk;split at hk
      · cases hk
      · rename_i hg
        obtain⟨x,hx,rfl⟩:=hnam t k hk;exact hg (Ic.2 ⟨(FL h.ready).2 ⟨k,hk⟩, .inr (Wz hx)⟩)
  · obtain⟨b,p,hp,hop,hbl,hids,hobj,-⟩:=TL (ch:=ch) hv h60 hn hne;have h0:¬(AP D [] o ch).2≠0:=by rw[hp];exact fun q=>q rfl
    have i:=Kr (L:= []) h0 (by rw[hp]) hop;have hm:=XS b;have hl:Aw D.now (Ax b)=none:=by
      cases e:Aw D.now (Ax b)with
      | none=>rfl
      | some k=>
        obtain⟨x,-,q⟩:=hnam _ _ e;exact absurd q (Y5 b x)
    have hw:AH D b=FQ D b:=by
      rw[F9 (by rw[GX h.ready.down hm hl];exact fun q=>by cases q),GX h.ready.down hm hl];exact if_neg fun q=>q.2 rfl
    by_cases hq:D.quota<usedD D+b.length
    · left;have a:A5 D (Ax b) b=_:=JU h.ready.down hm hq;have f:FQ D b=({ D with refused:=D.refused+1 },false,8):=by
        unfold FQ;rw[a];exact if_pos (show ¬(8:Nat)=0 by decide)
      refine⟨?_,by omega⟩;rw[i,hw,f];exact Lr rfl rfl
    · right;have a:A5 D (Ax b) b=_:=MN h.ready.down h.ready.arm hm (by omega);have f:FQ D b=(addS D (Ax b) b,true,0):=by
        unfold FQ;rw[a,if_neg (fun q=>q rfl),Ku h.ready hm hl]
      have g:=Lt (b:=b) h.ready hm hl;obtain⟨D',q1,q2,q3,q4,q5,q6⟩:=I9 g [] [(Ax b,p)];refine⟨D',[(Ax b,p)],?_,q2,q5,fun t k hk=> ?_,by rw[if_neg hne];rfl,fun id hid=> ?_,fun e he=> ?_⟩
      · rw[i,hw,f];exact q1
      · rw[q6]at hk;split at hk
        · cases hk
        · rename_i hg
          by_cases ht:t=Ax b
          · exact⟨_,AcY.2 rfl,ht⟩
          · exfalso;have hmem:=hk;by_cases ht0:t= []
            · subst ht0;rw[g.ok.now.noEmpty]at hk;cases hk
            · rw[I8 hm _ ht0,if_neg ht]at hk;obtain⟨x,hx,rfl⟩:=hnam t k hk;exact hg (Ic.2 ⟨(FL g).2 ⟨k,hmem⟩, .inr (Wz hx)⟩)
      · obtain⟨d,hd⟩:=hobj id hid;show List.findSome? _ [(Ax b,p)]=_;rw[Ahe];have hd2:Option.map Adk ((Ax b,p).2.2 id)=some (getV D [] id).1:=by
          show Option.map Adk (p.2 id)=_;rw[hd];rfl
        rw[hd2];rfl
      · rw[AcY.1 he];exact⟨b,hop,rfl⟩
theorem VR{M:AN}(h:ReadyL D)(hM:∀t k,Aw D.now t=some k→∃b,t=Ax b):∃D',BC D M [] ch=(D',[],[],0)∧ReadyL D' ∧D'.now= []:=by
  have hp:AP D M [] ch=([],0):=by
    unfold AP;rw[if_neg (fun⟨id,hid,_⟩=>by cases hid),if_pos rfl]
  obtain⟨D',q1,q2,q3,q4,q5,q6⟩:=I9 h M [];refine⟨D',?_,q2,?_⟩
  · rw[I3 (by rw[hp];exact fun q=>q rfl) (by rw[hp])];exact q1
  · cases e:D'.now with
    | nil=>rfl
    | cons x r=>
      exfalso;have hk:=Jq q2.ok.now.sort (e▸AdM:x∈D'.now);rw[q6]at hk;split at hk
      · cases hk
      · rename_i hg
        obtain⟨b,hb⟩:=hM _ _ hk;exact hg (Ic.2 ⟨(FL h).2 ⟨_,hk⟩, .inl ⟨by rw[hb];exact Y6 b,rfl⟩⟩)
end
theorem DBd.kept{m:Nat}{D:Ae}{L:AN}{o:List Bs}{ch:List Int}(h:DBd m D)(hp:¬(AP D L o ch).2≠0→(AP D L o ch).1= []∨∃p,(AP D L o ch).1= [A2 D L o ch 0]∧B4 (A2 D L o ch 0) = .ok p∧(A2 D L o ch 0).length≤40000):DBd (3*m+606) (BC D L o ch).1:=by
 have hl:∀(k:Nat) (E:Ae) (M:AN),DBd k E→DBd (3*k) (ES E L M).1:=fun k E M hE=>by
  have h1:=(hE.drops (goneV E M)).mono (show k+(goneV E M).length≤3*k by have:=P3 hE M;omega);unfold ES;split <;> exact h1
 unfold BC;split
 ·exact h.mono (by omega)
 ·rename_i hc
  have hp:=hp hc;split
  ·exact(hl m D [] h).mono (by omega)
  ·rename_i b r e
   have hb:b.length≤60000:=by
    rcases hp with q | ⟨p,q1,q2,q3⟩
    ·rw[q]at e;cases e
    ·rw[q1]at e;cases e;omega
   have hw:=h.write hb;unfold Lo;split
   ·rename_i p _
    unfold EK;split
    ·have hd:=(hw.drops (if(AH D b).2.1=true then [Ax b]else [])).mono (show _≤3*m+606 by split <;> simp <;> omega);have f:∀(c:Prop) [Decidable c] (a d:Ae × AN × List Bs × Nat),DBd (3*m+606) a.1→DBd (3*m+606) d.1→DBd (3*m+606) (if c then a else d).1:=fun c _ a d h1 h2=>by split <;> assumption
     exact f _ _ _ hd hd
    ·split
     ·exact hw.mono (by omega)
     ·split
      ·exact hw.mono (by omega)
      ·exact(hl _ _ _ hw).mono (by omega)
   ·exact h.mono (by omega)
theorem DBd.putL{m:Nat}{D:Ae}(h:DBd m D){b:Bs}(hb:b.length≤300):DBd (m+3) (BT D b).1:=by
 have hst:∀(acs:List Stp) {n:Nat} {E:Ae},DBd n E→(∀x,Stp.add x∈acs→x=b)→DBd (n+acs.length) (AT E (nmO (Sha.sum b)) acs).1:=by
  intro acs
  induction acs with
  | nil=>intro n E hE _;exact hE
  | cons a r ih=>
   intro n E hE hx;have h1:=hE.step (nmO (Sha.sum b)) a fun x e=>by rw[hx x (e▸AdM)];exact hb
   rw[Ff];split
   ·exact h1.mono (by rw[Adh];omega)
   ·have:=ih h1 fun x hm=>hx x (AdO _ hm);exact this.mono (by rw[Adh];omega)
 have hf:∀(r:Ae × Nat) (id:Bs),DBd (m+3) r.1→DBd (m+3) (DK r id).1:=fun r id hr=>by
  unfold DK;split <;> exact hr
 have hs:∀acs:List Stp,acs.length≤3→(∀x,Stp.add x∈acs→x=b)→DBd (m+3) (DK (AT D (nmO (Sha.sum b)) acs) (Sha.sum b)).1:=fun acs hl hx=>hf _ _ ((hst acs h hx).mono (by omega));unfold Go.Proofs.YtfpekahfdalfkaaGreatDoor.BT;split
 ·exact hs _ (by simp) (by simp)
 split
 ·exact h.mono (by omega)
 split
 ·exact hs _ (by simp) (by simp)
 split
 ·exact h.mono (by omega)
 ·exact hs _ (by simp) (by simp)
theorem VS{a:List Bs}{x:Bs}(ha:Ek a)(h1:∀y,y∈a↔y∈ [x]):a= [x]:=by
 have hn:a.Nodup:=ha.imp fun hab e=>by rw[e,J0]at hab;omega
 have h2:a.Perm [x]:=(Ae3 hn (by simp)).2 h1;exact List.perm_singleton.1 h2
theorem putV_nil(D:Ae){b:Bs}(hb:b.length≤262144):DC D [] b=BT D b:=by
 unfold DC;rw[if_neg (by omega)];rfl
def YE(id:Bs)(r:Ae × AN × List Bs × Nat):Prop:=r.2.2.2=0∧DBd 2451 r.1∧AE r.1= []∧getV r.1 r.2.1 id=([],12)
def Zd(id:Bs)(r:Ae × AN × List Bs × Nat):Prop:=r.2.2.2=0∧DBd 615 r.1∧r.2.1.length=1∧getV r.1 r.2.1 id=([97,98,99],0)∧∀(o2:List Bs) (ch:List Int),(∀x,x∈o2↔x∈([]:List Bs))→YE id (BC r.1 r.2.1 o2 ch)
theorem Zj:∃(D1:Ae) (id:Bs),id.length=32∧DC (D4 100000) [] [97,98,99]=(D1,id,[],0)∧DBd 3 D1∧BH D1 id=([97,98,99],0)∧∀(o:List Bs) (ch:List Int),Ek o→(∀x,x∈o↔x∈ [id])→Zd id (BC D1 [] o ch):=by
 have hs:=Sha.sum_length [97,98,99];have h0:=LoD.new 100000;have i:DBd 0 (D4 100000):=DBd.new (by decide);rcases h0.put (b:= [97,98,99]) (by decide)with ⟨c,q1,q2,q3⟩ | ⟨q1,q2⟩ | ⟨D1,q1,q2,q3,q4,q5,q6⟩
 ·exfalso;rw[Fx rfl hs rfl]at q2;cases q2
 ·exact absurd q2 (by decide)
 have a:=i.putL (b:= [97,98,99]) (by decide);rw[q1]at a;have a:DBd 3 D1:=a;refine⟨D1,_,hs,by rw[putV_nil _ (by decide)];exact q1,a,q5,fun o ch hS hM=> ?_⟩;have ho:=VS hS hM;subst ho;have hv:H9 D1 [] [Sha.sum [97,98,99]]:=fun id hid=>by
  rw[AcY.1 hid,OO,q5];exact⟨rfl,by decide,rfl⟩
 have hu:=a.used;rcases keep_lo (ch:=ch) q2 (by decide) (by simp) hv with ⟨-,r2⟩ | ⟨D2,M,r1,r2,r3,r4,r5,r6,r7⟩
 ·rw[q4]at r2;have:(D4 100000).quota=100000:=rfl;omega
 have hpp:¬(AP D1 [] [Sha.sum [97,98,99]] ch).2≠0→_:=fun h=>GW (fun _=>GA hv (by decide)) h;have f:=a.kept (L:= []) (o:= [Sha.sum [97,98,99]]) (ch:=ch) hpp;rw[r1]at f;rw[r1];refine⟨rfl,f,r5,?_,fun o2 ch2 hM2=> ?_⟩
 ·have:=r6 _ (AcY.2 rfl);rw[q5]at this;show getV D2 M _=_;unfold getV;rw[this]
 have j:o2= []:=List.eq_nil_iff_forall_not_mem.2 fun x hx=>by have:=(hM2 x).1 hx;cases this
 subst j;obtain⟨D3,s1,s2,s3⟩:=VR (ch:=ch2) (M:=M) r2 fun t k hk=>by
  obtain⟨e,he,rfl⟩:=r4 t k hk;obtain⟨b,-,hb⟩:=r7 e he;exact⟨b,hb⟩
 have g:=f.kept (L:=M) (o:= []) (ch:=ch2) fun h=>GW (fun _=>by
  refine⟨by rw[partsK_len];decide,fun p hp=> ?_⟩;have:AR D2 M [] ch2= []:=Adw partsK_len;rw[this]at hp;cases hp) h
 rw[s1]at g;show YE _ (BC D2 M [] ch2);rw[s1];refine⟨rfl,g,?_,?_⟩
 ·show AE D3= [];rw[P9 s2.down,s3];rfl
 ·show BH D3 _=_;exact Fx s2.down hs (by rw[s3];rfl)
theorem VT:Plain AcM 21:=fun _ _=>by kernel_rfl
theorem VU:Plain AcM 13:=fun _ _=>by kernel_rfl
theorem VV:Plain AcM 14:=fun _ _=>by kernel_rfl
theorem VW:∀(cs:Array AcJ),cs.size=32→∀w:AcK,(Adt 42 1 #[(0, .agg cs)]).run AcM w = .ok (.slice (some ⟨w.heap.size,0,none⟩) 1 1) (w.alloc (.cells cs 33))
 | ⟨[c0,c1,c2,c3,c4,c5,c6,c7,c8,c9,c10,c11,c12,c13,c14,c15,c16,c17,c18,c19,c20,c21,c22,c23,c24,c25,c26,c27,c28,c29,c30,c31]⟩,_,w=>Us c0 c1 c2 c3 c4 c5 c6 c7 c8 c9 c10 c11 c12 c13 c14 c15 c16 c17 c18 c19 c20 c21 c22 c23 c24 c25 c26 c27 c28 c29 c30 c31 w
theorem OP:Plain AcM 16:=fun _ _=>by kernel_rfl
theorem VX:Plain AcM 19:=fun _ _=>by kernel_rfl
theorem VY:Plain AcM 17:=fun _ _=>by kernel_rfl
theorem Qa(w:AcK)(hG:Laid w):
  Calls AcM 12 #[] w fun e w' =>e = .returned (.bool true)∧Ext w w' :=by
 refine gG (args:= []) Tryz.func12 rfl 87 rfl rfl ?_;have hE:=Ext.refl w;refine Aeo Zj fun D1 haw2=>(Aeo haw2 fun id1 haw3=> ?_);have hid1:=haw3.1;have haw:=haw3.2;refine gS (ZA VT rfl ((Wv w _ hE 100000 (by decide)).mono ?_));rintro e g ⟨g1,H1,rfl,hD,ap⟩;refine⟨_,rfl,?_⟩;have hDc:=hD;refine gS (ZA VU rfl ((P5 w _ g1 H1 (D4 100000) hDc hG (DBd.lt (DBd.new (by decide)) (by decide):Df (D4 100000)) (by decide) rfl).mono ?_));rintro e w7 ⟨gv,rfl,hVS_,aq⟩;refine⟨_,rfl,?_⟩;have hV:=hVS_;refine gS (Yk.extract (vs:= [PQ gv 0,NI 0]) rfl rfl (gS (Yk.extract (vs:= [PQ gv 0,NI 0]) rfl rfl ?_)));have hV:VtS w g.heap.size g1 gv w7 H1 (D4 100000) []:=hV;have hV0:=hV;refine gS (AbB (e:=5) ([97,98,99]:List UInt8) (by decide) (fun _ _=>by kernel_rfl) fun v9 a1 u=> ?_);have j:=Ext.refl w7;have hE:=hE.trans (ap.trans aq);have ar:=hE.size;have n:=u.own;have hoff0:∀i,AcT v9=some i→¬BZ H1 (D4 100000).files.length i:=fun i hi q=>by have h1:=(hV0.dk.st.foot q).2.1;have h2:=(n.lt i hi).1;omega
 refine gS (Abv Gj u5 rfl n (by decide) fun a2 ad ae=> ?_);have hE:=hE.trans u.ext;have hE:=Aq hE ae n ar;have j:=j.trans u.ext;have j:=Aq j ae n (AcP _);clear n;have hVc:=(hV.keep j);refine gS (Zx VV rfl rfl ((TT w _ g.heap.size g1 gv H1 (D4 100000) ([]) hVc hG v9 ([97,98,99]:List UInt8) ad (.inr hoff0) (by decide) 0 (DBd.new (by decide)) (by omega) (D1,id1,[],0) haw.1).mono ?_));rintro e af ⟨H19,v,rfl,a3,hV22,hC23⟩;refine⟨_,rfl,?_⟩;have hE:Ext w af:=hV22.dk.ext;clear j;clear ad;have hV:=hV22;refine gS (Yk.extract (vs:= [AB id1,v,NI 0]) rfl rfl (gS (Yk.extract (vs:= [AB id1,v,NI 0]) rfl rfl (gS (Yk.extract (vs:= [AB id1,v,NI 0]) rfl rfl (gS (Yk.alloc Ur fun r au a4 ag av a5=> ?_)))))));have f:=Ext.refl af;have a6:=hE.size;have c:=ag;clear ag;have a7:r<au.heap.size:=by omega
 refine gS (Zy (vr (PQ r 0) rfl) (vr (AB id1) rfl) c (by exact Bn hid1 Ac7) (by exact Ac hid1) (Af _) fun a8 ah aw a9=> ?_);clear c;have c:=ah;clear ah;have ba:=bl c;refine gS (Zz rfl c Wq rfl (by exact Ac hid1) (gS (Z2 (a:=id1) (enc:=AcL) (vr (AB id1) rfl) ((by rw[AcZ,hid1])) VW fun ax bb ai aj=> ?_)));have f:=f.trans av;have f:=Ab f aw (AcN (AcP _) (by omega));have f:=f.trans aj;have hVc:=(hV.keep f);refine gS (ZV OP rfl rfl rfl ((LV w _ g.heap.size g1 gv H19 (D1) ([]) hVc hG (ax) [id1] ai (fun x hx=>by rw[AcY.1 hx];exact hid1) (by show 1≤60;decide) (fun x hx q=>by rw[AcY.1 hx,OO,haw.2.2.1];decide) (.slice none 0 0) [] (RG.nil _ _ _) (by decide) 3 haw.2.1 (by decide) (Zd id1) (fun o hS hM=>haw.2.2.2 o [] hS hM)).mono ?_));rintro e ak ⟨H46,al,r2,rfl,k,-,hV47,hC48⟩;refine⟨_,rfl,?_⟩;have hE:=hE.trans f;have hE:Ext w ak:=hV47.dk.ext;have c:=eb aj c;have c:ak.heap[r]? =some (.cells (AcL id1).toArray 33 (0,0)):=VtS.box hVc hC48 c (by decide) (by decide) (by decide) (by decide) (by decide);clear ai;have hV:=hV47;refine gS (Yk.extract (vs:= [al,NI r2.2.2.2]) rfl rfl (gS (Yk.extract (vs:= [al,NI r2.2.2.2]) rfl rfl (gS (Zz rfl c Wq rfl (by exact Ac hid1) ?_)))));have hVg:=hV;have hVc:=hV;refine gS (Zx Vu rfl rfl ((YB w _ g.heap.size g1 gv H46 (r2.1) (r2.2.1) hVc hG (k.2.1.lt (by decide)) id1 hid1 (([97,98,99]:List UInt8),0) k.2.2.2.1).mono ?_));rintro e bc ⟨am,rfl,s,an,ay⟩;refine⟨_,rfl,?_⟩;have hgotN:=ay;have hV:=hV.keep an;refine gS (Yk.extract (vs:= [am,NI 0]) rfl rfl (gS (Yk.extract (vs:= [am,NI 0]) rfl rfl (gS (ZA VX rfl ((VN w _ g.heap.size g1 gv H46 (r2.1) (r2.2.1) hV).mono ?_))))));rintro e bd ⟨rfl,t⟩;refine⟨_,rfl,?_⟩;have hgotN:=hgotN.keep t;have hgotN:=hgotN;have hV:=hV.keep t;have hVc:=hV;refine gS (ZV OP rfl rfl rfl ((LV w _ g.heap.size g1 gv H46 (r2.1) (r2.2.1) hVc hG (.slice none 0 0) [] (RG.nil _ _ _) (fun x hx=>by cases hx) (by decide) (fun x hx=>by cases hx) (.slice none 0 0) [] (RG.nil _ _ _) (by decide) 615 k.2.1 (by decide) (YE id1) (fun o hS hM=>k.2.2.2.2 o [] hM)).mono ?_));rintro e y ⟨H61,ao,r3,rfl,p,-,hV62,hC63⟩;refine⟨_,rfl,?_⟩;have s:=s.keep t;have hgot:=hVg.rbNew hC63 s hgotN;have hZ1:=an.trans t;have hE:=hE.trans hZ1;have hE:Ext w y:=hV62.dk.ext;have c:=eb hZ1 c;have c:y.heap[r]? =some (.cells (AcL id1).toArray 33 (0,0)):=VtS.box hVc hC63 c (by decide) (by decide) (by decide) (by decide) (by decide);clear hV;clear s;clear hgotN;have hV:=hV62;refine gS (Yk.extract (vs:= [ao,NI r3.2.2.2]) rfl rfl (gS (Yk.extract (vs:= [ao,NI r3.2.2.2]) rfl rfl (gS (Zv (a:=(0:Nat)) (b:=(0:Nat)) rfl rfl (AF _ _ _ _) (kT (rfl) (gS (Zv (a:=(0:Nat)) (b:=(0:Nat)) rfl rfl (AF _ _ _ _) (kT (rfl) (gS (ZE rfl rfl (gS (Zv (a:=(r2.2.2.2:Nat)) (b:=(0:Nat)) rfl rfl (AF _ _ _ _) (kT (k.1) (gS (ZE rfl rfl (gS (Zv (a:=(0:Nat)) (b:=(0:Nat)) rfl rfl (AF _ _ _ _) (kT (rfl) (gS (ZE rfl rfl (gS (Zv (a:=(r3.2.2.2:Nat)) (b:=(0:Nat)) rfl rfl (AF _ _ _ _) (kT (p.1) (gS (ZE rfl rfl (gS (Z3 Gj u5 PO (ZB hgot rfl) (gS (Aao (l:=([97,98,99]:List UInt8)) (m:=([97,98,99]:List UInt8)) (.inl rfl) rfl rfl (decide (([97,98,99]:List UInt8)=(([97,98,99]:List UInt8):List UInt8))) rfl (kT (rfl) (gS (ZE rfl rfl (gS (Zv (a:=(r2.2.1.length:Nat)) (b:=(1:Nat)) rfl rfl (AF _ _ _ _) (kT (k.2.2.1) (gS (ZE rfl rfl ?_))))))))))))))))))))))))))))))))))))));have hVl:=hV;have z:=Ext.refl y;have be:=hE.size;refine gS (ZA Vk rfl ((hVl.dk.list (p.2.1.lt (by decide))).mono ?_));rintro e bf ⟨bg,rfl,az,aa⟩;refine⟨_,rfl,?_⟩;have c:=eb aa c;have z:=z.trans aa;refine gS (ZI N9 (ZC (ZG az) rfl) (gS (Zv (a:=(((AE r3.1)).length:Nat)) (b:=(0:Nat)) rfl rfl (AF _ _ _ _) (kT ((by rw[p.2.2.1];rfl)) (gS (ZE rfl rfl (gS (Zz rfl c Wq rfl (by exact Ac hid1) (gS (Zx VY rfl rfl (((show Calls _ _ _ _ (fun e w2=>e = .returned (.bool false)∧Ext _ w2)from by have h:=YC w _ g.heap.size g1 gv H61 (r3.1) (r3.2.1) (hV.keep z) hG (p.2.1.lt (by decide)) id1 hid1;rw[p.2.2.2]at h;exact h)).mono ?_)))))))))));rintro e bh ⟨rfl,a0⟩;refine⟨_,rfl,?_⟩;refine gS (Z9 rfl (gS (ZE rfl rfl (Bb rfl (vr (.bool (true)) rfl) ?_))));have hE:=hE.trans (aa.trans a0);exact⟨rfl,hE⟩

open Go.ChangeShapes Go.WideShapes Go.ChangeAt Go.RowKit
theorem Qb:Tryz.prog.globalNamed "variorum/sha.first" = some 0:=by kernel_rfl
theorem VZ:(Tryz.prog.globals[0]?).map (·.type)=some 182:=by kernel_rfl
theorem V0:Tryz.prog.cellsOf 182=8:=by kernel_rfl
def zs_first:List Int:= [1779033703,3144134277,1013904242,2773480762,1359893119,2600822924,528734635,1541459225]
theorem Ps:(zs_first.map fun z=>AeJ .u32 z).toArray=cellsU Sha.first:=by kernel_rfl
theorem Qc:Tryz.prog.globalNamed "variorum/sha.words" = some 1:=by kernel_rfl
theorem V1:(Tryz.prog.globals[1]?).map (·.type)=some 183:=by kernel_rfl
theorem V2:Tryz.prog.cellsOf 183=64:=by kernel_rfl
def zs_words:List Int:= [1116352408,1899447441,3049323471,3921009573,961987163,1508970993,2453635748,2870763221,3624381080,310598401,607225278,1426881987,1925078388,2162078206,2614888103,3248222580,3835390401,4022224774,264347078,604807628,770255983,1249150122,1555081692,1996064986,2554220882,2821834349,2952996808,3210313671,3336571891,3584528711,113926993,338241895,666307205,773529912,1294757372,1396182291,1695183700,1986661051,2177026350,2456956037,2730485921,2820302411,3259730800,3345764771,3516065817,3600352804,4094571909,275423344,430227734,506948616,659060556,883997877,958139571,1322822218,1537002063,1747873779,1955562222,2024104815,2227730452,2361852424,2428436474,2756734187,3204031479,3329325298]
theorem Pu:(zs_words.map fun z=>AeJ .u32 z).toArray=cellsU Sha.words:=by kernel_rfl
theorem YF:Tryz.prog.cellsOf 181=1:=by kernel_rfl
theorem MP{P:Adg}{W:AcK}{name:String}{g:Nat}{cs:Array AcJ}(hg:P.globalNamed name=some g)(h:W.var? P name=some cs):∃t fr,W.heap[g]? =some (.cells cs t fr):=by
 unfold World.var? at h;rw[hg]at h;simp only[Ae4]at h;split at h
 ·rename_i cs' t fr he
  cases h;exact⟨t,fr,he⟩
 ·cases h
theorem XT{W:AcK}(h:laidMetH AcM [("variorum/sha.first",Rows.laid_variorum_sha_first),("variorum/sha.words",Rows.laid_variorum_sha_words)] W):Laid W:=by
 have h1:Lib.TabIs AcM W "variorum/sha.first" .u32 zs_first:=Lib.tabIs_of_head Qb VZ Tryz.underlying182 Ahq YF V0 h;have h2:Lib.TabIs AcM W "variorum/sha.words" .u32 zs_words:=Lib.tabIs_of_head (rest:= []) Qc V1 Tryz.underlying183 Ahq YF V2 (laidMet.tail h);unfold Lib.TabIs at h1 h2;rw[Ps]at h1;rw[Pu]at h2;exact⟨MP Qb h1,MP Qc h2⟩
noncomputable def Ja(os:Os):AcK:=
 let h0:=(World.holding AcM os ⟨#[],#[],[]⟩).heap
 let h1:=h0.modify 0 fun
   | .cells _ t frozen=> .cells (cellsU Sha.first) t frozen
   | o=>o
 let h2:=h1.modify 1 fun
   | .cells _ t frozen=> .cells (cellsU Sha.words) t frozen
   | o=>o
 { World.holding AcM os ⟨#[],#[],[]⟩with heap:=h2 }
theorem V3(os:Os)(args:Array AcJ):laidMet AcM [("variorum/sha.first",Rows.laid_variorum_sha_first),("variorum/sha.words",Rows.laid_variorum_sha_words)] ((Ja os).forCall (fun _ _=>0) ⟨#[],args,[]⟩).memory:=
 laidMet_of_run' 8 (by kernel_rfl) (by kernel_rfl)
open Go.ChangeShapes Go.WideShapes Go.ChangeAt Go.RowKit Go.Deep
section
variable {H : Type} (enc : AcR × AcJ → H) (P : Adg) (W : AcK)
def Opn{α:Type}(t:AcR)(f:α→List AcJ)(OK:α→Prop):Prop:=
  ∀fuel cs (x:DataW H × List MemPlace),Aim enc P W 0 (fun _=>true) true fuel t cs=some x→∃a,cs=f a∧OK a
end
section
variable {H : Type} {enc : AcR × AcJ → H} {P : Adg} {W : AcK}
theorem Opn.i64{t:AcR}(ht:P.underlying t=some (.int .i64)):Opn enc P W t (fun z:Int=> [.int .i64 z]) (fun z=> -9223372036854775808≤z∧z≤9223372036854775807):=fun fuel cs x h=>by
  obtain⟨n,rfl,-,hw⟩:=DataW.trod_int ht h;exact⟨n,rfl,by simpa [Lit.wf,Aia,Aib,AeK,Ad0] using hw⟩
theorem Opn.bool{t:AcR}(ht:P.underlying t=some .bool):Opn enc P W t (fun b:Bool=> [.bool b]) (fun _=>True):=fun fuel cs x h=>by
  obtain⟨b,rfl,-⟩:=DataW.trod_bool ht h;exact⟨b,rfl,trivial⟩
theorem Opn.bytes{t e:AcR}(ht:P.underlying t=some (.slice e))(he:P.underlying e=some (.int .u8))(hc:P.cellsOf e=1):Opn enc P W t (fun v:AcJ × Bs=> [v.1]) (fun v=>RB W v.1 v.2):=fun fuel cs x h=>by
  obtain⟨c,l,rfl,h1,-⟩:=OS ht he hc h;exact⟨(c,l),rfl,h1⟩
theorem MQ{α:Type}{k:Nat}{f:α→List AcJ}(d:α):∀(l:List α),(∀x∈l,(f x).length=k)→∀i r,r<k→i<l.length→(l.flatMap f)[i*k+r]? =(f (l.getD i d))[r]?
  | [],_,i,r,_,hi=>by cases hi
  | a :: l,h,0,r,hr,_=>by
    rw[AdJ,Nat.zero_mul,Ad4,AdF (by rw[h a (by simp)];exact hr)];rfl
  | a :: l,h,i+1,r,hr,hi=>by
    have ha:=h a (by simp);rw[AdJ,AdB (by rw[ha,AeV];omega),ha,show(i+1)*k+r-k=i*k+r by rw[AeV];omega];exact MQ d l (fun x hx=>h x (by simp[hx])) i r hr (by simpa using hi)
theorem Jb{α:Type}{k:Nat}{f:α→List AcJ}:∀(l:List α),(∀x∈l,(f x).length=k)→(l.flatMap f).length=l.length*k
  | [],_=>by simp
  | a :: l,h=>by rw[AdJ,AcQ,h a (by simp),Jb l (fun x hx=>h x (by simp[hx])),Adh,AeV];omega
theorem Opn.slice{α:Type}[Inhabited α]{k:Nat}{f:α→List AcJ}{OK:α→Prop}{t e:AcR}(ht:P.underlying t=some (.slice e))(hc:P.cellsOf e=k)(hk:0<k)(hE:Opn enc P W e f OK)(hl:∀a,OK a→(f a).length=k):
    Opn enc P W t (fun v:AcJ × List α=> [v.1]) (fun v=>RG k f W v.1 v.2∧∀a∈v.2,OK a):=fun fuel cs x h=>by
  rcases open_slice ht h with ⟨rfl,-⟩ | ⟨a,len,cap,m,n,D,Pl,rfl,-,h1,h2,h3,-,h4⟩
  · exact⟨(_,[]),rfl,RG.nil _ _ _,fun a ha=>by cases ha⟩
  · have hm:m=cap:=by simpa using h3
    obtain⟨L,hL⟩:=choose_lt (α:=α) (p:=fun i q=>W.cells? 0 (a.add (i*k)) k=some (f q)∧OK q) (fun i (hi:i<len)=>by
      obtain⟨cs',c1,c2⟩:=h4 i (by omega);obtain⟨q,rfl,hq⟩:=hE _ _ _ c2;rw[hc]at c1;exact⟨q,c1,hq⟩)
    have hall:∀x∈(AdN len).map L,(f x).length=k∧OK x:=fun x hx=>by
      obtain⟨i,hi,rfl⟩:=Adx.1 hx;have:=hL i (by simpa using hi);exact⟨hl _ this.2,this.2⟩
    have hlen:((AdN len).map L).length=len:=by simp
    refine⟨(.slice (some a) len cap,(AdN len).map L),rfl,⟨fun x hx=>(hall x hx).1,by rw[Jb _ (fun x hx=>(hall x hx).1)],some a,cap,by rw[hlen],by rw[hlen];exact h1,h2,(fun h=>by cases h),fun a' ha j u hu=> ?_⟩,fun x hx=>(hall x hx).2⟩;cases ha;have hj:j<len*k:=by
      have:=(Adc.1 hu).1
      rwa [Jb _ (fun x hx=>(hall x hx).1),hlen]at this
    have hi:j/k<len:=Aiq (by rw[Agz];exact hj);have hr:j%k<k:=Aiv _ hk;have hjk:j/k*k+j%k=j:=by rw[Agz];exact Nat.div_add_mod j k
    rw[←hjk,MQ default _ (fun x hx=>(hall x hx).1) _ _ hr (by rw[hlen];exact hi)]at hu;have hg:((AdN len).map L).getD (j/k) default=L (j/k):=by
      rw[AcO,Aej,List.getElem?_range hi];rfl
    rw[hg]at hu;obtain⟨-,-,hcell⟩:=World.cells?_some (hL _ hi).1;have:=hcell (j%k) hr;rw[E2,hjk,hu]at this;exact this
theorem Zr{cs m:List AcJ}{o k:Nat}(h:(cs.drop o).take k=m):cs.drop o=m++cs.drop (o+k):=by
  rw[←h,←Ahh,Afb]
theorem Fi{t ty:AcR}{i o k fuel:Nat}{cs:List AcJ}{x:DataW H × List MemPlace}{α:Type}{f:α→List AcJ}{OK:α→Prop}(ht:P.underlying t=some (.struct (P.fieldsOf t)))(h:Aim enc P W 0 (fun _=>true) true fuel t cs=some x) 
    (hf:((P.fieldsOf t)[i]?).map (fun f=>(f.type,f.offset))=some (ty,o)) (hk:P.cellsOf ty=k) (hE:Opn enc P W ty f OK):∃a,cs.drop o=f a++cs.drop (o+k)∧OK a:=by
  obtain⟨xs,n,-,-,-,hl,hx⟩:=DataW.trod_struct ht h;obtain⟨g,hg,he⟩:=Afi.1 hf;have h1:=hx i g hg;cases he;have hi:i<xs.length:=by rw[hl];exact(Ade.1 hg).1
  rw[AcS hi,hk]at h1;obtain⟨a,h2,h3⟩:=hE _ _ _ h1;exact⟨a,Zr h2,h3⟩
theorem RP{t:AcR}{fuel:Nat}{cs:List AcJ}{x:DataW H × List MemPlace}(ht:P.underlying t=some (.struct (P.fieldsOf t)))(h:Aim enc P W 0 (fun _=>true) true fuel t cs=some x):cs.length=P.cellsOf t:=by
  obtain⟨xs,n,-,-,hl,-,-⟩:=DataW.trod_struct ht h;exact hl
end
structure WA where
  all:List Bs
  take:List Bool
  choices:List Int
  at_:Int
  fates:List Int
structure Zk where
  all:AcJ
  take:AcJ
  choices:AcJ
  fates:AcJ
abbrev Fy:=WA × Zk
def vkpC(x:Fy):List AcJ:=x.2.all :: x.2.take :: x.2.choices :: .int .i64 (x.1.at_) :: x.2.fates :: []
theorem XU(x:Fy):(vkpC x).length=5:=by simp[vkpC,AcZ]
theorem Qd{x:Fy}(h0:x.2.all.oneCell' =true)(h1:x.2.take.oneCell' =true)(h2:x.2.choices.oneCell' =true)(h3:x.2.fates.oneCell' =true):∀u∈vkpC x,u.oneCell' =true:=by
  intro u hu;simp only[vkpC,Adz,Adf,Aeu,or_false]at hu;rcases hu with rfl | rfl | rfl | rfl | rfl
  · exact h0
  · exact h1
  · exact h2
  · rfl
  · exact h3
theorem Jc(x:Fy):(vkpC x)[0]? =some (x.2.all):=by
  rfl
theorem TW(x:Fy):(vkpC x)[1]? =some (x.2.take):=by
  rfl
theorem TX(x:Fy):(vkpC x)[2]? =some (x.2.choices):=by
  rfl
theorem YG(x:Fy):(vkpC x)[4]? =some (x.2.fates):=by
  rfl
def Qe(b:Bool):List AcJ:= [.bool b]
structure VkpAt (w : AcK) (x : Fy) : Prop where
 all:RBs w x.2.all x.1.all
 take:RG 1 Qe w x.2.take x.1.take
 choices:RG 1 BV w x.2.choices x.1.choices
 fates:RG 1 BV w x.2.fates x.1.fates
 at_: -9223372036854775808≤x.1.at_∧x.1.at_≤9223372036854775807
theorem VkpAt.keep{w w' :AcK}{x:Fy}(h:VkpAt w x)(k:Ext w w'):VkpAt w' x:=⟨h.all.keep k,h.take.keep k,h.choices.keep k,h.fates.keep k,h.at_⟩
theorem Qf{w:AcK}{v:AcJ}{l:List Bs}(h:RBs w v l):v.oneCell' =true:=by
 obtain⟨vs,h1,h2,h3⟩:=h;obtain⟨q1,ao,cap,rfl,-⟩:=h2;rfl
theorem RBs.rgK{w:AcK}{v:AcJ}{ls:List (List UInt8)}(h:RBs w v ls):∃vs:List AcJ,vs.length=ls.length∧RG 1 Ez w v vs∧∀i,i<ls.length→RB w (vs.getD i undef) (ls.getD i []):=by
 obtain⟨vs,h1,⟨h2,ao,cap,h3,h4,h5,h6,h7⟩,h8⟩:=h;refine⟨vs,h1,⟨fun _ _=>rfl,by rw[H0];omega,ao,cap,by rw[h1];exact h3,by rw[h1];exact h4,h5,fun q=>by rw[h1];exact h6 q,fun a ha j u hu=>h7 a ha j u (by rwa [H0]at hu)⟩,h8⟩
def DU(x:WA):Bool:= !(((decide (20<x.all.length)||decide (60<x.take.length))||decide (60<x.choices.length))||decide (60<x.fates.length))&&x.all.all fun b=> !decide (200<b.length)
theorem V4{n:Nat}{b c d:Bool}(h:(((decide (20<n)||b)||c)||d)=false):n≤20:=by
 simp only[Aix,decide_eq_false_iff_not]at h;omega
theorem Lv{x:WA}(h:DU x=true):x.all.length≤20∧x.take.length≤60∧x.choices.length≤60∧x.fates.length≤60∧∀b∈x.all,b.length≤200:=by
 unfold DU at h;obtain⟨h1,h2⟩:=Ag7.1 h;simp only[Bool.not_eq_true',Aix,decide_eq_false_iff_not]at h1;refine⟨by omega,by omega,by omega,by omega,fun b hb=> ?_⟩;have:=Adv.1 h2 b hb
 simpa using this
theorem TY{α:Type}{f:α→Bool}{l:List α}{i:Nat}(d:α)(h:i<l.length)(hq:(l.take i).all f=true)(hn:f (l.getD i d)=true):(l.take (i+1)).all f=true:=by
 rw[Adi h,Ah5,hq,Ahs,AiZ];rw[AcO,AcS h]at hn
 simpa using hn
theorem V5{x:WA}{i:Nat}(h:i<x.all.length)(hn:200<(x.all.getD (i) ([]:List UInt8)).length):DU x=false:=by
 cases hb:DU x
 ·rfl
 ·have:=(Lv hb).2.2.2.2 _ (getD_mem ([]:Bs) h);omega
def Jd(tk:List Bool)(i:Nat):Bool:=decide (tk.length≤i)||tk.getD (i) false
def takenGo(ids:List Bs)(tk:List Bool):Nat→List Bs
 | 0=> []
 | i+1=>takenGo ids tk i++(if Jd tk i=true then [ids.getD i []]else [])
theorem TZ{ids:List Bs}{tk:List Bool}{i:Nat}(h:(decide (tk.length≤i)||tk.getD (i) false)=true):takenGo ids tk i++ [ids.getD (i) ([]:List UInt8)]=takenGo ids tk (i+1):=by
 show _=takenGo ids tk i++_;rw[if_pos (show Jd tk i=true from h)]
theorem V6{ids:List Bs}{tk:List Bool}{i:Nat}(h:(decide (tk.length≤i)||tk.getD (i) false)=false):takenGo ids tk i=takenGo ids tk (i+1):=by
 show _=takenGo ids tk i++_;rw[if_neg (show ¬Jd tk i=true by rw[show Jd tk i=false from h];decide),AeA]
theorem Je(ids:List Bs)(tk:List Bool):∀i,(takenGo ids tk i).length≤i
 | 0=>AcP _
 | i+1=>by
  have:=Je ids tk i;show(takenGo ids tk i++(if Jd tk i=true then [ids.getD i []]else [])).length≤_;rw[AcQ];split <;> simp <;> omega
theorem MR{ids:List Bs}{tk:List Bool}{x:Bs}:∀ {i:Nat},i≤ids.length→x∈takenGo ids tk i→x∈ids
 | 0,_,h=>by cases h
 | i+1,hi,h=>by
  rcases Adf.1 (show x∈takenGo ids tk i++_ from h)with h | h
  ·exact MR (by omega) h
  ·split at h
   ·rw[AcY.1 h];exact getD_mem [] (by omega)
   ·cases h
theorem vu3_fo48_0:AV AcM 48 0 0:=fun b o w=>by simp[go_sem]
theorem RQ:AV AcM 48 1 1:=fun b o w=>by simp[go_sem]
theorem Id:Tryz.prog.underlying 46=some (.slice 4):=by kernel_rfl
theorem RR:AV AcM 48 2 2:=fun b o w=>by simp[go_sem]
theorem RS:AV AcM 48 4 4:=fun b o w=>by simp[go_sem]
theorem V7:∀w' :AcK,(sizeOf 4).run AcM w' = .ok 1 w' :=fun _=>by kernel_rfl
theorem V8:∀(cs:Array AcJ),cs.size=32→∀w:AcK,(Adt 42 1 #[(0, .agg cs)]).run AcM w = .ok (.slice (some ⟨w.heap.size,0,none⟩) 1 1) (w.alloc (.cells cs 33))
 | ⟨[c0,c1,c2,c3,c4,c5,c6,c7,c8,c9,c10,c11,c12,c13,c14,c15,c16,c17,c18,c19,c20,c21,c22,c23,c24,c25,c26,c27,c28,c29,c30,c31]⟩,_,w=>Us c0 c1 c2 c3 c4 c5 c6 c7 c8 c9 c10 c11 c12 c13 c14 c15 c16 c17 c18 c19 c20 c21 c22 c23 c24 c25 c26 c27 c28 c29 c30 c31 w
theorem Ua(w:AcK)(x:Fy)(hx:VkpAt w x):
  Calls AcM 20 #[.agg (vkpC x).toArray] w fun e w' =>e = .returned (.bool (DU x.1))∧Ext w w' :=by
 have hone:=Qd (x:=x) (Qf hx.all) (RG.one hx.take).2 (RG.one hx.choices).2 (RG.one hx.fates).2;obtain⟨vs,hvl,hal,hrb⟩:=hx.all.rgK;have htk:=hx.take;have hch:=hx.choices;have hft:=hx.fates;refine PB (args:= [.agg (vkpC x).toArray]) Tryz.func20 rfl 40 rfl rfl ?_;have hE:=Ext.refl w;refine gS (Yk.box (vr (.agg (vkpC x).toArray) rfl) fun f p t n q u=> ?_);have c:=n;clear n;have v:f<p.heap.size:=by omega
 have hE:=hE.trans q;refine gS (Yk.fieldAt vu3_fo48_0 rfl (gS (Zu Mg rfl rfl (cellAt c (Jc x)) (gS (ZI Mg (ZC (hal.keep hE) rfl) (gS (Zv (a:=(vs.length:Nat)) (b:=(20:Nat)) rfl rfl (Bh _ _ _ _) (gO fun _=>BB (PQ f 1) rfl rfl (gF rfl) (fun hG12=>Yk.fieldAt RQ rfl ⟨rfl,rfl⟩) (EF (gO fun _=>BB (x.2.take) rfl rfl (gF rfl) (fun hG13=>Zu Id rfl (DG rfl hG13) (cellAt c (TW x)) ⟨rfl,rfl⟩) (EF (gO fun _=>BB (NI ((x.1.take).length)) rfl rfl (gF rfl) (fun hG14=>ZI Id (ZC (htk.keep hE) (DG rfl hG14)) ⟨rfl,rfl⟩) (EF (gO fun _=>BB (.bool (decide ((60)<((x.1.take).length)))) rfl rfl (gF rfl) (fun hG15=>Zv (a:=(((x.1.take).length:Nat):Int)) (b:=((60:Nat):Int)) (DG rfl hG15) rfl (Bh _ .i64 ((x.1.take).length) (60)) ⟨rfl,rfl⟩) (EF (gS (Aax rfl rfl (fun hA=>(DG rfl (KE hA))) fun bb16 hbb17=>(gO fun _=>BB (PQ f 2) rfl rfl (gF rfl) (fun hG18=>Yk.fieldAt RR rfl ⟨rfl,rfl⟩) (EF (gO fun _=>BB (x.2.choices) rfl rfl (gF rfl) (fun hG19=>Zu L9 rfl (DG rfl hG19) (cellAt c (TX x)) ⟨rfl,rfl⟩) (EF (gO fun _=>BB (NI ((x.1.choices).length)) rfl rfl (gF rfl) (fun hG20=>ZI L9 (ZC (hch.keep hE) (DG rfl hG20)) ⟨rfl,rfl⟩) (EF (gO fun _=>BB (.bool (decide ((60)<((x.1.choices).length)))) rfl rfl (gF rfl) (fun hG21=>Zv (a:=(((x.1.choices).length:Nat):Int)) (b:=((60:Nat):Int)) (DG rfl hG21) rfl (Bh _ .i64 ((x.1.choices).length) (60)) ⟨rfl,rfl⟩) (EF (gS (Aax rfl rfl (fun hA=>(DG rfl (KE hA))) fun bb22 hbb23=>(gO fun _=>BB (PQ f 4) rfl rfl (gF rfl) (fun hG24=>Yk.fieldAt RS rfl ⟨rfl,rfl⟩) (EF (gO fun _=>BB (x.2.fates) rfl rfl (gF rfl) (fun hG25=>Zu L9 rfl (DG rfl hG25) (cellAt c (YG x)) ⟨rfl,rfl⟩) (EF ?_)))))))))))))))))))))))))))))));refine gO fun _=>BB (NI ((x.1.fates).length)) rfl rfl (gF rfl) (fun hG26=>ZI L9 (ZC (hft.keep hE) (DG rfl hG26)) ⟨rfl,rfl⟩) (EF (gO fun _=>BB (.bool (decide ((60)<((x.1.fates).length)))) rfl rfl (gF rfl) (fun hG27=>Zv (a:=(((x.1.fates).length:Nat):Int)) (b:=((60:Nat):Int)) (DG rfl hG27) rfl (Bh _ .i64 ((x.1.fates).length) (60)) ⟨rfl,rfl⟩) (EF (gS (Aax rfl rfl (fun hA=>(DG rfl (KE hA))) fun bb28 hbb29=> ?_)))));refine cB (bb28) rfl (fun g=> ?_) fun g=> ?_
 ·subst hbb17 hbb23 hbb29;rw[hvl]at g;have hV:DU x.1=false:=by unfold DU;rw[g];rfl
  refine Bb rfl (vr (.bool (false)) rfl) ?_;exact⟨by rw[hV],hE⟩
 subst hbb17 hbb23 hbb29;rw[hvl]at g;have h20:=V4 g;refine gL (fun(ρ:Ad) (wz:AcK)=>∃i:Nat,ρ 0=(.agg (vkpC x).toArray:AcJ)∧ρ 1=(PQ f 0:AcJ)∧ρ 3=(NI i:AcJ)∧Ext w wz∧wz.heap[f]? =some (.cells (vkpC x).toArray 48 (0,0))∧(i≤x.1.all.length)∧((x.1.all.take i).all (fun b=> !decide (200<b.length))=true)∧True) (fun ρ _=>x.1.all.length-(intOf (ρ 3)).toNat) ⟨0,rfl,rfl,rfl,hE,c,Adm _,rfl,trivial⟩ ?_;clear hE c;rintro r y ⟨i,s,l,k,hE,c,hi,hq,-⟩;have q3:=k;refine gS (Yk.fieldAt vu3_fo48_0 l (gS (Zu Mg rfl rfl (cellAt c (Jc x)) (gS (ZI Mg (ZC (hal.keep hE) rfl) (gS (Zv (a:=(i:Nat)) (b:=(vs.length:Nat)) k rfl (AI _ _ _ _) ?_)))))));refine cD rfl (fun j=> ?_) fun j=> ?_
 ·have hlt:i<x.1.all.length:=hvl▸j;have hre:=hrb i hlt;refine gS (Yk.fieldAt vu3_fo48_0 l (gS (Zu Mg rfl rfl (cellAt c (Jc x)) ?_)));have z:(Ez (vs.getD (i) undef)).length=1:=(RG.elem (hal.keep hE) undef (j));refine gS (ZO Mg SE (by decide) undef (ZC (hal.keep hE) rfl) k (j) fun aa o=>(gS (ZL Gj rfl (PR.cell (ZT o rfl) rfl) (gS (ZF Gj (ZB (hre.keep hE) rfl) (gS (Zv (a:=(((x.1.all.getD (i) ([]:List UInt8)):List UInt8).length:Nat)) (b:=(200:Nat)) rfl rfl (Bh _ _ _ _) ?_)))))));clear o;refine cD rfl (fun m=> ?_) fun m=> ?_
  ·refine Bb rfl (vr (.bool (false)) rfl) ?_;exact⟨by rw[show DU x.1=false from V5 hlt m],hE⟩
  refine gS (Zw (xv:=NI i) (yv:=NI 1) k rfl rfl (Ag _ _ _ (by omega)) (gK (Adr ⟨i+1,s,l,rfl,hE,c,by omega,TY ([]:List UInt8) hlt hq (by show(!decide _)=true;rw[decide_eq_false m];rfl),trivial⟩ ?_)));show x.1.all.length-(intOf (NI ((i)+(1)))).toNat<x.1.all.length-(intOf (r 3)).toNat;rw[q3];simp only[intOf,Ac0];omega
 refine Bb rfl (vr (.bool (true)) rfl) ?_;have hie:i=x.1.all.length:=by have h:=j;omega
 rw[hie,Ad6]at hq;exact⟨by rw[show DU x.1=true from by unfold DU;rw[g,hq];rfl],hE⟩

theorem Ub(w:AcK)(vi vt:AcJ)(ids:List Bs)(tk:List Bool)(hid_:RG 32 AcL w vi ids)(htk:RG 1 Qe w vt tk)(hl:ids.length≤100000):
  Calls AcM 24 #[vi,vt] w fun e w' =>∃v,e = .returned v∧OG w.heap.size 33 32 AcL w' v (takenGo ids tk ids.length)∧Ext w w' :=by
 refine PB (args:= [vi,vt]) Tryz.func24 rfl 31 rfl rfl ?_;have hE:=Ext.refl w;refine Aeo (⟨_,rfl⟩:∃v:AcJ,(AcU none 0 0)=v) fun nv5 hnv5=> ?_;have hrow5:OG w.heap.size 33 32 AcL w nv5 ([]:List (List UInt8)):=hnv5▸OG.nil _ _ _ _ _;refine gL (fun(ρ:Ad) (wz:AcK)=>∃i:Nat,∃r5:AcJ,ρ 0=(vi:AcJ)∧ρ 1=(vt:AcJ)∧ρ 4=((AcU none 0 0):AcJ)∧ρ 6=(NI i:AcJ)∧ρ 5=(r5:AcJ)∧Ext w wz∧OG w.heap.size 33 32 (AcL) wz r5 (takenGo ids tk i)∧(i≤ids.length)∧True) (fun ρ _=>ids.length-(intOf (ρ 6)).toNat) ⟨0,nv5,rfl,rfl,rfl,rfl,((show _=(AcU none 0 0)from rfl).trans hnv5),hE,Bc hrow5 (rfl),Adm _,trivial⟩ ?_;clear hrow5;clear hE;rintro p z ⟨i,r5,f,g,q,c,j,hE,hr_r5,hi,-⟩;have q6:=c;refine gS (ZI NB (ZC (hid_.keep hE) f) (gS (Zv (a:=(i:Nat)) (b:=(ids.length:Nat)) c rfl (AI _ _ _ _) ?_)));refine cD rfl (fun l=> ?_) fun l=> ?_
 ·have hlt:i<ids.length:=l;have hti:=Je ids tk i;refine gS (ZI Id (ZC (htk.keep hE) g) (gS (Zv (a:=(i:Nat)) (b:=(tk.length:Nat)) c rfl (EM _ _ _ _) (gO fun _=>BB (vt) rfl rfl (gF rfl) (fun hG11=>Yk.move g ⟨rfl,rfl⟩) (EF (gO fun _=>BB (NI i) rfl rfl (gF rfl) (fun hG12=>Yk.move c ⟨rfl,rfl⟩) (EF ?_)))))));have ae:(!(decide ((tk.length)≤(i))))=true→(Qe (tk.getD (i) false)).length=1:=fun hG13=>(RG.elem (htk.keep hE) false (by first | omega | (simp only[gB,gE]at hG13;omega)));refine gO fun _=>RZ (fun r=>PR (Qe (tk.getD (i) false)) r z) rfl rfl (gF rfl) (fun hG13=>ZO Id V7 (by decide) false (ZC (htk.keep hE) (DG rfl hG13)) (DG rfl hG13) (by first | omega | (simp only[gB,gE]at hG13;omega)) fun _ h=>⟨h,rfl⟩) fun r s=>EF (gO fun _=>BB (.bool (tk.getD (i) false)) rfl rfl (gF rfl) (fun hG17=>ZL Ka rfl (PR.cell (ZT (s hG17) rfl) rfl) ⟨rfl,rfl⟩) (EF (gS (Aax rfl rfl (fun hA=>(DG rfl (KE hA))) fun bb18 hbb19=> ?_))));clear s;refine cB (bb18) rfl (fun m=> ?_) fun m=> ?_
  ·subst hbb19;have t:(AcL (ids.getD (i) ([]:List UInt8))).length=32:=(RG.elem (hid_.keep hE) ([]:List UInt8) (hlt));refine gS (ZO NB Sj (by decide) ([]:List UInt8) (ZC (hid_.keep hE) f) c (hlt) fun af k=>(gS (ZS (ZT k rfl) Wq rfl (by rw[t];exact R4) (gS (Z2 (a:=ids.getD (i) ([]:List UInt8)) (enc:=AcL) (vr (AB (ids.getD (i) ([]:List UInt8))) rfl) ((by rw[AcZ,(AD (t))])) V8 fun aa ab u n=> ?_)))));have k:=PR.keep k n;have hE:=hE.trans n;have hr_r5:=hr_r5.keep n;refine gS (ZM _ _ w.heap.size _ 32 NB pk6_ig33.choose_spec.1 pk6_ig33.choose_spec.2 NB (takenGo ids tk i) ([ids.getD (i) ([]:List UInt8)]) (OG.of hr_r5 j) (ZC u (vr aa rfl)) (fun y _=>Af y) (by simp only[Ac9];omega) (by simp only[Ac9];omega) hE.size fun x ac ad o=> ?_);have o:Grew ab ac r5 x:= .eqv j o;have hE:=Aq hE o hr_r5.2 (AcP _);clear k;clear u;clear hr_r5;refine gS (Zw (xv:=NI i) (yv:=NI 1) c rfl rfl (Ag _ _ _ (by omega)) (gK (Adr ⟨i+1,x,f,g,q,rfl,rfl,hE,Bc ad ((TZ m)),by omega,trivial⟩ ?_)));show ids.length-(intOf (NI ((i)+(1)))).toNat<ids.length-(intOf (p 6)).toNat;rw[q6];simp only[intOf,Ac0];omega
  subst hbb19;refine gS (Zw (xv:=NI i) (yv:=NI 1) c rfl rfl (Ag _ _ _ (by omega)) (gK (Adr ⟨i+1,r5,f,g,q,rfl,j,hE,Bc hr_r5 ((V6 m)),by omega,trivial⟩ ?_)));show ids.length-(intOf (NI ((i)+(1)))).toNat<ids.length-(intOf (p 6)).toNat;rw[q6];simp only[intOf,Ac0];omega
 refine Bb rfl j ?_;have hie:i=ids.length:=by have h:=l;omega
 rw[hie]at hr_r5;exact⟨_,rfl,hr_r5,hE⟩

open Go.ChangeShapes Go.WideShapes Go.ChangeAt Go.Deep
theorem OQ(a:Int):(BV a).length=1:=rfl
theorem V9(a:Bool):(Qe a).length=1:=rfl
theorem Acr{H:Type}{enc:AcR × AcJ→H}{P:Adg}{W:AcK}{t e b:AcR}(ht:P.underlying t=some (.slice e))(he:P.underlying e=some (.slice b))(he2:P.underlying b=some (.int .u8))(hc:P.cellsOf e=1)(c:P.cellsOf b=1):Opn enc P W t (fun v:AcJ × List Bs=> [v.1]) (fun v=>RBs W v.1 v.2):=fun fuel cs x h=>by
 obtain⟨a,h1,⟨r1,r2,ao,cap,r3,r4,r5,r6,r7⟩,h3⟩:=Opn.slice (f:=fun v:AcJ × Bs=> [v.1]) (OK:=fun v=>RB W v.1 v.2) ht hc (by decide) (Opn.bytes he he2 c) (fun a _=>rfl) fuel cs x h;have hf:∀l:List (AcJ × Bs),l.flatMap (fun v:AcJ × Bs=> [v.1])=l.map Adk:=fun l=>by
  induction l with
  | nil=>rfl
  | cons a l ih=>rw[AdJ,ih];rfl
 rw[hf]at r7;exact⟨(a.1,a.2.map Prod.snd),h1,a.2.map Adk,by simp,⟨by simp,ao,cap,by rw[r3];simp,by simpa using r4,r5,(fun q=>by simpa using r6 q),fun q hq j u hu=>r7 q hq j u hu⟩,fun i hi=>by
  have hi' :i<a.2.length:=by simpa using hi
  have:=h3 _ (Ad9 hi')
  simpa [AcO,hi'] using this⟩
theorem Pv{H:Type}{enc:AcR × AcJ→H}{W:AcK}:Opn enc AcM W 48 vkpC (fun x:Fy=>RBs W x.2.all x.1.all∧RG 1 Qe W x.2.take x.1.take∧RG 1 BV W x.2.choices x.1.choices ∧ -9223372036854775808≤x.1.at_∧x.1.at_≤9223372036854775807∧RG 1 BV W x.2.fates x.1.fates):=fun fuel cs x h=>by
 have ht:Tryz.prog.underlying 48=some (.struct (Tryz.prog.fieldsOf 48)):=by kernel_rfl
 obtain⟨a0,c,k0⟩:=Fi (i:=0) (ty:=38) (o:=0) (k:=1) ht h (by kernel_rfl) (by kernel_rfl) (Acr (e:=27) (b:=5) (by kernel_rfl) (by kernel_rfl) (by kernel_rfl) (by kernel_rfl) (by kernel_rfl));obtain⟨a1,f,k1⟩:=Fi (i:=1) (ty:=46) (o:=1) (k:=1) ht h (by kernel_rfl) (by kernel_rfl) (Opn.slice (by kernel_rfl) (by kernel_rfl) (by decide) (Opn.bool (t:=4) (by kernel_rfl)) (fun a _=>V9 a));obtain⟨a2,b,k2⟩:=Fi (i:=2) (ty:=22) (o:=2) (k:=1) ht h (by kernel_rfl) (by kernel_rfl) (Opn.slice (by kernel_rfl) (by kernel_rfl) (by decide) (Opn.i64 (t:=3) (by kernel_rfl)) (fun a _=>OQ a));obtain⟨a3,g,k3⟩:=Fi (i:=3) (ty:=3) (o:=3) (k:=1) ht h (by kernel_rfl) (by kernel_rfl) (Opn.i64 (by kernel_rfl));obtain⟨a4,j,k4⟩:=Fi (i:=4) (ty:=22) (o:=4) (k:=1) ht h (by kernel_rfl) (by kernel_rfl) (Opn.slice (by kernel_rfl) (by kernel_rfl) (by decide) (Opn.i64 (t:=3) (by kernel_rfl)) (fun a _=>OQ a));have hl:cs.drop 5= []:=AdR (AiW ((RP ht h).trans (by kernel_rfl)));refine⟨(⟨a0.2,a1.2,a2.2,a3,a4.2⟩,⟨a0.1,a1.1,a2.1,a4.1⟩),?_,⟨k0,k1.1,k2.1,k3.1,k3.2,k4.1⟩⟩;rw[show cs=cs.drop 0 from rfl];rw[c];rw[show cs.drop (0+1)=_ from f];rw[show cs.drop (1+1)=_ from b];rw[show cs.drop (2+1)=_ from g];rw[show cs.drop (3+1)=_ from j];rw[show cs.drop (4+1)= []from hl];simp[vkpC]
theorem Wa{H:Type}{enc:AcR × AcJ→H}{W:AcK}{r:Reach}{b0:Nat}{v:AcJ}{d:DataW H}{ps:List MemPlace}(hval:Ai3 AcM W r b0 48 v)(hd:DataW.Trod enc AcM W 0 (fun _=>true) true 48 v d ps):
  ∃x:Fy,v = .agg (vkpC x).toArray∧VkpAt W x∧∀p∈ps,p.block<W.heap.size:=by
 obtain⟨fuel,hf⟩:=hd;have hlt:=DataW.trod_lt fuel _ _ _ hf;obtain⟨cs,rfl,-⟩:=okWide_struct (fs:=Tryz.prog.fieldsOf 48) (by kernel_rfl) hval;obtain⟨x,h1,h2,h3,h4,h5,h5b,h6⟩:=Pv _ _ _ hf;have h1:cs.toList=vkpC x:=h1;exact⟨x,by rw[←h1],⟨h2,h3,h4,h6,h5,h5b⟩,hlt⟩
theorem YH{a:Int}(h:(Lit.int .u16 a).wf=true):∃c:Nat,a=(c:Int)∧c≤65535:=by
 have hb:0≤a∧a≤65535:=by simpa [Lit.wf,Aia,Aib,AeK,Ad0] using h
 exact⟨a.toNat,by omega,by omega⟩
theorem Uc{α:Type}{l m:List α}{i:Nat}{d:α}(h:i<l.length)(hm:i<m.length)(h1:l.take i=m.take i)(h2:l.getD i d=m.getD i d):l.take (i+1)=m.take (i+1):=by
  rw[Adi h,Adi hm,h1];rw[AcO,AcS h,AcO,AcS hm]at h2;rw[show l[i]=m[i]from h2]
theorem XV{α:Type}{l m:List α}{i:Nat}{d:α}(h2:l.getD i d≠m.getD i d):l≠m:=fun e=>h2 (by rw[e])
theorem Pw(w:AcK)(v u_:AcJ)(l m:List Bs)(hr:RG 32 AcL w v l)(hs:RG 32 AcL w u_ m)(hll:l.length<9223372036854775807):
  Calls AcM 26 #[v,u_] w fun e w' =>e = .returned (.bool (decide (l=m)))∧Ext w w' :=by
 refine gG (args:= [v,u_]) Tryz.func26 rfl 26 rfl rfl ?_;have hE:=Ext.refl w;by_cases hq:l.length=m.length
 ·refine gS (ZI NB (ZC hr rfl) (gS (ZI NB (ZC hs rfl) (gS (Zv (a:=(l.length:Nat)) (b:=(m.length:Nat)) rfl rfl (AY _ _ _ _) (kF (fun h=>h hq) (cF rfl (gL (fun(ρ:Ad) (wz:AcK)=>∃i:Nat,ρ 0=(v:AcJ)∧ρ 1=(u_:AcJ)∧ρ 10=(.bool (false):AcJ)∧ρ 5=(NI i:AcJ)∧RG 32 AcL wz v l∧RG 32 AcL wz u_ m∧Ext w wz∧(i≤l.length)∧(l.take i=m.take i)∧True) (fun ρ _=>l.length-(intOf (ρ 5)).toNat) ⟨0,rfl,rfl,rfl,rfl,hr,hs,hE,Adm _,(by simp),trivial⟩ ?_))))))));clear hr hs hE;rintro r z ⟨i,f,g,s,c,hr,hs,hE,hi,hn,-⟩;have q5:=c;by_cases hlt:i<l.length
  ·have hel:(l.getD i []).length=32:=AD (RG.elem hr [] hlt);have hem:(m.getD i []).length=32:=AD (RG.elem hs [] (by omega));by_cases q1:l.getD i []=m.getD i []
   ·refine gS (ZI NB (ZC hr f) (gS (Zv (a:=(i:Nat)) (b:=(l.length:Nat)) c rfl (AI _ _ _ _) (kT (hlt) (cT rfl (CD [0,1,2,3,4,5,6,7,8] [] [] fun aa j=> ?_))))));have hr:=hr.keep j;have t:(AcL (l.getD (i) ([]:List UInt8))).length=32:=(RG.elem hr ([]:List UInt8) (by omega));refine yA (ZO NB Sj (by decide) ([]:List UInt8) (ZC hr f) c (by omega) fun ab n=>(ys (ZS (ZT n rfl) Wq rfl (by rw[t];exact R4) zz) ?_));have hs:=hs.keep j;have u:(AcL (m.getD (i) ([]:List UInt8))).length=32:=(RG.elem hs ([]:List UInt8) (by omega));refine yA (ZO NB Sj (by decide) ([]:List UInt8) (ZC hs g) c (by omega) fun ac o=>(ys (ZS (ZT o rfl) Wq rfl (by rw[u];exact R4) zz) (ys (AaN (l1:=(l.getD (i) ([]:List UInt8))) (l2:=(m.getD (i) ([]:List UInt8))) Wq u5 Qq ST rfl rfl (hel) (hem) zz) (kF (fun h=>h q1) ?_))));clear n;clear o;have hE:=hE.trans j;refine cF rfl (gS (Zw (xv:=NI i) (yv:=NI 1) c rfl rfl (Ag _ _ _ (by omega)) (gK (Adr ⟨i+1,f,g,s,rfl,hr,hs,hE,by omega,Uc hlt (by omega) hn q1,trivial⟩ ?_))));show l.length-(intOf (NI ((i)+(1)))).toNat<l.length-(intOf (r 5)).toNat;rw[q5];simp only[intOf,Ac0];omega
   refine gS (ZI NB (ZC hr f) (gS (Zv (a:=(i:Nat)) (b:=(l.length:Nat)) c rfl (AI _ _ _ _) (kT (hlt) (cT rfl (CD [0,1,2,3,4,5,6,7,8] [] [] fun ad k=> ?_))))));have hr:=hr.keep k;have x:(AcL (l.getD (i) ([]:List UInt8))).length=32:=(RG.elem hr ([]:List UInt8) (by omega));refine yA (ZO NB Sj (by decide) ([]:List UInt8) (ZC hr f) c (by omega) fun ae p=>(ys (ZS (ZT p rfl) Wq rfl (by rw[x];exact R4) zz) ?_));have hs:=hs.keep k;have y:(AcL (m.getD (i) ([]:List UInt8))).length=32:=(RG.elem hs ([]:List UInt8) (by omega));refine yA (ZO NB Sj (by decide) ([]:List UInt8) (ZC hs g) c (by omega) fun af q=>(ys (ZS (ZT q rfl) Wq rfl (by rw[y];exact R4) zz) (ys (AaN (l1:=(l.getD (i) ([]:List UInt8))) (l2:=(m.getD (i) ([]:List UInt8))) Wq u5 Qq ST rfl rfl (hel) (hem) zz) (kT (q1) ?_))));clear p;clear q;refine cT rfl (Bb rfl (vr (.bool (false)) rfl) ?_);have hE:=hE.trans k;exact⟨by rw[decide_eq_false (XV q1)],hE⟩
  refine gS (ZI NB (ZC hr f) (gS (Zv (a:=(i:Nat)) (b:=(l.length:Nat)) c rfl (AI _ _ _ _) (kF (hlt) (cF rfl (Bb rfl (vr (.bool (true)) rfl) ?_))))));rw[show i=l.length by omega,Ad6,show l.length=m.length by omega,Ad6]at hn;exact⟨by rw[decide_eq_true hn],hE⟩
 refine gS (ZI NB (ZC hr rfl) (gS (ZI NB (ZC hs rfl) (gS (Zv (a:=(l.length:Nat)) (b:=(m.length:Nat)) rfl rfl (AY _ _ _ _) (kT (hq) (cT rfl (Bb rfl (vr (.bool (false)) rfl) ?_))))))));exact⟨by rw[decide_eq_false (fun e=>hq (by rw[e]))],hE⟩
section
variable {wb w w' : AcK} {n g gv : Nat} {H : Dk} {D : Ae}
theorem Aca(h:VtS wb n g gv w H D []){α:Type}{b k:Nat}{t:AcR}{enc:α→List AcJ}{v v' :AcJ}{l:List α}(hr:OG b t k enc w v l)(gr:Grew w w' v v')(h1:t≠107)(h2:t≠133)(h3:t≠5)(h4:t≠131)(h5:t≠113)(h6:t≠9)(h7:t≠86)(hb:wb.heap.size≤b):VtS wb n g gv w' H D []:=by
 cases ho:v.ownBlock with
 | none=>exact h.keep (AaQ (by have:=gr.by_;rw[ho]at this;exact this))
 | some c=>
  have ht:=Ho hr.2 ho;have hg:=gr.by_;rw[ho]at hg;have hlt:=hr.2.lt c ho;have hcells:∃cs fr,w.heap[c]? =some (.cells cs t fr):=by
   rcases hr.2.2 with ⟨rfl,-⟩ | ⟨g2,cap,cur,rfl,f,a,-⟩
   ·cases ho
   ·obtain rfl:g2=c:=Adu ho;exact⟨_,_,a⟩
  obtain⟨cs,fr,hc⟩:=hcells;obtain⟨bm,ptr,hv⟩:=h.v;have hgv:gv≠c:=fun e=>by
   have h8:=h.tag;rw[e,ht]at h8;exact h7 (by simpa using h8)
  have hbm:bm≠c:=fun e=>by
   have h8:=hv.map.tag;rw[e,ht]at h8;cases h8
  exact⟨h.dk.setT hg hc (AcN hb hlt.1) h1 h2 h3 h4 h5 h6,⟨bm,ptr,(hg.block gv (bl hv.blk) (fun e=>hgv (Adu e))).trans hv.blk,hv.map.other hg (Ak hbm.symm),PksAt.nil _ _ _,hv.sort,hv.g0,hv.b0,hv.lo⟩,h.good,h.lo,h.len⟩
theorem Acs(h:VtS wb n g gv w H D []){c:Nat}{cs:Array AcJ}{t:AcR}{fr:Nat × Nat}(hg:w.grownBy w' (some c))(hc:w.heap[c]? =some (.cells cs t fr))(h1:t≠107)(h2:t≠133)(h3:t≠5)(h4:t≠131)(h5:t≠113)(h6:t≠9)(h7:t≠86)(hb:wb.heap.size≤c):VtS wb n g gv w' H D []:=by
 have ht:=B6 hc;obtain⟨bm,ptr,hv⟩:=h.v;have hgv:gv≠c:=fun e=>by
  have h8:=h.tag;rw[e,ht]at h8;exact h7 (by simpa using h8)
 have hbm:bm≠c:=fun e=>by
  have h8:=hv.map.tag;rw[e,ht]at h8;cases h8
 exact⟨h.dk.setT hg hc hb h1 h2 h3 h4 h5 h6,⟨bm,ptr,(hg.block gv (bl hv.blk) (fun e=>hgv (Adu e))).trans hv.blk,hv.map.other hg (Ak hbm.symm),PksAt.nil _ _ _,hv.sort,hv.g0,hv.b0,hv.lo⟩,h.good,h.lo,h.len⟩
end
theorem Wb{D:Ae}{L:AN}{b:Bs}{r:Ae × Bs × Bs × Nat}(h:DC D L b=r):r.2.1.length=32:=by
 subst h;unfold DC;split
 ·rfl
 ·split
  ·split <;> exact Sha.sum_length b
  ·exact Jw rfl
theorem MS:∀ {l m:List Bs},l.Nodup→(∀x∈l,x∈m)→l.length≤m.length
 | [],_,_,_=>Adm _
 | a :: l,m,hn,h=>by
  obtain⟨h1,h2⟩:=AeQ.1 hn;have ha:=h a AdM;have:=MS (m:=m.erase a) h2 fun x hx=>(List.mem_erase_of_ne (fun(e:x=a)=>h1 (e▸hx))).2 (h x (AdO _ hx));rw[List.length_erase_of_mem ha]at this;have h0:0<m.length:=List.length_pos_of_mem ha;rw[Adh];omega
theorem Ie{l:List Bs}(h:Ek l):l.Nodup:=h.imp fun hab e=>by rw[e,J0]at hab;omega
theorem Wc{a b:List Bs}(ha:Ek a)(hb:Ek b)(h:∀x,x∈a↔x∈b):a=b:=
 J1 (ha.imp fun h=>Int.le_of_lt h) (hb.imp fun h=>Int.le_of_lt h) ((Ae3 (Ie ha) (Ie hb)).2 h)
theorem XW{D:Ae}{x:Bs}:OH D [] x↔x∈EX D:=by
 unfold OH;simp
theorem XX{m:Nat}{D:Ae}(h:DBd m D):(EX D).length≤m:=AcN (AfE _ _) h.list
theorem Wd{D:Ae}(h:ReadyL D){x:Bs}:x∈EX D↔x.length=32∧(BH D x).2=0:=by
 constructor
 ·intro q;obtain⟨s,_,hs⟩:=AeI.1 q;unfold CI at hs;split at hs
  ·rename_i q3
   cases hs;exact⟨AX _,q3.2.2⟩
  ·cases hs
 ·rintro⟨hx,h0⟩;cases hk:Aw D.now (nmO x)with
  | none=>rw[Fx h.down hx hk]at h0;cases h0
  | some k=>
   refine AeI.2 ⟨nmO x,(FL h).2 ⟨k,hk⟩,?_⟩;have hc:Ay [111,45] (nmO x)=(hexOf x,true):=rfl;unfold CI;rw[hc,EJ x hx];exact if_pos ⟨rfl,rfl,h0⟩
structure FuS (q : Nat) (D : Ae) (acc : List Bs) (i : Nat) : Prop where
 lo:LoD D
 bd:DBd (3*i) D
 quota:D.quota=q
 ids:∀x,x∈acc↔(x.length=32∧(BH D x).2=0)
 len:acc.length≤i
theorem Acb(q:Nat)(hq:q≤1073741824):FuS q (D4 q) [] 0:=⟨LoD.new q,DBd.new hq,rfl,fun x=>⟨fun h=>(by cases h),fun⟨h1,h2⟩=>(by rw[Fx rfl h1 rfl]at h2;cases h2)⟩,AcP _⟩
theorem LoD.refuse{D:Ae}(h:LoD D)(n:Nat):LoD { D with refused:=n } :=⟨⟨h.ready.down,h.ready.arm,⟨h.ready.ok.now,h.ready.ok.kept,h.ready.ok.acts,h.ready.ok.syn⟩,h.ready.inj⟩,h.kept,h.acts,h.file⟩
section
variable {q i : Nat} {D : Ae} {acc : List Bs}
theorem FuS.put(h:FuS q D acc i){b:Bs}(hb:b.length≤200){r:Ae × Bs × Bs × Nat}(hr:DC D [] b=r):(r.2.2.2=0→FuS q r.1 (acc++ [r.2.1]) (i+1))∧(¬r.2.2.2=0→FuS q r.1 acc (i+1)):=by
 rw[putV_nil _ (by omega)]at hr;have hbd:DBd (3*(i+1)) r.1:=by
  rw[←hr];exact(h.bd.putL (by omega)).mono (by omega)
 have hl:=h.len;rcases h.lo.put hb with ⟨c,q1,q2,q3⟩ | ⟨q1,q2⟩ | ⟨D',q1,q2,q3,q4,q5,q6⟩
 ·rw[q1]at hr;subst hr;exact⟨fun e=>(by cases e),fun _=>⟨h.lo,hbd,h.quota,h.ids,by omega⟩⟩
 ·rw[q1]at hr;subst hr;exact⟨fun e=>(by cases e),fun _=>⟨h.lo.refuse _,hbd,h.quota,h.ids,by omega⟩⟩
 ·rw[q1]at hr;subst hr;refine⟨fun _=>⟨q2,hbd,q4.trans h.quota,fun x=> ?_,by rw[AcQ,Ac9];omega⟩,fun e=>absurd rfl e⟩;show x∈acc++ [Sha.sum b]↔x.length=32∧(BH D' x).2=0;rw[Adf,AcY];by_cases hx:x=Sha.sum b
  ·subst hx;exact⟨fun _=>⟨Sha.sum_length b,by rw[q5]⟩,fun _=> .inr rfl⟩
  ·constructor
   ·rintro(hm | hm)
    ·obtain⟨h1,h2⟩:=(h.ids x).1 hm;exact⟨h1,by rw[q6 x h1 hx];exact h2⟩
    ·exact absurd hm hx
   ·rintro⟨h1,h2⟩;rw[q6 x h1 hx]at h2;exact .inl ((h.ids x).2 ⟨h1,h2⟩)
theorem FuS.have_(h:FuS q D acc i){x:Bs}(hx:x∈acc):(BH D x).2=0∧(BH D x).1.length≤200∧Sha.sum (BH D x).1=x:=by
 obtain⟨h1,h2⟩:=(h.ids x).1 hx;obtain⟨k,c,-,-,h3,h4,h5⟩:=h.lo.get_zero h1 h2;rw[h5];exact⟨rfl,h4,h3⟩
theorem FuS.small(h:FuS q D acc i){x:Bs}(hx:x∈acc):(getV D [] x).1.length≤200:=(h.have_ hx).2.1
def FuR(D:Ae)(acc:List Bs)(r:Ae × AN × List Bs × Nat):Prop:=(r.2.2.2=0∧r.1.refused=D.refused)∨(r.2.2.2=8∧r.1.refused=D.refused+1∧r.2.1= []∧DBd 1000 r.1∧∀x,x∈EX r.1↔x∈acc)
theorem FuR.ok{r:Ae × AN × List Bs × Nat}(h:FuR D acc r)(h0:r.2.2.2=0):r.1.refused=D.refused:=h.elim (fun q=>q.2) fun q=>by rw[q.1]at h0;cases h0
theorem FuR.bad{r:Ae × AN × List Bs × Nat}(h:FuR D acc r)(h0:¬r.2.2.2=0):r.2.2.2=8∧r.1.refused=D.refused+1∧r.2.1= []∧DBd 1000 r.1∧∀x,x∈EX r.1↔x∈acc:=h.resolve_left fun q=>h0 q.1
theorem FuS.keep(h:FuS q D acc i)(hi:i≤20){o ids:List Bs}{ch:List Int}(hS:Ek o)(hM:∀x,x∈o↔x∈ids)(hsub:∀x∈ids,x∈acc):FuR D acc (BC D [] o ch):=by
 have ho:∀x∈o,x∈acc:=fun x hx=>hsub x ((hM x).1 hx);have hn:=Ie hS;have hl:=MS hn ho;have a:=h.len;have hv:H9 D [] o:=fun x hx=>h.have_ (ho x hx);rcases keep_lo (ch:=ch) h.lo (by omega) hn hv with ⟨r1,r2⟩ | ⟨D2,M,r1,r2,r3,r4,r5,r6,r7⟩
 ·right;have hk:=h.bd.kept (L:= []) (o:=o) (ch:=ch) fun h0=>GW (fun _=>GA hv (by omega)) h0;rw[r1]at hk ⊢;refine⟨rfl,rfl,rfl,hk.mono (by omega),fun x=> ?_⟩;show x∈EX D↔_;rw[Wd h.lo.ready];exact(h.ids x).symm
 ·left;rw[r1];exact⟨rfl,r3⟩
end
theorem We:∃fs,Tryz.prog.underlying 48=some (.struct fs):=EZ (by kernel_rfl)
theorem Ud:(Tryz.prog.info? 48).map (·.size)=some 5:=by kernel_rfl
theorem Wf:Zc AcM 48 vkpC:=⟨⟨_,(We).choose_spec⟩,fun x=>Yh (XU x) Ud⟩
theorem Wg:Plain AcM 20:=fun _ _=>by kernel_rfl
theorem Wh:Tryz.prog.underlying 59=some (.int .u16):=by kernel_rfl
theorem Wi:∀(cs:Array AcJ),cs.size=32→∀w:AcK,(Adt 42 1 #[(0, .agg cs)]).run AcM w = .ok (.slice (some ⟨w.heap.size,0,none⟩) 1 1) (w.alloc (.cells cs 33))
 | ⟨[c0,c1,c2,c3,c4,c5,c6,c7,c8,c9,c10,c11,c12,c13,c14,c15,c16,c17,c18,c19,c20,c21,c22,c23,c24,c25,c26,c27,c28,c29,c30,c31]⟩,_,w=>Us c0 c1 c2 c3 c4 c5 c6 c7 c8 c9 c10 c11 c12 c13 c14 c15 c16 c17 c18 c19 c20 c21 c22 c23 c24 c25 c26 c27 c28 c29 c30 c31 w
theorem Kv:Plain AcM 29:=fun _ _=>by kernel_rfl
theorem Wj:Plain AcM 24:=fun _ _=>by kernel_rfl
theorem OR:Plain AcM 12:=fun _ _=>by kernel_rfl
theorem Wk:Plain AcM 18:=fun _ _=>by kernel_rfl
theorem Wl:Plain AcM 26:=fun _ _=>by kernel_rfl
theorem LY(w:AcK)(hG:Laid w)(q:Nat)(hq:q≤65535)(x:Fy)(hx:VkpAt w x):
  Calls AcM 6 #[.int .u16 ((q:Nat):Int), .agg (vkpC x).toArray] w fun e w' =>e = .returned (.bool true)∧Ext w w' :=by
 have hone:=Qd (x:=x) (Qf hx.all) (RG.one hx.take).2 (RG.one hx.choices).2 (RG.one hx.fates).2;obtain⟨vs,hvl,hal,hrb⟩:=hx.all.rgK;have htk:=hx.take;have hch:=hx.choices;have hft:=hx.fates;refine gG (args:= [.int .u16 ((q:Nat):Int), .agg (vkpC x).toArray]) Tryz.func6 rfl 92 rfl rfl ?_;have hE:=Ext.refl w;refine gS (Yk.box (vr (.agg (vkpC x).toArray) rfl) fun k w3 b0 aq bf b1=> ?_);have c:=aq;clear aq;have b2:k<w3.heap.size:=by omega
 have hE:=hE.trans bf;refine gS (AbZ Wf rfl c (gS (ZA Wg rfl ((Ua _ x (hx.keep hE)).mono ?_))));rintro e b3 ⟨rfl,ad⟩;refine⟨_,rfl,?_⟩;refine gS (Z9 rfl ?_);refine cB (!(DU x.1)) rfl (fun ar=> ?_) fun ar=> ?_
 ·refine Bb rfl (vr (.bool (true)) rfl) ?_;have hE:=hE.trans ad;exact⟨rfl,hE⟩
 have hsk:=Lv (show DU x.1=true by simpa using ar);have hq0:q≤1073741824:=by omega
 have hE:=hE.trans ad;refine gS (Z4 Wh Uo rfl (CZ (q) (by omega)) (gS (ZA VT rfl ((Wv w _ hE q hq0).mono ?_))));rintro e j ⟨g1,H1,rfl,hD,au⟩;refine⟨_,rfl,?_⟩;have hDc:=hD;refine gS (ZA VU rfl ((P5 w _ g1 H1 (D4 q) hDc hG ((DBd.new hq0).lt (by omega):Df (D4 q)) (by show 0≤100000;decide) rfl).mono ?_));rintro e av ⟨gv,rfl,hVS_,aw⟩;refine⟨_,rfl,?_⟩;have hV:=hVS_;refine gS (Yk.extract (vs:= [PQ gv 0,NI 0]) rfl rfl (gS (Yk.extract (vs:= [PQ gv 0,NI 0]) rfl rfl ?_)));have hV:VtS w j.heap.size g1 gv av H1 (D4 q) []:=hV;have hE:=hE.trans (au.trans aw);have hszv_:=(hE).size;refine Aeo (⟨_,rfl⟩:∃v:AcJ,(AcU none 0 0)=v) fun nv8 hnv8=> ?_;have hrow8:OG w.heap.size 33 32 AcL av nv8 ([]:List (List UInt8)):=hnv8▸OG.nil _ _ _ _ _;have bg:OB nv8 k:=fun e_=>by rw[←hnv8]at e_;cases e_
 have c:=eb ((ad.trans au).trans aw) c;refine gL (fun(ρ:Ad) (wz:AcK)=>∃i:Nat,∃Hi:Dk,∃Di:Ae,∃acc:List Bs,∃r8:AcJ,ρ 0=(.int .u16 ((q:Nat):Int):AcJ)∧ρ 1=(.agg (vkpC x).toArray:AcJ)∧ρ 3=(PQ k 0:AcJ)∧ρ 4=(.bool (false):AcJ)∧ρ 5=(PQ g1 0:AcJ)∧ρ 6=(PQ gv 0:AcJ)∧ρ 9=(NI i:AcJ)∧ρ 8=(r8:AcJ)∧Ext w wz∧wz.heap[k]? =some (.cells (vkpC x).toArray 48 (0,0))∧VtS w j.heap.size g1 gv wz Hi Di []∧OG w.heap.size 33 32 (AcL) wz r8 (acc)∧(i≤x.1.all.length)∧(FuS q Di acc i)∧(OB r8 k)∧True) (fun ρ _=>x.1.all.length-(intOf (ρ 9)).toNat) ⟨0,H1,(D4 q),[],nv8,rfl,rfl,rfl,rfl,rfl,rfl,rfl,((show _=(AcU none 0 0)from rfl).trans hnv8),hE,c,hV,Bc hrow8 (rfl),Adm _,Acb q hq0,bg,trivial⟩ ?_;clear hV;clear hrow8;clear hE c;rintro ax b4 ⟨i,Hi,Di,acc,r8,T0,T1,m,T4,n,p,s,t,hE,c,hV,hr_r8,hi,hFu,hap_r8_n2,-⟩;have q9:=s;refine gS (Yk.fieldAt vu3_fo48_0 m (gS (Zu Mg rfl rfl (cellAt c (Jc x)) (gS (ZI Mg (ZC (hal.keep hE) rfl) (gS (Zv (a:=(i:Nat)) (b:=(vs.length:Nat)) s rfl (AI _ _ _ _) ?_)))))));refine cD rfl (fun z=> ?_) fun z=> ?_
 ·have hlt:i<x.1.all.length:=hvl▸z;have hre:=hrb i hlt;have hle:=hsk.2.2.2.2 _ (getD_mem ([]:List UInt8) hlt);have hal8:=hFu.len;refine gS (Yk.fieldAt vu3_fo48_0 m (gS (Zu Mg rfl rfl (cellAt c (Jc x)) ?_)));have b5:(Ez (vs.getD (i) undef)).length=1:=(RG.elem (hal.keep hE) undef (z));refine gS (ZO Mg SE (by decide) undef (ZC (hal.keep hE) rfl) s (z) fun b6 a1=>(gS (ZL Gj rfl (PR.cell (ZT a1 rfl) rfl) (Aeo (⟨_,rfl⟩:∃r,DC Di [] (x.1.all.getD (i) ([]:List UInt8))=r) fun r1 ae=> ?_))));have hFp:=hFu.put hle ae;have hid1:=Wb ae;have hVc:=hV;refine gS (Zx VV p rfl ((TT w _ j.heap.size g1 gv Hi (Di) ([]) hVc hG (vs.getD (i) undef) (x.1.all.getD (i) ([]:List UInt8)) (hre.keep hE) (hVc.offR hre) (by omega) (3*i) hFu.bd (by omega) r1 ae).mono ?_));rintro e aa ⟨H34,af,rfl,b7,hV37,hC38⟩;refine⟨_,rfl,?_⟩;have hE:Ext w aa:=hV37.dk.ext;have c:aa.heap[k]? =some (.cells (vkpC x).toArray 48 (0,0)):=VtS.box hVc hC38 c (by decide) (by decide) (by decide) (by decide) (by decide);have hr_r8:OG w.heap.size 33 32 (AcL) aa r8 (acc):=Abu hVc hC38 hr_r8 (by decide) (by decide) (by decide) (by decide) (by decide);clear hV;clear a1;have hV:=hV37;refine gS (Yk.extract (vs:= [AB r1.2.1,af,NI r1.2.2.2]) rfl rfl (gS (Yk.extract (vs:= [AB r1.2.1,af,NI r1.2.2.2]) rfl rfl (gS (Yk.extract (vs:= [AB r1.2.1,af,NI r1.2.2.2]) rfl rfl (gS (Yk.alloc Ur fun ag a2 b8 a3 ah b9=> ?_)))))));have f:=Ext.refl aa;have ca:=hE.size;have bh:OB r8 ag:=A3 hr_r8.2 (by omega);have hV:VtS w j.heap.size g1 gv a2 H34 r1.1 []:=(hV.keep ah);have g:=a3;clear a3;have cb:ag<a2.heap.size:=by omega
  refine gS (Zy (vr (PQ ag 0) rfl) (vr (AB r1.2.1) rfl) g (by exact Bn hid1 Ac7) (by exact Ac hid1) (Af _) fun bi a4 ai cc=> ?_);have hV:VtS w j.heap.size g1 gv bi H34 r1.1 []:=Acs hV ai g (by decide) (by decide) (by decide) (by decide) (by decide) (by decide) (by decide) (by omega);clear g;have g:=a4;clear a4;have cd:=bl g;refine gS (Zv (a:=(r1.2.2.2:Nat)) (b:=(0:Nat)) rfl rfl (AF _ _ _ _) ?_);refine cD rfl (fun aj=> ?_) fun aj=> ?_
  ·refine gS (Zz rfl g Wq rfl (by exact Ac hid1) (gS (Z2 (a:=r1.2.1) (enc:=AcL) (vr (AB r1.2.1) rfl) ((by rw[AcZ,hid1])) Wi fun bj a5 a6 ak=> ?_)));have hV:VtS w j.heap.size g1 gv a5 H34 r1.1 []:=(hV.keep ak);have f:=f.trans ah;have f:=Ab f ai (AcN (AcP _) (by omega));have f:=f.trans ak;have hE:=hE.trans f;have hr_r8:=hr_r8.keep f;refine gS (ZM _ _ w.heap.size _ 32 NB pk6_ig33.choose_spec.1 pk6_ig33.choose_spec.2 NB (acc) ([r1.2.1]) (OG.of hr_r8 t) (ZC a6 (vr bj rfl)) (fun y _=>Af y) (by simp only[Ac9];omega) (by simp only[Ac9];omega) hE.size fun al a7 bk l=> ?_);have l:Grew a5 a7 r8 al:= .eqv t l;have c:=eb f c;have bm:OB al k:=An l hap_r8_n2 (bl c);have g:=eb ak g;have hE:=Aq hE l hr_r8.2 (AcP _);have c:=Ao c l hap_r8_n2;have hV:VtS w j.heap.size g1 gv a7 H34 r1.1 []:=Aca hV hr_r8 l (by decide) (by decide) (by decide) (by decide) (by decide) (by decide) (by decide) (AcP _);have g:=Ao g l bh;clear a6;clear hr_r8;refine gS (Zw (xv:=NI i) (yv:=NI 1) s rfl rfl (Ag _ _ _ (by have:=hsk.1;omega)) (gK (Adr ⟨i+1,H34,r1.1,acc++ [r1.2.1],al,T0,T1,m,T4,n,p,rfl,rfl,hE,c,hV,Bc bk (rfl),by omega,hFp.1 aj,bm,trivial⟩ ?_)));show x.1.all.length-(intOf (NI ((i)+(1)))).toNat<x.1.all.length-(intOf (ax 9)).toNat;rw[q9];simp only[intOf,Ac0];omega
  have f:=f.trans ah;have f:=Ab f ai (AcN (AcP _) (by omega));have c:=eb f c;have hE:=hE.trans f;have hr_r8:=hr_r8.keep f;refine gS (Zw (xv:=NI i) (yv:=NI 1) s rfl rfl (Ag _ _ _ (by have:=hsk.1;omega)) (gK (Adr ⟨i+1,H34,r1.1,acc,r8,T0,T1,m,T4,n,p,rfl,t,hE,c,hV,Bc hr_r8 (rfl),by omega,hFp.2 aj,hap_r8_n2,trivial⟩ ?_)));show x.1.all.length-(intOf (NI ((i)+(1)))).toNat<x.1.all.length-(intOf (ax 9)).toNat;rw[q9];simp only[intOf,Ac0];omega
 have hie:i≤20:=by have:=hsk.1;omega
 have hal8:=hFu.len;refine gS (ZA Kv n (((hV).dk.refused).mono ?_));rintro e ce ⟨rfl,bn⟩;refine⟨_,rfl,?_⟩;refine D6 [0,1,2,3,5,6,4,7,8,9,10,11,12] [4,7] [5] [6] fun a8 bo=> ?_;have u:=Ext.refl a8;have hZ1:=bn.trans bo;have hE:=hE.trans hZ1;have c:=eb hZ1 c;have hr_r8:=hr_r8.keep hZ1;refine DM u ?_;refine ys (Yk.fieldAt RQ m zz) (ys (Zu Id rfl rfl (cellAt c (TW x)) zz) (yp (Yk.fieldAt RR m zz) (yf (fun _ ⟨hZ,_⟩=>Zu L9 rfl rfl (cellAt (eb hZ c) (TX x)) zz) (yE (Zx Wj t rfl ((Ub _ r8 x.2.take acc x.1.take (ZG hr_r8) (htk.keep hE) (by omega)).mono ?_))))));rintro e cf ⟨a9,rfl,am,ab⟩;refine⟨_,rfl,?_⟩;have u:=u.trans ab;refine⟨u,?_⟩;have hV:=hV.keep hZ1;have hVc:=(hV.keep u);have htm:∀y∈takenGo acc x.1.take acc.length,y∈acc:=fun y hy=>MR (AcP _) hy;have htl:=Je acc x.1.take acc.length;have hE:=hE.trans ab;refine yD rfl (ZV OP p rfl rfl ((LV w _ j.heap.size g1 gv Hi Di [] hVc hG a9 _ (ZG am) (fun y hy=>(hFu.ids y).1 (htm y hy)|>.1) (by have:=hFu.len;omega) (fun y hy q=>hFu.small (htm y hy)) x.2.choices x.1.choices (hch.keep hE) (by omega) (3*i) hFu.bd (by omega) (FuR Di acc) (fun o hS hM=>hFu.keep hie hS hM htm)).mono ?_));rintro e ac ⟨H81,ba,r2,rfl,hFr,-,hV83,hC84⟩;refine⟨_,rfl,?_⟩;have hE:Ext w ac:=hV83.dk.ext;have c:=eb ab c;have c:ac.heap[k]? =some (.cells (vkpC x).toArray 48 (0,0)):=VtS.box hVc hC84 c (by decide) (by decide) (by decide) (by decide) (by decide);have hr_r8:=hr_r8.keep ab;have hr_r8:OG w.heap.size 33 32 (AcL) ac r8 (acc):=Abu hVc hC84 hr_r8 (by decide) (by decide) (by decide) (by decide) (by decide);have am:OG a8.heap.size 33 32 (AcL) ac a9 (takenGo acc x.1.take acc.length):=Abu hVc hC84 am (by decide) (by decide) (by decide) (by decide) (by decide);have hV:=hV83;refine ys (Yk.extract (vs:= [ba,NI r2.2.2.2]) rfl rfl zz) (ys (Yk.extract (vs:= [ba,NI r2.2.2.2]) rfl rfl zz) (gS (Zv (a:=(r2.2.2.2:Nat)) (b:=(0:Nat)) rfl rfl (AF _ _ _ _) ?_)));refine cD rfl (fun an=> ?_) fun an=> ?_
 ·have hok:=hFr.ok an;refine gS (ZA Kv n (((hV).dk.refused).mono ?_));rintro e cg ⟨rfl,bp⟩;refine⟨_,rfl,?_⟩;have hE:=hE.trans bp;refine gS (Zv (a:=(r2.1.refused:Nat)) (b:=(Di.refused:Nat)) rfl rfl (AF _ _ _ _) (kT (hok) (gS (AaR OR ((Qa _ (hG.keep hE)).mono ?_)))));rintro e ch ⟨rfl,bq⟩;refine⟨_,rfl,?_⟩;refine gS (ZE rfl rfl (Bb rfl (vr (.bool (true)) rfl) ?_));have hE:=hE.trans bq;exact⟨rfl,hE⟩
 have hbad:=hFr.bad an;refine gS (Zv (a:=(r2.2.2.2:Nat)) (b:=(8:Nat)) rfl rfl (AF _ _ _ _) (kT (hbad.1) (gS (ZA Kv n (((hV).dk.refused).mono ?_)))));rintro e ci ⟨rfl,ao⟩;refine⟨_,rfl,?_⟩;refine gS (Zw (xv:=NI Di.refused) (yv:=NI 1) rfl rfl rfl (Ag _ _ _ (by have:=hFu.bd.refused;omega)) (gS (Zv (a:=(r2.1.refused:Nat)) (b:=((Di.refused)+(1):Nat)) rfl rfl (AF _ _ _ _) (kT (hbad.2.1) (gS (ZE rfl rfl ?_))))));have hV:=hV.keep ao;have hVc:=hV;have hE:=hE.trans ao;have cj:=hE.size;refine gS (ZA Wk p ((YD w _ j.heap.size g1 gv H81 r2.1 r2.2.1 hVc hG (hbad.2.2.2.1.lt (by decide)) (AcN hbad.2.2.2.1.list (by decide)) (by rw[hbad.2.2.1];exact fun e he=>by cases he) (by rw[hbad.2.2.1];have:=XX hbad.2.2.2.1;simp only[Adp];omega)).mono ?_));rintro e ck ⟨br,o2,rfl,ap,bs,hM2,bb⟩;refine⟨_,rfl,?_⟩;have hE:=hE.trans bb;have cl:=hE.size;have hZ2:=ao.trans bb;have hr_r8:=hr_r8.keep hZ2;refine gS (ZA Vn t ((Jv _ _ acc (ZG hr_r8) (by have:=hFu.len;omega)).mono ?_));rintro e cm ⟨bt,o3,rfl,bu,bv,hM3,cn,bc⟩;refine⟨_,rfl,?_⟩;have heq:o2=o3:=Wc bs bv fun y=>((hM2 y).trans (by rw[hbad.2.2.1];exact XW)).trans ((hbad.2.2.2.2 y).trans (hM3 y).symm);have bw:o2.length<9223372036854775807:=by rw[heq];have:=hFu.len;omega
 have ap:=ap.keep bc;refine gS (Zx Wl rfl rfl (((show Calls _ _ _ _ (fun e w2=>e = .returned (.bool true)∧Ext _ w2)from by have h:=Pw _ br bt o2 o3 (ZG ap) (ZG bu) bw;rw[decide_eq_true heq]at h;exact h)).mono ?_));rintro e co ⟨rfl,bx⟩;refine⟨_,rfl,?_⟩;have hZ3:=bc.trans bx;have hE:=hE.trans hZ3;refine gS (ZE rfl rfl (gS (AaR OR ((Qa _ (hG.keep hE)).mono ?_))));rintro e cp ⟨rfl,bz⟩;refine⟨_,rfl,?_⟩;refine gS (ZE rfl rfl (Bb rfl (vr (.bool (true)) rfl) ?_));have hE:=hE.trans bz;exact⟨rfl,hE⟩
end Go.Proofs.YtfpekahfdalfkaaGreatDoor
