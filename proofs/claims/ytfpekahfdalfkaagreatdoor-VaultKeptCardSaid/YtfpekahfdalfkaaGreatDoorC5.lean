/- Part 5 of what stands behind these statements: laws and walks of the functions that are reached. Conditions: those that each theorem names. -/
import Derived.Test.YtfpekahfdalfkaaGreatDoorC4
set_option linter.unusedVariables false
set_option linter.unusedSimpArgs false
namespace Go.Proofs.YtfpekahfdalfkaaGreatDoor
open _root_.Go renaming World->Ae3,Value->Ae2,TypeId->Afa,Operand->Aff,Program->AfD,binOp->AfL,MapEntry->AgY
open _root_.Prod renaming fst->AfB
open _root_.Go.Lib renaming byteCells->Ae4
open _root_.Option.some renaming inj->AfJ
open _root_.Go.Proofs.Tryz renaming prog->Ae5,underlying4->AiJ,isAgg4->AkK,sizeOf4->Akt,zeroValue4->Ajz,underlying0->AiK,isAgg0->AjP,sizeOf0->AjA,zeroValue0->AiU,underlying9->AhH,isAgg9->AiO,sizeOf9->Aiy,zeroValue9->AhR,underlying111->AjR,isAgg111->Ak7,sizeOf111->AkR,zeroValue111->Aj6,underlying56->Aj7,isAgg56->Aly,sizeOf56->Ak8,zeroValue56->Aku
open _root_.Nat renaming le_of_ble_eq_true->Afj,le_trans->Ae7,le_refl->Ae8,lt_of_lt_of_le->AfZ,zero_le->AfC,sub_self->AgR,zero_add->Agt,add_mul->Ahj,not_lt_zero->Age,min_eq_left->Ahd
open _root_.Go.Value renaming bool->AfE,slice->Afc,ownBlock->Afd,int->AgQ
open _root_.List renaming length_take->Afi,replicate->Afk,length_replicate->Afp,map_toArray->AfI,map_cons->AfG,map_nil->AfQ,toArray->Agp,length_nil->AfK,eq_nil_of_length_eq_zero->AfN,mem_cons_self->AfX,mem_cons_of_mem->AfY,pairwise_cons->Agk,mem_cons->AfT,filter_cons_of_neg->Ajd,filter_cons_of_pos->Aje,takeWhile_append_dropWhile->Aib,dropWhile_cons->Alg,takeWhile_cons->Alh,takeWhile_sublist->Air,dropWhile_sublist->Ais,length_append->Ae9,length_cons->AfA,mem_append->Afy,mem_map_of_mem->Ahr,mem_map->AfO,perm_ext_iff_of_nodup->AhW,length_map->Afu,size_toArray->Afr,map_map->Ah4,map_congr_left->Ali,filter_eq_self->AiQ,getD_eq_getElem?_getD->Ae6,getElem?_eq_getElem->Afb,getElem_mem->Agv,mem_singleton->Afh,length_set->AgW,mem_mapIdx->Aik,take_sublist->Ajg,length_mapIdx->Ai5,length_singleton->Afs,getElem?_append_right->AfR,getElem?_append_left->AfW,flatMap_cons->Af3,all_eq_true->AfP,take_succ_eq_append_getElem->Afv,all_append->AkD,all_cons->AjU,all_nil->Alx
open _root_.Go.Sem renaming run_bind->Afm,run_pure->Afo,run->Aju
open _root_.Go.Instr renaming buildSlice->AfM,next->AkZ,build->Ag3
open _root_.Go.World renaming ownsRow_nil->Af5,ownsRow->AjX,block_lt_of_cell?->Agn
open _root_.Go.Op renaming bytesLess->Agl
open _root_.List.Pairwise renaming sublist->AkQ,of_map->AhD,map->Ajf,nil->Ahc
open _root_.Bool renaming eq_false_iff->Aj5,false_eq_true->AhJ,and_eq_true->Agd
open _root_.Int renaming emod->AgO,emod_nonneg->Ajy,tmod->AgZ
open _root_.Array renaming getElem?_eq_some_iff->Afz,toList_filter->AjG,filter->Alw,getElem?_setIfInBounds->AgT
open _root_.Go.Result renaming andThen_ok->Afe,andThen->Af1
open _root_.Go.RowKit.Below renaming refl->AfV
open _root_.Go.World.grownBy renaming refl->Agf
open Go.RowKit
set_option maxRecDepth 100000
def BJ(b:Bs):Except Nat AT:=if 1048576<b.length then .error 2 else if b.length<36 then .error 6 else if Sha.sum (b.take (b.length-32))=b.drop (b.length-32)then CG b else .error 18
def PackAt(w:Ae3)(v:Ae2)(p:AT):Prop:=∃g vi bo O,v=PQ g 0/\p.2=(fun k=>(O k).map AfB)/\w.heap[g]? =some (.cells ([vi, .map (some bo)]).toArray 163 (0,0))/\RG 32 Ae4 w vi p.1/\MapF rk Ct (fun id:AlJ =>id.length=32) w bo O/\OOk w O
def AaQ(w:Ae3)(v:Ae2):Except Nat AT->Nat->Prop
 | .ok p,c=>c=0/\PackAt w v p
 | .error e,c=>c=e/\v = .pointer none
theorem PackAt.keep{w w' :Ae3}{v:Ae2}{p:AT}(h:PackAt w v p)(k:Ext w w'):PackAt w' v p:=by
 obtain⟨g,vi,bo,O,h1,h2,h3,h4,h5,h6⟩:=h;exact⟨g,vi,bo,O,h1,h2,eb k h3,h4.keep k,h5.keep k,h6.keep k⟩
def PackNew(n:Nat)(w:Ae3)(v:Ae2)(p:AT):Prop:=∃g vi bo O,v=PQ g 0/\p.2=(fun k=>(O k).map AfB)/\w.heap[g]? =some (.cells ([vi, .map (some bo)]).toArray 163 (0,0))/\RG 32 Ae4 w vi p.1/\MapF rk Ct (fun id:AlJ =>id.length=32) w bo O/\OOk w O/\n<=g/\n<=bo/\NewV n vi/\NewM n O
theorem PackNew.keep{n:Nat}{w w' :Ae3}{v:Ae2}{p:AT}(h:PackNew n w v p)(k:Ext w w'):PackNew n w' v p:=by
 obtain⟨g,vi,bo,O,h1,h2,h3,h4,h5,h6,h7⟩:=h;exact⟨g,vi,bo,O,h1,h2,eb k h3,h4.keep k,h5.keep k,h6.keep k,h7⟩
def OpenNew(n:Nat)(w:Ae3)(v:Ae2):Except Nat AT->Nat->Prop
 | .ok p,c=>c=0/\PackNew n w v p
 | .error e,c=>c=e/\v = .pointer none
theorem PackNew.keepN{n:Nat}{w w' :Ae3}{v c:Ae2}{p:AT}{b:Nat}{T:Afa}{fr:Nat × Nat}(h:PackNew n w v p)(hb:w.heap[b]? =some (.cells ([c]).toArray T fr))(hc:∀x,c≠B8 x)(hg:w.grownBy w' (some b)):PackNew n w' v p:=by
 obtain⟨g,vi,bo,O,h1,h2,h3,h4,h5,h6,h7⟩:=h;have hm:=VL hb hc;have a:g≠b:=fun e=>by rw[e,hb]at h3;simp at h3
 have f:bo≠b:=fun e=>by obtain⟨es,cl,h,-⟩:=h5;rw[e,hb]at h;cases h
 exact⟨g,vi,bo,O,h1,h2,(hg.block g (bl h3) (fun e=>a (AfJ e))).trans h3,h4.keepN hm hg,h5.other hg (fun e=>f (AfJ e).symm),fun id x hx=>(h6 id x hx).keepN hm hg,h7⟩
theorem TP{d:Option Tmp}{ty:Afa}{pos:String}{af:Array Edge}{gd:Option (Nat × Bool)}(σ:Aff->Ae2)(w:Ae3):(execOp σ ⟨d, .alloc 89,ty,pos,af,gd⟩).run Ae5 w = .ok (.value (PQ w.heap.size 0)) (w.alloc (.cells ([.pointer none]).toArray 89)):=by kernel_rfl
theorem TQ{d:Option Tmp}{ty:Afa}{pos:String}{af:Array Edge}{gd:Option (Nat × Bool)}(σ:Aff->Ae2)(w:Ae3):(execOp σ ⟨d, .alloc 29,ty,pos,af,gd⟩).run Ae5 w = .ok (.value (PQ w.heap.size 0)) (w.alloc (.cells ([NI 0]).toArray 29)):=by kernel_rfl
theorem Gf:Tryz.prog.underlying 89=some (.pointer 163):=by kernel_rfl
theorem TR:Plain Ae5 79:=fun _ _=>by kernel_rfl
set_option maxHeartbeats 1600000
theorem OR(w:Ae3)(hG:Laid w)(v:Ae2)(b:Bs)(hr:RB w v b):
  Calls Ae5 43 #[v] w fun e w' =>∃x,e = .returned x/\∃p c,x = .tuple #[p,NI c]/\OpenNew w.heap.size w' p (BJ b) c/\Ext w w' :=by
 refine OO (args:= [v]) Tryz.func43 rfl 30 rfl (Afj rfl) ?_;intro b6 hb;have o:b6 0=(v:Ae2):=hb.get 0;clear hb;have hE:=Ad4 w;refine CM _ Cd fun K1 ay=>(wt (oS rfl (Ad9 (cs:=([.pointer none]).toArray) TP fun u w3 di bh b7 dj=> ?_)));have hE:=hE.trans b7;have g:=bh;clear bh;have dk:u<w3.heap.size:=by omega
 refine oS rfl (Ad9 (cs:=([NI 0]).toArray) TQ fun y b8 b9 bi a3 dl=> ?_);have s:=Ad4 w3;have dm:=hE;have a0:=hE.size;have dn:=Av (bl g) b9;have hE:=hE.trans a3;have g:=eb a3 g;have s:=s.trans a3;have j:=bi;clear bi;have dp:y<b8.heap.size:=by omega
 refine HK [(0,v),(2,PQ u 0),(3,PQ y 0)] ⟨o,rfl,rfl,trivial⟩ fun dq ⟨o,q,r,_⟩=> ?_;by_cases q1:1048576<b.length
 ·have hP:BJ b = .error 2:=if_pos q1;refine tN (ay _ _ (CM _ Cd fun dr ds=>(sk fun dt ca=>(wt (oM rfl (oS rfl (AaT GR (AaF (hr.keep hE) o) (oS rfl (Aay (a:=(b.length:Nat)) (b:=(1048576:Nat)) rfl rfl (Bj _ _ _ _) (HK [(0,v),(2,PQ u 0),(3,PQ y 0),(7, .bool (true))] ⟨o,q,r,(congrArg AfE (decide_eq_true (q1))),trivial⟩ fun du ⟨o,q,r,t,_⟩=>(tN (ca _ _ (E9 t (sk fun dv cb=>(wt (oS rfl (Aa0 (i:=0) (v:= .pointer none) q (vr (.pointer none) rfl) g (Afj rfl) RU rfl rfl fun dw bj bk dx=> ?_)))))))))))))))));have hE:=Ab hE bk (Ae7 (Ae8 _) (by omega));clear s;have j:=kb bk j (by omega);clear g;have g:=bj;clear bj;have dy:=bl g;refine oS rfl (Aa0 (i:=0) (v:=NI 2) r (vr (NI 2) rfl) j (Afj rfl) RV rfl rfl fun dz bm bn d0=> ?_);have hE:=Ab hE bn (Ae7 a0 (by omega));have g:=kb bn g (by omega);clear j;have j:=bm;clear bm;have d1:=bl j;refine HK [(0,v),(2,PQ u 0),(3,PQ y 0),(7, .bool (true))] ⟨o,q,r,t,trivial⟩ fun d2 ⟨o,q,r,t,_⟩=>(tN (cb _ _ (JM (I1 (C0 (fn:=Tryz.f43) _ rfl [.pointer none,NI 2] (.tuple #[.pointer none,NI 2]) rfl ⟨Abo q g Gf rfl,Abo r j TO rfl,trivial⟩ ?_)))));exact⟨_,rfl,_,_,rfl,by rw[hP];exact⟨rfl,rfl⟩,hE⟩
 by_cases q2:b.length<36
 ·have hP:BJ b = .error 6:=(if_neg q1).trans (if_pos q2);refine tN (ay _ _ (CM _ Cd fun d3 cc=>(sk fun d4 cd=>(wt (oM rfl (oS rfl (AaT GR (AaF (hr.keep hE) o) (oS rfl (Aay (a:=(b.length:Nat)) (b:=(1048576:Nat)) rfl rfl (Bj _ _ _ _) (HK [(0,v),(2,PQ u 0),(3,PQ y 0),(7, .bool (false))] ⟨o,q,r,(congrArg AfE (decide_eq_false (q1))),trivial⟩ fun d5 ⟨o,q,r,t,_⟩=>(tN (cd _ _ (CZ t (D6 (tN (cc _ _ (CM _ Cd fun d6 d7=>(sk fun d8 ce=>(wt (oM rfl ?_))))))))))))))))))));refine oS rfl (AaT GR (AaF (hr.keep hE) o) (oS rfl (Aay (a:=(b.length:Nat)) (b:=(36:Nat)) rfl rfl (AE _ _ _ _) (HK [(0,v),(2,PQ u 0),(3,PQ y 0),(7, .bool (false)),(10, .bool (true))] ⟨o,q,r,t,(congrArg AfE (decide_eq_true (q2))),trivial⟩ fun d9 ⟨o,q,r,t,z,_⟩=>(tN (ce _ _ (E9 z (sk fun ea cf=>(wt (oS rfl (Aa0 (i:=0) (v:= .pointer none) q (vr (.pointer none) rfl) g (Afj rfl) RU rfl rfl fun ec bp bq ed=> ?_)))))))))));have hE:=Ab hE bq (Ae7 (Ae8 _) (by omega));clear s;have j:=kb bq j (by omega);clear g;have g:=bp;clear bp;have ee:=bl g;refine oS rfl (Aa0 (i:=0) (v:=NI 6) r (vr (NI 6) rfl) j (Afj rfl) RV rfl rfl fun ef br bs eg=> ?_);have hE:=Ab hE bs (Ae7 a0 (by omega));have g:=kb bs g (by omega);clear j;have j:=br;clear br;have eh:=bl j;refine HK [(0,v),(2,PQ u 0),(3,PQ y 0),(7, .bool (false)),(10, .bool (true))] ⟨o,q,r,t,z,trivial⟩ fun ei ⟨o,q,r,t,z,_⟩=>(tN (cf _ _ (JM (I1 (C0 (fn:=Tryz.f43) _ rfl [.pointer none,NI 6] (.tuple #[.pointer none,NI 6]) rfl ⟨Abo q g Gf rfl,Abo r j TO rfl,trivial⟩ ?_)))));exact⟨_,rfl,_,_,rfl,by rw[hP];exact⟨rfl,rfl⟩,hE⟩
 by_cases q3:Sha.sum (b.take (b.length-32))=b.drop (b.length-32)
 ·have hP:BJ b=CG b:=(if_neg q1).trans ((if_neg q2).trans (if_pos q3));refine tN (ay _ _ (CM _ Cd fun ej cg=>(sk fun el ci=>(wt (oM rfl (oS rfl (AaT GR (AaF (hr.keep hE) o) (oS rfl (Aay (a:=(b.length:Nat)) (b:=(1048576:Nat)) rfl rfl (Bj _ _ _ _) (HK [(0,v),(2,PQ u 0),(3,PQ y 0),(7, .bool (false))] ⟨o,q,r,(congrArg AfE (decide_eq_false (q1))),trivial⟩ fun em ⟨o,q,r,t,_⟩=>(tN (ci _ _ (CZ t (D6 (tN (cg _ _ (CM _ Cd fun en cj=>(sk fun eo ck=>(wt (oM rfl ?_))))))))))))))))))));refine oS rfl (AaT GR (AaF (hr.keep hE) o) (oS rfl (Aay (a:=(b.length:Nat)) (b:=(36:Nat)) rfl rfl (AE _ _ _ _) (HK [(0,v),(2,PQ u 0),(3,PQ y 0),(7, .bool (false)),(10, .bool (false))] ⟨o,q,r,t,(congrArg AfE (decide_eq_false (q2))),trivial⟩ fun ep ⟨o,q,r,t,z,_⟩=>(tN (ck _ _ (CZ z (D6 (tN (cj _ _ (CM _ Cd fun eq cl=>(wt (oM rfl (oM rfl (oS rfl (AaT GR (AaF (hr.keep hE) o) (oS rfl (Aaz (xv:=NI b.length) (yv:=NI 32) rfl rfl rfl (BL _ _ _ (by omega) (by omega)) (oS rfl (Abr (xs:=b) (n:=(b.length)-(32)) GR Rg o (hr.keep hE) (vr (NI ((b.length)-(32))) rfl) (by omega) fun cm an ha65=>(oS rfl (Abf GV (AaF an (vr cm rfl)) fun bt er a4 ao=> ?_))))))))))))))))))))));have hE:=hE.trans ao;have g:=eb ao g;have s:=s.trans ao;have j:=eb ao j;have an:=an.keep ao;refine oS rfl (AaE KB (vr bt rfl) ((GJ _ (hG.keep hE) bt (b.take ((b.length)-(32))) a4 (by simp only[Afi];omega)).mono ?_));rintro e cn ⟨rfl,ah⟩;refine⟨_,rfl,?_⟩;have hE:=hE.trans ah;have g:=eb ah g;have s:=s.trans ah;have j:=eb ah j;have an:=an.keep ah;have a4:=a4.keep ah;refine oS rfl (Ad9 (cs:=(Ae4 (Afk 32 0)).toArray) VA fun ai co bu bv ap es=> ?_);have ad:=Ad4 cn;have et:=hE;have eu:=s;have cp:=hE.size;have cq:=s.size;have ew:=Av (bl g) bu;have ex:=Av (bl j) bu;have hE:=hE.trans ap;have g:=eb ap g;have s:=s.trans ap;have j:=eb ap j;have ad:=ad.trans ap;have aa:=bv;clear bv;have ey:ai<co.heap.size:=by omega
  refine oS rfl (AaB (vr (PQ ai 0) rfl) (vr (AB (Sha.sum (b.take ((b.length)-(32))))) rfl) aa (by exact Bp (Sha.sum_length _) Afp) (by exact Ac (Sha.sum_length _)) (Ag _) fun ez bw aq e1=> ?_);have hE:=Ab hE aq (Ae7 cp (by omega));have g:=kb aq g (by omega);have s:=Ab s aq (Ae7 cq (by omega));have j:=kb aq j (by omega);have ad:=Ab ad aq (Ae7 (Ae8 _) (by omega));clear aa;have aa:=bw;clear bw;have e2:=bl aa;refine HK [(0,v),(2,PQ u 0),(3,PQ y 0),(4,PQ ai 0),(7, .bool (false)),(10, .bool (false))] ⟨o,q,r,rfl,t,z,trivial⟩ fun e3 ⟨o,q,r,T4,t,z,_⟩=>(tN (cl _ _ (CM _ Cd fun e5 cr=>(sk fun e6 ct=> ?_))));refine Fa [Is (.slice (some ⟨ai,0,none⟩) 32 32),Is (St ((Sha.sum (b.take ((b.length)-(32)))))),Is (v),Is (v),Is (NI b.length),Is (NI ((b.length)-(32))),fun x w' =>RB w' x (b.drop ((b.length)-(32))),Is (St (b.drop ((b.length)-(32)))),Is (.bool (false))] (by kernel_rfl) [18,19,20,21,22,23,24,25,26] (by kernel_rfl) (by kernel_rfl) (si6 ⟨(fun _ _ _ h k=>AeM h k),(IW trivial)⟩) ?cu ?hQ1006
  case cu=>
   refine⟨?_,?_,?_,?_,?_,?_,?_,?_,?_,trivial⟩
   ·refine Af rfl fun σ w1 hC h=> ?_;have e4:=(An (h 4 (by decide))).trans T4;exact Abt XM Rg e4 ⟨Ad4 _,rfl⟩
   ·refine Af rfl fun σ w1 hC h=> ?_;have a6:=An (h 18 (by decide));exact Abb GR u5 QD (AaF (AbH (eb hC aa) (Sha.sum_length _) (by decide)) a6) ⟨Ad4 _,rfl⟩
   ·refine Af rfl fun σ w1 hC h=> ?_;have e0:=(An (h 0 (by decide))).trans o;exact Aeb e0 ⟨Ad4 _,rfl⟩
   ·refine Af rfl fun σ w1 hC h=> ?_;have e0:=(An (h 0 (by decide))).trans o;exact Aeb e0 ⟨Ad4 _,rfl⟩
   ·refine Af rfl fun σ w1 hC h=> ?_;have a7:=An (h 21 (by decide));exact AaT GR (AaF (hr.keep (hE.trans hC)) a7) ⟨Ad4 _,rfl⟩
   ·refine Af rfl fun σ w1 hC h=> ?_;have a8:=An (h 22 (by decide));exact Aaz (xv:=NI b.length) (yv:=NI 32) a8 rfl rfl (BL _ _ _ (by omega) (by omega)) ⟨Ad4 _,rfl⟩
   ·refine Af rfl fun σ w1 hC h=> ?_;have a9:=An (h 20 (by decide));have ba:=An (h 23 (by decide));exact Abj (xs:=b) (l:=(b.length)-(32)) GR Rg rfl (AaF (hr.keep (hE.trans hC)) a9) ba (by omega) fun v hr _=>⟨Ad4 _,hr⟩
   ·refine Af rfl fun σ w1 hC h=> ?_;have bb:(fun x w' =>RB w' x (b.drop ((b.length)-(32)))) (σ 24) w1:=h 24 (by decide);exact Abb GR u5 QD bb ⟨Ad4 _,rfl⟩
   ·refine Af rfl fun σ w1 hC h=> ?_;have bc:=An (h 19 (by decide));have bd:=An (h 25 (by decide));exact Abw (l:=(Sha.sum (b.take ((b.length)-(32))))) (m:=b.drop ((b.length)-(32))) (.inr rfl) bc bd (decide ((Sha.sum (b.take ((b.length)-(32))))≠(b.drop ((b.length)-(32)):AlJ))) rfl ⟨Ad4 _,(congrArg AfE (decide_eq_false (fun h=>h q3)))⟩
  intro cv e7 aj he hf;obtain⟨-,-,-,-,-,-,-,-,k26,-⟩:=hf;obtain⟨o,q,r,T4,t,z,-⟩:=he.hold [(0,_),(2,_),(3,_),(4,_),(7,_),(10,_)] ⟨o,q,r,T4,t,z,trivial⟩ rfl;clear he;have hE:=hE.trans aj;have g:=eb aj g;have s:=s.trans aj;have j:=eb aj j;have ad:=ad.trans aj;have aa:=eb aj aa;have ae:cv 26 = .bool (false):=k26;clear k26;refine tN (ct _ _ (CZ ae (D6 (tN (cr _ _ (Jq (Hn rfl (Abk (vs:= #[PQ u 0,PQ y 0]) (by simp only[AfI,AfG,AfQ];exact congrArg Agp (E2 q r)) (RS (vr (.func (.func 78) #[] #[PQ u 0,PQ y 0]) rfl) (Yg (vr (.func (.func 78) #[] #[PQ u 0,PQ y 0]) rfl)) (ON (fun ρ=>ρ 0=(v:Ae2)/\ρ 2=(PQ u 0:Ae2)/\ρ 3=(PQ y 0:Ae2)/\ρ 4=(PQ ai 0:Ae2)/\ρ 7=(.bool (false):Ae2)/\ρ 10=(.bool (false):Ae2)/\ρ 26=(.bool (false):Ae2)/\True) ⟨o,q,r,T4,t,z,ae,trivial⟩ fun e8 ⟨o,q,r,T4,t,z,ae,_⟩=>(Jq (Hn rfl (Aeb o (LE rfl (Ads TR (vr v rfl) ?_)))))))))))))));refine Aw (VK _ (hG.keep hE) v b (hr.keep hE) (by omega) (by omega)) ?_ ?_;rotate_left
  ·
   rintro ch e9 ⟨c,hce,rfl,hx⟩;intro a_ ha_;show Leaves _ _ a_.tmps _ a_.defers (.panicking _) _;rw[ha_.defers];refine leaves_cons (f:=78) (args:= #[PQ u 0,PQ y 0]) (by simp) (by simp[go_sem]) ((RX w u y c _ _ _ (hE.trans hx) (by omega) (by omega) (by omega) (eb hx g) (eb hx j)).mono ?_);rintro e u' w3 ⟨rfl,rfl,cw,cx,cy⟩;exact LF (ρ:=_) _ rfl [.pointer none,NI c] (.tuple #[.pointer none,NI c]) rfl ha_.get ⟨Abo (q) cw Gf rfl,Abo (r) cx TO rfl,trivial⟩ ⟨_,rfl,_,_,rfl,by rw[hP,hce];exact⟨rfl,rfl⟩,cy⟩
  rintro v_ cz ⟨gp,vi,bo,ids,O,rfl,hrd,hgb,hgi,hmo,hoo,hlg,hlo,hlv,hlO,ak⟩;have hsz_:=(hE).size;have hE:=hE.trans ak;have g:=eb ak g;have s:=s.trans ak;have j:=eb ak j;have ad:=ad.trans ak;have aa:=eb ak aa;have hPk:PackNew w.heap.size cz (PQ gp 0) (ids,fun k=>(O k).map AfB):=⟨gp,vi,bo,O,rfl,rfl,hgb,hgi,hmo,hoo,Ae7 hsz_ hlg,Ae7 hsz_ hlo,(fun k hk=>Ae7 hsz_ (hlv k hk)),fun id x h k hk=>Ae7 hsz_ (hlO id x h k hk)⟩;have hob_n2:=g;refine Hn rfl (Aa0 (i:=0) (v:=PQ gp 0) q (vr (PQ gp 0) rfl) g (Afj rfl) RU rfl rfl fun c0 bx a1 fa=> ?_);have hE:=Ab hE a1 (Ae7 (Ae8 _) (by omega));clear s;have j:=kb a1 j (by omega);clear ad;have aa:=kb a1 aa (by omega);have hPk:PackNew w.heap.size c0 (PQ gp 0) (ids,fun k=>(O k).map AfB):=PackNew.keepN hPk hob_n2 (fun _ h=>by cases h) a1;clear g;have g:=bx;clear bx;have fb:=bl g;have hob_n10:=j;refine Hn rfl (Aa0 (i:=0) (v:=NI 0) r (vr (NI 0) rfl) j (Afj rfl) RV rfl rfl fun c1 bz a2 fc=> ?_);have hE:=Ab hE a2 (Ae7 a0 (by omega));have aa:=kb a2 aa (by omega);have hPk:PackNew w.heap.size c1 (PQ gp 0) (ids,fun k=>(O k).map AfB):=PackNew.keepN hPk hob_n10 (fun _ h=>by cases h) a2;have g:=kb a2 g (by omega);clear j;have j:=bz;clear bz;have fd:=bl j;refine ON (fun ρ=>ρ 0=(v:Ae2)/\ρ 2=(PQ u 0:Ae2)/\ρ 3=(PQ y 0:Ae2)/\ρ 4=(PQ ai 0:Ae2)/\ρ 7=(.bool (false):Ae2)/\ρ 10=(.bool (false):Ae2)/\ρ 26=(.bool (false):Ae2)/\True) ⟨o,q,r,T4,t,z,ae,trivial⟩ fun fe ⟨o,q,r,T4,t,z,ae,_⟩=>(Yf fun a_ ha_=> ?_);show Leaves _ _ a_.tmps _ a_.defers .returning _;rw[ha_.defers];refine leaves_cons (f:=78) (args:= #[PQ u 0,PQ y 0]) (by simp) (by simp[go_sem]) ((RW u y _).mono ?_);rintro e u' w3 ⟨rfl,rfl,hxi⟩;exact LF (ρ:=_) _ rfl [PQ gp 0,NI 0] (.tuple #[PQ gp 0,NI 0]) rfl ha_.get ⟨Abo (q) (eb hxi g) Gf rfl,Abo (r) (eb hxi j) TO rfl,trivial⟩ ⟨_,rfl,_,_,rfl,by rw[hP,hrd];exact⟨rfl,(hPk).keep hxi⟩,hE.trans hxi⟩
 have hP:BJ b = .error 18:=(if_neg q1).trans ((if_neg q2).trans (if_neg q3));refine tN (ay _ _ (CM _ Cd fun ff c2=>(sk fun fg c3=>(wt (oM rfl (oS rfl (AaT GR (AaF (hr.keep hE) o) (oS rfl (Aay (a:=(b.length:Nat)) (b:=(1048576:Nat)) rfl rfl (Bj _ _ _ _) (HK [(0,v),(2,PQ u 0),(3,PQ y 0),(7, .bool (false))] ⟨o,q,r,(congrArg AfE (decide_eq_false (q1))),trivial⟩ fun fh ⟨o,q,r,t,_⟩=>(tN (c3 _ _ (CZ t (D6 (tN (c2 _ _ (CM _ Cd fun fi c4=>(sk fun fj c5=>(wt (oM rfl ?_))))))))))))))))))));refine oS rfl (AaT GR (AaF (hr.keep hE) o) (oS rfl (Aay (a:=(b.length:Nat)) (b:=(36:Nat)) rfl rfl (AE _ _ _ _) (HK [(0,v),(2,PQ u 0),(3,PQ y 0),(7, .bool (false)),(10, .bool (false))] ⟨o,q,r,t,(congrArg AfE (decide_eq_false (q2))),trivial⟩ fun fk ⟨o,q,r,t,z,_⟩=>(tN (c5 _ _ (CZ z (D6 (tN (c4 _ _ (CM _ Cd fun fl c6=>(wt (oM rfl (oM rfl (oS rfl (AaT GR (AaF (hr.keep hE) o) (oS rfl (Aaz (xv:=NI b.length) (yv:=NI 32) rfl rfl rfl (BL _ _ _ (by omega) (by omega)) (oS rfl (Abr (xs:=b) (n:=(b.length)-(32)) GR Rg o (hr.keep hE) (vr (NI ((b.length)-(32))) rfl) (by omega) fun c7 ar ha123=>(oS rfl (Abf GV (AaF ar (vr c7 rfl)) fun b0 fm be au=> ?_))))))))))))))))))))));have hE:=hE.trans au;have g:=eb au g;have s:=s.trans au;have j:=eb au j;have ar:=ar.keep au;refine oS rfl (AaE KB (vr b0 rfl) ((GJ _ (hG.keep hE) b0 (b.take ((b.length)-(32))) be (by simp only[Afi];omega)).mono ?_));rintro e c8 ⟨rfl,al⟩;refine⟨_,rfl,?_⟩;have hE:=hE.trans al;have g:=eb al g;have s:=s.trans al;have j:=eb al j;have ar:=ar.keep al;have be:=be.keep al;refine oS rfl (Ad9 (cs:=(Ae4 (Afk 32 0)).toArray) VA fun av c9 b1 b2 aw fo=> ?_);have ag:=Ad4 c8;have fp:=hE;have fq:=s;have da:=hE.size;have db:=s.size;have fr:=Av (bl g) b1;have fs:=Av (bl j) b1;have hE:=hE.trans aw;have g:=eb aw g;have s:=s.trans aw;have j:=eb aw j;have ag:=ag.trans aw;have ac:=b2;clear b2;have ft:av<c9.heap.size:=by omega
 refine oS rfl (AaB (vr (PQ av 0) rfl) (vr (AB (Sha.sum (b.take ((b.length)-(32))))) rfl) ac (by exact Bp (Sha.sum_length _) Afp) (by exact Ac (Sha.sum_length _)) (Ag _) fun fu b3 ax fv=> ?_);have hE:=Ab hE ax (Ae7 da (by omega));have g:=kb ax g (by omega);have s:=Ab s ax (Ae7 db (by omega));have j:=kb ax j (by omega);have ag:=Ab ag ax (Ae7 (Ae8 _) (by omega));clear ac;have ac:=b3;clear b3;have fw:=bl ac;refine HK [(0,v),(2,PQ u 0),(3,PQ y 0),(4,PQ av 0),(7, .bool (false)),(10, .bool (false))] ⟨o,q,r,rfl,t,z,trivial⟩ fun fx ⟨o,q,r,T4,t,z,_⟩=>(tN (c6 _ _ (CM _ Cd fun fy fz=>(sk fun f0 dc=> ?_))));refine Fa [Is (.slice (some ⟨av,0,none⟩) 32 32),Is (St ((Sha.sum (b.take ((b.length)-(32)))))),Is (v),Is (v),Is (NI b.length),Is (NI ((b.length)-(32))),fun x w' =>RB w' x (b.drop ((b.length)-(32))),Is (St (b.drop ((b.length)-(32)))),Is (.bool (true))] (by kernel_rfl) [18,19,20,21,22,23,24,25,26] (by kernel_rfl) (by kernel_rfl) (si6 ⟨(fun _ _ _ h k=>AeM h k),(IW trivial)⟩) ?dd ?hQ2006
 case dd=>
  refine⟨?_,?_,?_,?_,?_,?_,?_,?_,?_,trivial⟩
  ·refine Af rfl fun σ w1 hC h=> ?_;have e4:=(An (h 4 (by decide))).trans T4;exact Abt XM Rg e4 ⟨Ad4 _,rfl⟩
  ·refine Af rfl fun σ w1 hC h=> ?_;have a6:=An (h 18 (by decide));exact Abb GR u5 QD (AaF (AbH (eb hC ac) (Sha.sum_length _) (by decide)) a6) ⟨Ad4 _,rfl⟩
  ·refine Af rfl fun σ w1 hC h=> ?_;have e0:=(An (h 0 (by decide))).trans o;exact Aeb e0 ⟨Ad4 _,rfl⟩
  ·refine Af rfl fun σ w1 hC h=> ?_;have e0:=(An (h 0 (by decide))).trans o;exact Aeb e0 ⟨Ad4 _,rfl⟩
  ·refine Af rfl fun σ w1 hC h=> ?_;have a7:=An (h 21 (by decide));exact AaT GR (AaF (hr.keep (hE.trans hC)) a7) ⟨Ad4 _,rfl⟩
  ·refine Af rfl fun σ w1 hC h=> ?_;have a8:=An (h 22 (by decide));exact Aaz (xv:=NI b.length) (yv:=NI 32) a8 rfl rfl (BL _ _ _ (by omega) (by omega)) ⟨Ad4 _,rfl⟩
  ·refine Af rfl fun σ w1 hC h=> ?_;have a9:=An (h 20 (by decide));have ba:=An (h 23 (by decide));exact Abj (xs:=b) (l:=(b.length)-(32)) GR Rg rfl (AaF (hr.keep (hE.trans hC)) a9) ba (by omega) fun v hr _=>⟨Ad4 _,hr⟩
  ·refine Af rfl fun σ w1 hC h=> ?_;have bb:(fun x w' =>RB w' x (b.drop ((b.length)-(32)))) (σ 24) w1:=h 24 (by decide);exact Abb GR u5 QD bb ⟨Ad4 _,rfl⟩
  ·refine Af rfl fun σ w1 hC h=> ?_;have bc:=An (h 19 (by decide));have bd:=An (h 25 (by decide));exact Abw (l:=(Sha.sum (b.take ((b.length)-(32))))) (m:=b.drop ((b.length)-(32))) (.inr rfl) bc bd (decide ((Sha.sum (b.take ((b.length)-(32))))≠(b.drop ((b.length)-(32)):AlJ))) rfl ⟨Ad4 _,(congrArg AfE (decide_eq_true (q3)))⟩
 intro de f1 am he hf;obtain⟨-,-,-,-,-,-,-,-,k26,-⟩:=hf;obtain⟨o,q,r,T4,t,z,-⟩:=he.hold [(0,_),(2,_),(3,_),(4,_),(7,_),(10,_)] ⟨o,q,r,T4,t,z,trivial⟩ rfl;clear he;have hE:=hE.trans am;have g:=eb am g;have s:=s.trans am;have j:=eb am j;have ag:=ag.trans am;have ac:=eb am ac;have ae:de 26 = .bool (true):=k26;clear k26;refine tN (dc _ _ (E9 ae (sk fun f2 df=>(wt (oS rfl (Aa0 (i:=0) (v:= .pointer none) q (vr (.pointer none) rfl) g (Afj rfl) RU rfl rfl fun f3 b4 bf f4=> ?_))))));have hE:=Ab hE bf (Ae7 (Ae8 _) (by omega));clear s;have j:=kb bf j (by omega);clear ag;have ac:=kb bf ac (by omega);clear g;have g:=b4;clear b4;have f5:=bl g;refine oS rfl (Aa0 (i:=0) (v:=NI 18) r (vr (NI 18) rfl) j (Afj rfl) RV rfl rfl fun f6 b5 bg f7=> ?_);have hE:=Ab hE bg (Ae7 a0 (by omega));have ac:=kb bg ac (by omega);have g:=kb bg g (by omega);clear j;have j:=b5;clear b5;have f8:=bl j;refine HK [(0,v),(2,PQ u 0),(3,PQ y 0),(4,PQ av 0),(7, .bool (false)),(10, .bool (false)),(26, .bool (true))] ⟨o,q,r,T4,t,z,ae,trivial⟩ fun f9 ⟨o,q,r,T4,t,z,ae,_⟩=>(tN (df _ _ (JM (I1 (C0 (fn:=Tryz.f43) _ rfl [.pointer none,NI 18] (.tuple #[.pointer none,NI 18]) rfl ⟨Abo q g Gf rfl,Abo r j TO rfl,trivial⟩ ?_)))));exact⟨_,rfl,_,_,rfl,by rw[hP];exact⟨rfl,rfl⟩,hE⟩
section
variable {P : AfD} {K : Ae2 -> Ae3 -> Prop} {ρ : Ae} {w : Ae3} {d : Option Tmp} {ty : Afa} {pos : String} {af : Array Edge} {gd : Option (Nat × Bool)}
theorem TS{t e:Afa}(ht:P.underlying t=some (.slice e))(a:Option Addr)(n c:Nat)(w:Ae3):(Op.equal t (.slice a n c) (.slice none 0 0)).run P w = .ok a.isNone w:=by
 unfold Op.equal;rw[show Op.maxDepth=(Op.maxDepth-1)+1 from rfl];cases a <;> simp[Op.equalIn,run_underlying ht,Afm,Afo]
theorem AbP{t e ty2:Afa}(ht:P.underlying t=some (.slice e)){x:Aff}{a:Option Addr}{n c:Nat}(hx:Aa ρ x = .slice a n c)(hk:K (.bool a.isNone) w):Yk P K ((execOp (Aa ρ) ⟨d, .binOp .eql t x (.const (.slice none 0 0)) ty2,ty,pos,af,gd⟩).run P w):=by
 have hy:Aa ρ (.const (.slice none 0 0)) = .slice none 0 0:=rfl;refine Aea (v:= .bool a.isNone) (w' :=w) ?_ hk;have hr:=TS ht a n c w;unfold execOp;simp only[hx,hy];cases a <;> simp[eqGuard,AfL,hr]
end
def PackO(w:Ae3)(v:Ae2):Option AT->Prop
 | none=>v = .pointer none
 | some p=>PackAt w v p
theorem PackO.keep{w w' :Ae3}{v:Ae2}:∀ {q:Option AT},PackO w v q->Ext w w' ->PackO w' v q
 | none,h,_=>h
 | some _,h,k=>PackAt.keep h k
def RY(q:Option AT):List Bs:=match q with | none=> [] | some p=>p.1
def AaI(q:Option AT):Nat:=(RY q).length
def CH(q:Option AT)(id:Bs):(Bs × Nat)× Nat:=
 match q with
 | none=>(([],0),1)
 | some p=>match p.2 id with
  | none=>(([],0),12)
  | some x=>(x,0)
theorem RZ(w:Ae3):(AfM 27 0 #[]).run Ae5 w = .ok (.slice (some ⟨w.heap.size,0,none⟩) 0 0) (w.alloc (.cells #[] 5)):=by kernel_rfl
theorem R0(w:Ae3):(AfM 42 0 #[]).run Ae5 w = .ok (.slice (some ⟨w.heap.size,0,none⟩) 0 0) (w.alloc (.cells #[] 33)):=by kernel_rfl
theorem OS:AZ Ae5 163 0 0:=fun b o w=>by simp[go_sem]
theorem TT:Plain Ae5 98:=fun _ _=>by kernel_rfl
theorem R1:Plain Ae5 139:=fun _ _=>by kernel_rfl
theorem TU:Plain Ae5 72:=fun _ _=>by kernel_rfl
theorem ZD(w:Ae3):
  Calls Ae5 72 #[(.slice none 0 0)] w fun e w' =>∃v',e = .returned v' /\NewB 5 w w' v' []:=by
 refine gG (args:= [(.slice none 0 0)]) Tryz.func72 rfl 8 rfl rfl ?_;have hE:=Ad4 w;refine gS (AbP GR rfl (cT rfl (A8 rfl (vr (Afc none 0 0) rfl) ?_)));exact⟨_,rfl,⟨Af5 _ _ _ 1,hE.grown⟩⟩
theorem ZE(w:Ae3)(a:Addr)(c:Nat)(l:Bs)(hr:RB w (.slice (some a) l.length c) l)(hl:l.length<1099511627776):
  Calls Ae5 72 #[(.slice (some a) l.length c)] w fun e w' =>∃v',e = .returned v' /\NewB 5 w w' v' l:=by
 refine gG (args:= [(.slice (some a) l.length c)]) Tryz.func72 rfl 8 rfl rfl ?_;have hE:=Ad4 w;refine gS (AbP GR rfl (cF rfl (gS (AdR RZ fun g j h=> ?_))));have b:=h.own;have hE:=hE.trans h.ext;refine gS (Abc _ _ w.heap.size (.int .u8 0) GR NU rfl GR (([]:AlJ)) (l) (Dd b (vr g rfl)) (AaF (hr.keep hE) (vr (.slice (some a) l.length c) rfl)) (by simp only[AfK];omega) hE.size fun i k m f=> ?_);have f:Grew j k g i:=f;have hE:=As hE f b (Ae8 _);clear b;refine A8 rfl (vr i rfl) ?_;exact⟨_,rfl,⟨(show AjX _ _ _ _ _ _ _ from by simpa using m),hE.grown⟩⟩
theorem Jr(w:Ae3)(v:Ae2)(l:Bs)(h:RB w v l)(hl:l.length<1099511627776):
  Calls Ae5 72 #[v] w fun e w' =>∃v',e = .returned v' /\NewB 5 w w' v' l:=by
 obtain⟨h1,ao,cap,rfl,h2,h3,h4,h5⟩:=id h;cases ao with
 | none=>
  have hl:=h4 rfl;have:l= []:=AfN hl.1;subst this;rw[show cap=0 from hl.2];exact ZD w
 | some a=>exact ZE w a cap l h hl
theorem VM(w:Ae3):
  Calls Ae5 98 #[(.slice none 0 0)] w fun e w' =>∃v',e = .returned v' /\OG w.heap.size 33 32 Ae4 w' v' []/\Ext w w' :=by
 refine gG (args:= [(.slice none 0 0)]) Tryz.func98 rfl 8 rfl rfl ?_;have hE:=Ad4 w;refine gS (AbP Oi rfl (cT rfl (A8 rfl (vr (Afc none 0 0) rfl) ?_)));exact⟨_,rfl,Aem _ _ _ _ _,hE⟩
theorem VN(w:Ae3)(a:Addr)(c:Nat)(l:List Bs)(hr:RG 32 Ae4 w (.slice (some a) l.length c) l)(hl:l.length<1099511627776):
  Calls Ae5 98 #[(.slice (some a) l.length c)] w fun e w' =>∃v',e = .returned v' /\OG w.heap.size 33 32 Ae4 w' v' l/\Ext w w' :=by
 refine gG (args:= [(.slice (some a) l.length c)]) Tryz.func98 rfl 8 rfl rfl ?_;have hE:=Ad4 w;refine gS (AbP Oi rfl (cF rfl (gS (AdD (k:=32) (enc:=Ae4) R0 fun g i b j=> ?_))));have hE:=hE.trans j;refine gS (Aa2 _ _ w.heap.size _ 32 Oi pk6_ig33.choose_spec.1 pk6_ig33.choose_spec.2 Oi ([]) (l) (Aen b (vr g rfl)) (AaD (hr.keep hE) (vr (.slice (some a) l.length c) rfl)) (fun _ _=>Ag _) (by simp only[AfK];omega) (by simp only[AfK];omega) hE.size fun h m n f=> ?_);have f:Grew i m g h:=f;have hE:=As hE f b.2 (Ae8 _);clear b;refine A8 rfl (vr h rfl) ?_;exact⟨_,rfl,(show OG _ _ _ _ _ _ _ from by simpa using n),hE⟩
theorem P1(w:Ae3)(v:Ae2)(l:List Bs)(h:RG 32 Ae4 w v l)(hl:l.length<1099511627776):
  Calls Ae5 98 #[v] w fun e w' =>∃v',e = .returned v' /\OG w.heap.size 33 32 Ae4 w' v' l/\Ext w w' :=by
 obtain⟨h0,h1,ao,cap,rfl,h2,h3,h4,h5⟩:=id h;cases ao with
 | none=>
  have hl:=h4 rfl;have:l= []:=AfN hl.1;subst this;rw[show cap=0 from hl.2];exact VM w
 | some a=>exact VN w a cap l h hl
theorem VO(w:Ae3):
  Calls Ae5 54 #[.pointer none] w fun e w' =>∃v',e = .returned v' /\OG w.heap.size 33 32 Ae4 w' v' (RY (none:Option AT))/\Ext w w' :=by
 refine gG (args:= [.pointer none]) Tryz.func54 rfl 10 rfl rfl ?_;have hE:=Ad4 w;refine gS (Aa8 Gf rfl (cT rfl (A8 rfl (vr (Afc none 0 0) rfl) ?_)));exact⟨_,rfl,Aem _ _ _ _ _,hE⟩
theorem Yj(w:Ae3)(g bo:Nat)(vi:Ae2)(ids:List Bs)(O:Bs->Option Cw)(hg:w.heap[g]? =some (.cells ([vi, .map (some bo)]).toArray 163 (0,0)))(hrg:RG 32 Ae4 w vi ids)(hmo:MapF rk Ct (fun id:AlJ =>id.length=32) w bo O)(hoo:OOk w O)(hi:ids.length<1099511627776):
  Calls Ae5 54 #[PQ g 0] w fun e w' =>∃v',e = .returned v' /\OG w.heap.size 33 32 Ae4 w' v' (RY (some (ids,fun k=>(O k).map AfB)))/\Ext w w' :=by
 refine gG (args:= [PQ g 0]) Tryz.func54 rfl 10 rfl rfl ?_;have hE:=Ad4 w;refine gS (Aa8 Gf rfl (cF rfl (gS (Ad7 rfl (gS (Ad6 OS rfl (gS (Aax Oi rfl rfl (cellAt hg rfl) (gS (AaE TT rfl ((P1 _ vi ids hrg (by omega)).mono ?_)))))))))));rintro e f ⟨a,rfl,b,c⟩;refine⟨_,rfl,?_⟩;refine A8 rfl (vr a rfl) ?_;have hE:=hE.trans c;exact⟨_,rfl,b,hE⟩
theorem VP(w:Ae3)(v:Ae2)(q:Option AT)(h:PackO w v q)(hi:AaI q<1099511627776):
  Calls Ae5 54 #[v] w fun e w' =>∃v',e = .returned v' /\OG w.heap.size 33 32 Ae4 w' v' (RY q)/\Ext w w' :=by
 match q,h with
 | none,h=>rw[show v = .pointer none from h];exact VO w
 | some p,h=>
  obtain⟨g,vi,bo,O,rfl,h2,hg,hrg,hmo,hoo⟩:=h;obtain⟨ids,P⟩:=p;subst h2;exact Yj w g bo vi ids O hg hrg hmo hoo hi
theorem TV(w:Ae3)(id:Bs)(hid:id.length=32):
  Calls Ae5 139 #[.pointer none,AB id] w fun e w' =>∃x,e = .returned x/\∃(o:Bs × Nat) (s:Ae2),x = .tuple #[.agg ([s,NI o.2]).toArray,NI (CH (none:Option AT) id).2]/\o=(CH (none:Option AT) id).1/\RB w' s o.1/\Ext w w' :=by
 refine gG (args:= [.pointer none,AB id]) Tryz.func139 rfl 24 rfl rfl ?_;have hE:=Ad4 w;refine gS (Ael (vr (AB id) rfl) fun h i p b j q=> ?_);have r:=b;clear b;have t:h<i.heap.size:=by omega
 refine gS (Ad9 Ea fun c k u f l y=> ?_);have hE:=hE.trans j;have m:=hE.size;have a:=f;clear f;have z:c<k.heap.size:=by omega
 refine gS (Aa8 Gf rfl (cT rfl (gS (AeB (v:= .agg ([(Afc none 0 0),NI 0]).toArray) (by kernel_rfl) (gS (AaB (vr (PQ c 0) rfl) (vr (.agg ([(Afc none 0 0),NI 0]).toArray) rfl) a rfl (show(Tryz.prog.info? 215).map (·.size)=some 2 from Bu) (CD rfl) fun aa g n ab=> ?_))))));clear a;have a:=g;clear g;have ac:=bl a;refine J8 rfl (Aee rfl a (DE).choose_spec rfl ((show(Tryz.prog.info? 215).map (·.size)=some 2 from Bu))) (vr (NI 1) rfl) ?_;have hE:=hE.trans l;have hE:=Ab hE n (Ae7 m (by omega));exact⟨_,rfl,([],0),_,rfl,rfl,Aeq _,hE⟩
theorem VQ(w:Ae3)(g bo:Nat)(vi:Ae2)(ids:List Bs)(O:Bs->Option Cw)(hg:w.heap[g]? =some (.cells ([vi, .map (some bo)]).toArray 163 (0,0)))(hrg:RG 32 Ae4 w vi ids)(hmo:MapF rk Ct (fun id:AlJ =>id.length=32) w bo O)(hoo:OOk w O)(id:Bs)(hid:id.length=32):
  Calls Ae5 139 #[PQ g 0,AB id] w fun e w' =>∃x,e = .returned x/\∃(o:Bs × Nat) (s:Ae2),x = .tuple #[.agg ([s,NI o.2]).toArray,NI (CH (some (ids,fun k=>(O k).map AfB)) id).2]/\o=(CH (some (ids,fun k=>(O k).map AfB)) id).1/\RB w' s o.1/\Ext w w' :=by
 refine gG (args:= [PQ g 0,AB id]) Tryz.func139 rfl 24 rfl rfl ?_;have hE:=Ad4 w;refine gS (Ael (vr (AB id) rfl) fun n2 w3 r aa j a6=> ?_);have a7:=Av hmo.lt r;have b:=aa;clear aa;have a8:n2<w3.heap.size:=by omega
 refine gS (Ad9 Ea fun t aw c ab ac a9=> ?_);have hE:=hE.trans j;have ad:=hE.size;have hmo:=hmo.keep j;have ba:=Av hmo.lt c;have a:=ab;clear ab;have bb:t<aw.heap.size:=by omega
 refine gS (Aa8 Gf rfl ?_);rcases hO:O id with _ | x
 ·have hQ:CH (some (ids,fun k=>(O k).map AfB)) id=(([],0),12):=by show(match (O id).map AfB with | none=>_ | some x=>_)=_;rw[hO];rfl
  refine cF rfl (Ed [0,1,2,3,4,5,6,7,8,9,10,11] [9,10] [1,2,7,8] [3,4,5] fun ae af=> ?_);have f:=Ad4 ae;have hZ1:=ac.trans af;have hE:=hE.trans hZ1;have ax:=hE.size;have l:=Ad4 ae;have ay:=Av (bl hg) r;have hg:=eb j hg;have az:=Av (bl hg) c;have hg:=eb hZ1 hg;have a0:=Av (bl b) c;have b:=eb hZ1 b;have hmo:=hmo.keep hZ1;refine DV l ?_;refine yp (Ad7 rfl zz) (yp (Ad6 OL rfl zz) (yf (fun _ ⟨hZ,_⟩=>Aax CX rfl rfl (cellAt (eb hZ hg) rfl) zz) (yf (fun _ ⟨hZ,_⟩=>AaC rfl (eb hZ b) XM rfl (by exact Ac hid) zz) (yf (fun _ ⟨hZ,_⟩=>Abz (ek:=rk) (ev:=Ct) (D:=(fun id:AlJ =>id.length=32)) Cu Cv (fun _ _=>Cp) CX (z:=Ct Mb) HW rfl rfl (hmo.keep hZ) hid hO zz) (yp (Ad5 (vs:= [.agg ([(Afc none 0 0),NI 0]).toArray, .bool (false)]) rfl rfl zz) (yp (Ad5 (vs:= [.agg ([(Afc none 0 0),NI 0]).toArray, .bool (false)]) rfl rfl zz) (yE (Ad9 Ea fun ag a1 a2 ah m bc=> ?_))))))));have bd:=Av hmo.lt a2;have n:=ah;clear ah;have be:ag<a1.heap.size:=by omega
  have l:=l.trans m;refine⟨l,?_⟩;refine yD rfl (AaB (vr (PQ ag 0) rfl) (vr (.agg ([(Afc none 0 0),NI 0]).toArray) rfl) n rfl (show(Tryz.prog.info? 215).map (·.size)=some 2 from Bu) (CD rfl) fun bf ai u bg=> ?_);have hmo:=hmo.keep m;have hmo:=Ad8 hmo u (Ak (by omega));clear n;have n:=ai;clear ai;have bh:=bl n;have f:=f.trans m;have f:=Ab f u (Ae7 (Ae8 _) (by omega));have a:=eb (af.trans f) a;refine gS (Abl rfl (cT rfl (gS (AeB (v:= .agg ([(Afc none 0 0),NI 0]).toArray) (by kernel_rfl) (gS (AaB (vr (PQ t 0) rfl) (vr (.agg ([(Afc none 0 0),NI 0]).toArray) rfl) a rfl (show(Tryz.prog.info? 215).map (·.size)=some 2 from Bu) (CD rfl) fun bi aj ak bj=> ?_))))));have hmo:=Ad8 hmo ak (Ak (by omega));clear a;have a:=aj;clear aj;have bk:=bl a;refine J8 rfl (Aee rfl a (DE).choose_spec rfl ((show(Tryz.prog.info? 215).map (·.size)=some 2 from Bu))) (vr (NI 12) rfl) ?_;have hE:=hE.trans m;have hE:=Ab hE u (Ae7 ax (by omega));have hE:=Ab hE ak (Ae7 ad (by omega));exact⟨_,rfl,([],0),_,by rw[hQ],by rw[hQ],Aeq _,hE⟩
 have hQ:CH (some (ids,fun k=>(O k).map AfB)) id=(x.1,0):=by show(match (O id).map AfB with | none=>_ | some x=>_)=_;rw[hO];rfl
 have hxr:=hoo id x hO;refine cF rfl (Ed [0,1,2,3,4,5,6,7,8,9,10,11] [9,10] [1,2,7,8] [3,4,5] fun al am=> ?_);have h:=Ad4 al;have hZ2:=ac.trans am;have hE:=hE.trans hZ2;have a3:=hE.size;have p:=Ad4 al;have ay:=Av (bl hg) r;have hg:=eb j hg;have az:=Av (bl hg) c;have hg:=eb hZ2 hg;have a0:=Av (bl b) c;have b:=eb hZ2 b;have hmo:=hmo.keep hZ2;refine DV p ?_;refine yp (Ad7 rfl zz) (yp (Ad6 OL rfl zz) (yf (fun _ ⟨hZ,_⟩=>Aax CX rfl rfl (cellAt (eb hZ hg) rfl) zz) (yf (fun _ ⟨hZ,_⟩=>AaC rfl (eb hZ b) XM rfl (by exact Ac hid) zz) (yf (fun _ ⟨hZ,_⟩=>Abs (ek:=rk) (ev:=Ct) (D:=(fun id:AlJ =>id.length=32)) Cu Cv (fun _ _=>Cp) CX (z:=Ct Mb) HW rfl rfl (hmo.keep hZ) hid hO zz) (yp (Ad5 (vs:= [.agg ([x.2,NI x.1.2]).toArray, .bool (true)]) rfl rfl zz) (yp (Ad5 (vs:= [.agg ([x.2,NI x.1.2]).toArray, .bool (true)]) rfl rfl zz) (yE (Ad9 Ea fun an a4 a5 ao q bm=> ?_))))))));have bn:=Av hmo.lt a5;have i:=ao;clear ao;have bp:an<a4.heap.size:=by omega
 have p:=p.trans q;refine⟨p,?_⟩;have hE:=hE.trans q;refine yD rfl (AaB (vr (PQ an 0) rfl) (vr (.agg ([x.2,NI x.1.2]).toArray) rfl) i rfl (show(Tryz.prog.info? 215).map (·.size)=some 2 from Bu) (CD (Aeg (hxr.keep hE)).2) fun bq ap y br=> ?_);have hmo:=hmo.keep q;have hmo:=Ad8 hmo y (Ak (by omega));clear i;have i:=ap;clear ap;have bs:=bl i;have h:=h.trans q;have h:=Ab h y (Ae7 (Ae8 _) (by omega));have a:=eb (am.trans h) a;have hE:=Ab hE y (Ae7 a3 (by omega));refine gS (Abl rfl (cF rfl (gS (AaC rfl i (DE).choose_spec rfl (show(Tryz.prog.info? 215).map (·.size)=some 2 from Bu) (gS (AaB (vr (PQ t 0) rfl) (vr (.agg ([x.2,NI x.1.2]).toArray) rfl) a rfl (show(Tryz.prog.info? 215).map (·.size)=some 2 from Bu) (CD (Aeg (hxr.keep hE)).2) fun bt aq ar bu=> ?_))))));have hmo:=Ad8 hmo ar (Ak (by omega));clear a;have a:=aq;clear aq;have bv:=bl a;refine J8 rfl (Aee rfl a (DE).choose_spec rfl ((show(Tryz.prog.info? 215).map (·.size)=some 2 from Bu))) (vr (NI 0) rfl) ?_;have hE:=Ab hE ar (Ae7 ad (by omega));exact⟨_,rfl,x.1,x.2,by rw[hQ],by rw[hQ],(hxr.keep hE),hE⟩
theorem TW(w:Ae3)(v:Ae2)(q:Option AT)(h:PackO w v q)(id:Bs)(hid:id.length=32):
  Calls Ae5 139 #[v,AB id] w fun e w' =>∃x,e = .returned x/\∃(o:Bs × Nat) (s:Ae2),x = .tuple #[.agg ([s,NI o.2]).toArray,NI (CH q id).2]/\o=(CH q id).1/\RB w' s o.1/\Ext w w' :=by
 match q,h with
 | none,h=>rw[show v = .pointer none from h];exact TV w id hid
 | some p,h=>
  obtain⟨g,vi,bo,O,rfl,h2,hg,hrg,hmo,hoo⟩:=h;obtain⟨ids,P⟩:=p;subst h2;exact VQ w g bo vi ids O hg hrg hmo hoo id hid
theorem VR(w:Ae3)(v:Ae2)(q:Option AT)(hq:PackO w v q)(id:Bs)(hid:id.length=32)(hb:(CH q id).1.1.length<1099511627776):
  Calls Ae5 85 #[v,AB id] w fun e w' =>∃v',e = .returned (.tuple #[v',NI (CH q id).2])/\w'.ownsRow w.heap.size 5 1 v' (CH q id).1.1.length (Ae4 (CH q id).1.1)/\Ext w w' :=by
 refine gG (args:= [v,AB id]) Tryz.func85 rfl 18 rfl rfl ?_;have hE:=Ad4 w;refine gS (Ael (vr (AB id) rfl) fun r s ab g t ac=> ?_);have f:=g;clear g;have ad:r<s.heap.size:=by omega
 have hE:=hE.trans t;refine gS (AaC rfl f XM rfl (by exact Ac hid) (gS (AaA R1 rfl rfl ((TW _ v q (hq.keep hE) id hid).mono ?_))));rintro e u ⟨_,rfl,o,c,rfl,ho,h,i⟩;refine⟨_,rfl,?_⟩;subst ho;refine gS (Ad5 (vs:= [.agg ([c,NI ((CH q id).1.2)]).toArray,NI ((CH q id).2)]) rfl rfl (gS (Ad5 (vs:= [.agg ([c,NI ((CH q id).1.2)]).toArray,NI ((CH q id).2)]) rfl rfl (gS (Ad9 Ea fun j x ae k l af=> ?_)))));have a:=Ad4 u;have hE:=hE.trans i;have y:=hE.size;have b:=k;clear k;have ag:j<x.heap.size:=by omega
 have a:=a.trans l;refine gS (AaB (vr (PQ j 0) rfl) (vr (.agg ([c,NI ((CH q id).1.2)]).toArray) rfl) b rfl (show(Tryz.prog.info? 215).map (·.size)=some 2 from Bu) (CD (Aeg (h.keep a)).2) fun ah m n ai=> ?_);clear b;have b:=m;clear m;have aj:=bl b;have a:=Ab a n (Ae7 (Ae8 _) (by omega));refine gS (Ad6 G2 rfl (gS (Aax GR rfl rfl (cellAt b rfl) (gS (AaE TU rfl ((Jr _ c (CH q id).1.1 (h.keep a) (by omega)).mono ?_))))));rintro e ak ⟨z,rfl,p⟩;refine⟨_,rfl,?_⟩;have hE:=hE.trans l;have hE:=Ab hE n (Ae7 y (by omega));have al:=hE.size;have am:=a.size;have f:=eb (i.trans a) f;have aa:=p.own;refine BI rfl (vr z rfl) (vr (NI ((CH q id).2)) rfl) ?_;have hE:=hE.trans p.ext;exact⟨_,rfl,BM aa (by omega),hE⟩
abbrev Br:=List (AlJ × Nat)
def Ao:Br->AlJ->Option Nat
 | [],_=>none
 | e :: r,s=>if e.1=s then some e.2 else Ao r s
theorem C3(e:AlJ × Nat)(r:Br)(s:AlJ):Ao (e :: r) s=if e.1=s then some e.2 else Ao r s:=rfl
def H0(l:Br)(s:AlJ):Br:=l.filter fun e=> !decide (e.1=s)
def G3(l:Br)(s:AlJ)(k:Nat):Br:=l.takeWhile (fun e=>Agl e.1 s)++(s,k) :: l.dropWhile (fun e=>Agl e.1 s)
structure CL where
 frm:AlJ
 to:AlJ
 file:Nat
def turnD(l:Br)(a:CL):Br:=if a.to.length=0 then H0 l a.frm else G3 (H0 (H0 l a.frm) a.to) a.to a.file
def Er(l:Br):Prop:=l.Pairwise fun a b=>Agl a.1 b.1=true
theorem OT{a b c:AlJ}(h:Agl a b=true)(k:Agl b c=true):Agl a c=true:=by
 rw[bytesLess_eq,decide_eq_true_eq]at *;exact List.lt_trans h k
theorem Fj(a:AlJ):Agl a a=false:=by
 rw[bytesLess_eq];exact decide_eq_false (List.lt_irrefl a)
theorem VS{a b:AlJ}(h:Agl a b=false)(hne:b≠a):Agl b a=true:=by
 rw[bytesLess_eq,decide_eq_false_iff_not]at h;rw[bytesLess_eq,decide_eq_true_eq];have h:b<=a:=h;rcases List.le_total a b with h2 | h2
 ·exact absurd (List.le_antisymm h h2) hne
 ·exact Classical.byContradiction fun hn=>hne (List.le_antisymm h hn)
theorem Ho{l:Br}{s:AlJ}:Ao l s=none↔∀e∈l,e.1≠s:=by
 induction l with
 | nil=>simp[Ao]
 | cons e r ih=>
  rw[C3];by_cases h:e.1=s
  ·simp[h]
  ·simp[h,ih]
theorem Db{l:Br}{s:AlJ}{k:Nat}(h:Ao l s=some k):(s,k)∈l:=by
 induction l with
 | nil=>cases h
 | cons e r ih=>
  rw[C3]at h;split at h
  ·rename_i he
   cases h;rw[<-he];exact AfX
  ·exact AfY _ (ih h)
theorem FV{l:Br}(hs:Er l){e:AlJ × Nat}(h:e∈l):Ao l e.1=some e.2:=by
 induction l with
 | nil=>cases h
 | cons x r ih=>
  obtain⟨h1,h2⟩:=Agk.1 hs;rw[C3];rcases AfT.1 h with rfl | h
  ·exact if_pos rfl
  ·have:=h1 e h;rw[if_neg (fun he=>by rw[he,Fj]at this;cases this)];exact ih h2 h
theorem Ir{l r:Br}{s:AlJ}:Ao (l++r) s=(Ao l s).or (Ao r s):=by
 induction l with
 | nil=>rfl
 | cons e l ih=>
  rw[List.cons_append,C3,C3];by_cases h:e.1=s
  ·rw[if_pos h,if_pos h];rfl
  ·rw[if_neg h,if_neg h];exact ih
theorem JW(l:Br)(s t:AlJ):Ao (H0 l s) t=if t=s then none else Ao l t:=by
 induction l with
 | nil=>simp[H0,Ao]
 | cons e r ih=>
  unfold H0 at ih ⊢;by_cases h:e.1=s
  ·rw[Ajd (by simp[h]),ih];split
   ·rfl
   ·rename_i ht
    rw[C3,if_neg (fun he=>ht (he.symm.trans h))]
  ·rw[Aje (by simp[h])];rw[C3,C3];by_cases he:e.1=t
   ·rw[if_pos he,if_pos he,if_neg (fun ht=>h (he.trans ht))]
   ·rw[if_neg he,if_neg he];exact ih
theorem VT{l:Br}{s:AlJ}(k:Nat)(h:Ao l s=none)(t:AlJ):Ao (G3 l s k) t=if t=s then some k else Ao l t:=by
 have hl:l=l.takeWhile (fun e=>Agl e.1 s)++l.dropWhile (fun e=>Agl e.1 s):=(Aib).symm;have hn:=h;rw[hl,Ir]at hn;unfold G3;rw[Ir];rw[C3];simp only;by_cases ht:t=s
 ·subst ht;rw[if_pos rfl,if_pos rfl];cases h2:Ao (l.takeWhile fun e=>Agl e.1 t) t with
  | none=>rfl
  | some x=>rw[h2]at hn;cases hn
 ·rw[if_neg (fun e=>ht e.symm),if_neg ht]
  conv=>rhs;rw[hl,Ir]
theorem Mc{l:Br}(h:Er l)(s:AlJ):Er (H0 l s):=AkQ (List.filter_sublist) h
theorem Yl{l:Br}{s:AlJ}(hs:Er l)(h:Ao l s=none):∀e∈l.dropWhile (fun e=>Agl e.1 s),Agl s e.1=true:=by
 induction l with
 | nil=>intro e he;cases he
 | cons x r ih=>
  obtain⟨h1,h2⟩:=Agk.1 hs;have h3:=Ho.1 h;intro e he;by_cases hx:Agl x.1 s=true
  ·rw[Alg,if_pos hx]at he;exact ih h2 (Ho.2 fun y hy=>h3 y (AfY _ hy)) e he
  ·rw[Alg,if_neg hx]at he;have hxs:=VS (Aj5.2 hx) (fun q=>h3 x AfX q.symm);rcases AfT.1 he with rfl | he
   ·exact hxs
   ·exact OT hxs (h1 e he)
theorem Ym{l:Br}{s:AlJ}:∀e∈l.takeWhile (fun e=>Agl e.1 s),Agl e.1 s=true:=by
 induction l with
 | nil=>intro e he;cases he
 | cons x r ih=>
  intro e he;by_cases hx:Agl x.1 s=true
  ·rw[Alh,if_pos hx]at he;rcases AfT.1 he with rfl | he
   ·exact hx
   ·exact ih e he
  ·rw[Alh,if_neg hx]at he;cases he
theorem VU{l:Br}{s:AlJ}(k:Nat)(hs:Er l)(h:Ao l s=none):Er (G3 l s k):=by
 unfold G3 Er;have h1:=Yl hs h;have h2:=Ym (l:=l) (s:=s);rw[List.pairwise_append];refine⟨hs.sublist (Air _),Agk.2 ⟨fun e he=>h1 e he,hs.sublist (Ais _)⟩,fun a ha b hb=> ?_⟩;rcases AfT.1 hb with rfl | hb
 ·exact h2 a ha
 ·exact OT (h2 a ha) (h1 b hb)
theorem OU(l:Br)(a b:AlJ):Ao (H0 (H0 l a) b) b=none:=by rw[JW,if_pos rfl]
theorem look_turn(l:Br)(a:CL)(t:AlJ):Ao (turnD l a) t=if a.to.length=0 then(if t=a.frm then none else Ao l t)else if t=a.to then some a.file else if t=a.frm then none else Ao l t:=by
 unfold turnD;by_cases h:a.to.length=0
 ·rw[if_pos h,if_pos h,JW]
 ·rw[if_neg h,if_neg h,VT _ (OU _ _ _)];by_cases ht:t=a.to
  ·rw[if_pos ht,if_pos ht]
  ·rw[if_neg ht,if_neg ht,JW,if_neg ht,JW]
theorem TX{l:Br}(h:Er l)(a:CL):Er (turnD l a):=by
 unfold turnD;split
 ·exact Mc h _
 ·exact VU _ (Mc (Mc h _) _) (OU _ _ _)
theorem TY(l:Br)(s:AlJ):(H0 l s).length<=l.length:=List.length_filter_le _ _
theorem Yn(l:Br)(s:AlJ)(k:Nat):(G3 l s k).length=l.length+1:=by
 unfold G3;have h:(l.takeWhile (fun e=>Agl e.1 s)++l.dropWhile (fun e=>Agl e.1 s)).length=l.length:=by rw[Aib]
 rw[Ae9]at h;rw[Ae9,AfA];omega
theorem OV(l:Br)(a:CL):(turnD l a).length<=l.length+1:=by
 have h1:=TY l a.frm;have h2:=TY (H0 l a.frm) a.to;unfold turnD;split
 ·omega
 ·rw[Yn];omega
theorem Js{l:Br}{s:AlJ}{e:AlJ × Nat}(h:e∈H0 l s):e∈l:=(List.mem_filter.1 h).1
theorem Yo{l:Br}{s:AlJ}{k:Nat}{e:AlJ × Nat}(h:e∈G3 l s k):e∈l\/e=(s,k):=by
 unfold G3 at h;rcases Afy.1 h with h | h
 ·exact .inl ((Air _).subset h)
 ·rcases AfT.1 h with h | h
  ·exact .inr h
  ·exact .inl ((Ais _).subset h)
theorem G4{l:Br}{a:CL}{e:AlJ × Nat}(h:e∈turnD l a):e∈l\/(a.to.length≠0/\e=(a.to,a.file)):=by
 unfold turnD at h;split at h
 ·exact .inl (Js h)
 ·rename_i hn
  rcases Yo h with h | h
  ·exact .inl (Js (Js h))
  ·exact .inr ⟨hn,h⟩
structure Ad where
 quota:Nat
 files:List (AlJ × Nat)
 now:Br
 kept:Br
 acts:List CL
 refused:Nat
 arm:Nat
 down:Bool
def Bg(s:AlJ):Bool:=decide (1<=s.length)&&decide (s.length<=80)
def CP(d:Ad)(a b:AlJ):Nat:=if d.down=true then 9 else if Bg a=true/\Bg b=true then 0 else 10
def AG(d:Ad)(k:Nat):AlJ × Nat:=d.files.getD k ([],0)
def usedD(d:Ad):Nat:=(d.now.map fun e=>(AG d e.2).1.length).sum
def CI(d:Ad):Ad × Bool:=if d.arm=0 then(d,false)else({ d with arm:=d.arm-1,down:=decide (d.arm-1=0) },decide (d.arm-1=0))
def turnedD(d:Ad)(a:CL):Ad:= { d with now:=turnD d.now a,acts:=d.acts++ [a] }
def Cg(d:Ad)(s b:AlJ):Ad:=
 match Ao d.now s with
 | some k=> { d with files:=d.files.set k ((AG d k).1++b,(AG d k).2) }
 | none=> { turnedD d ⟨[],s,d.files.length⟩with files:=d.files++ [(b,0)] }
def A3(d:Ad)(s b:AlJ):Ad × Nat:=
 if CP d s s≠0 then(d,CP d s s)
 else if d.quota<usedD d+b.length then({ d with refused:=d.refused+1 },8)
 else if(CI d).2=true then((CI d).1,9)else(Cg (CI d).1 s b,0)
def FD(d:Ad)(a b:AlJ):Except Nat Nat:=if CP d a b≠0 then .error (CP d a b)else match Ao d.now a with | some k=> .ok k | none=> .error 4
def DZ(d:Ad)(f:Ad->Ad):Ad × Nat:=if(CI d).2=true then((CI d).1,9)else(f (CI d).1,0)
def BD(d:Ad)(s:AlJ):Ad × Nat:=
 match FD d s s with
 | .error e=>(d,e)
 | .ok k=>DZ d fun d=> { d with files:=d.files.set k ((AG d k).1,(AG d k).1.length),kept:=d.now,acts:= [] }
def Bx(d:Ad)(s:AlJ):Ad × Nat:=
 match FD d s s with
 | .error e=>(d,e)
 | .ok k=>DZ d fun d=>turnedD d ⟨s,[],k⟩
def Ar(d:Ad)(s:AlJ):AlJ × Nat:=
 match FD d s s with
 | .error e=>([],e)
 | .ok k=>((AG d k).1,0)
def AF(d:Ad):List AlJ:=if d.down=true then []else d.now.map AfB
def B6(l:List Int)(i n:Nat):Nat:=if i<l.length then(AgO (l.getD i 0) ((n:Nat):Int)).toNat else 0
def AS(d:Ad)(l:List Int):Br:=(d.acts.take (B6 l 0 (d.acts.length+1))).foldl turnD d.kept
def Em(d:Ad)(l:List Int)(i:Nat)(k:Nat):AlJ × Nat:=
 let n:=(AG d k).2+B6 l (i+1) ((AG d k).1.length-(AG d k).2+1)
 ((AG d k).1.take n,n)
def Dt(l:Br):Br:=l.mapIdx fun i e=>(e.1,i)
def crashD(d:Ad)(l:List Int):Ad:=
 { quota:=d.quota,files:=(AS d l).mapIdx (fun i e=>Em d l i e.2),now:=Dt (AS d l),kept:=Dt (AS d l),acts:= [],refused:=d.refused,arm:=0,down:=false }
open Go.WideElems (Fit rd rg rg_of)
open Go.WideShapes (sorted_perm)
open Go.MapKept Go.WideShapes
theorem Aag{es:List AgY}:(∀e∈es,∃a,e.key=St a)->∃ks:List AlJ,es.map (·.key)=ks.map St:=by
 induction es with
 | nil=>intro _;exact⟨[],rfl⟩
 | cons e r ih=>
  intro h;obtain⟨a,ha⟩:=h e AfX;obtain⟨ks,hk⟩:=ih fun x hx=>h x (AfY _ hx);exact⟨a :: ks,by rw[AfG,AfG,ha,hk]⟩
theorem C4{a b:AlJ}(h:St a=St b):a=b:=by simpa using h
theorem VV{P:AfD}{k:Afa}(hk:P.underlying k=some .string){a:AlJ}(ha:a.length<=maxLen):keyOf P k (St a)=some (.string a):=by
 simp[keyOf,hk,mapKey];exact ha
abbrev It(_:Ae2):Option (DataW Unit × List MemPlace):=some (.nil,[])
theorem MapF.owns{β:Type}{P:AfD}{k:Afa}(hk:P.underlying k=some .string){ev:β->Ae2}{D:AlJ->Prop}(hD:∀a,D a->a.length<=maxLen){w:Ae3}{b:Nat}{G:AlJ->Option β}(h:MapF St ev D w b G){keys:List AlJ}(hn:keys.Nodup)(hG:∀s,(G s).isSome=true↔s∈keys)(hmax:keys.length<=maxLen):
  ∃D0:DataW Unit,w.ownsMap P k It b keys.length D0/\(strKeys D0).Perm keys/\Maps.size D0=keys.length:=by
 obtain⟨es,c,hb,H,hS⟩:=h;obtain⟨ks,hks⟩:=Aag (es:=es) fun e he=>by obtain⟨a,y,-,h2,-,-⟩:=H.ent e he;exact⟨a,h2⟩
 have hnd:ks.Nodup:=by
  have h:=H.keys;rw[hks]at h;exact AhD St (fun a b hne e=>hne (by rw[e])) h
 have hmem:∀s,s∈ks↔(G s).isSome=true:=fun s=>by
  constructor
  ·intro hs;have h1:St s∈es.map (·.key):=by rw[hks];exact Ahr hs
   obtain⟨e,he,f⟩:=AfO.1 h1;obtain⟨a,y,-,h2,-,h4⟩:=H.ent e he;obtain rfl:a=s:=C4 (h2.symm.trans f);rw[h4];rfl
  ·intro hs;obtain⟨y,hy⟩:=Option.isSome_iff_exists.1 hs;obtain⟨-,e,he,f⟩:=H.all s y hy;have h1:St s∈es.map (·.key):=AfO.2 ⟨e,he,f⟩;rw[hks]at h1;obtain⟨a,ha,g⟩:=AfO.1 h1
   rwa [<-C4 g]
 have hperm:ks.Perm keys:=(AhW hnd hn).2 fun s=>(hmem s).trans (hG s);have hlen:es.length=keys.length:=by
  have h1:=congrArg List.length hks;rw[Afu,Afu]at h1;rw[h1,hperm.length_eq]
 have hrd:∀x∈es,∃a,x.key=St a/\rd P k It x=some (.string a, .nil):=fun x hx=>by
  obtain⟨a,y,ha,h2,-,-⟩:=H.ent x hx;exact⟨a,h2,by unfold Go.WideElems.rd;rw[h2,VV hk (hD a ha)];rfl⟩
 have hF:Fit P k It es.toArray c:=⟨by rw[Afr,hlen];exact hmax,hS,fun x hx=>by
  obtain⟨a,-,h2⟩:=hrd x (by simpa using hx);exact⟨_,h2⟩⟩
 refine⟨.map ((es.toArray.toList.map (rg P k It)).foldr DataW.insert []),⟨es.toArray,c,hb,hF,by rw[Afr,hlen];exact Ae8 _,rfl⟩,?_,?_⟩
 ·have h1:(strKeys (.map ((es.toArray.toList.map (rg P k It)).foldr DataW.insert []))).Perm ((es.map (rg P k It)).map fun p=>strOf p.1):=(sorted_perm _).map _;refine h1.trans ?_;have h2:(es.map (rg P k It)).map (fun p=>strOf p.1)=(es.map (·.key)).map fun v=>match v with | .string s=>s.data.toList | _=> []:=by
   rw[Ah4,Ah4];refine Ali fun x hx=> ?_;obtain⟨a,h3,h4⟩:=hrd x hx;show strOf (rg P k It x).1=_;rw[rg_of h4];simp only[Function.comp,h3,strOf]
  rw[h2,hks,Ah4];have h5:ks.map ((fun v:Ae2=>match v with | .string s=>s.data.toList | _=> [])∘St)=ks:=by
   conv=>rhs;rw[<-List.map_id ks]
   exact Ali fun a _=>rfl
  rw[h5];exact hperm
 ·show((es.toArray.toList.map (rg P k It)).foldr DataW.insert []).length=_;rw[(sorted_perm _).length_eq,Afu,hlen]
section
variable {α β : Type} (ek : α -> Ae2) (ev : β -> Ae2)
def MIt(w:Ae3)(g bm:Nat)(left:List (α × β)):Prop:=
 ∃es clock since seen c0,w.heap[g]? =some (.mapIter (some bm) since seen c0)/\w.heap[bm]? =some (.map es clock)/\MapKept.Stamped es clock/\(∀x∈es.toList,x.born<since)/\since<=c0/\since<=clock/\((leftOf es seen).toList.map fun e=>(e.key,e.val)).Perm (left.map fun p=>(ek p.1,ev p.2))
def ZF(w:Ae3)(g bm:Nat)(a:α)(y:β):Prop:=
 ∃(es:Array AgY) (clock since:Nat) (seen:Array Nat) (e:AgY),w.heap[g]? =some (.mapIter (some bm) since (seen.push e.born) clock)/\w.heap[bm]? =some (.map es clock)/\(es.toList.map (·.born)).Nodup/\e∈es.toList/\e.key=ek a/\e.val=ev y
end
def Abv(w:Ae3)(g:Nat):Nat:=match w.heap[g]? with
 | some (.mapIter (some bm) _ seen _)=>(match w.heap[bm]? with | some (.map es _)=>(leftOf es seen).size | _=>0)
 | _=>0
theorem AbY{α β:Type}{ek:α->Ae2}{ev:β->Ae2}{w:Ae3}{g bm:Nat}{left:List (α × β)}(h:MIt ek ev w g bm left):Abv w g=left.length:=by
 obtain⟨es,clock,since,seen,c0,hg,hb,-,-,-,-,hp⟩:=h;have:=hp.length_eq;rw[Afu,Afu]at this;unfold Abv;rw[hg];simp only[hb];rw[<-this];simp
theorem MIt.lt{α β:Type}{ek:α->Ae2}{ev:β->Ae2}{w:Ae3}{g bm:Nat}{left:List (α × β)}(h:MIt ek ev w g bm left):g<w.heap.size:=by
 obtain⟨es,clock,since,seen,c0,hg,-⟩:=h;exact(Afz.1 hg).1
theorem MX{e:AgY}:∀ {l:List AgY},(l.map (·.born)).Nodup->e∈l->l.Perm (e :: l.filter fun x=> !(x.born==e.born))
 | [],_,h=>by cases h
 | x :: l,hn,h=>by
  have hn' :=List.nodup_cons.1 hn;rcases AfT.1 h with rfl | h
  ·have hf:l.filter (fun x=> !(x.born==e.born))=l:=AiQ.2 fun y hy=>by
    have:y.born≠e.born:=fun q=>hn'.1 (AfO.2 ⟨y,hy,q⟩)
    simpa using this
   rw[Ajd (by simp),hf]
  ·have hx:x.born≠e.born:=fun q=>hn'.1 (AfO.2 ⟨e,h,q.symm⟩);rw[Aje (by simpa using hx)];exact((MX hn'.2 h).cons x).trans (List.Perm.swap _ _ _)
theorem TZ(es:Array AgY)(seen:Array Nat)(b:Nat):(leftOf es (seen.push b)).toList=(leftOf es seen).toList.filter fun x=> !(x.born==b):=by
 unfold leftOf;simp only[AjG,List.filter_filter];refine List.filter_congr fun x _=> ?_;rw[Bool.eq_iff_iff];simp[and_comm]
theorem R2{es:Array AgY}{seen:Array Nat}(h:(es.toList.map (·.born)).Nodup):((leftOf es seen).toList.map (·.born)).Nodup:=by
 unfold leftOf;rw[AjG];exact(List.filter_sublist.map _).nodup h
section
variable {P : AfD} {K : Ae2 -> Ae3 -> Prop} {ρ : Ae} {w : Ae3} {d : Option Tmp} {ty : Afa} {pos : String} {af : Array Edge} {gd : Option (Nat × Bool)}
variable {α β : Type} {ek : α -> Ae2} {ev : β -> Ae2} {D : α -> Prop} {b : Nat} {G : α -> Option β} {t Kt E : Afa}
theorem AcA(hi:∀a c,ek a=ek c->a=c)(ht:P.underlying t=some (.map Kt E)){x:Aff}(hx:Aa ρ x = .map (some b))(h:MapF ek ev D w b G){ps:List (α × β)}(hn:(ps.map AfB).Nodup)(hG:∀a y,G a=some y↔(a,y)∈ps) 
  (hk:∀n w',w.heap.size=n->MIt ek ev w' n b ps->Ext w w' ->w'.heap.size=n+1->K (.pointer (some ⟨n,0,none⟩)) w'):Yk P K ((execOp (Aa ρ) ⟨d, .range t x,ty,pos,af,gd⟩).run P w):=by
 have hlt:=h.lt;obtain⟨es,c,hb,H,hS⟩:=h;have hr:(execOp (Aa ρ) ⟨d, .range t x,ty,pos,af,gd⟩).run P w = .ok (.value (.pointer (some ⟨w.heap.size,0,none⟩))) (w.alloc (.mapIter (some b) c #[] c)):=by
  unfold execOp;simp only[hx,Afm,run_range_map w t Kt E b _ c ht hb,Afe,Afo]
 rw[hr];refine hk _ _ rfl ⟨es.toArray,c,c,#[],c,heap_alloc_new _ _,(heap_alloc_old _ _ hlt).trans hb,hS,hS.1,Ae8 _,Ae8 _,?_⟩ ((AfV _ _).alloc (Ae8 _) _) (by simp);have h0:(leftOf es.toArray #[]).toList=es:=by
  unfold leftOf;rw[AjG];exact AiQ.2 fun _ _=>by simp
 rw[h0];refine(AhW ?_ ?_).2 fun q=> ?_
 ·exact AhD (S:=(· ≠ ·)) AfB (fun a c hne e=>hne (by rw[e])) (by rw[Ah4];exact H.keys)
 ·refine Ajf _ (fun p q hne e=>hne ?_) (AhD (S:=(· ≠ ·)) (R:=fun p q:α × β=>p.1≠q.1) AfB (fun _ _ h=>h) hn);exact hi _ _ (congrArg AfB e)
 ·constructor
  ·intro hq;obtain⟨e,he,rfl⟩:=AfO.1 hq;obtain⟨a,y,-,h2,h3,h4⟩:=H.ent e he;exact AfO.2 ⟨(a,y),(hG a y).1 h4,by rw[h2,h3]⟩
  ·intro hq;obtain⟨p,hp,rfl⟩:=AfO.1 hq;have hg:=(hG p.1 p.2).2 hp;obtain⟨-,e,he,hek⟩:=H.all p.1 p.2 hg;obtain⟨a,y,-,h2,h3,h4⟩:=H.ent e he;have ha:a=p.1:=hi _ _ (h2.symm.trans hek);rw[ha,hg]at h4;cases h4;exact AfO.2 ⟨e,he,by rw[hek,h3]⟩
theorem AcL{x:Aff}{g bm:Nat}{left:List (α × β)}(hx:Aa ρ x = .pointer (some ⟨g,0,none⟩))(h:MIt ek ev w g bm left) 
  (h0:left= []->K (.tuple #[.bool false]) w) (h1:∀a y rest w',left.Perm ((a,y) :: rest)->MIt ek ev w' g bm rest->ZF ek ev w' g bm a y->w.grownBy w' (some g)->w'.heap.size=w.heap.size->K (.tuple #[.bool true,ek a,ev y]) w'):
  Yk P K ((execOp (Aa ρ) ⟨d, .next x false,ty,pos,af,gd⟩).run P w):=by
 obtain⟨es,clock,since,seen,c0,hg,hb,hS,hold,hsc,hck,hp⟩:=h;have hgl:=(Afz.1 hg).1;have hne:bm≠g:=fun e=>by rw[e,hg]at hb;cases hb
 have hlp:=hp.length_eq;rw[Afu,Afu]at hlp;have hL:(leftOf es seen).toList.length=(leftOf es seen).size:=by simp
 by_cases hz:(leftOf es seen).size=0
 ·have hr:(AkZ (.pointer (some ⟨g,0,none⟩)) false ty).run P w = .ok (.tuple #[.bool false]) w:=by
   simp only[AkZ,getObj,Afm,Aju,hg,hb,Af1,next_test_false seen es since c0 hold hsc,AhJ,if_false];unfold leftOf at hz;have hz' :Alw (fun e=> !seen.contains e.born) es = #[]:=Array.eq_empty_of_size_eq_zero hz;rw[hz'];simp[choose,Aju,Question.forced]
  unfold execOp;simp only[hx,hr,Afm,Afe,Afo];exact h0 (AfN (by omega))
 ·obtain⟨e,he,w1,hw1,hsz1,hr⟩:∃e∈(leftOf es seen).toList,∃w1:Ae3,w.grownBy w1 none/\w1.heap=w.heap/\(AkZ (.pointer (some ⟨g,0,none⟩)) false ty).run P w = .ok (.tuple #[.bool true,e.key,e.val]) { w1 with heap:=w1.heap.setIfInBounds g (.mapIter (some bm) since (seen.push e.born) clock) } :=by
   simp only[AkZ,getObj,Afm,Aju,hg,hb,Af1,next_test_false seen es since c0 hold hsc,AhJ,if_false];unfold leftOf at hz ⊢;have hmem:∀x∈(Alw (fun e=> !seen.contains e.born) es).toList,x.born<since:=fun x hx=>hold x (by simp at hx ⊢;exact hx.1)
   generalize Alw (fun e=> !seen.contains e.born) es=L at hmem hz ⊢
   have l:L.filter (fun x=>decide (x.born<since))=L:=Array.filter_eq_self.2 (fun x hx=>by simpa using hmem x (by simpa using hx));have m:L.filter (fun x=>decide (x.born>=since)) = #[]:=by
    rw[Array.filter_eq_empty_iff];intro x hx;have:=hmem x (by simpa using hx);simp;omega
   simp only[l,m,Array.append_empty];have hne' :L.isEmpty=false:=by simp[Array.isEmpty,hz]
   simp only[hne',AhJ,if_false,Array.empty_append,Array.size_map];have hch:∃(j:Nat) (w1:Ae3),j<L.size/\w.grownBy w1 none/\w1.heap=w.heap/\(choose (Question.mapNext L.size)).run P w = .ok j w1:=by
    by_cases hf:L.size<=1
    ·exact⟨0,w,by omega,Agf _ _,rfl,by simp[choose,Aju,Question.forced,hf]⟩
    ·exact⟨_,w.drew,Nat.mod_lt _ (by omega),(AeW w undef).drew.by_,rfl,by
      simp only[choose,Aju,Question.forced,decide_eq_true_eq,hf,if_false,Question.cut];rfl⟩
   obtain⟨j,w1,hj,hal,hwh,hrun⟩:=hch;refine⟨L[j],by simp,w1,hal,hwh,?_⟩;simp only[hrun,Array.getElem?_map,Array.getElem?_eq_getElem hj,Option.map_some,Afm,Af1,setObj,Aju,hwh,hg];rfl
  have hmk:(e.key,e.val)∈left.map fun p=>(ek p.1,ev p.2):=hp.mem_iff.1 (Ahr (f:=fun e:AgY=>(e.key,e.val)) he);obtain⟨p,hpm,hpe⟩:=AfO.1 hmk;obtain⟨rest,hrest⟩:∃rest,left.Perm (p :: rest):=by
   obtain⟨s,t,hst⟩:=List.append_of_mem hpm;exact⟨s++t,by rw[hst];exact List.perm_middle⟩
  have b:ek p.1=e.key:=congrArg AfB hpe;have c:ev p.2=e.val:=congrArg Prod.snd hpe;unfold execOp;simp only[hx,hr,Afm,Afe,Afo];rw[<-b,<-c];have hgr:w.grownBy { w1 with heap:=w1.heap.setIfInBounds g (.mapIter (some bm) since (seen.push e.born) clock) } (some g):=
   ⟨hw1.os,hw1.tape,hw1.output,by simp[hsz1],fun i _ hi=>by rw[hsz1];simp only[AgT];rw[if_neg (fun q=>hi (by rw[q]))]⟩
  have k:({ w1 with heap:=w1.heap.setIfInBounds g (.mapIter (some bm) since (seen.push e.born) clock) } :Ae3).heap[bm]? =some (.map es clock):=by
   simp only[hsz1,AgT];rw[if_neg (fun q=>hne q.symm)];exact hb
  have hes:e∈es.toList:=by have:=he;unfold leftOf at this;simp at this ⊢;exact this.1
  refine h1 p.1 p.2 rest _ hrest ⟨es,clock,since,seen.push e.born,clock,by simp[hsz1,hgl],k,hS,hold,hck,hck,?_⟩ ⟨es,clock,since,seen,e,by simp[hsz1,hgl],k,hS.2.1,hes,b.symm,c.symm⟩ hgr (by simp[hsz1])
  ·have h2:=(MX (R2 (seen:=seen) hS.2.1) he).map fun e:AgY=>(e.key,e.val);rw[<-TZ]at h2;have h3:=(h2.symm.trans hp).trans (hrest.map fun p=>(ek p.1,ev p.2));rw[AfG,AfG,<-hpe]at h3;exact h3.cons_inv
theorem Acf{x:Aff}{g bm:Nat}{left:List (α × β)}(hx:Aa ρ x = .pointer (some ⟨g,0,none⟩))(h:MIt ek ev w g bm left)(h0:left= [])(hk:K (.tuple #[.bool false]) w):
  Yk P K ((execOp (Aa ρ) ⟨d, .next x false,ty,pos,af,gd⟩).run P w):=
 AcL hx h (fun _=>hk) fun a y rest w' hp _ _ _ _=>by rw[h0]at hp;exact absurd hp.length_eq (by simp)
theorem Acn{x:Aff}{g bm:Nat}{left:List (α × β)}(hx:Aa ρ x = .pointer (some ⟨g,0,none⟩))(h:MIt ek ev w g bm left)(h0:left≠ []) 
 (hk:∀a y rest w',left.Perm ((a,y) :: rest)->MIt ek ev w' g bm rest->ZF ek ev w' g bm a y->w.grownBy w' (some g)->w'.heap.size=w.heap.size->K (.tuple #[.bool true,ek a,ev y]) w'):
 Yk P K ((execOp (Aa ρ) ⟨d, .next x false,ty,pos,af,gd⟩).run P w):=AcL hx h (fun e=>absurd e h0) hk
theorem AcB{x:Aff}{g bm:Nat}{a:α}{y:β}(hx:Aa ρ x = .pointer (some ⟨g,0,none⟩))(h:ZF ek ev w g bm a y)(hk:K (.tuple #[ek a,ev y]) w):
  Yk P K ((execOp (Aa ρ) ⟨d, .entry x,ty,pos,af,gd⟩).run P w):=by
 obtain⟨es,clock,since,seen,e,hg,hb,hn,he,h1,h2⟩:=h;have hf:es.find? (·.born==e.born)=some e:=by rw[<-Array.find?_toList];exact find_born e es.toList hn he
 have hr:(Instr.entry (.pointer (some ⟨g,0,none⟩))).run P w = .ok (.tuple #[e.key,e.val]) w:=by
  simp only[Instr.entry,getObj,Afm,Aju,hg,hb,Af1,Array.back?_push,bne_self_eq_false,AhJ,if_false,hf];rfl
 unfold execOp;simp only[hx,hr,Afm,Afe,Afo];rw[h1,h2];exact hk
end
structure DirOk (n : Nat) (l : Br) : Prop where
 sort:Er l
 num:∀e∈l,e.2<n
 may:∀e∈l,Bg e.1=true
structure ActOk (n : Nat) (a : CL) : Prop where
 num:a.file<n
 may:a.to.length≠0->Bg a.to=true
 frm:a.frm.length<=80
structure DOk (d : Ad) : Prop where
 now:DirOk d.files.length d.now
 kept:DirOk d.files.length d.kept
 acts:∀a∈d.acts,ActOk d.files.length a
 syn:∀x∈d.files,x.2<=x.1.length
theorem DirOk.nil(n:Nat):DirOk n []:=⟨Ahc,fun _ h=>(by cases h),fun _ h=>(by cases h)⟩
abbrev AeX:=@DirOk.nil
theorem DirOk.mono{n m:Nat}{l:Br}(h:DirOk n l)(hn:n<=m):DirOk m l:=⟨h.sort,fun e he=>AfZ (h.num e he) hn,h.may⟩
theorem ActOk.mono{n m:Nat}{a:CL}(h:ActOk n a)(hn:n<=m):ActOk m a:=⟨AfZ h.num hn,h.may,h.frm⟩
theorem DirOk.turn{n:Nat}{l:Br}{a:CL}(h:DirOk n l)(ha:ActOk n a):DirOk n (turnD l a):=
 ⟨TX h.sort a,fun e he=>(G4 he).elim (h.num e) fun⟨_,q⟩=>q▸ha.num,fun e he=>(G4 he).elim (h.may e) fun⟨q,r⟩=>r▸ha.may q⟩
theorem DirOk.fold{n:Nat}:∀ {acs:List CL} {l:Br},DirOk n l->(∀a∈acs,ActOk n a)->DirOk n (acs.foldl turnD l)
 | [],_,h,_=>h
 | a :: r,l,h,ha=>DirOk.fold (acs:=r) (l:=turnD l a) (h.turn (ha a AfX)) fun b hb=>ha b (AfY _ hb)
theorem DirOk.look{n:Nat}{l:Br}(h:DirOk n l){s:AlJ}{k:Nat}(hk:Ao l s=some k):k<n/\Bg s=true:=⟨h.num _ (Db hk),h.may _ (Db hk)⟩
theorem B1{s:AlJ}(h:Bg s=true):1<=s.length/\s.length<=80:=by
 unfold Bg at h
 simpa using h
theorem DirOk.noEmpty{n:Nat}{l:Br}(h:DirOk n l):Ao l []=none:=Ho.2 fun e he q=>by
 have:=B1 (h.may e he);rw[q]at this;simp at this
theorem Jt{d:Ad}{k:Nat}(h:k<d.files.length):AG d k∈d.files:=by
 unfold AG;rw[Ae6,Afb h];exact Agv h
theorem DOk.sync_le{d:Ad}(h:DOk d)(k:Nat):(AG d k).2<=(AG d k).1.length:=by
 by_cases hk:k<d.files.length
 ·exact h.syn _ (Jt hk)
 ·unfold AG;rw[Ae6,List.getElem?_eq_none (by omega)];exact Ae8 0
theorem DOk.turned{d:Ad}(h:DOk d){a:CL}(ha:ActOk d.files.length a):DOk (turnedD d a):=
 ⟨h.now.turn ha,h.kept,fun b hb=>(Afy.1 hb).elim (h.acts b) fun q=>Afh.1 q▸ha,h.syn⟩
theorem DOk.files{d:Ad}(h:DOk d)(fs:List (AlJ × Nat))(hl:d.files.length<=fs.length)(hs:∀x∈fs,x.2<=x.1.length):DOk { d with files:=fs } :=
 ⟨h.now.mono hl,h.kept.mono hl,fun a ha=>(h.acts a ha).mono hl,hs⟩
theorem DOk.setFile{d:Ad}(h:DOk d)(k:Nat)(x:AlJ × Nat)(hx:x.2<=x.1.length):DOk { d with files:=d.files.set k x } :=
 h.files _ (by rw[AgW];exact Ae8 _) fun y hy=>(List.mem_or_eq_of_mem_set hy).elim (h.syn y) fun q=>q▸hx
theorem DOk.newFile{d:Ad}(h:DOk d)(x:AlJ × Nat)(hx:x.2<=x.1.length):DOk { d with files:=d.files++ [x] } :=
 h.files _ (by rw[Ae9];exact Nat.le_add_right _ _) fun y hy=>(Afy.1 hy).elim (h.syn y) fun q=>Afh.1 q▸hx
theorem DOk.add{d:Ad}(h:DOk d){s:AlJ}(b:AlJ)(hs:Bg s=true):DOk (Cg d s b):=by
 unfold Cg;split
 ·rename_i k hk
  refine h.setFile k _ ?_;have:=h.sync_le k;simp only[Ae9];omega
 ·have h1:=h.newFile (b,0) (AfC _);have h2:=h1.turned (a:=⟨[],s,d.files.length⟩) ⟨by simp,fun _=>hs,AfC _⟩;exact h2
theorem Iu(d:Ad):(CI d).1.files=d.files/\(CI d).1.now=d.now/\(CI d).1.kept=d.kept/\(CI d).1.acts=d.acts/\(CI d).1.quota=d.quota/\(CI d).1.refused=d.refused:=by
 unfold CI;split <;> exact⟨rfl,rfl,rfl,rfl,rfl,rfl⟩
theorem DOk.synced{d:Ad}(h:DOk d)(k:Nat):DOk { d with files:=d.files.set k ((AG d k).1,(AG d k).1.length),kept:=d.now,acts:= [] } :=by
 have h1:=h.setFile k ((AG d k).1,(AG d k).1.length) (Ae8 _);exact⟨h1.now,h1.now,fun a ha=>(by cases ha),h1.syn⟩
theorem VW{d:Ad}{s t:AlJ}(h:CP d s t=0):d.down=false/\Bg s=true/\Bg t=true:=by
 unfold CP at h;split at h
 ·cases h
 ·rename_i hd
  split at h
  ·rename_i hm
   exact⟨Aj5.2 hd,hm⟩
  ·cases h
theorem KF(l:List Int)(i:Nat){n:Nat}(hn:0<n):B6 l i n<n:=by
 unfold B6;split
 ·have h1:=Ajy (l.getD i 0) (show((n:Nat):Int)≠0 by omega);have h2:=Int.emod_lt_of_pos (l.getD i 0) (show(0:Int)<((n:Nat):Int) by omega);show(AgO (l.getD i 0) ((n:Nat):Int)).toNat<n;have h1:0<=AgO (l.getD i 0) ((n:Nat):Int):=h1;have h2:AgO (l.getD i 0) ((n:Nat):Int)<((n:Nat):Int):=h2;omega
 ·exact hn
theorem Iv{d:Ad}(h:DOk d)(l:List Int)(i k:Nat):(Em d l i k).1.length=(Em d l i k).2/\(Em d l i k).2<=(AG d k).1.length:=by
 have h1:=h.sync_le k;have h2:=KF l (i+1) (n:=(AG d k).1.length-(AG d k).2+1) (by omega);unfold Em;simp only[Afi];omega
theorem KG(l:Br):(Dt l).map AfB=l.map AfB:=by
 unfold Dt;exact List.ext_getElem (by simp) fun i h1 h2=>by simp
theorem Ua{l:Br}(h:Er l):Er (Dt l):=by
 have h1:((Dt l).map AfB).Pairwise fun a b=>Agl a b=true:=by
  rw[KG];exact h.map _ fun _ _ q=>q
 exact AhD AfB (fun _ _ q=>q) h1
theorem DirOk.numbered{n:Nat}{l:Br}(h:DirOk n l):DirOk l.length (Dt l):=
 ⟨Ua h.sort,fun e he=>by
  unfold Dt at he;obtain⟨i,hi,rfl⟩:=Aik.1 he;exact hi,fun e he=>by
  have h1:e.1∈(Dt l).map AfB:=Ahr he;rw[KG]at h1;obtain⟨x,hx,hxe⟩:=AfO.1 h1;rw[<-hxe];exact h.may x hx⟩
theorem DOk.left{d:Ad}(h:DOk d)(l:List Int):DirOk d.files.length (AS d l):=h.kept.fold fun a ha=>h.acts a ((Ajg _ _).subset ha)
theorem DOk.crash{d:Ad}(h:DOk d)(l:List Int):DOk (crashD d l):=by
 have h1:=(h.left l).numbered;refine⟨?_,?_,fun a ha=>(by cases ha),fun x hx=> ?_⟩
 ·show DirOk ((AS d l).mapIdx _).length _;rw[Ai5];exact h1
 ·show DirOk ((AS d l).mapIdx _).length _;rw[Ai5];exact h1
 ·obtain⟨i,hi,rfl⟩:=Aik.1 hx;exact Nat.le_of_eq (Iv h l i _).1.symm
structure Chg (B : Nat -> Prop) (w w' : Ae3) : Prop where
 os:w'.os=w.os
 tape:w'.tape=w.tape
 output:w'.output=w.output
 size:w.heap.size<=w'.heap.size
 blk:∀i,i<w.heap.size->¬B i->w'.heap[i]? =w.heap[i]?
theorem Chg.refl(B:Nat->Prop)(w:Ae3):Chg B w w:=⟨rfl,rfl,rfl,Ae8 _,fun _ _ _=>rfl⟩
abbrev AeF:=@Chg.refl
theorem Chg.trans{B B' :Nat->Prop}{w w1 w2:Ae3}(h:Chg B w w1)(k:Chg B' w1 w2)(hB:∀i,B' i->B i\/w.heap.size<=i):Chg B w w2:=
 ⟨k.os.trans h.os,k.tape.trans h.tape,k.output.trans h.output,Ae7 h.size k.size,fun i hi hn=>by
  have hs:=h.size;rw[k.blk i (by omega) (fun hb=>(hB i hb).elim hn (by omega)),h.blk i hi hn]⟩
theorem Chg.mono{B B' :Nat->Prop}{w w' :Ae3}(h:Chg B w w')(hB:∀i,i<w.heap.size->B i->B' i):Chg B' w w' :=
 ⟨h.os,h.tape,h.output,h.size,fun i hi hn=>h.blk i hi fun hb=>hn (hB i hi hb)⟩
theorem Abd{w w' :Ae3}{r:Option Nat}{B:Nat->Prop}(h:w.grownBy w' r)(hr:∀i,r=some i->B i\/w.heap.size<=i):Chg B w w' :=
 ⟨h.os,h.tape,h.output,h.size,fun i hi hn=>h.block i hi fun e=>(hr i e.symm).elim hn (by omega)⟩
theorem AbD{w w' :Ae3}{B:Nat->Prop}(h:Ext w w'):Chg B w w' :=Abd h.grown fun i e=>by cases e
theorem Chg.ext{w0 w w' :Ae3}{B:Nat->Prop}(hE:Ext w0 w)(h:Chg B w w')(hB:∀i,B i->w0.heap.size<=i):Ext w0 w' :=by
 have h1:=hE.grown;have hs:=hE.size;exact(AfV _ _).grown (⟨h.os.trans h1.os,h.tape.trans h1.tape,h.output.trans h1.output,Ae7 hs h.size,fun i hi hn=>by
  rw[h.blk i (by omega) (fun hb=>by have:=hB i hb;omega),h1.block i hi hn]⟩:w0.grownBy w' none) (Ae8 _) (fun _ e=>by cases e)
theorem Dl{base:Nat}{e:Afa}{size:Nat}{v:Ae2}{n:Nat}{xs:List Ae2}{B:Nat->Prop}{w w' :Ae3}(hc:Chg B w w')(h:w.ownsRow base e size v n xs)(hB:∀i,v.ownBlock=some i->¬B i):w'.ownsRow base e size v n xs:=by
 refine⟨h.1,h.2.imp (fun x=>x) fun⟨g,cap,cur,a,c,b,r⟩=>⟨g,cap,cur,a,c,(hc.blk g (bl b) (hB g (by rw[a];rfl))).trans b,r⟩⟩
structure Dk where
 g:Nat
 mn:Nat
 ml:Nat
 va:Ae2
 F:Nat->Nat
 V:Nat->Ae2
def B7(H:Dk)(n:Nat)(i:Nat):Prop:=i=H.g\/i=H.mn\/i=H.ml\/H.va.ownBlock=some i\/∃k,k<n/\(i=H.F k\/(H.V k).ownBlock=some i)
structure FileAt (base : Nat) (w : Ae3) (f : Nat) (v : Ae2) (x : AlJ × Nat) : Prop where
 blk:w.heap[f]? =some (.cells ([v,NI x.2]).toArray 133 (0,0))
 row:w.ownsRow base 5 1 v x.1.length (Ae4 x.1)
 lo:base<=f
structure FilesAt (base : Nat) (w : Ae3) (F : Nat -> Nat) (V : Nat -> Ae2) (fs : List (AlJ × Nat)) : Prop where
 at_:∀k,k<fs.length->FileAt base w (F k) (V k) (fs.getD k ([],0))
 inj:∀i j,i<fs.length->j<fs.length->F i=F j->i=j
 apart:∀i j,i<fs.length->j<fs.length->i≠j->∀x,(V i).ownBlock=some x->(V j).ownBlock≠some x
theorem FileAt.keep{base:Nat}{w w' :Ae3}{f:Nat}{v:Ae2}{x:AlJ × Nat}(h:FileAt base w f v x){B:Nat->Prop}(hc:Chg B w w')(h1:¬B f)(h2:∀i,v.ownBlock=some i->¬B i):FileAt base w' f v x:=
 ⟨(hc.blk f (bl h.blk) h1).trans h.blk,Dl hc h.row h2,h.lo⟩
theorem FilesAt.chg{base:Nat}{w w' :Ae3}{F:Nat->Nat}{V:Nat->Ae2}{fs:List (AlJ × Nat)}(h:FilesAt base w F V fs){B:Nat->Prop}(hc:Chg B w w')(hB:∀k,k<fs.length->¬B (F k)/\∀i,(V k).ownBlock=some i->¬B i):FilesAt base w' F V fs:=
 ⟨fun k hk=>(h.at_ k hk).keep hc (hB k hk).1 (hB k hk).2,h.inj,h.apart⟩
def Aah:Prop:=False
def ActAt(w:Ae3)(F:Nat->Nat)(v:Ae2)(a:CL):Prop:=
 (∃bf bn,v = .func (.func 141) #[] #[PQ bf 0,PQ bn 0]/\w.heap[bf]? =some (.cells ([PQ (F a.file) 0]).toArray 113 (0,0))/\w.heap[bn]? =some (.cells ([St a.to]).toArray 9 (0,0))/\a.frm= []/\a.to.length≠0) \/
 (Aah/\∃bs bf bn,v = .func (.func 0) #[] #[PQ bs 0,PQ bf 0,PQ bn 0]/\w.heap[bs]? =some (.cells ([St a.frm]).toArray 9 (0,0))/\w.heap[bf]? =some (.cells ([PQ (F a.file) 0]).toArray 113 (0,0))/\w.heap[bn]? =some (.cells ([St a.to]).toArray 9 (0,0))/\a.to.length≠0) \/
 (∃bn,v = .func (.func 95) #[] #[PQ bn 0]/\w.heap[bn]? =some (.cells ([St a.frm]).toArray 9 (0,0))/\a.to= [])
def TyB(w:Ae3)(i:Nat):Prop:=(∃es c,w.heap[i]? =some (.map es c))\/∃cs t fr,w.heap[i]? =some (.cells cs t fr)/\(t=107\/t=133\/t=5\/t=131)
theorem TyB.off{w:Ae3}{i:Nat}{cs:Array Ae2}{t:Afa}{fr:Nat × Nat}(h:w.heap[i]? =some (.cells cs t fr))(h1:t≠107)(h2:t≠133)(h3:t≠5)(h4:t≠131):¬TyB w i:=by
 rintro(⟨es,c,e⟩ | ⟨cs',t',fr',e,k⟩)
 ·rw[h]at e;cases e
 ·rw[h]at e;cases e;rcases k with k | k | k | k
  ·exact h1 k
  ·exact h2 k
  ·exact h3 k
  ·exact h4 k
theorem ActAt.chg{w w' :Ae3}{F F' :Nat->Nat}{v:Ae2}{a:CL}{B:Nat->Prop}(h:ActAt w F v a)(hc:Chg B w w')(hB:∀i,i<w.heap.size->B i->TyB w i)(hF:F' a.file=F a.file):ActAt w' F' v a:=by
 have k:∀ {b:Nat} {cs:Array Ae2} {t:Afa} {fr:Nat × Nat},w.heap[b]? =some (.cells cs t fr)->t≠107->t≠133->t≠5->t≠131->w'.heap[b]? =some (.cells cs t fr):=fun e h1 h2 h3 h4=>(hc.blk _ (bl e) fun q=>TyB.off e h1 h2 h3 h4 (hB _ (bl e) q)).trans e;rcases h with ⟨bf,bn,e,h1,h2,h3,h4⟩ | ⟨hm,bs,bf,bn,e,h1,h2,h3,h4⟩ | ⟨bn,e,h1,h2⟩
 ·exact .inl ⟨bf,bn,e,by rw[hF];exact k h1 (by decide) (by decide) (by decide) (by decide),k h2 (by decide) (by decide) (by decide) (by decide),h3,h4⟩
 ·exact .inr (.inl ⟨hm,bs,bf,bn,e,k h1 (by decide) (by decide) (by decide) (by decide),by rw[hF];exact k h2 (by decide) (by decide) (by decide) (by decide),k h3 (by decide) (by decide) (by decide) (by decide),h4⟩)
 ·exact .inr (.inr ⟨bn,e,k h1 (by decide) (by decide) (by decide) (by decide),h2⟩)
abbrev pF(F:Nat->Nat)(k:Nat):Ae2:=PQ (F k) 0
abbrev Nm(s:AlJ):Prop:=s.length<=80
abbrev Ju(q mn ml:Nat)(va:Ae2)(rf ar:Nat)(dn:Bool):List Ae2:= [NI q, .map (some mn), .map (some ml),va,NI rf,NI ar, .bool dn]
structure OW (base : Nat) (w : Ae3) (va : Ae2) (F : Nat -> Nat) (acs : List CL) (vs : List Ae2) : Prop where
 row:w.ownsRow base 131 1 va vs.length vs
 len:vs.length=acs.length
 at_:∀i,i<acs.length->ActAt w F (vs.getD i undef) (acs.getD i ⟨[],[],0⟩)
structure DkS (base : Nat) (w : Ae3) (H : Dk) (D : Ad) : Prop where
 blk:w.heap[H.g]? =some (.cells (Ju D.quota H.mn H.ml H.va D.refused D.arm D.down).toArray 107 (0,0))
 now:MapF St (pF H.F) Nm w H.mn (Ao D.now)
 kept:MapF St (pF H.F) Nm w H.ml (Ao D.kept)
 ne:H.mn≠H.ml
 acts:∃vs,OW base w H.va H.F D.acts vs
 files:FilesAt base w H.F H.V D.files
 ok:DOk D
 lo:base<=H.g/\base<=H.mn/\base<=H.ml
def CR(w:Ae3)(i:Nat):Option Nat:=match w.heap[i]? with | some (.map _ _)=>some 0 | some (.cells _ t _)=>some (t+1) | _=>none
theorem BB{w:Ae3}{i:Nat}{cs:Array Ae2}{t:Afa}{fr:Nat × Nat}(h:w.heap[i]? =some (.cells cs t fr)):CR w i=some (t+1):=by unfold CR;rw[h]
theorem EM{base:Nat}{e:Afa}{size:Nat}{v:Ae2}{n:Nat}{xs:List Ae2}{w:Ae3}(h:w.ownsRow base e size v n xs){i:Nat}(hi:v.ownBlock=some i):CR w i=some (e+1):=by
 rcases h.2 with ⟨rfl,-⟩ | ⟨g,cap,cur,rfl,b,a,-⟩
 ·cases hi
 ·obtain rfl:g=i:=AfJ hi;exact BB a
theorem MapF.tag{α β:Type}{ek:α->Ae2}{ev:β->Ae2}{D:α->Prop}{w:Ae3}{b:Nat}{G:α->Option β}(h:MapF ek ev D w b G):CR w b=some 0:=by
 obtain⟨es,c,h,-⟩:=h;unfold CR;rw[h]
theorem MapF.congr{α β:Type}{ek:α->Ae2}{ev ev' :β->Ae2}{D:α->Prop}{w:Ae3}{b:Nat}{G:α->Option β}(h:MapF ek ev D w b G)(he:∀a y,G a=some y->ev' y=ev y):MapF ek ev' D w b G:=by
 obtain⟨es,c,h1,h2,h3⟩:=h;exact⟨es,c,h1,⟨h2.keys,fun e he' =>by
  obtain⟨a,y,k1,k2,k3,k4⟩:=h2.ent e he';exact⟨a,y,k1,k2,k3.trans (he a y k4).symm,k4⟩,h2.all⟩,h3⟩
theorem MapF.chg{α β:Type}{ek:α->Ae2}{ev:β->Ae2}{D:α->Prop}{w w' :Ae3}{b:Nat}{G:α->Option β}{B:Nat->Prop}(h:MapF ek ev D w b G)(hc:Chg B w w')(hB:¬B b):MapF ek ev D w' b G:=by
 obtain⟨es,c,h1,h2⟩:=h;exact⟨es,c,(hc.blk b (bl h1) hB).trans h1,h2⟩
theorem Chg.keep{B:Nat->Prop}{w w1 w2:Ae3}(h:Chg B w w1)(k:Ext w1 w2):Chg B w w2:=h.trans (B' :=fun _=>False) (AbD k) fun _ h=>h.elim
theorem Chg.set{B:Nat->Prop}{w w1 w2:Ae3}{g:Nat}(h:Chg B w w1)(k:w1.grownBy w2 (some g))(hg:B g\/w.heap.size<=g):Chg B w w2:=h.trans (B' :=fun i=>i=g) (Abd k fun i e=> .inl (AfJ e).symm) fun i e=>e▸hg
abbrev Aeu:=@Chg.set
theorem Chg.grew{B:Nat->Prop}{w w1 w2:Ae3}{v v' :Ae2}(h:Chg B w w1)(k:Grew w1 w2 v v')(hv:∀i,v.ownBlock=some i->B i\/w.heap.size<=i):Chg B w w2:=h.trans (B' :=fun i=>v.ownBlock=some i) (Abd k.by_ fun i e=> .inl e) hv
section
variable {base : Nat} {w w' : Ae3} {H : Dk} {D : Ad}
theorem DkS.tg(h:DkS base w H D):CR w H.g=some (107+1):=BB h.blk
theorem DkS.tF(h:DkS base w H D){k:Nat}(hk:k<D.files.length):CR w (H.F k)=some (133+1):=BB (h.files.at_ k hk).blk
theorem DkS.tV(h:DkS base w H D){k:Nat}(hk:k<D.files.length){i:Nat}(hi:(H.V k).ownBlock=some i):CR w i=some (5+1):=EM (h.files.at_ k hk).row hi
theorem DkS.tA(h:DkS base w H D){i:Nat}(hi:H.va.ownBlock=some i):CR w i=some (131+1):=by
 obtain⟨vs,hv⟩:=h.acts;exact EM hv.row hi
theorem Dx{i:Nat}(h:CR w i=some 0\/CR w i=some (107+1)\/CR w i=some (133+1)\/CR w i=some (5+1)\/CR w i=some (131+1)):TyB w i:=by
 unfold CR at h;cases hb:w.heap[i]? with
 | none=>rw[hb]at h;simp at h
 | some o=>
  rw[hb]at h;cases o with
  | map es c=>exact .inl ⟨es,c,hb⟩
  | cells cs t fr=>
   refine .inr ⟨cs,t,fr,hb,?_⟩;simp only[Option.some.injEq]at h;rcases h with h | h | h | h | h
   ·omega
   ·exact .inl (Nat.succ.inj h)
   ·exact .inr (.inl (Nat.succ.inj h))
   ·exact .inr (.inr (.inl (Nat.succ.inj h)))
   ·exact .inr (.inr (.inr (Nat.succ.inj h)))
  | _=>simp at h
theorem DkS.foot(h:DkS base w H D){i:Nat}(hi:B7 H D.files.length i):TyB w i/\i<w.heap.size/\base<=i:=by
 have lt:∀ {j:Nat} {x:Nat},CR w j=some x->j<w.heap.size:=fun {j x} e=>by
  rcases Nat.lt_or_ge j w.heap.size with q | q
  ·exact q
  ·unfold CR at e;rw[Array.getElem?_eq_none q]at e;cases e
 rcases hi with rfl | rfl | rfl | hi | ⟨k,hk,rfl | hi⟩
 ·exact⟨Dx (.inr (.inl h.tg)),lt h.tg,h.lo.1⟩
 ·exact⟨Dx (.inl h.now.tag),lt h.now.tag,h.lo.2.1⟩
 ·exact⟨Dx (.inl h.kept.tag),lt h.kept.tag,h.lo.2.2⟩
 ·obtain⟨vs,hv⟩:=h.acts;exact⟨Dx (.inr (.inr (.inr (.inr (h.tA hi))))),lt (h.tA hi),(hv.row.lt i hi).1⟩
 ·exact⟨Dx (.inr (.inr (.inl (h.tF hk)))),lt (h.tF hk),(h.files.at_ k hk).lo⟩
 ·exact⟨Dx (.inr (.inr (.inr (.inl (h.tV hk hi))))),lt (h.tV hk hi),((h.files.at_ k hk).row.lt i hi).1⟩
theorem DkS.keepB{B:Nat->Prop}(h:DkS base w H D)(hc:Chg B w w')(hB:∀i,B7 H D.files.length i->¬B i)(hT:∀i,i<w.heap.size->B i->TyB w i):DkS base w' H D:=by
 obtain⟨vs,hv⟩:=h.acts;exact⟨(hc.blk _ (bl h.blk) (hB _ (.inl rfl))).trans h.blk,h.now.chg hc (hB _ (.inr (.inl rfl))),h.kept.chg hc (hB _ (.inr (.inr (.inl rfl)))),h.ne,
  ⟨vs,Dl hc hv.row (fun i hi=>hB i (.inr (.inr (.inr (.inl hi))))),hv.len,fun i hi=>(hv.at_ i hi).chg hc hT rfl⟩,
  h.files.chg hc (fun k hk=>⟨hB _ (.inr (.inr (.inr (.inr ⟨k,hk, .inl rfl⟩)))),fun i hi=>hB i (.inr (.inr (.inr (.inr ⟨k,hk, .inr hi⟩))))⟩),h.ok,h.lo⟩
theorem DkS.keep(h:DkS base w H D)(k:Ext w w'):DkS base w' H D:=h.keepB (B:=fun _=>False) (AbD k) (fun _ _ q=>q) (fun _ _ q=>q.elim)
theorem DkS.setBlk(h:DkS base w H D)(hg:w.grownBy w' (some H.g)){q rf ar:Nat}{dn:Bool}(hb:w'.heap[H.g]? =some (.cells (Ju q H.mn H.ml H.va rf ar dn).toArray 107 (0,0))):DkS base w' H { D with quota:=q,refused:=rf,arm:=ar,down:=dn } :=by
 have hc:Chg (fun i=>i=H.g) w w' :=Abd hg fun i e=> .inl (AfJ e).symm;have hT:∀i,i<w.heap.size->i=H.g->TyB w i:=fun i _ e=>e▸Dx (.inr (.inl h.tg));obtain⟨vs,hv⟩:=h.acts;have ne0:∀ {i x:Nat},CR w i=some x->x≠107+1->i≠H.g:=fun e hx q=>by rw[q,h.tg]at e;exact hx (AfJ e).symm
 exact⟨hb,h.now.chg hc (ne0 h.now.tag (by decide)),h.kept.chg hc (ne0 h.kept.tag (by decide)),h.ne,
  ⟨vs,Dl hc hv.row (fun i hi=>ne0 (h.tA hi) (by decide)),hv.len,fun i hi=>(hv.at_ i hi).chg hc hT rfl⟩,
  h.files.chg hc (fun k hk=>⟨ne0 (h.tF hk) (by decide),fun i hi=>ne0 (h.tV hk hi) (by decide)⟩),⟨h.ok.now,h.ok.kept,h.ok.acts,h.ok.syn⟩,h.lo⟩
def BC{α:Type}(F:Nat->α)(n:Nat)(x:α)(k:Nat):α:=if k=n then x else F k
theorem BW{α:Type}(F:Nat->α){n k:Nat}(x:α)(h:k<n):BC F n x k=F k:=if_neg (by omega)
theorem Ca{α:Type}(F:Nat->α)(n:Nat)(x:α):BC F n x n=x:=if_pos rfl
theorem H4{α:Type}(F:Nat->α){n k:Nat}(x:α)(h:k≠n):BC F n x k=F k:=if_neg h
theorem DkS.newFile(h:DkS base w H D)(hE:Ext w w'){f:Nat}(hf:w.heap.size<=f)(hb:w'.heap[f]? =some (.cells ([.slice none 0 0,NI 0]).toArray 133 (0,0)))(h0:base<=w.heap.size):
  DkS base w' { H with F:=BC H.F D.files.length f,V:=BC H.V D.files.length (.slice none 0 0) } { D with files:=D.files++ [([],0)] } :=by
 have h1:=h.keep hE;obtain⟨vs,hv⟩:=h1.acts;refine⟨h1.blk,h1.now.congr fun a y hy=> ?_,h1.kept.congr fun a y hy=> ?_,h1.ne,⟨vs,hv.row,hv.len,fun i hi=> ?_⟩,⟨fun k hk=> ?_,fun i j hi hj e=> ?_,fun i j hi hj hne x hx=> ?_⟩,h.ok.newFile _ (Ae8 0),h1.lo⟩
 ·show PQ (BC _ _ _ _) 0=_;rw[BW _ _ (h.ok.now.look hy).1]
 ·show PQ (BC _ _ _ _) 0=_;rw[BW _ _ (h.ok.kept.look hy).1]
 ·refine(hv.at_ i hi).chg (B:=fun _=>False) (AeF _ _) (fun _ _ q=>q.elim) (BW _ _ ?_);exact(h.ok.acts _ (by rw[Ae6,Afb hi];exact Agv hi)).num
 ·rw[Ae9,Afs]at hk;by_cases e:k=D.files.length
  ·subst e;show FileAt base w' (BC _ _ _ _) (BC _ _ _ _) _;rw[Ca,Ca,Ae6,AfR (Ae8 _),AgR];exact⟨hb,Af5 _ _ _ 1,by omega⟩
  ·have hk' :k<D.files.length:=by omega
   show FileAt base w' (BC _ _ _ _) (BC _ _ _ _) _;rw[BW _ _ hk',BW _ _ hk',Ae6,AfW hk',<-Ae6];exact h1.files.at_ k hk'
 ·rw[Ae9,Afs]at hi hj;have lt:∀k,k<D.files.length->H.F k<w.heap.size:=fun k hk=>(h.foot (.inr (.inr (.inr (.inr ⟨k,hk, .inl rfl⟩))))).2.1;by_cases ei:i=D.files.length <;> by_cases ej:j=D.files.length
  ·omega
  ·exfalso;have e:BC H.F D.files.length f i=BC H.F D.files.length f j:=e;rw[ei,Ca,BW _ _ (by omega:j<D.files.length)]at e;have:=lt j (by omega);omega
  ·exfalso;have e:BC H.F D.files.length f i=BC H.F D.files.length f j:=e;rw[ej,Ca,BW _ _ (by omega:i<D.files.length)]at e;have:=lt i (by omega);omega
  ·have e:BC H.F D.files.length f i=BC H.F D.files.length f j:=e;rw[BW _ _ (by omega:i<D.files.length),BW _ _ (by omega:j<D.files.length)]at e;exact h.files.inj i j (by omega) (by omega) e
 ·rw[Ae9,Afs]at hi hj;have hx:(BC H.V D.files.length (.slice none 0 0) i).ownBlock=some x:=hx;show(BC H.V D.files.length (.slice none 0 0) j).ownBlock≠some x;by_cases ei:i=D.files.length
  ·rw[ei,Ca]at hx;cases hx
  ·by_cases ej:j=D.files.length
   ·rw[ej,Ca];exact fun q=>by cases q
   ·rw[BW _ _ (by omega:i<D.files.length)]at hx;rw[BW _ _ (by omega:j<D.files.length)];exact h.files.apart i j (by omega) (by omega) hne x hx
theorem DkS.setFile(h:DkS base w H D){k:Nat}(hk:k<D.files.length){v:Ae2}{x:AlJ × Nat}(hx:x.2<=x.1.length)(hc:Chg (fun i=>i=H.F k\/(H.V k).ownBlock=some i) w w')(hf:FileAt base w' (H.F k) v x)(hv:∀i,v.ownBlock=some i->(H.V k).ownBlock=some i\/w.heap.size<=i):
    DkS base w' { H with V:=BC H.V k v } { D with files:=D.files.set k x } :=by
  have hT:∀i,i<w.heap.size->(i=H.F k\/(H.V k).ownBlock=some i)->TyB w i:=fun i _ e=>e.elim (fun e=>e▸Dx (.inr (.inr (.inl (h.tF hk))))) fun e=>Dx (.inr (.inr (.inr (.inl (h.tV hk e)))));obtain⟨vs,hvs⟩:=h.acts;have ne0:∀ {i x:Nat},CR w i=some x->x≠133+1->x≠5+1->¬(i=H.F k\/(H.V k).ownBlock=some i):=fun e h1 h2 q=>q.elim (fun q=>by rw[q,h.tF hk]at e;exact h1 (AfJ e).symm) fun q=>by rw[h.tV hk q]at e;exact h2 (AfJ e).symm
  have off:∀j,j<D.files.length->j≠k->¬(H.F j=H.F k\/(H.V k).ownBlock=some (H.F j))/\∀i,(H.V j).ownBlock=some i->¬(i=H.F k\/(H.V k).ownBlock=some i):=fun j hj hne=>
    ⟨fun q=>q.elim (fun q=>hne (h.files.inj j k hj hk q)) fun q=>by have:=h.tV hk q;rw[h.tF hj]at this;exact absurd (AfJ this) (by decide),
     fun i hi q=>q.elim (fun q=>by have:=h.tV hj hi;rw[q,h.tF hk]at this;exact absurd (AfJ this) (by decide)) fun q=>h.files.apart j k hj hk hne i hi q⟩
  refine⟨(hc.blk _ (bl h.blk) (ne0 h.tg (by decide) (by decide))).trans h.blk,h.now.chg hc (ne0 h.now.tag (by decide) (by decide)),h.kept.chg hc (ne0 h.kept.tag (by decide) (by decide)),h.ne,
    ⟨vs,Dl hc hvs.row (fun i hi=>ne0 (h.tA hi) (by decide) (by decide)),hvs.len,fun i hi=>(hvs.at_ i hi).chg hc hT rfl⟩,⟨fun j hj=> ?_,fun i j hi hj e=> ?_,fun i j hi hj hne y hy=> ?_⟩,h.ok.setFile k x hx,h.lo⟩
  · rw[AgW]at hj;by_cases e:j=k
    · subst e;show FileAt base w' (H.F j) (BC _ _ _ _) _;rw[Ca,Ae6,List.getElem?_set_self hj];exact hf
    · show FileAt base w' (H.F j) (BC _ _ _ _) _;rw[H4 _ _ e,Ae6,List.getElem?_set_ne (fun q=>e q.symm),<-Ae6];exact(h.files.at_ j hj).keep hc (off j hj e).1 (off j hj e).2
  · rw[AgW]at hi hj;exact h.files.inj i j hi hj e
  · rw[AgW]at hi hj;have hy:(BC H.V k v i).ownBlock=some y:=hy;show(BC H.V k v j).ownBlock≠some y;by_cases ei:i=k
    · have ej:j≠k:=fun q=>hne (ei.trans q.symm);rw[ei,Ca]at hy;rw[H4 _ _ ej];intro q;rcases hv y hy with r | r
      · exact h.files.apart j k hj hk ej y q r
      · have:=(h.foot (.inr (.inr (.inr (.inr ⟨j,hj, .inr q⟩))))).2.1;omega
    · rw[H4 _ _ ei]at hy;by_cases ej:j=k
      · rw[ej,Ca];intro q;rcases hv y q with r | r
        · exact h.files.apart i k hi hk ei y hy r
        · have:=(h.foot (.inr (.inr (.inr (.inr ⟨i,hi, .inr hy⟩))))).2.1;omega
      · rw[H4 _ _ ej];exact h.files.apart i j hi hj hne y hy
end
abbrev CQ(s:AlJ):List Ae2:= [St s]
abbrev Cb(v:Ae2):List Ae2:= [v]
theorem OX(l:List AlJ):l.flatMap CQ=l.map St:=by
 induction l with
 | nil=>rfl
 | cons a l ih=>rw[Af3,AfG,ih];rfl
theorem enV_flat(l:List Ae2):l.flatMap Cb=l:=by
 induction l with
 | nil=>rfl
 | cons a l ih=>rw[Af3,ih];rfl
section
variable {P : AfD} {K : Ae2 -> Ae3 -> Prop} {ρ : Ae} {w : Ae3} {d : Option Tmp} {ty : Afa} {pos : String} {af : Array Edge} {gd : Option (Nat × Bool)}
theorem Abh{α:Type}{enc:α->List Ae2}{t e:Afa}{x:Aff}{a:α}{u:Ae2}(hx:Aa ρ x=u)(hu:enc a= [u]) 
  (hr:∀w:Ae3,(AfM t 1 #[(0,u)]).run P w = .ok (.slice (some ⟨w.heap.size,0,none⟩) 1 1) (w.alloc (.cells #[u] e)))
  (hk:∀v w',RG 1 enc w' v [a]->Ext w w' ->K v w'):Yk P K ((execOp (Aa ρ) ⟨d, .buildSlice t 1 #[(0,x)],ty,pos,af,gd⟩).run P w):=by
 have hE:Ext w (w.alloc (.cells #[u] e)):=(AfV _ _).alloc (Ae8 _) _;have hb:(w.alloc (.cells #[u] e)).heap[w.heap.size]? =some (.cells ([u]:List Ae2).toArray e (0,0)):=heap_alloc_new w _;refine Aea (v:= .slice (some ⟨w.heap.size,0,none⟩) 1 1) (w' :=w.alloc (.cells #[u] e)) ?_ (hk _ _ ⟨fun y hy=>by rw[Afh.1 hy,hu];rfl,by simp[hu],_,1,rfl,Ae8 _,by simp[maxLen],(fun hq=>by cases hq),fun q hq j z hz=> ?_⟩ hE)
 ·unfold execOp;simp only[AfI,AfG,AfQ,hx,Afm,hr,Afe,Afo]
 ·cases hq;rw[Addr.add_lit,Agt];exact cellAt hb (by simpa [hu] using hz)
end
abbrev BY(n:Int):List Ae2:= [.int .i64 n]
def readyL(d:Ad)(l:List AlJ):Nat:=if d.down=true then 9 else if l.all Bg=true then 0 else 10
theorem HE{d:Ad}{l:List AlJ}(h:d.down=true):readyL d l=9:=if_pos h
theorem Jv{d:Ad}{l:List AlJ}(h:d.down=false)(h2:l.all Bg=true):readyL d l=0:=(if_neg (by rw[h];decide)).trans (if_pos h2)
theorem R3{d:Ad}{l:List AlJ}{i:Nat}(h:d.down=false)(hi:i<l.length)(hm:Bg (l.getD i [])=false):readyL d l=10:=by
 refine(if_neg (by rw[h];decide)).trans (if_neg fun ha=> ?_);have:=AfP.1 ha (l.getD i []) (by rw[Ae6,Afb hi];exact Agv hi);rw[hm]at this;cases this
theorem VX{l:List AlJ}{i:Nat}(hi:i<l.length)(h:(l.take i).all Bg=true)(hm:Bg (l.getD i [])=true):(l.take (i+1)).all Bg=true:=by
 rw[Afv hi,AkD,h];rw[Ae6,Afb hi]at hm
 simpa using hm
theorem VY:Tryz.prog.underlying 50=some (.pointer 107):=by kernel_rfl
theorem P2:AZ Ae5 107 6 6:=fun b o w=>by simp[go_sem]
theorem OY:Tryz.prog.underlying 56=some (.slice 9):=by kernel_rfl
theorem VZ:∀w' :Ae3,(sizeOf 9).run Ae5 w' = .ok 1 w' :=fun _=>by kernel_rfl
theorem Ub:Plain Ae5 101:=fun _ _=>by kernel_rfl
theorem Yq(w:Ae3)(s:AlJ):
  Calls Ae5 101 #[St s] w fun e w' =>e = .returned (.bool (Bg s))/\Ext w w' :=by
 refine Qq (args:= [St (s)]) Tryz.func101 rfl 11 rfl rfl ?_;have hE:=Ad4 w;refine gS (AbF (l:=s) QD rfl (gS (Aay (a:=(s.length:Nat)) (b:=(1:Nat)) rfl rfl (E1 _ _ _ _) (gO fun _=>BH (St (s)) rfl rfl (gT rfl) (fun hG3=>Aeb rfl ⟨rfl,rfl⟩) (EU (gO fun _=>BH (NI s.length) rfl rfl (gT rfl) (fun hG4=>AbF (l:=s) QD (DU rfl hG4) ⟨rfl,rfl⟩) (EU (gO fun _=>BH (.bool (decide ((s.length)<=(80)))) rfl rfl (gT rfl) (fun hG5=>Aay (a:=((s.length:Nat):Int)) (b:=((80:Nat):Int)) (DU rfl hG5) rfl (DR _ .i64 (s.length) (80)) ⟨rfl,rfl⟩) (EU (gS (AcP rfl (fun hA=>(DU rfl hA)) rfl fun bb6 hbb7=>(A8 rfl (vr (.bool (bb6)) rfl) ?_))))))))))));subst hbb7;exact⟨rfl,hE⟩
theorem DO(base:Nat)(w:Ae3)(H:Dk)(D:Ad)(hS:DkS base w H D)(v:Ae2)(l:List AlJ)(hr:RG 1 CQ w v l)(hl:l.length<4611686018427387904):
  Calls Ae5 56 #[PQ H.g 0,v] w fun e w' =>e = .returned (NI (readyL D l))/\Ext w w' :=by
 have hb:=hS.blk;have hgl:=(bl hb);refine gG (args:= [PQ H.g 0,v]) Tryz.func56 rfl 23 rfl rfl ?_;have hE:=Ad4 w;refine gS (Aa8 VY rfl (cF rfl (gS (Ad7 rfl (gS (Ad6 P2 rfl (gS (Aax KD rfl rfl (cellAt hb rfl) ?_))))))));refine cB (D.down) rfl (fun c=> ?_) fun c=> ?_
 ·refine A8 rfl (vr (NI 9) rfl) ?_;exact⟨by rw[HE (by simpa using c)],hE⟩
 refine gS (AaW OY (AaD hr rfl) (gL (fun(ρ:Ae) (wz:Ae3)=>∃i:Nat,ρ 0=(PQ H.g 0:Ae2)/\ρ 1=(v:Ae2)/\ρ 8=(.bool (false):Ae2)/\ρ 13=(v:Ae2)/\ρ 14=(NI l.length:Ae2)/\ρ 15=(NI i:Ae2)/\RG 1 CQ wz v l/\wz.heap[H.g]? =some (.cells (Ju (D.quota) (H.mn) (H.ml) (H.va) (D.refused) (D.arm) (D.down)).toArray 107 (0,0))/\Ext w wz/\(i<=l.length)/\((l.take i).all Bg=true)/\True) (fun ρ _=>l.length-(intOf (ρ 15)).toNat) ⟨0,rfl,rfl,rfl,rfl,rfl,rfl,hr,hb,hE,AfC _,rfl,trivial⟩ ?_));clear hr hb hE;rintro p t ⟨i,q,r,s,k,m,f,hr,hb,hE,hi,hn,-⟩;have q15:=f;refine gS (Aay (a:=(i:Nat)) (b:=(l.length:Nat)) f m (AE _ _ _ _) ?_);refine cD rfl (fun n=> ?_) fun n=> ?_
 ·have hlt:i<l.length:=n;have u:(CQ (l.getD (i) ([]:AlJ))).length=1:=(Aec hr ([]:AlJ) (by omega));refine gS (AaZ OY VZ (by decide) ([]:AlJ) (AaD hr k) f (by omega) fun x o=>(gS (AaY QD rfl (Aef (Aa6 o rfl) rfl) ?_)));clear o;refine gS (AaE Ub rfl ((Yq _ (l.getD (i) ([]:AlJ))).mono ?_));rintro e y ⟨rfl,h⟩;refine⟨_,rfl,?_⟩;refine gS (Abl rfl ?_);refine cB (!(Bg (l.getD (i) ([]:AlJ)))) rfl (fun j=> ?_) fun j=> ?_
  ·have hm:Bg (l.getD i [])=false:=by simpa using j
   refine A8 rfl (vr (NI 10) rfl) ?_;have hE:=hE.trans h;exact⟨by rw[R3 (by simpa using c) hlt hm],hE⟩
  have hm:Bg (l.getD i [])=true:=by simpa using j
  have hr:=hr.keep h;have hb:=eb h hb;have hE:=hE.trans h;refine gS (Aaz (xv:=NI i) (yv:=NI 1) f rfl rfl (Ah _ _ _ (by omega)) (gK (And.intro ⟨i+1,q,r,s,k,m,rfl,hr,hb,hE,by omega,VX hlt hn hm,trivial⟩ ?_)));show l.length-(intOf (NI ((i)+(1)))).toNat<l.length-(intOf (p 15)).toNat;rw[q15];simp only[intOf,Int.toNat_natCast];omega
 refine A8 rfl (vr (NI 0) rfl) ?_;exact⟨by rw[Jv (by simpa using c) (by rw[List.take_of_length_le (by omega)]at hn;exact hn)],hE⟩
theorem Uc{n:Nat}{l:Br}(h:DirOk n l):(l.map AfB).Nodup:=
 Ajf _ (fun a b q e=>by rw[e,Fj]at q;cases q) h.sort
theorem Yr{n:Nat}{l:Br}(h:DirOk n l)(a:AlJ)(y:Nat):Ao l a=some y↔(a,y)∈l:=⟨Db,fun q=>FV h.sort q⟩
theorem V0{α:Type}(f:α->Nat){l:List α}{a:α}{r:List α}(h:l.Perm (a :: r)):(l.map f).sum=f a+(r.map f).sum:=by
 have:=(h.map f).sum_nat;rw[this,AfG,List.sum_cons]
theorem P3:AZ Ae5 107 1 1:=fun b o w=>by simp[go_sem]
theorem MY:Tryz.prog.underlying 104=some (.map 9 113):=by kernel_rfl
theorem P4:AZ Ae5 133 0 0:=fun b o w=>by simp[go_sem]
theorem Md(base:Nat)(w:Ae3)(H:Dk)(D:Ad)(hS:DkS base w H D)(hU:usedD D<4611686018427387904):
  Calls Ae5 57 #[PQ H.g 0] w fun e w' =>e = .returned (NI (usedD D))/\Ext w w' :=by
 have hb:=hS.blk;have hgl:=(bl hb);refine gG (args:= [PQ H.g 0]) Tryz.func57 rfl 23 rfl rfl ?_;have hE:=Ad4 w;refine gS (Ad7 rfl (gS (Ad6 P3 rfl (gS (Aax MY rfl rfl (cellAt (eb hE hb) rfl) (gS (AcA (fun a c=>C4) MY rfl (hS.keep hE).now (Uc hS.ok.now) (Yr hS.ok.now) fun b u v j l x=> ?_)))))));have hI11:=j;clear j;have hgi:=MIt.lt hI11;have hE:=hE.trans l;refine gL (fun(ρ:Ae) (wz:Ae3)=>∃left:List (AlJ × Nat),∃s:Nat,ρ 0=(PQ H.g 0:Ae2)/\ρ 2=(NI 0:Ae2)/\ρ 10=(PQ b 0:Ae2)/\ρ 3=(NI s:Ae2)/\Ext w wz/\MIt St (pF H.F) wz b H.mn left/\(∀p∈left,p∈D.now)/\(s+(left.map fun e=>(AG D e.2).1.length).sum=usedD D)/\True) (fun ρ wz=>Abv wz b) ⟨D.now,0,rfl,rfl,rfl,rfl,hE,hI11,fun p hp=>hp,Agt _,trivial⟩ ?_;clear hI11;clear hE;rintro y m ⟨left,s,n,o,f,k,hE,hI,hsub,htot,-⟩;by_cases i:left= []
 ·refine gS (Acf f hI i (gS (Ad5 (vs:= [.bool (false)]) rfl rfl (cF rfl (A8 rfl k ?_)))));exact⟨by rw[i]at htot;rw[<-htot];rfl,hE⟩
 refine gS (Acn f hI i fun a18 y19 rest20 q h hI23 r t z=> ?_);have hm0:=AbY hI;clear hI;have hI:=hI23;clear hI23;have hgi:=MIt.lt hI;have hmem:(a18,y19)∈D.now:=hsub _ (h.mem_iff.2 AfX);have hyl:=hS.ok.now.num _ hmem;have hfl:=hS.files.at_ y19 hyl;have hsum:(left.map fun e=>(AG D e.2).1.length).sum=(D.files.getD y19 ([],0)).1.length+(rest20.map fun e=>(AG D e.2).1.length).sum:=V0 _ h;have hfb:=hfl.blk;have hfr:RB w (H.V y19) (D.files.getD y19 ([],0)).1:=Aa5 hfl.row;have hE:=Ab hE t (Ae7 (Ae8 _) (by omega));refine gS (Ad5 (vs:= [.bool (true),St (a18), .pointer (some ⟨(H.F y19),0,none⟩)]) rfl rfl (cT rfl (gS (AcB f r (gS (Ad5 (vs:= [St (a18), .pointer (some ⟨(H.F y19),0,none⟩)]) rfl rfl (gS (Ad7 rfl (gS (Ad6 P4 rfl (gS (Aax GR rfl rfl (cellAt (eb hE hfb) rfl) (gS (AaT GR (AaF (hfr.keep hE) rfl) (gS (Aaz (xv:=NI s) (yv:=NI (((D.files.getD y19 ([],0)).1:AlJ).length)) k rfl rfl (Ah _ _ _ (by have:=hU;rw[hsum]at htot;omega)) (gK (And.intro ⟨rest20,s+(D.files.getD y19 ([],0)).1.length,n,o,f,rfl,hE,hI,fun p hp=>hsub p (h.mem_iff.2 (AfY _ hp)),by rw[hsum]at htot;exact(Nat.add_assoc _ _ _).trans htot,trivial⟩ ?_))))))))))))))))));show Abv q b<Abv m b;rw[AbY hI,hm0,h.length_eq];simp
section
variable {P : AfD} {K : Ae2 -> Ae3 -> Prop} {ρ : Ae} {w : Ae3} {d : Option Tmp} {ty : Afa} {pos : String} {af : Array Edge} {gd : Option (Nat × Bool)}
theorem LG(w:Ae3)(t tx ty e:Afa)(i:TypeInfo)(z:Ae2)(size bytes:Nat)(ht:P.underlying t=some (.slice e))(hi:P.info? e=some i)(hz:i.zero=some z) 
  (hsize:i.size=size) (hby:i.bytes=bytes) (hzs:z.cells.size=size) (a:Addr) (n:Nat) (xs:List Ae2) (hxs:xs.length=n*size) (hc:∀j u,xs[j]? =some u->w.cell? (a.add j)=some u)
  (x:Ae2) (m:Nat) (news:List Ae2) (hs:Src P size tx x m news w) (hm:0<m) (h63:n+m<=maxLen) (hbytes:(n+m)*bytes<=140737488355328):
  ∃v' w',(Builtin.append_ #[t,tx] ty #[.slice (some a) n n,x]).run P w = .ok v' w' /\w'.ownsRow w.heap.size e size v' (n+m) (xs++news)/\Ext w w' :=by
 subst hsize;subst hby
 have hsmall:n+m<=9223372036854775807:=by simp only[maxLen]at h63;omega
 have hl:=hs.newsLen;have hlen:(xs++news).length=(n+m)*i.size:=by rw[Ae9,hxs,hl,Ahj]
 have hge:=grownCap_ge w (n+m) n e;have hcm:grownCap w (n+m) n e<=maxLen:=grownCap_le_maxLen w (n+m) n e h63;have hr:=run_append_grow_src (P:=P) w t tx ty e i z ht hi hz (some a) n n xs (run_firstCells_some w.drew i.size n a n n xs hxs (by simpa using hc)) x m news hs (by omega) (by omega) (growslice_fits (by omega) hbytes);refine⟨_,_,hr,⟨hlen, .inr ⟨w.heap.size,_,_,rfl,Ae8 _,heap_alloc_new w.drew _,hge,hcm,?_,?_⟩⟩,(AfV _ _).grown ((AeW w (Afc none 0 0)).drew.alloc _).by_ (Ae8 _) (fun _ e=>by simp[Afd]at e)⟩
 ·simp only[Array.size_append,Afr,size_zeroCells,hzs,hlen,<-Ahj]
  congr 1
  omega
 ·simp only[Array.toList_append];rw[<-hlen];exact List.take_left
def FullG{α:Type}(k:Nat)(enc:α->List Ae2)(w:Ae3)(v:Ae2)(l:List α):Prop:=(v = .slice none 0 0/\l= [])\/∃a,v = .slice (some a) l.length l.length/\RG k enc w v l
theorem FullG.keep{α:Type}{k:Nat}{enc:α->List Ae2}{w w' :Ae3}{v:Ae2}{l:List α}(h:FullG k enc w v l)(hE:Ext w w'):FullG k enc w' v l:=h.imp id fun⟨a,h1,h2⟩=>⟨a,h1,h2.keep hE⟩
theorem FullG.rg{α:Type}{k:Nat}{enc:α->List Ae2}{w:Ae3}{v:Ae2}{l:List α}(h:FullG k enc w v l):RG k enc w v l:=by
 rcases h with ⟨rfl,rfl⟩ | ⟨a,h1,h2⟩
 ·exact AeH _ _ _
 ·exact h2
theorem AbQ{α:Type}{k:Nat}{enc:α->List Ae2}{t tx e e' :Afa}{z:Ae2}{bytes:Nat}(ht:P.underlying t=some (.slice e))(hi:(P.info? e).map (fun i=>(i.zero,i.size,i.bytes))=some (some z,k,bytes))(hzs:z.cells.size=k)(hu:P.underlying tx=some (.slice e')) 
  (h1:∀x:α,∀u∈enc x,u.oneCell' =true) {s x:Aff} {v y:Ae2} {l m:List α} (hs:Aa ρ s=v) (h:FullG k enc w v l) (hx:Aa ρ x=y) (hy:RG k enc w y m) (hm:0<m.length) (hlen:(l.length+m.length)*bytes<=140737488355328) (hlen2:l.length+m.length<=maxLen)
  (hk:∀v' w',OG w.heap.size e k enc w' v' (l++m)->Ext w w' ->K v' w'):Yk P K ((execOp (Aa ρ) ⟨d, .call ⟨.builtin .append,#[s,x],#[t,tx]⟩,ty,pos,af,gd⟩).run P w):=by
 obtain⟨i,hi0,hi1⟩:=Option.map_eq_some_iff.1 hi;have hz:i.zero=some z:=congrArg AfB hi1;have hsz:i.size=k:=congrArg (fun q=>q.2.1) hi1;have hby:i.bytes=bytes:=congrArg (fun q=>q.2.2) hi1;have hsrc:Src P k tx y m.length (m.flatMap enc) w:=by
  obtain⟨q1,q2,ao,cap,rfl,q3,q4,q5,q6⟩:=hy;cases ao with
  | none=>exact absurd (q5 rfl).1 (by omega)
  | some a=>exact Src.ofSlice w hu a _ cap _ q2 (q6 a rfl) fun u hu=>let ⟨x,_,hx⟩:=List.mem_flatMap.1 hu;h1 x u hx
 have hlen' :∀ {xs:List α},(∀x∈xs,(enc x).length=k)->(xs.flatMap enc).length=xs.length*k:=fun {xs} hxs=>by
  induction xs with
  | nil=>simp
  | cons a r ih=>rw[Af3,Ae9,hxs a AfX,ih fun x hx=>hxs x (AfY _ hx),AfA,Ahj,Nat.one_mul,Nat.add_comm]
 have hall:∀x∈l++m,(enc x).length=k:=fun x hx=>(Afy.1 hx).elim (h.rg.1 x) (hy.1 x);have fin:∀v' w',(Builtin.append_ #[t,tx] ty #[v,y]).run P w = .ok v' w' ->w'.ownsRow w.heap.size e k v' (l.length+m.length) (l.flatMap enc++m.flatMap enc)->Ext w w' ->Yk P K ((execOp (Aa ρ) ⟨d, .call ⟨.builtin .append,#[s,x],#[t,tx]⟩,ty,pos,af,gd⟩).run P w):=fun v' w' hr ho hE=>by
  refine Aea (v:=v') (w' :=w') ?_ (hk v' w' ⟨hall,by rw[Ae9,List.flatMap_append];exact ho⟩ hE);unfold execOp;simp only[resolve,invoke,builtin,Afm,Afo,Afe,AfI,AfG,AfQ,hs,hx,hr]
 rcases h with ⟨rfl,rfl⟩ | ⟨a,hv,hr⟩
 ·obtain⟨v',w',hr,ho,hg⟩:=FQ (P:=P) w w.heap.size t tx ty e i z k bytes ht hi0 hz hsz hby hzs (.slice none 0 0) 0 [] (Af5 _ _ _ _) y m.length _ hsrc (by simpa using hlen2) (by simpa using hlen) (Ae8 _);exact fin v' w' hr (by simpa using ho) ((AfV _ _).grown hg.by_ (Ae8 _) fun _ q=>by simp[Afd]at q)
 ·obtain⟨-,q2,ao,cap,q3,-,-,-,q6⟩:=id hr;rw[hv]at q3;cases q3;obtain⟨v',w',hr',ho,hE⟩:=LG (P:=P) (ty:=ty) w t tx e i z k bytes ht hi0 hz hsz hby hzs a l.length _ q2 (q6 a rfl) y m.length _ hsrc hm hlen2 hlen;exact fin v' w' (by rw[hv];exact hr') ho hE
end
theorem Fd:KL Ae5 9 (MapKept.IsKey .string):=AcG (by kernel_rfl)
theorem Eb(a:AlJ)(_:Nm a):MapKept.IsKey .string (St a):=trivial
theorem Iw(u:Ae3):(zeroValue 113).run Ae5 u = .ok (.pointer none) u:=by kernel_rfl
def ER(d:Ad)(ms:List AlJ)(s:AlJ):Except Nat Nat:=if readyL d (ms++ [s])≠0 then .error (readyL d (ms++ [s]))else match Ao d.now s with | some k=> .ok k | none=> .error 4
def AaJ(H:Dk):Except Nat Nat->Ae2
 | .ok k=>PQ (H.F k) 0
 | .error _=> .pointer none
def AaK:Except Nat Nat->Nat
 | .ok _=>0
 | .error e=>e
theorem R4{d:Ad}{ms:List AlJ}{s:AlJ}(h:readyL d (ms++ [s])=0):Bg s=true:=by
 unfold readyL at h;split at h
 ·cases h
 ·split at h
  ·rename_i h2
   rw[AkD]at h2;simp only[Agd,AjU,Alx,Bool.and_true]at h2;exact h2.2
  ·cases h
theorem KH(z:ByteArray)(w:Ae3):(AfM 56 1 #[(0, .string z)]).run Ae5 w = .ok (.slice (some ⟨w.heap.size,0,none⟩) 1 1) (w.alloc (.cells #[.string z] 9)):=by kernel_rfl
theorem Me:(Tryz.prog.info? 9).map (fun i=>(i.zero,i.size,i.bytes))=some (some (.string ⟨#[]⟩),1,16):=by kernel_rfl
theorem KI:Plain Ae5 56:=fun _ _=>by kernel_rfl
theorem MZ:Tryz.prog.underlying 113=some (.pointer 133):=by kernel_rfl
theorem H5(base:Nat)(w:Ae3)(H:Dk)(D:Ad)(hS:DkS base w H D)(s:AlJ)(v:Ae2)(ms:List AlJ)(hF:FullG 1 CQ w v ms)(hl:ms.length<=1):
  Calls Ae5 77 #[PQ H.g 0,St s,v] w fun e w' =>e = .returned (.tuple #[AaJ H (ER D ms s),NI (AaK (ER D ms s))])/\Ext w w' :=by
 have hb:=hS.blk;have hgl:=(bl hb);refine gG (args:= [PQ H.g 0,St (s),v]) Tryz.func77 rfl 28 rfl rfl ?_;have hE:=Ad4 w;by_cases c:readyL D (ms++ [s])≠0
 ·have hV:ER D ms s = .error (readyL D (ms++ [s])):=if_pos c;refine gS (Abh (a:=s) (enc:=CQ) (vr (St (s)) rfl) rfl (fun w=>KH _ w) fun n w5 o p=> ?_);have hE:=hE.trans p;refine gS (AbQ OY Me rfl OY (fun y u hu=>by rw[Afh.1 hu];rfl) (vr v rfl) (hF.keep hE) (vr n rfl) o (by simp) (by simp;omega) (by simp[maxLen];omega) fun q w9 r t=> ?_);have ak:=hE.size;have hE:=hE.trans t;refine gS (AaA KI rfl rfl ((DO base _ H D (hS.keep hE) q (ms++ [s]) (AaR r) (by simp;omega)).mono ?_));rintro e al ⟨rfl,x⟩;refine⟨_,rfl,?_⟩;refine gS (Aay (a:=(readyL D (ms++ [s]):Nat)) (b:=(0:Nat)) rfl rfl (AV _ _ _ _) (kT (by omega) (cT rfl (BI rfl (vr (.pointer none) rfl) (vr (NI (readyL D (ms++ [s]))) rfl) ?_))));have hE:=hE.trans x;exact⟨by rw[hV];rfl,hE⟩
 have z:readyL D (ms++ [s])=0:=Classical.not_not.1 c;have hm:=R4 z;rcases hlk:Ao D.now s with _ | k
 ·have hV:ER D ms s = .error 4:=by unfold ER;rw[if_neg c,hlk]
  refine gS (Abh (a:=s) (enc:=CQ) (vr (St (s)) rfl) rfl (fun w=>KH _ w) fun aa am ab f=> ?_);have hE:=hE.trans f;refine gS (AbQ OY Me rfl OY (fun y u hu=>by rw[Afh.1 hu];rfl) (vr v rfl) (hF.keep hE) (vr aa rfl) ab (by simp) (by simp;omega) (by simp[maxLen];omega) fun ac an ad h=> ?_);have ao:=hE.size;have hE:=hE.trans h;refine gS (AaA KI rfl rfl ((DO base _ H D (hS.keep hE) ac (ms++ [s]) (AaR ad) (by simp;omega)).mono ?_));rintro e ap ⟨rfl,i⟩;refine⟨_,rfl,?_⟩;have hb:=eb ((f.trans h).trans i) hb;have hE:=hE.trans i;refine gS (Aay (a:=(readyL D (ms++ [s]):Nat)) (b:=(0:Nat)) rfl rfl (AV _ _ _ _) (kF (by omega) (cF rfl (gS (Ad7 rfl (gS (Ad6 P3 rfl (gS (Aax MY rfl rfl (cellAt hb rfl) (gS (Ab9 Fd Eb (fun _ _=>C4) MY Iw rfl rfl (hS.keep hE).now (by have:=B1 hm;exact this.2) hlk (gS (Aa8 MZ rfl (kB (rfl) (cT rfl (BI rfl (vr (.pointer none) rfl) (vr (NI 4) rfl) ?_))))))))))))))));exact⟨by rw[hV];rfl,hE⟩
 have hV:ER D ms s = .ok k:=by unfold ER;rw[if_neg c,hlk]
 refine gS (Abh (a:=s) (enc:=CQ) (vr (St (s)) rfl) rfl (fun w=>KH _ w) fun ae aq af j=> ?_);have hE:=hE.trans j;refine gS (AbQ OY Me rfl OY (fun y u hu=>by rw[Afh.1 hu];rfl) (vr v rfl) (hF.keep hE) (vr ae rfl) af (by simp) (by simp;omega) (by simp[maxLen];omega) fun ag ar ah l=> ?_);have au:=hE.size;have hE:=hE.trans l;refine gS (AaA KI rfl rfl ((DO base _ H D (hS.keep hE) ag (ms++ [s]) (AaR ah) (by simp;omega)).mono ?_));rintro e av ⟨rfl,m⟩;refine⟨_,rfl,?_⟩;have hb:=eb ((j.trans l).trans m) hb;have hE:=hE.trans m;refine gS (Aay (a:=(readyL D (ms++ [s]):Nat)) (b:=(0:Nat)) rfl rfl (AV _ _ _ _) (kF (by omega) (cF rfl (gS (Ad7 rfl (gS (Ad6 P3 rfl (gS (Aax MY rfl rfl (cellAt hb rfl) (gS (AbC Fd Eb (fun _ _=>C4) MY Iw rfl rfl (hS.keep hE).now (by have:=B1 hm;exact this.2) hlk (gS (Aa8 MZ rfl (kB (rfl) (cF rfl (BI rfl (vr (.pointer (some ⟨(H.F k),0,none⟩)) rfl) (vr (NI 0) rfl) ?_))))))))))))))));exact⟨by rw[hV];rfl,hE⟩
theorem XO{α β:Type}{ek:α->Ae2}{ev:β->Ae2}{D:α->Prop}{w w' :Ae3}{m:Nat}{G:α->Option β}(h:MapF ek ev D w m G)(hg:w.grownBy w' (some m)){b:Nat}{cs:Array Ae2}{t:Afa}{fr:Nat × Nat}(hb:w.heap[b]? =some (.cells cs t fr)):w'.heap[b]? =some (.cells cs t fr):=
 kb hg hb fun e=>by obtain⟨es,c,h1,-⟩:=h;rw[e,h1]at hb;cases hb
theorem Ys{ev:Nat->Ae2}(w:Ae3)(m:Nat)(G:AlJ->Option Nat)(hM:MapF St ev Nm w m (G))(bf bn fk k:Nat)(to:AlJ)(h1:w.heap[bf]? =some (.cells ([PQ fk 0]).toArray 113 (0,0)))(h2:w.heap[bn]? =some (.cells ([St to]).toArray 9 (0,0)))(hev:PQ fk 0=ev k)(ht:Nm to):
  Calls Ae5 141 #[.map (some m),PQ bf 0,PQ bn 0] w fun e w' =>e = .returned (.tuple #[])/\MapF St ev Nm w' m (updM G to (some k))/\w.grownBy w' (some m):=by
 have a:=Agf w (some m);refine gG (args:= [.map (some m),PQ bf 0,PQ bn 0]) Tryz.func141 rfl 7 rfl rfl ?_;have hE:=Ad4 w;refine gS (Aax QD rfl rfl (cellAt h2 rfl) (gS (Aax MZ rfl rfl (cellAt h1 rfl) (gS (Aby (ev:=ev) (c:=k) Fd Eb MY (vr (.map (some m)) rfl) (vr (St (to)) rfl) (Eq.trans ((vr (PQ fk 0) rfl)) hev) (hM.keep hE) ht fun w1 hM2 b f=> ?_)))));have h1:w1.heap[bf]? =some (.cells ([PQ fk 0]).toArray 113 (0,0)):=XO hM b h1;have h2:w1.heap[bn]? =some (.cells ([St to]).toArray 9 (0,0)):=XO hM b h2;have a:w.grownBy w1 (some m):=Am a b (fun _ e=> .inl e);clear hE;have hM:=hM2;clear hM2;refine rt0 rfl ?_;exact⟨rfl,hM,a⟩
theorem Yt{ev:Nat->Ae2}(w:Ae3)(m:Nat)(G:AlJ->Option Nat)(hM:MapF St ev Nm w m (G))(bs:Nat)(frm:AlJ)(h3:w.heap[bs]? =some (.cells ([St frm]).toArray 9 (0,0)))(hf:Nm frm):
  Calls Ae5 95 #[.map (some m),PQ bs 0] w fun e w' =>e = .returned (.tuple #[])/\MapF St ev Nm w' m (updM G frm none)/\w.grownBy w' (some m):=by
 have a:=Agf w (some m);refine gG (args:= [.map (some m),PQ bs 0]) Tryz.func95 rfl 5 rfl rfl ?_;have hE:=Ad4 w;refine gS (Aax QD rfl rfl (cellAt h3 rfl) (gS (Acu Fd Eb (fun _ _=>C4) MY rfl rfl (hM.keep hE) hf fun w1 hM2 b c=> ?_)));have h3:w1.heap[bs]? =some (.cells ([St frm]).toArray 9 (0,0)):=XO hM b h3;have a:w.grownBy w1 (some m):=Am a b (fun _ e=> .inl e);clear hE;have hM:=hM2;clear hM2;refine rt0 rfl ?_;exact⟨rfl,hM,a⟩
theorem V2{n:Nat}{l:Br}(h:DirOk n l)(a:CL)(hn:a.to.length≠0):updM (updM (Ao l) a.frm none) a.to (some a.file)=Ao (turnD l a):=by
 funext t
 rw[look_turn,if_neg hn];unfold updM;rfl
theorem Ud{n:Nat}{l:Br}(h:DirOk n l)(a:CL)(hn:a.to.length≠0)(hf:a.frm= []):updM (Ao l) a.to (some a.file)=Ao (turnD l a):=by
 rw[<-V2 h a hn]
 funext t
 unfold updM;by_cases ht:t=a.to
 ·rw[if_pos ht,if_pos ht]
 ·rw[if_neg ht,if_neg ht];by_cases h2:t=a.frm
  ·rw[if_pos h2,h2,hf,h.noEmpty]
  ·rw[if_neg h2]
theorem Ue{l:Br}(a:CL)(hn:a.to= []):updM (Ao l) a.frm none=Ao (turnD l a):=by
 funext t
 rw[look_turn,if_pos (by rw[hn];rfl)];unfold updM;rfl
theorem OZ{w:Ae3}{F:Nat->Nat}{v:Ae2}{a:CL}(h:ActAt w F v a){m n:Nat}{l:Br}(hM:MapF St (pF F) Nm w m (Ao l))(hl:DirOk n l)(ha:ActOk n a):
  ∃f caps,v = .func (.func f) #[] caps/\Plain Ae5 f/\Calls Ae5 f (#[.map (some m)]++caps) w fun e w' =>e = .returned (.tuple #[])/\MapF St (pF F) Nm w' m (Ao (turnD l a))/\w.grownBy w' (some m):=by
 rcases h with ⟨bf,bn,e,h1,h2,h3,h4⟩ | ⟨hm,bs,bf,bn,e,h1,h2,h3,h4⟩ | ⟨bn,e,h1,h2⟩
 ·refine⟨_,_,e,fun _ _=>by kernel_rfl,?_⟩;have:=Ys (ev:=pF F) w m _ hM bf bn (F a.file) a.file a.to h1 h2 rfl (B1 (ha.may h4)).2;rw[Ud hl a h4 h3]at this;exact this
 ·exact(show False from hm).elim
 ·refine⟨_,_,e,fun _ _=>by kernel_rfl,?_⟩;have:=Yt (ev:=pF F) w m _ hM bn a.frm h1 ha.frm;rw[Ue a h2]at this;exact this
theorem getD_left{α:Type}{l r:List α}{i:Nat}{x:α}(h:i<l.length):(l++r).getD i x=l.getD i x:=by rw[Ae6,AfW h,<-Ae6]
theorem Gg{α:Type}{l:List α}{a x:α}:(l++ [a]).getD l.length x=a:=by rw[Ae6,AfR (Ae8 _),AgR];rfl
section
variable {base : Nat} {w w' : Ae3} {H : Dk} {D : Ad}
theorem B2{w:Ae3}{i j x y:Nat}(h:CR w i=some x)(k:CR w j=some y)(hx:x≠y):i≠j:=fun e=>by rw[e,k]at h;exact hx (AfJ h).symm
theorem DkS.turned(h:DkS base w H D){a:CL}(ha:ActOk D.files.length a){v:Ae2}(hat:ActAt w H.F v a){vs:List Ae2}(hvs:OW base w H.va H.F D.acts vs){va' :Ae2} 
  (hc:Chg (fun i=>i=H.mn\/i=H.g\/H.va.ownBlock=some i) w w') (hm:MapF St (pF H.F) Nm w' H.mn (Ao (turnD D.now a)))
  (hb:w'.heap[H.g]? =some (.cells (Ju D.quota H.mn H.ml va' D.refused D.arm D.down).toArray 107 (0,0))) (hr:w'.ownsRow base 131 1 va' (vs++ [v]).length (vs++ [v])):
  DkS base w' { H with va:=va' } (turnedD D a):=by
 have hT:∀i,i<w.heap.size->(i=H.mn\/i=H.g\/H.va.ownBlock=some i)->TyB w i:=fun i _ e=>by
  rcases e with e | e | e
  ·exact e▸Dx (.inl h.now.tag)
  ·exact e▸Dx (.inr (.inl h.tg))
  ·exact Dx (.inr (.inr (.inr (.inr (h.tA e)))))
 have ne0:∀ {i x:Nat},CR w i=some x->x≠0->x≠107+1->x≠131+1->¬(i=H.mn\/i=H.g\/H.va.ownBlock=some i):=fun e h0 h1 h2 q=>by
  rcases q with q | q | q
  ·rw[q,h.now.tag]at e;exact h0 (AfJ e).symm
  ·rw[q,h.tg]at e;exact h1 (AfJ e).symm
  ·rw[h.tA q]at e;exact h2 (AfJ e).symm
 refine⟨hb,hm,h.kept.chg hc fun q=> ?_,h.ne,⟨vs++ [v],hr,?_,fun i hi=> ?_⟩,h.files.chg hc (fun k hk=>⟨ne0 (h.tF hk) (by decide) (by decide) (by decide),fun i hi=>ne0 (h.tV hk hi) (by decide) (by decide) (by decide)⟩),h.ok.turned ha,h.lo⟩
 ·rcases q with q | q | q
  ·exact h.ne q.symm
  ·exact B2 h.kept.tag h.tg (by decide) q
  ·exact B2 h.kept.tag (h.tA q) (by decide) rfl
 ·show(vs++ [v]).length=(D.acts++ [a]).length;rw[Ae9,Ae9,hvs.len];rfl
 ·show ActAt w' H.F ((vs++ [v]).getD i undef) ((D.acts++ [a]).getD i _);rw[show(turnedD D a).acts.length=D.acts.length+1 by show(D.acts++ [a]).length=_;simp]at hi;have hl:=hvs.len;by_cases e:i<D.acts.length
  ·rw[getD_left (by omega:i<vs.length),getD_left e];exact(hvs.at_ i e).chg hc hT rfl
  ·obtain rfl:i=D.acts.length:=by omega
   rw[Gg,<-hl,Gg];exact hat.chg hc hT rfl
theorem DkS.synced(h:DkS base w H D){ml' :Nat}(hc:Chg (fun i=>i=H.g) w w')(hn:w.heap.size<=ml')(hm:MapF St (pF H.F) Nm w' ml' (Ao D.now))(h0:base<=w.heap.size) 
  (hb:w'.heap[H.g]? =some (.cells (Ju D.quota H.mn ml' (.slice none 0 0) D.refused D.arm D.down).toArray 107 (0,0))):
  DkS base w' { H with ml:=ml',va:= .slice none 0 0 } { D with kept:=D.now,acts:= [] } :=by
 have ne0:∀ {i x:Nat},CR w i=some x->x≠107+1->i≠H.g:=fun e hx=>B2 e h.tg hx;have hlt:=h.now.lt;exact⟨hb,h.now.chg hc (ne0 h.now.tag (by decide)),hm,fun(q:H.mn=ml')=>by omega,⟨[],Af5 _ _ _ 1,rfl,fun i hi=>absurd hi (Age _)⟩,
  h.files.chg hc (fun k hk=>⟨ne0 (h.tF hk) (by decide),fun i hi=>ne0 (h.tV hk hi) (by decide)⟩),⟨h.ok.now,h.ok.now,fun a ha=>(by cases ha),h.ok.syn⟩,⟨h.lo.1,h.lo.2.1,Ae7 h0 hn⟩⟩
structure DkT (base : Nat) (w : Ae3) (H : Dk) (D : Ad) (w' : Ae3) (H' : Dk) (D' : Ad) : Prop where
 st:DkS base w' H' D'
 g:H'.g=H.g
 chg:Chg (B7 H D.files.length) w w'
 foot:∀i,B7 H' D'.files.length i->B7 H D.files.length i\/w.heap.size<=i
theorem DkT.refl(h:DkS base w H D):DkT base w H D w H D:=⟨h,rfl,AeF _ _,fun _ q=> .inl q⟩
theorem DkT.trans{w2:Ae3}{H1 H2:Dk}{D1 D2:Ad}(h:DkT base w H D w' H1 D1)(k:DkT base w' H1 D1 w2 H2 D2):DkT base w H D w2 H2 D2:=
 ⟨k.st,k.g.trans h.g,h.chg.trans k.chg h.foot,fun i q=>(k.foot i q).elim (h.foot i) fun r=> .inr (Ae7 h.chg.size r)⟩
theorem DkT.keep{w2:Ae3}{H1:Dk}{D1:Ad}(h:DkT base w H D w' H1 D1)(k:Ext w' w2):DkT base w H D w2 H1 D1:=⟨h.st.keep k,h.g,h.chg.keep k,h.foot⟩
theorem RB.chg{B:Nat->Prop}{v:Ae2}{l:AlJ}(h:RB w v l)(hc:Chg B w w')(hB:l= []\/∀i,v.ownBlock=some i->¬B i):RB w' v l:=by
 obtain⟨h1,ao,cap,rfl,h2,h3,h4,h5⟩:=h;refine⟨h1,ao,cap,rfl,h2,h3,h4,fun a ha j u hu=> ?_⟩;have hl:=h5 a ha j u hu;have hlt:=Agn w _ hl;rcases hB with rfl | hB
 ·simp[Ae4]at hu
 ·have hn:¬B (a.add j).block:=hB _ (by rw[ha];obtain⟨a1,a2,a3⟩:=a;simp only[Afd,Addr.add];split <;> rfl);have hb:=hc.blk _ hlt hn;unfold World.cell? at hl ⊢;rw[hb];exact hl
theorem DkS.offT(h:DkS base w H D){b:Nat}{cs:Array Ae2}{t:Afa}{fr:Nat × Nat}(hb:w.heap[b]? =some (.cells cs t fr))(h1:t≠107)(h2:t≠133)(h3:t≠5)(h4:t≠131):¬B7 H D.files.length b:=fun q=>TyB.off hb h1 h2 h3 h4 (h.foot q).1
theorem DkT.box{H1:Dk}{D1:Ad}(h:DkT base w H D w' H1 D1)(h0:DkS base w H D){b:Nat}{cs:Array Ae2}{t:Afa}{fr:Nat × Nat}(hb:w.heap[b]? =some (.cells cs t fr))(h1:t≠107)(h2:t≠133)(h3:t≠5)(h4:t≠131):w'.heap[b]? =some (.cells cs t fr):=
 (h.chg.blk b (bl hb) (h0.offT hb h1 h2 h3 h4)).trans hb
abbrev Aey:=@DkT.box
theorem DkS.setFileT(h:DkS base w H D){k:Nat}(hk:k<D.files.length){v:Ae2}{x:AlJ × Nat}(hx:x.2<=x.1.length)(hc:Chg (fun i=>i=H.F k\/(H.V k).ownBlock=some i) w w')(hf:FileAt base w' (H.F k) v x)(hv:∀i,v.ownBlock=some i->(H.V k).ownBlock=some i\/w.heap.size<=i):
  DkT base w H D w' { H with V:=BC H.V k v } { D with files:=D.files.set k x } :=
 ⟨h.setFile hk hx hc hf hv,rfl,hc.mono fun i _ e=> .inr (.inr (.inr (.inr ⟨k,hk,e⟩))),fun i hi=>by
  rcases hi with e | e | e | e | ⟨j,hj,e⟩
  ·exact .inl (.inl e)
  ·exact .inl (.inr (.inl e))
  ·exact .inl (.inr (.inr (.inl e)))
  ·exact .inl (.inr (.inr (.inr (.inl e))))
  ·have hj:j<D.files.length:=by have:j<(D.files.set k x).length:=hj;rwa [AgW]at this
   rcases e with e | e
   ·exact .inl (.inr (.inr (.inr (.inr ⟨j,hj, .inl e⟩))))
   ·by_cases ej:j=k
    ·have e:(BC H.V k v j).ownBlock=some i:=e;rw[ej,Ca]at e;exact(hv i e).imp (fun q=> .inr (.inr (.inr (.inr ⟨k,hk, .inr q⟩)))) id
    ·have e:(BC H.V k v j).ownBlock=some i:=e;rw[H4 _ _ ej]at e;exact .inl (.inr (.inr (.inr (.inr ⟨j,hj, .inr e⟩))))⟩
theorem DkS.newFileT(h:DkS base w H D)(hE:Ext w w'){f:Nat}(hf:w.heap.size<=f)(hb:w'.heap[f]? =some (.cells ([.slice none 0 0,NI 0]).toArray 133 (0,0)))(h0:base<=w.heap.size):
  DkT base w H D w' { H with F:=BC H.F D.files.length f,V:=BC H.V D.files.length (.slice none 0 0) } { D with files:=D.files++ [([],0)] } :=
 ⟨h.newFile hE hf hb h0,rfl,AbD hE,fun i hi=>by
  rcases hi with e | e | e | e | ⟨j,hj,e⟩
  ·exact .inl (.inl e)
  ·exact .inl (.inr (.inl e))
  ·exact .inl (.inr (.inr (.inl e)))
  ·exact .inl (.inr (.inr (.inr (.inl e))))
  ·have hj:j<D.files.length+1:=by have:j<(D.files++ [(([]:AlJ),0)]).length:=hj;rwa [Ae9]at this
   by_cases ej:j=D.files.length
   ·rcases e with e | e
    ·have e:i=BC H.F D.files.length f j:=e;rw[ej,Ca]at e;exact .inr (e▸hf)
    ·have e:(BC H.V D.files.length (.slice none 0 0) j).ownBlock=some i:=e;rw[ej,Ca]at e;cases e
   ·have hj' :j<D.files.length:=by omega
    rcases e with e | e
    ·have e:i=BC H.F D.files.length f j:=e;rw[BW _ _ hj']at e;exact .inl (.inr (.inr (.inr (.inr ⟨j,hj', .inl e⟩))))
    ·have e:(BC H.V D.files.length (.slice none 0 0) j).ownBlock=some i:=e;rw[BW _ _ hj']at e;exact .inl (.inr (.inr (.inr (.inr ⟨j,hj', .inr e⟩))))⟩
theorem DkS.setBlkT(h:DkS base w H D)(hg:w.grownBy w' (some H.g)){q rf ar:Nat}{dn:Bool}(hb:w'.heap[H.g]? =some (.cells (Ju q H.mn H.ml H.va rf ar dn).toArray 107 (0,0))):DkT base w H D w' H { D with quota:=q,refused:=rf,arm:=ar,down:=dn } :=
 ⟨h.setBlk hg hb,rfl,Abd hg fun i e=> .inl (.inl (AfJ e).symm),fun i hi=> .inl hi⟩
theorem DkS.syncedT(h:DkS base w H D){ml' :Nat}(hc:Chg (fun i=>i=H.g) w w')(hn:w.heap.size<=ml')(hm:MapF St (pF H.F) Nm w' ml' (Ao D.now))(h0:base<=w.heap.size) 
  (hb:w'.heap[H.g]? =some (.cells (Ju D.quota H.mn ml' (.slice none 0 0) D.refused D.arm D.down).toArray 107 (0,0))):
  DkT base w H D w' { H with ml:=ml',va:= .slice none 0 0 } { D with kept:=D.now,acts:= [] } :=
 ⟨h.synced hc hn hm h0 hb,rfl,hc.mono fun i _ e=> .inl e,fun i hi=>by
  rcases hi with e | e | e | e | e
  ·exact .inl (.inl e)
  ·exact .inl (.inr (.inl e))
  ·exact .inr ((show i=ml' from e)▸hn)
  ·cases(show(none:Option Nat)=some i from e)
  ·exact .inl (.inr (.inr (.inr (.inr e))))⟩
end
theorem AcZ{P:AfD}{K:Ae2->Ae3->Prop}{ρ:Ae}{w:Ae3}{d:Option Tmp}{ty:Afa}{pos:String}{af:Array Edge}{gd:Option (Nat × Bool)}{f:FuncId}{c x:Aff}{v y:Ae2}{caps:Array Ae2}{R:Ae3->Prop}{at_:Array Afa}(hp:Plain P f)(hc:Aa ρ c=v)(hve:v = .func (.func f) #[] caps)(hx:Aa ρ x=y) 
  (h:Calls P f (#[y]++caps) w fun e w' =>e = .returned (.tuple #[])/\R w') (hk:∀w',R w' ->K (.tuple #[]) w'):Yk P K ((execOp (Aa ρ) ⟨d, .call ⟨.value c,#[x],at_⟩,ty,pos,af,gd⟩).run P w):=
 AbG hp (hc.trans hve) _ (by simp[hx]) (h.mono fun e w' q=>⟨_,q.1,hk w' q.2⟩)
theorem Aai{base:Nat}{w w' :Ae3}{H:Dk}{D:Ad}(h:DkS base w H D)(hg:w.grownBy w' (some H.mn)){vs:List Ae2}(hr:OG base 131 1 Cb w H.va vs):OG base 131 1 Cb w' H.va vs:=
 hr.kept hg fun q=>B2 h.now.tag (h.tA q) (by decide) rfl
theorem P5{base:Nat}{w w' :Ae3}{H:Dk}{D:Ad}(h:DkS base w H D){a:CL}(ha:ActOk D.files.length a){v:Ae2}(hat:ActAt w H.F v a){vs:List Ae2}(hvs:OW base w H.va H.F D.acts vs){va' :Ae2} 
  (hc:Chg (fun i=>i=H.mn\/i=H.g\/H.va.ownBlock=some i) w w') (hm:MapF St (pF H.F) Nm w' H.mn (Ao (turnD D.now a)))
  (hb:w'.heap[H.g]? =some (.cells (Ju D.quota H.mn H.ml va' D.refused D.arm D.down).toArray 107 (0,0))) (hr:w'.ownsRow base 131 1 va' (vs++ [v]).length (vs++ [v]))
  (hv:∀i,va'.ownBlock=some i->H.va.ownBlock=some i\/w.heap.size<=i):DkT base w H D w' { H with va:=va' } (turnedD D a):=
 ⟨h.turned ha hat hvs hc hm hb hr,rfl,hc.mono fun i _ e=>e.elim (fun e=> .inr (.inl e)) fun e=>e.elim .inl fun e=> .inr (.inr (.inr (.inl e))),fun i hi=>by
  rcases hi with e | e | e | e | e
  ·exact .inl (.inl e)
  ·exact .inl (.inr (.inl e))
  ·exact .inl (.inr (.inr (.inl e)))
  ·exact(hv i e).imp (fun e=> .inr (.inr (.inr (.inl e)))) id
  ·exact .inl (.inr (.inr (.inr (.inr e))))⟩
theorem Kg:AZ Ae5 107 3 3:=fun b o w=>by simp[go_sem]
theorem Jw:Tryz.prog.underlying 105=some (.slice 131):=by kernel_rfl
theorem Uf(f:Fn)(a:Array Ae2)(c:Array Ae2)(w:Ae3):(AfM 105 1 #[(0, .func f a c)]).run Ae5 w = .ok (.slice (some ⟨w.heap.size,0,none⟩) 1 1) (w.alloc (.cells #[.func f a c] 131)):=by kernel_rfl
theorem dw5_ig131:∃z,(Tryz.prog.info? 131).map (fun i=>(i.zero,i.size,i.bytes))=some (some z,1,8)/\z.cells.size=1:=FS (by kernel_rfl)
theorem R5:(Tryz.prog.info? 105).map (·.size)=some 1:=by kernel_rfl
theorem QE(w0 w:Ae3)(b:Ext w0 w)(H:Dk)(D:Ad)(hS:DkS w0.heap.size w H D)(v:Ae2)(a:CL)(ha:ActOk D.files.length a)(hat:ActAt w H.F v a)(hn:D.acts.length<1099511627776):
  Calls Ae5 94 #[PQ H.g 0,v] w fun e w' =>∃va',e = .returned (.tuple #[])/\DkT w0.heap.size w H D w' { H with va:=va' } (turnedD D a):=by
 have hb:=hS.blk;have hgl:=(bl hb);have hsz0:=b.size;have hmnl:=hS.lo.2.1;have hgl0:=hS.lo.1;have h:=hS;obtain⟨vs,hvs⟩:=hS.acts;have hvl:=hvs.len;have hrow:OG w0.heap.size 131 1 Cb w H.va vs:=⟨fun _ _=>rfl,by rw[enV_flat];exact hvs.row⟩;have hvg:H.va.ownBlock≠some H.g:=fun q=>B2 hS.tg (hS.tA q) (by decide) rfl;obtain⟨f,caps,hve,hpl,hcl⟩:=OZ hat hS.now hS.ok.now ha;refine gG (args:= [PQ H.g 0,v]) Tryz.func94 rfl 20 rfl rfl ?_;have hE:=Ad4 w;refine gS (Ad7 rfl (gS (Ad6 P3 rfl (gS (Aax MY rfl rfl (cellAt hb rfl) (gS (AcZ hpl rfl hve rfl hcl fun w2 hR3=> ?_)))))));have hb:w2.heap[H.g]? =some (.cells (Ju (D.quota) (H.mn) (H.ml) (H.va) (D.refused) (D.arm) (D.down)).toArray 107 (0,0)):=XO hS.now hR3.2 hb;have hrow:OG w0.heap.size 131 1 (Cb) w2 H.va vs:=Aai hS hR3.2 hrow;have b:=Ab b hR3.2 (Ae7 (Ae8 _) (by omega));clear hE;have hC:Chg (fun i=>i=H.g\/H.va.ownBlock=some i) w2 w2:=AeF _ _;refine gS (Ad7 rfl (gS (Ad6 Kg rfl (gS (Aax Jw rfl rfl (cellAt hb rfl) (gS (Abh (a:=(v)) (enc:=Cb) (vr v rfl) rfl (fun w=>by rw[hve];exact Uf _ _ _ w) fun t n o k=> ?_)))))));have hC:Chg (fun i=>i=H.g\/H.va.ownBlock=some i) w2 n:=(hC.keep k);have hrow:=hrow.keep k;have b:=b.trans k;refine gS (Aa2 _ _ w0.heap.size _ 8 Jw dw5_ig131.choose_spec.1 dw5_ig131.choose_spec.2 Jw (vs) ([(v)]) (Aen hrow (vr H.va rfl)) (AaD o (vr t rfl)) (fun y hy u hu=>by rw[Afh.1 hu,Afh.1 hy,hve];rfl) (by simp;omega) (by simp;omega) b.size fun l p j c=> ?_);have c:Grew n p H.va l:=c;have hb:=eb k hb;have x:OB l H.g:=Ap c hvg (bl hb);have hb:=Aq hb c hvg;have b:=As b c hrow.2 (Ae8 _);have hvf:=fun i e=>(c.fresh i e).imp id (fun q=>Ae7 (Ae7 hR3.2.size hC.size) q);have hC:Chg (fun i=>i=H.g\/H.va.ownBlock=some i) w2 p:=Chg.grew hC c (fun i e=> .inl (.inr e));clear o;clear hrow;refine gS (Ad7 rfl (gS (Ad6 Kg rfl (gS (Aa0 (i:=3) (v:=l) rfl rfl hb (Afj rfl) R5 (Cm j.2).1 (Cm j.2).2 fun m r s z=> ?_)))));clear b;have hC:Chg (fun i=>i=H.g\/H.va.ownBlock=some i) w2 m:=Aeu hC s (.inl (.inl rfl));clear hb;have hb:=r;clear r;have aa:=bl hb;refine rt0 rfl ?_;have hC0:Chg (fun i=>i=H.mn\/i=H.g\/H.va.ownBlock=some i) w m:=((Abd hR3.2 (fun i e=> .inl (.inl (AfJ e).symm)):Chg (fun i=>i=H.mn\/i=H.g\/H.va.ownBlock=some i) w w2)).trans hC (fun i e=> .inl (.inr e));have hmf:=hR3.1.chg hC (fun q=>q.elim (fun q=>B2 h.now.tag h.tg (by decide) q) (fun q=>B2 h.now.tag (h.tA q) (by decide) rfl));have j:=Aei j s x;have hown:m.ownsRow w0.heap.size 131 1 l (vs++ [v]).length (vs++ [v]):=by have:=j.2;rw[enV_flat]at this;exact this
 exact⟨_,rfl,P5 h ha hat hvs hC0 hmf hb hown hvf⟩
open Go.Shelf Go.RowKit
def R6:Go.Shelf.Ren:=⟨fun | 5=>71 | 7=>122 | n=>n,fun | 23=>104 | 25=>9 | 3=>113 | 4=>4 | 20=>20 | n=>n,fun | n=>n⟩
theorem ZG:Go.Proofs.SlLaysW.n5 Ae5 R6:= {
  mixed:=by kernel_rfl
  f5:=⟨Tryz.f71.name,by decide,Tryz.func71.trans (congrArg some (by kernel_rfl))⟩
  f7:=Tryz.func122.trans (congrArg some (by kernel_rfl))
  t4:=AiJ
  a4:=AkK
  z4:=Akt
  v4:=Ajz
  t20:=Tryz.underlying20
  a20:=Tryz.isAgg20
  z20:=Tryz.sizeOf20
  v20:=Tryz.zeroValue20
  t23:=Tryz.underlying104
  a23:=Tryz.isAgg104
  z23:=Tryz.sizeOf104
  v23:=Tryz.zeroValue104 }
def M0:Go.Shelf.Ren:=⟨fun | 7=>59 | 10=>104 | n=>n,fun | 23=>104 | 26=>9 | 3=>113 | 28=>111 | 0=>0 | 27=>110 | 33=>139 | 4=>4 | n=>n,fun | n=>n⟩
theorem XP:Go.Proofs.SlLaysZ.n7 Ae5 M0:= {
  mixed:=by kernel_rfl
  f7:=⟨Tryz.f59.name,by decide,Tryz.func59.trans (congrArg some (by kernel_rfl))⟩
  f10:=⟨Tryz.f104.name,by decide,Tryz.func104.trans (congrArg some (by kernel_rfl))⟩
  t0:=AiK
  a0:=AjP
  z0:=AjA
  v0:=AiU
  t4:=AiJ
  a4:=AkK
  z4:=Akt
  v4:=Ajz
  t23:=Tryz.underlying104
  a23:=Tryz.isAgg104
  z23:=Tryz.sizeOf104
  v23:=Tryz.zeroValue104
  t26:=AhH
  a26:=AiO
  z26:=Aiy
  v26:=AhR
  t27:=Tryz.underlying110
  a27:=Tryz.isAgg110
  z27:=Tryz.sizeOf110
  v27:=Tryz.zeroValue110
  t28:=AjR
  a28:=Ak7
  z28:=AkR
  v28:=Aj6
  t33:=Tryz.underlying139
  a33:=Tryz.isAgg139
  z33:=Tryz.sizeOf139
  v33:=Tryz.zeroValue139 }
def Kh:Go.Shelf.Ren:=⟨fun | 6=>58 | 8=>102 | 9=>103 | 11=>148 | 13=>150 | 12=>149 | 23=>194 | 24=>195 | 14=>185 | 15=>186 | 16=>187 | 17=>188 | 18=>189 | 19=>190 | 20=>191 | 21=>192 | 22=>193 | 25=>215 | 26=>216 | 27=>217 | 28=>218 | 29=>219 | 30=>220 | 31=>223 | n=>n,fun | 26=>9 | 28=>111 | 24=>56 | 0=>0 | 3=>3 | 37=>184 | 48=>181 | 50=>228 | 4=>4 | 40=>276 | 39=>275 | 45=>193 | 5=>5 | 9=>9 | 51=>307 | 55=>311 | 57=>317 | 58=>297 | 33=>139 | n=>n,fun | n=>n⟩
theorem QG:Go.Proofs.SlLaysZ.n6 Ae5 Kh:= {
  mixed:=by kernel_rfl
  f6:=⟨Tryz.f58.name,by decide,Tryz.func58.trans (congrArg some (by kernel_rfl))⟩
  f8:=⟨Tryz.f102.name,by decide,Tryz.func102.trans (congrArg some (by kernel_rfl))⟩
  f11:=⟨Tryz.f148.name,by decide,Tryz.func148.trans (congrArg some (by kernel_rfl))⟩
  t0:=AiK
  a0:=AjP
  z0:=AjA
  v0:=AiU
  t24:=Aj7
  a24:=Aly
  z24:=Ak8
  v24:=Aku
  t26:=AhH
  a26:=AiO
  z26:=Aiy
  v26:=AhR
  t28:=AjR
  a28:=Ak7
  z28:=AkR
  v28:=Aj6
  i26:=by kernel_rfl }
def Ug:Go.Shelf.Ren:=⟨fun | 6=>103 | 8=>150 | 9=>149 | 19=>194 | 20=>195 | 21=>185 | 22=>186 | 23=>187 | 24=>188 | 25=>189 | 26=>190 | 27=>191 | 28=>192 | 29=>193 | 36=>215 | 31=>216 | 32=>217 | 37=>218 | 38=>219 | 39=>220 | 41=>223 | n=>n,fun | 27=>56 | 29=>9 | 3=>3 | 32=>184 | 26=>56 | 0=>0 | 44=>181 | 46=>228 | 4=>4 | 36=>276 | 35=>275 | 41=>193 | 5=>5 | 9=>9 | 53=>307 | 57=>311 | 63=>317 | 64=>297 | n=>n,fun | n=>n⟩
theorem XQ:Go.Proofs.SlLaysM.n6 Ae5 Ug:= {
  mixed:=by kernel_rfl
  f6:=⟨Tryz.f103.name,by decide,Tryz.func103.trans (congrArg some (by kernel_rfl))⟩
  f8:=Tryz.func150.trans (congrArg some (by kernel_rfl))
  f9:=⟨Tryz.f149.name,by decide,Tryz.func149.trans (congrArg some (by kernel_rfl))⟩
  f19:=Tryz.func194.trans (congrArg some (by kernel_rfl))
  f20:=Tryz.func195.trans (congrArg some (by kernel_rfl))
  f21:=⟨Tryz.f185.name,by decide,Tryz.func185.trans (congrArg some (by kernel_rfl))⟩
  f22:=⟨Tryz.f186.name,by decide,Tryz.func186.trans (congrArg some (by kernel_rfl))⟩
  f23:=⟨Tryz.f187.name,by decide,Tryz.func187.trans (congrArg some (by kernel_rfl))⟩
  f24:=⟨Tryz.f188.name,by decide,Tryz.func188.trans (congrArg some (by kernel_rfl))⟩
  f25:=⟨Tryz.f189.name,by decide,Tryz.func189.trans (congrArg some (by kernel_rfl))⟩
  f26:=⟨Tryz.f190.name,by decide,Tryz.func190.trans (congrArg some (by kernel_rfl))⟩
  f27:=⟨Tryz.f191.name,by decide,Tryz.func191.trans (congrArg some (by kernel_rfl))⟩
  f28:=⟨Tryz.f192.name,by decide,Tryz.func192.trans (congrArg some (by kernel_rfl))⟩
  f29:=⟨Tryz.f193.name,by decide,Tryz.func193.trans (congrArg some (by kernel_rfl))⟩
  f31:=Tryz.func216.trans (congrArg some (by kernel_rfl))
  f32:=Tryz.func217.trans (congrArg some (by kernel_rfl))
  f36:=⟨Tryz.f215.name,by decide,Tryz.func215.trans (congrArg some (by kernel_rfl))⟩
  f37:=⟨Tryz.f218.name,by decide,Tryz.func218.trans (congrArg some (by kernel_rfl))⟩
  f38:=⟨Tryz.f219.name,by decide,Tryz.func219.trans (congrArg some (by kernel_rfl))⟩
  f39:=⟨Tryz.f220.name,by decide,Tryz.func220.trans (congrArg some (by kernel_rfl))⟩
  f41:=⟨Tryz.f223.name,by decide,Tryz.func223.trans (congrArg some (by kernel_rfl))⟩
  t0:=AiK
  a0:=AjP
  z0:=AjA
  v0:=AiU
  t3:=Tryz.underlying3
  a3:=Tryz.isAgg3
  z3:=Tryz.sizeOf3
  v3:=Tryz.zeroValue3
  t4:=AiJ
  a4:=AkK
  z4:=Akt
  v4:=Ajz
  t5:=Tryz.underlying5
  a5:=Tryz.isAgg5
  z5:=Tryz.sizeOf5
  v5:=Tryz.zeroValue5
  t9:=AhH
  a9:=AiO
  z9:=Aiy
  v9:=AhR
  t26:=Aj7
  a26:=Aly
  z26:=Ak8
  v26:=Aku
  t27:=Aj7
  a27:=Aly
  z27:=Ak8
  v27:=Aku
  t29:=AhH
  a29:=AiO
  z29:=Aiy
  v29:=AhR
  t32:=Tryz.underlying184
  a32:=Tryz.isAgg184
  z32:=Tryz.sizeOf184
  v32:=Tryz.zeroValue184
  t35:=Tryz.underlying275
  a35:=Tryz.isAgg275
  z35:=Tryz.sizeOf275
  v35:=Tryz.zeroValue275
  t36:=Tryz.underlying276
  a36:=Tryz.isAgg276
  z36:=Tryz.sizeOf276
  v36:=Tryz.zeroValue276
  t41:=Tryz.underlying193
  a41:=Tryz.isAgg193
  z41:=Tryz.sizeOf193
  v41:=Tryz.zeroValue193
  t44:=Tryz.underlying181
  a44:=Tryz.isAgg181
  z44:=Tryz.sizeOf181
  v44:=Tryz.zeroValue181
  t46:=Tryz.underlying228
  a46:=Tryz.isAgg228
  z46:=Tryz.sizeOf228
  v46:=Tryz.zeroValue228
  t53:=Tryz.underlying307
  a53:=Tryz.isAgg307
  z53:=Tryz.sizeOf307
  v53:=Tryz.zeroValue307
  t57:=Tryz.underlying311
  a57:=Tryz.isAgg311
  z57:=Tryz.sizeOf311
  v57:=Tryz.zeroValue311
  t63:=Tryz.underlying317
  a63:=Tryz.isAgg317
  z63:=Tryz.sizeOf317
  v63:=Tryz.zeroValue317
  t64:=Tryz.underlying297
  a64:=Tryz.isAgg297
  z64:=Tryz.sizeOf297
  v64:=Tryz.zeroValue297 }
open Go.RowKit Go.Shelf
theorem Jx(w:Ae3){F:Nat->Nat}{b:Nat}{G:AlJ->Option Nat}(h:MapF St (pF F) Nm w b G):
  Calls Ae5 71 #[.map (some b)] w fun e w' =>∃n,e = .returned (.map (some n))/\w.heap.size<=n/\MapF St (pF F) Nm w' n G/\Ext w w' :=by
 obtain⟨es,c,hb,hI⟩:=h;have h0:=AnyW.maps_Clone ZG b es.toArray c w hb;change Calls _ 71 _ _ _ at h0;refine h0.mono fun e w' ⟨he,hw⟩=>⟨w.heap.size,he,Ae8 _,⟨es,c,by rw[hw];exact heap_alloc_new _ _,hI⟩,by rw[hw];exact(AfV _ _).alloc (Ae8 _) _⟩
theorem Uh(m:Nat):AnyZ.SortsIn Ae5 Kh Fence.wide m:=
 ⟨fun blk off cap ss W hH hblk hsz=>callsIn_wide.2 (AnyM.slices_Sort_string XQ blk off cap ss W hH hblk hsz),fun p cap W=>callsIn_wide.2 (AnyM.slices_Sort_string_none XQ p cap W)⟩
theorem O1(w:Ae3)(b:Nat):Calls Ae5 59 #[.map (some b)] w fun e w' =>e = .returned (.func (.func 104) #[] #[.pointer (some ⟨w.heap.size,0,none⟩)])/\w' =w.alloc (.cells #[.map (some b)] 104):=by
 have h:=AnyZ.keys_in XP Fence.wide 5 trivial rfl (some b) w;exact callsIn_wide.1 h
theorem R7{n:Nat}{l:Br}(h:DirOk n l){ss:List AlJ}(hp:ss.Perm (l.map AfB)):ss.mergeSort (fun x y=>decide (x<=y))=l.map AfB:=by
 have h1:=mergeSort_of_perm hp;refine h1.trans (List.mergeSort_of_pairwise ?_);refine h.sort.map _ fun a b q=> ?_;rw[bytesLess_eq,decide_eq_true_eq]at q;simp only[decide_eq_true_eq];exact List.le_of_lt q
set_option maxHeartbeats 1000000 in
theorem LH(w w2:Ae3){F:Nat->Nat}{b n:Nat}{l:Br}(hw:w2=w.alloc (.cells #[.map (some b)] 104))(h:MapF St (pF F) Nm w b (Ao l))(hl:DirOk n l)(hlen:l.length<1099511627776):
  Calls Ae5 58 #[.func (.func 104) #[] #[.pointer (some ⟨w.heap.size,0,none⟩)]] w2 fun e w' =>∃v,e = .returned v/\OG w2.heap.size 9 1 CQ w' v (l.map AfB)/\Ext w2 w' :=by
 subst hw;obtain⟨D0,hown,hperm,hsize⟩:=h.owns (P:=Ae5) (k:=9) (by kernel_rfl) (fun a q=>Ae7 q (by decide)) (keys:=l.map AfB) (Ajf _ (fun a b q e=>by rw[e,Fj]at q;cases q) hl.sort) (fun s=>by
  constructor
  ·intro q;obtain⟨y,hy⟩:=Option.isSome_iff_exists.1 q;exact AfO.2 ⟨(s,y),Db hy,rfl⟩
  ·intro q;obtain⟨e,he,rfl⟩:=AfO.1 q;rw[FV hl.sort he];rfl) (by rw[Afu];simp only[maxLen];omega)
 rw[Afu]at hsize;have hbl:=hown.lt;have hseq:SeqGives Fence.wide 2 Ae5 104 #[.pointer (some ⟨w.heap.size,0,none⟩)] encStr (fun ss=>ss.Perm (strKeys D0)) (Maps.size D0) (w.alloc (.cells #[.map (some b)] 104)):=
  AnyZ.keys_gives (ρ:=M0) { XP with } Fence.wide _ trivial rfl (by omega) w.heap.size b _ D0 _ (by simp) (by simp) (by
   obtain⟨es,clock,hb,Ft,hs,hD⟩:=hown;exact⟨es,clock,(Below.heap_alloc _ _ b hbl).trans hb,Ft,hs,hD⟩)
 have hS:=AnyZ.sorted_in QG Fence.wide 5 trivial trivial trivial trivial rfl (by omega) (Uh _) (enters_of Tryz.func103 (by kernel_rfl) rfl) 104 #[.pointer (some ⟨w.heap.size,0,none⟩)] trivial (enters_of Tryz.func104 (by kernel_rfl) rfl) _ _ (by rw[hsize];simp only[maxLen];omega) (by rw[hsize];omega) _ hseq;refine(callsIn_wide.1 hS).mono fun e w' q=> ?_;obtain⟨v,ss,he,hp,hrow,-,hB⟩:=q;refine⟨v,he,⟨fun _ _=>rfl,?_⟩,hB⟩;have hs:=R7 hl (hp.trans hperm);rw[hs]at hrow;rw[OX];have hlen:ss.length=(l.map AfB).length:=(hp.trans hperm).length_eq;rw[hlen]at hrow;exact hrow
theorem Yu(w0 w:Ae3)(b:Ext w0 w)(H:Dk)(D:Ad)(hS:DkS w0.heap.size w H D)(g:Nat)(hg:H.g=g)(v:Ae2)(a:CL)(ha:ActOk D.files.length a)(hat:ActAt w H.F v a)(hn:D.acts.length<1099511627776):
  Calls Ae5 94 #[PQ g 0,v] w fun e w' =>∃va',e = .returned (.tuple #[])/\DkT w0.heap.size w H D w' { H with va:=va' } (turnedD D a):=by
 subst hg;exact QE w0 w b H D hS v a ha hat hn
theorem V3{base:Nat}{w w' :Ae3}{H H1:Dk}{D D1:Ad}(h:DkT base w H D w' H1 D1){v:Ae2}{b:AlJ}(hr:RB w v b)(ho:b= []\/∀i,v.ownBlock=some i->¬B7 H D.files.length i):b= []\/∀i,v.ownBlock=some i->¬B7 H1 D1.files.length i:=by
 rcases ho with h0 | ho
 ·exact .inl h0
 ·by_cases hb:b= []
  ·exact .inl hb
  ·refine .inr fun i hi q=> ?_;rcases h.foot i q with q | q
   ·exact ho i hi q
   ·have:=RB.lt hr (List.length_pos_iff.2 hb) hi;omega
theorem AbI{base:Nat}{w w' :Ae3}{H:Dk}{D:Ad}(h:DkS base w H D)(hE:Ext w w'):DkT base w H D w' H D:=⟨h.keep hE,rfl,AbD hE,fun _ q=> .inl q⟩
theorem Yv{D:Ad}{s b:AlJ}{k:Nat}(h:Ao D.now s=some k):Cg D s b = { D with files:=D.files.set k ((D.files.getD k ([],0)).1++b,(D.files.getD k ([],0)).2) } :=by unfold Cg;rw[h];rfl
theorem Yw{D:Ad}{s b:AlJ}(h:Ao D.now s=none): { turnedD { D with files:=D.files++ [([],0)] } ⟨[],s,D.files.length⟩with files:=(turnedD { D with files:=D.files++ [([],0)] } ⟨[],s,D.files.length⟩).files.set D.files.length (((turnedD { D with files:=D.files++ [([],0)] } ⟨[],s,D.files.length⟩).files.getD D.files.length ([],0)).1++b,((turnedD { D with files:=D.files++ [([],0)] } ⟨[],s,D.files.length⟩).files.getD D.files.length ([],0)).2) } = Cg D s b:=by
 unfold Cg;rw[h];have h1:(turnedD { D with files:=D.files++ [([],0)] } ⟨[],s,D.files.length⟩).files=D.files++ [([],0)]:=rfl;rw[h1,Gg];have h2:(D.files++ [(([]:AlJ),0)]).set D.files.length ([]++b,0)=D.files++ [(b,0)]:=by
  rw[List.set_append_right _ _ (Ae8 _),AgR];rfl
 rw[h2];rfl
theorem D5{α:Type}{l:List α}{k:Nat}{d:α}(h:k<l.length):l.getD k d∈l:=by rw[Ae6,Afb h];exact Agv h
theorem O2:Plain Ae5 94:=fun _ _=>by kernel_rfl
theorem P6:AZ Ae5 133 1 1:=fun b o w=>by simp[go_sem]
theorem V4:Plain Ae5 71:=fun _ _=>by kernel_rfl
theorem P7:AZ Ae5 107 2 2:=fun b o w=>by simp[go_sem]
theorem R8:(Tryz.prog.info? 104).map (·.size)=some 1:=by kernel_rfl
theorem Ui{d:Option Tmp}{ty:Afa}{pos:String}{af:Array Edge}{gd:Option (Nat × Bool)}(σ:Aff->Ae2)(w:Ae3):(execOp σ ⟨d, .alloc 113,ty,pos,af,gd⟩).run Ae5 w = .ok (.value (PQ w.heap.size 0)) (w.alloc (.cells ([.pointer none]).toArray 113)):=by kernel_rfl
theorem R9:(Tryz.prog.info? 113).map (·.size)=some 1:=by kernel_rfl
theorem Aaj(w0 w:Ae3)(a:Ext w0 w)(H:Dk)(D:Ad)(hS:DkS w0.heap.size w H D)(bd bs k:Nat)(s:AlJ)(hbd:w.heap[bd]? =some (.cells ([PQ H.g 0]).toArray 50 (0,0)))(h3:w.heap[bs]? =some (.cells ([St s]).toArray 9 (0,0)))(hk:k<D.files.length)(hs:Bg s=true)(hn:D.acts.length<1099511627776):
  Calls Ae5 93 #[PQ bd 0,PQ bs 0] w fun e w' =>∃H',e = .returned (.tuple #[])/\DkT w0.heap.size w H D w' H' (turnedD D ⟨s,[],k⟩):=by
 have hb:=hS.blk;have hgl0:=hS.lo.1;have hsz0:=a.size;refine gG (args:= [PQ bd 0,PQ bs 0]) Tryz.func93 rfl 5 rfl rfl ?_;have hE:=Ad4 w;refine gS (Aax VY rfl rfl (cellAt hbd rfl) (gS (Abk (vs:= #[PQ bs 0]) (by simp only[AfI,AfG,AfQ];exact congrArg Agp (K7 (vr (PQ bs 0) rfl))) (gS (AaA O2 rfl rfl ((QE w0 _ a H D (hS.keep hE) (.func (.func 95) #[] #[PQ bs 0]) ⟨s,[],k⟩ ⟨hk,fun q=>absurd rfl q,(B1 hs).2⟩ (.inr (.inr ⟨bs,rfl,h3,rfl⟩)) hn).mono ?_))))));rintro e w1 ⟨va2,rfl,hT⟩;refine⟨_,rfl,?_⟩;refine rt0 rfl ?_;exact⟨_,rfl,hT⟩
theorem Aak(w0 w:Ae3)(f:Ext w0 w)(H:Dk)(D:Ad)(hS:DkS w0.heap.size w H D)(bf bd k:Nat)(hbf:w.heap[bf]? =some (.cells ([PQ (H.F k) 0]).toArray 113 (0,0)))(hbd:w.heap[bd]? =some (.cells ([PQ H.g 0]).toArray 50 (0,0)))(hkl:k<D.files.length):
  Calls Ae5 142 #[PQ bf 0,PQ bd 0] w fun e w' =>∃H',e = .returned (.tuple #[])/\DkT w0.heap.size w H D w' H' ({ D with files:=D.files.set k ((AG D k).1,(AG D k).1.length),kept:=D.now,acts:= [] }):=by
 have hb:=hS.blk;have hgl0:=hS.lo.1;have hsz0:=f.size;have h:=hS;have hbd0:=hbd;have af:bf≠H.F k:=B2 (BB hbf) (hS.tF hkl) (by decide);have ag:bd≠H.F k:=B2 (BB hbd) (hS.tF hkl) (by decide);have ah:H.g≠H.F k:=B2 hS.tg (hS.tF hkl) (by decide);have hfa:=h.files.at_ k hkl;have hfb:=hfa.blk;have hfl:=(bl hfb);have hfo:=hfa.row;have hflo:=hfa.lo;have hfv:(H.V k).ownBlock≠some (H.F k):=fun q=>B2 (h.tF hkl) (h.tV hkl q) (by decide) rfl;have hfr:RB w (H.V k) (D.files.getD k ([],0)).1:=Aa5 hfo;have hC:Chg (fun i=>i=(H.F k)) w w:=AeF _ _;refine gG (args:= [PQ bf 0,PQ bd 0]) Tryz.func142 rfl 21 rfl rfl ?_;have hE:=Ad4 w;refine Co [0,1,2,3,4,5,6,7,8] [8] [] fun w2 j=> ?_;have hC:Chg (fun i=>i=(H.F k)) w w2:=(hC.keep j);have hbf:=eb j hbf;have hfb:=eb j hfb;have hE:=hE.trans j;refine ys (Aax MZ rfl rfl (cellAt hbf rfl) zz) (ys (Aax MZ rfl rfl (cellAt hbf rfl) zz) (ys (Ad7 rfl zz) (ys (Ad6 P4 rfl zz) (ys (Aax GR rfl rfl (cellAt hfb rfl) zz) (ys (AaT GR (AaF (hfr.keep hE) rfl) zz) (ys (Ad7 rfl zz) (ys (Ad6 P6 rfl zz) (yC (Aa0 (i:=1) (v:=NI (((D.files.getD k ([],0)).1:AlJ).length)) rfl rfl hfb (Afj rfl) Oj rfl rfl fun b p r ai=> ?_)))))))));have hC:Chg (fun i=>i=(H.F k)) w b:=Aeu hC r (.inl rfl);clear hE;clear hfb;have hfb:=p;clear p;have aj:=bl hfb;have hT1:=h.setFileT (x:=((D.files.getD k ([],0)).1,(D.files.getD k ([],0)).1.length)) hkl (Ae8 _) (hC.mono fun i _ e=> .inl e) ⟨hfb,Dl hC hfo (fun i e q=>hfv (e.trans (congrArg some q))),hflo⟩ (fun i e=> .inl e);have hbd1:=Aey hT1 h hbd0 (by decide) (by decide) (by decide) (by decide);obtain⟨H1,s⟩:∃x,x=({ H with V:=BC H.V k (H.V k) } :Dk):=⟨_,rfl⟩;obtain⟨D1,hD1⟩:∃x,x=({ D with files:=D.files.set k ((D.files.getD k ([],0)).1,(D.files.getD k ([],0)).1.length) } :Ad):=⟨_,rfl⟩;rw[<-s,<-hD1]at hT1;have y:H1.g=H.g:=by rw[s]
 have c:=hT1.st;have f:=f.trans j;have f:=Ab f r (Ae7 (Ae8 _) (by omega));have z:=f;have a:=c.blk;have hgl1:=(bl a);rw[<-y]at hbd1;have hm1:=c.now;have ak:bd≠H1.g:=B2 (BB hbd1) c.tg (by decide);have hgm:H1.g≠H1.mn:=B2 c.tg c.now.tag (by decide);have hmn1:=c.now.lt;have hC2:Chg (fun i=>i=H1.g) b b:=AeF _ _;have hg1l:=c.lo.1;refine Ed [0,1,2,3,4,5,6,7,8,9,10,11,12] [6,9,12] [] [0,1] fun w9 l=> ?_;have hC2:Chg (fun i=>i=H1.g) b w9:=(hC2.keep l);have hm1:=hm1.keep l;have a:=eb l a;have hbd1:=eb l hbd1;refine mb1 hbd1 ?_;refine yf (fun _ ⟨hbd1,_⟩=>Aax VY rfl rfl (cellAt hbd1 rfl) zz) (yf (fun _ ⟨hbd1,_⟩=>Aax VY rfl rfl (cellAt hbd1 rfl) zz) (ys (Aax VY rfl rfl (cellAt hbd1 rfl) zz) (ys (Ad7 rfl zz) (ys (Ad6 P3 rfl zz) (ys (Aax MY rfl rfl (cellAt a rfl) zz) (yI (AaE V4 rfl ((Jx _ hm1).mono ?_))))))));rintro e ab ⟨nm,rfl,hnl,hmm,m⟩;refine⟨_,rfl,?_⟩;have hnl1:b.heap.size<=nm:=Ae7 hC2.size hnl;have hC2:Chg (fun i=>i=H1.g) b ab:=(hC2.keep m);have hgn:H1.g≠nm:=by omega
 have a:=eb m a;have hbd1:=eb m hbd1;refine⟨⟨hbd1,trivial⟩,?_⟩;refine ys (Ad7 rfl zz) (ys (Ad6 P7 rfl zz) (yI (Aa0 (i:=2) (v:= .map (some nm)) rfl rfl a (Afj rfl) R8 rfl rfl fun ac t n al=> ?_)));have hm1:=hm1.keep m;have hm1:=Ad8 hm1 n (Ak (by omega));have hC2:Chg (fun i=>i=H1.g) b ac:=Aeu hC2 n (.inl rfl);have hmm:=Ad8 hmm n (Ak (by omega));clear a;have a:=t;clear t;have am:=bl a;have hbd1:=kb n hbd1 (by omega);refine⟨⟨hbd1,trivial⟩,?_⟩;refine ys (Ad7 rfl zz) (ys (Ad6 Kg rfl zz) (yD rfl (Aa0 (i:=3) (v:=(Afc none 0 0)) rfl rfl a (Afj rfl) R5 rfl rfl fun ad u o an=> ?_)));have hm1:=Ad8 hm1 o (Ak (by omega));have hC2:Chg (fun i=>i=H1.g) b ad:=Aeu hC2 o (.inl rfl);have hmm:=Ad8 hmm o (Ak (by omega));clear a;have a:=u;clear u;have ao:=bl a;refine rt0 rfl ?_;have ae:=a;have hT2:=c.syncedT hC2 hnl1 hmm z.size ae;exact⟨_,rfl,by have:=hT1.trans hT2;rw[hD1]at this;exact this⟩
theorem Aal(w0 w:Ae3)(c:Ext w0 w)(H:Dk)(D:Ad)(hS:DkS w0.heap.size w H D)(bd bn bb:Nat)(s b:AlJ)(vb:Ae2)(hbd:w.heap[bd]? =some (.cells ([PQ H.g 0]).toArray 50 (0,0)))(hbn:w.heap[bn]? =some (.cells ([St s]).toArray 9 (0,0)))(hbb:w.heap[bb]? =some (.cells ([vb]).toArray 27 (0,0)))(hrb:RB w vb b)(hoff:b= []\/∀i,vb.ownBlock=some i->¬B7 H D.files.length i)(hs:Bg s=true)(hbl:b.length<1099511627776)(hfs:∀x∈D.files,x.1.length<1099511627776)(hn:D.acts.length<1099511627776)(k:Nat)(hlk:Ao D.now s=some k):
  Calls Ae5 140 #[PQ bd 0,PQ bn 0,PQ bb 0] w fun e w' =>∃H',e = .returned (.tuple #[])/\DkT w0.heap.size w H D w' H' (Cg D s b):=by
 have hb:=hS.blk;have hgl0:=hS.lo.1;have hsz0:=c.size;have aa:=hS;have hrb0:=hrb;have ab:=c;have hT12:=DkT.refl hS;have hkl:=(hS.ok.now.look hlk).1;have hlb:=hfs _ (D5 (d:=([],0)) hkl);refine gG (args:= [PQ bd 0,PQ bn 0,PQ bb 0]) Tryz.func140 rfl 32 rfl rfl ?_;have hE:=Ad4 w;refine Co [0,1,2,3,4,5,6] [] [] fun u h=> ?_;have hT12:DkT w0.heap.size w H D u H D:=(hT12.keep h);have hb:=eb h hb;have hbd:=eb h hbd;have hbn:=eb h hbn;refine ys (Aax VY rfl rfl (cellAt hbd rfl) zz) (ys (Ad7 rfl zz) (ys (Ad6 P3 rfl zz) (ys (Aax MY rfl rfl (cellAt hb rfl) zz) (ys (Aax QD rfl rfl (cellAt hbn rfl) zz) (ys (AbC Fd Eb (fun _ _=>C4) MY Iw rfl rfl hT12.st.now (B1 hs).2 hlk zz) (ys (Aa8 MZ rfl zz) (kB (rfl) (cF rfl (Co [0,1,2,3,4,5,6] [] [] fun f j=> ?_)))))))));have hT12:DkT w0.heap.size w H D f H D:=(hT12.keep j);have hb:=eb j hb;have hbd:=eb j hbd;have hbn:=eb j hbn;refine ys (Aax VY rfl rfl (cellAt hbd rfl) zz) (ys (Ad7 rfl zz) (ys (Ad6 P3 rfl zz) (ys (Aax MY rfl rfl (cellAt hb rfl) zz) (ys (Aax QD rfl rfl (cellAt hbn rfl) zz) (ys (AbC Fd Eb (fun _ _=>C4) MY Iw rfl rfl hT12.st.now (B1 hs).2 hlk zz) ?_)))));have hTc:=hT12;have hSc:=hTc.st;have hfa:=hSc.files.at_ k hkl;have hfb:=hfa.blk;have hfl:=(bl hfb);have hfo:=hfa.row;have hflo:=hfa.lo;have hfv:(H.V k).ownBlock≠some (H.F k):=fun q=>B2 (hSc.tF hkl) (hSc.tV hkl q) (by decide) rfl;have hC:Chg (fun i=>i=(H.F k)\/(H.V k).ownBlock=some i) f f:=AeF _ _;have hsy:=hSc.ok.syn _ (D5 (d:=([],0)) hkl);have hZ1:=h.trans j;have hbb:=eb hZ1 hbb;have hvb:Afd (H.V k)≠some bb:=fun q=>B2 (BB hbb) (hSc.tV hkl q) (by decide) rfl;have ac:bb≠(H.F k):=B2 (BB hbb) (hSc.tF hkl) (by decide);refine Co [0,1,2,3,4,5,6,7,8,9] [6,9] [] fun o l=> ?_;have hC:Chg (fun i=>i=(H.F k)\/(H.V k).ownBlock=some i) f o:=(hC.keep l);have hZ2:=hZ1.trans l;have hE:=hE.trans hZ2;have c:=c.trans hZ2;have hbb:=eb l hbb;have hfb:=eb l hfb;have hfo:=Aed _ _ _ _ _ _ _ _ hfo l;refine ys (Ad7 rfl zz) (ys (Ad6 P4 rfl zz) (ys (Aax GR rfl rfl (cellAt hfb rfl) zz) (ys (Aax GR rfl rfl (cellAt hbb rfl) zz) (yC (Abc _ _ w0.heap.size (.int .u8 0) GR NU rfl GR ((D.files.getD k ([],0)).1) (b) (Dd hfo (vr (H.V k) rfl)) (AaF (hrb.keep hE) (vr vb rfl)) (by omega) c.size fun n p m a=> ?_)))));have a:Grew o p (H.V k) n:=a;have y:Afd n≠some (H.F k):=Ap a hfv (bl hfb);have hbb:=Aq hbb a hvb;clear hE;have c:=As c a hfo (Ae8 _);have hfb:=Aq hfb a hfv;have hvf:=fun i e=>(a.fresh i e).imp id (fun q=>Ae7 hC.size q);have hC:Chg (fun i=>i=(H.F k)\/(H.V k).ownBlock=some i) f p:=Chg.grew hC a (fun i e=> .inl (.inr e));clear hfo;refine ys (Ad7 rfl zz) (ys (Ad6 P4 rfl zz) (yC (Aa0 (i:=0) (v:=n) rfl rfl hfb (Afj rfl) Li (Cm m).1 (Cm m).2 fun z r t ad=> ?_)));have hC:Chg (fun i=>i=(H.F k)\/(H.V k).ownBlock=some i) f z:=Aeu hC t (.inl (.inl rfl));clear hfb;have hfb:=r;clear r;have ae:=bl hfb;refine rt0 rfl ?_;have m:=BT m t y;have hTf:=hSc.setFileT (x:=((D.files.getD k ([],0)).1++b,(D.files.getD k ([],0)).2)) hkl (by simp only[Ae9];omega) hC ⟨hfb,(show AjX _ _ _ _ _ _ _ from by simpa using m),hflo⟩ hvf;exact⟨_,rfl,by rw[Yv hlk];exact hTc.trans hTf⟩
theorem Aam(w0 w:Ae3)(a:Ext w0 w)(H:Dk)(D:Ad)(hS:DkS w0.heap.size w H D)(bd bn bb:Nat)(s b:AlJ)(vb:Ae2)(hbd:w.heap[bd]? =some (.cells ([PQ H.g 0]).toArray 50 (0,0)))(hbn:w.heap[bn]? =some (.cells ([St s]).toArray 9 (0,0)))(hbb:w.heap[bb]? =some (.cells ([vb]).toArray 27 (0,0)))(hrb:RB w vb b)(hoff:b= []\/∀i,vb.ownBlock=some i->¬B7 H D.files.length i)(hs:Bg s=true)(hbl:b.length<1099511627776)(hfs:∀x∈D.files,x.1.length<1099511627776)(hn:D.acts.length<1099511627776)(hlk:Ao D.now s=none):
  Calls Ae5 140 #[PQ bd 0,PQ bn 0,PQ bb 0] w fun e w' =>∃H',e = .returned (.tuple #[])/\DkT w0.heap.size w H D w' H' (Cg D s b):=by
 have hb:=hS.blk;have hgl0:=hS.lo.1;have hsz0:=a.size;have ap:=hS;have hrb0:=hrb;have aq:=a;have hT12:=DkT.refl hS;refine gG (args:= [PQ bd 0,PQ bn 0,PQ bb 0]) Tryz.func140 rfl 32 rfl rfl ?_;have hE:=Ad4 w;refine Co [0,1,2,3,4,5,6] [] [] fun w3 j=> ?_;have hT12:DkT w0.heap.size w H D w3 H D:=(hT12.keep j);have hb:=eb j hb;have hbd:=eb j hbd;have hbn:=eb j hbn;refine ys (Aax VY rfl rfl (cellAt hbd rfl) zz) (ys (Ad7 rfl zz) (ys (Ad6 P3 rfl zz) (ys (Aax MY rfl rfl (cellAt hb rfl) zz) (ys (Aax QD rfl rfl (cellAt hbn rfl) zz) (ys (Ab9 Fd Eb (fun _ _=>C4) MY Iw rfl rfl hT12.st.now (B1 hs).2 hlk zz) (ys (Aa8 MZ rfl zz) (kB (rfl) (cT rfl (gS (AeB (v:= .agg #[.slice none 0 0,NI 0]) (by kernel_rfl) ?_))))))))));have hE:=hE.trans j;have hzb:=hE.size;refine gS (Ael (cs:=([.slice none 0 0,NI 0]:List Ae2).toArray) (show _=(.agg ([.slice none 0 0,NI 0]:List Ae2).toArray:Ae2)from rfl) fun m w7 a0 ag aa a1=> ?_);have c:=Ad4 w3;have a:=a.trans j;have a2:=hE.size;have a3:=a.size;have ab:=ag;clear ag;have a4:m<w7.heap.size:=by omega
 refine gS (Ad9 Ui fun n ar a5 ah y a6=> ?_);have o:=Ad4 w7;have hE:=hE.trans aa;have a:=a.trans aa;have c:=c.trans aa;have au:=hE.size;have av:=a.size;have p:=ah;clear ah;have a7:n<ar.heap.size:=by omega
 refine gS (Aa0 (i:=0) (v:=PQ m 0) rfl rfl p (Afj rfl) R9 rfl rfl fun a8 ai z a9=> ?_);clear p;have p:=ai;clear ai;have ba:=bl p;have aw:=c.size;have c:=c.trans y;have c:=Ab c z (Ae7 aw (by omega));have hbd:=eb c hbd;refine gS (Aax VY rfl rfl (cellAt hbd rfl) (gS (Abk (vs:= #[PQ n 0,PQ bn 0]) (by simp only[AfI,AfG,AfQ];exact congrArg Agp (E2 (vr (PQ n 0) rfl) (vr (PQ bn 0) rfl))) ?_)));have o:=o.trans y;have o:=Ab o z (Ae7 (Ae8 _) (by omega));have ab:=eb o ab;have hE:=hE.trans y;have hE:=Ab hE z (Ae7 au (by omega));have hT1:=ap.newFileT (f:=m) hE (by omega) ab aq.size;obtain⟨H1,ac⟩:∃x,x=({ H with F:=BC H.F D.files.length m,V:=BC H.V D.files.length (.slice none 0 0) } :Dk):=⟨_,rfl⟩;obtain⟨D1,hD1⟩:∃x,x=({ D with files:=D.files++ [([],0)] } :Ad):=⟨_,rfl⟩;rw[<-ac,<-hD1]at hT1;have r:=hT1.st;have aj:H1.g=H.g:=by rw[ac]
 have hF1:H1.F D.files.length=m:=by rw[ac];exact Ca _ _ _
 have hD1l:D1.files.length=D.files.length+1:=by rw[hD1];simp
 have hsl:=(B1 hs).1;have hbd1:=hbd;have hbn:=eb c hbn;have hbn1:=hbn;have hbb:=eb (j.trans c) hbb;have hbb1:=hbb;have hrb1:=(hrb.keep hE);have a:=a.trans y;have a:=Ab a z (Ae7 av (by omega));refine gS (AaA O2 rfl rfl ((Yu w0 _ a H1 D1 r H.g aj (.func (.func 141) #[] #[PQ n 0,PQ bn 0]) ⟨[],s,D.files.length⟩ ⟨by rw[hD1l];exact Nat.lt_succ_self _,fun _=>hs,AfC _⟩ (.inl ⟨n,bn,rfl,by rw[hF1];exact p,hbn,rfl,show s.length≠0 from by omega⟩) (by rw[hD1];exact hn)).mono ?_));rintro e bc ⟨va2,rfl,hT2⟩;refine⟨_,rfl,?_⟩;have a:=Chg.ext a hT2.chg (fun i q=>(r.foot q).2.2);have hT12:=hT1.trans hT2;obtain⟨H2,ak⟩:∃x,x=({ H1 with va:=va2 } :Dk):=⟨_,rfl⟩;obtain⟨D2,hD2⟩:∃x,x=turnedD D1 ⟨[],s,D.files.length⟩:=⟨_,rfl⟩;rw[<-ak,<-hD2]at hT12;have ax:H2.g=H.g:=by rw[ak];exact aj
 have hlk2:Ao D2.now s=some D.files.length:=by rw[hD2];exact(look_turn _ _ _).trans ((if_neg (show s.length≠0 by omega)).trans (if_pos rfl))
 have hkl:=(hT12.st.ok.now.look hlk2).1;have hlb:(D2.files.getD D.files.length ([],0)).1.length<1099511627776:=by rw[hD2,hD1];show((D.files++ [(([]:AlJ),0)]).getD D.files.length ([],0)).1.length<_;rw[Gg];decide
 have hoff1:=V3 hT1 hrb0 hoff;have hbd:=Aey hT2 r hbd1 (by decide) (by decide) (by decide) (by decide);have hbn:=Aey hT2 r hbn1 (by decide) (by decide) (by decide) (by decide);have hbb:=Aey hT2 r hbb1 (by decide) (by decide) (by decide) (by decide);have hrb:=hrb1.chg hT2.chg hoff1;have hb:=eb c hb;have hb:=hT12.st.blk;rw[ax]at hb;have hgl2:=(bl hb);refine Co [0,1,2,3,4,5,6] [] [] fun k l=> ?_;have hT12:DkT w0.heap.size w H D k H2 D2:=(hT12.keep l);have hb:=eb l hb;have hbd:=eb l hbd;have hbn:=eb l hbn;refine ys (Aax VY rfl rfl (cellAt hbd rfl) zz) (ys (Ad7 rfl zz) (ys (Ad6 P3 rfl zz) (ys (Aax MY rfl rfl (cellAt hb rfl) zz) (ys (Aax QD rfl rfl (cellAt hbn rfl) zz) (ys (AbC Fd Eb (fun _ _=>C4) MY Iw rfl rfl hT12.st.now (B1 hs).2 hlk2 zz) ?_)))));have hTc:=hT12;have hSc:=hTc.st;have hfa:=hSc.files.at_ (D.files.length) hkl;have hfb:=hfa.blk;have hfl:=(bl hfb);have hfo:=hfa.row;have hflo:=hfa.lo;have hfv:(H2.V (D.files.length)).ownBlock≠some (H2.F (D.files.length)):=fun q=>B2 (hSc.tF hkl) (hSc.tV hkl q) (by decide) rfl;have hC:Chg (fun i=>i=(H2.F (D.files.length))\/(H2.V (D.files.length)).ownBlock=some i) k k:=AeF _ _;have hsy:=hSc.ok.syn _ (D5 (d:=([],0)) hkl);have hbb:=eb l hbb;have hvb:Afd (H2.V (D.files.length))≠some bb:=fun q=>B2 (BB hbb) (hSc.tV hkl q) (by decide) rfl;have be:bb≠(H2.F (D.files.length)):=B2 (BB hbb) (hSc.tF hkl) (by decide);refine Co [0,1,2,3,4,5,6,7,8,9] [6,9] [] fun al t=> ?_;have hC:Chg (fun i=>i=(H2.F (D.files.length))\/(H2.V (D.files.length)).ownBlock=some i) k al:=(hC.keep t);have hZ1:=l.trans t;have a:=a.trans hZ1;have hrb:=hrb.keep hZ1;have hbb:=eb t hbb;have hfb:=eb t hfb;have hfo:=Aed _ _ _ _ _ _ _ _ hfo t;refine ys (Ad7 rfl zz) (ys (Ad6 P4 rfl zz) (ys (Aax GR rfl rfl (cellAt hfb rfl) zz) (ys (Aax GR rfl rfl (cellAt hbb rfl) zz) (yC (Abc _ _ w0.heap.size (.int .u8 0) GR NU rfl GR ((D2.files.getD (D.files.length) ([],0)).1) (b) (Dd hfo (vr (H2.V (D.files.length)) rfl)) (AaF hrb (vr vb rfl)) (by omega) a.size fun ad am u h=> ?_)))));have h:Grew al am (H2.V (D.files.length)) ad:=h;have ay:Afd ad≠some (H2.F (D.files.length)):=Ap h hfv (bl hfb);have a:=As a h hfo (Ae8 _);have hbb:=Aq hbb h hvb;clear hrb;have hfb:=Aq hfb h hfv;have hvf:=fun i e=>(h.fresh i e).imp id (fun q=>Ae7 hC.size q);have hC:Chg (fun i=>i=(H2.F (D.files.length))\/(H2.V (D.files.length)).ownBlock=some i) k am:=Chg.grew hC h (fun i e=> .inl (.inr e));clear hfo;refine ys (Ad7 rfl zz) (ys (Ad6 P4 rfl zz) (yC (Aa0 (i:=0) (v:=ad) rfl rfl hfb (Afj rfl) Li (Cm u).1 (Cm u).2 fun az an ao bf=> ?_)));have hC:Chg (fun i=>i=(H2.F (D.files.length))\/(H2.V (D.files.length)).ownBlock=some i) k az:=Aeu hC ao (.inl (.inl rfl));clear hfb;have hfb:=an;clear an;have bg:=bl hfb;refine rt0 rfl ?_;have u:=BT u ao ay;have hTf:=hSc.setFileT (x:=((D2.files.getD (D.files.length) ([],0)).1++b,(D2.files.getD (D.files.length) ([],0)).2)) hkl (by simp only[Ae9];omega) hC ⟨hfb,(show AjX _ _ _ _ _ _ _ from by simpa using u),hflo⟩ hvf;exact⟨_,rfl,by rw[<-Yw hlk];have:=hTc.trans hTf;rw[hD2,hD1]at this;exact this⟩
theorem Ac0{P:AfD}{K:Ae2->Ae3->Prop}{ρ:Ae}{w:Ae3}{d:Option Tmp}{ty:Afa}{pos:String}{af:Array Edge}{gd:Option (Nat × Bool)}{f:FuncId}{c:Aff}{v:Ae2}{caps:Array Ae2}{R:Ae3->Prop}{at_:Array Afa}(hp:Plain P f)(hc:Aa ρ c=v)(hve:v = .func (.func f) #[] caps) 
  (h:Calls P f caps w fun e w' =>e = .returned (.tuple #[])/\R w') (hk:∀w',R w' ->K (.tuple #[]) w'):Yk P K ((execOp (Aa ρ) ⟨d, .call ⟨.value c,#[],at_⟩,ty,pos,af,gd⟩).run P w):=
 AbG hp (hc.trans hve) _ (by simp) (h.mono fun e w' q=>⟨_,q.1,hk w' q.2⟩)
theorem CY:AZ Ae5 107 5 5:=fun b o w=>by simp[go_sem]
theorem V5:(Tryz.prog.info? 4).map (·.size)=some 1:=by kernel_rfl
theorem O3(w0 w:Ae3)(l:Ext w0 w)(H:Dk)(D:Ad)(hS:DkS w0.heap.size w H D)(hdn:D.down=false)(har:D.arm<9223372036854775808)(v:Ae2)(f:FuncId)(caps:Array Ae2)(hpl:Plain Ae5 f)(hve:v = .func (.func f) #[] caps)(g:Ad->Ad) 
  (hc:∀w1 D1,DkT w0.heap.size w H D w1 H D1->D1=(CI D).1->Calls Ae5 f caps w1 fun e w' =>e = .returned (.tuple #[])/\∃H',DkT w0.heap.size w1 H D1 w' H' (g D1)):
  Calls Ae5 92 #[PQ H.g 0,v] w fun e w' =>∃H',e = .returned (NI (DZ D g).2)/\DkT w0.heap.size w H D w' H' (DZ D g).1:=by
 have hb:=hS.blk;have hgl:=(bl hb);have hgl0:=hS.lo.1;have hsz0:=l.size;have c:=hS;have hgr:=Agf w (some H.g);refine gG (args:= [PQ H.g 0,v]) Tryz.func92 rfl 27 rfl rfl ?_;have hE:=Ad4 w;by_cases ha0:D.arm=0
 ·have hA:CI D=(D,false):=if_pos ha0;have hV:DZ D g=(g D,0):=by unfold DZ;rw[hA];rfl
  refine gS (Ad7 rfl (gS (Ad6 CY rfl (gS (Aax Vx rfl rfl (cellAt hb rfl) (gS (Aay (a:=(D.arm:Nat)) (b:=(0:Nat)) rfl rfl (Bj _ _ _ _) (kF (by omega) (cF rfl ?_)))))))));have hT1:=AbI c hE;have hD1:D=(CI D).1:=by rw[hA]
  refine gS (Ac0 hpl rfl hve (hc _ _ hT1 hD1) fun s hR6=> ?_);obtain⟨H3,hT2⟩:=hR6;have hT3:=hT1.trans hT2;refine A8 rfl (vr (NI 0) rfl) ?_;exact⟨H3,by rw[hV],by rw[hV];exact hT3⟩
 have hA:CI D=({ D with arm:=D.arm-1,down:=decide (D.arm-1=0) },decide (D.arm-1=0)):=if_neg ha0;by_cases ha1:D.arm-1=0
 ·rw[decide_eq_true ha1]at hA;have hV:DZ D g=({ D with arm:=D.arm-1,down:=true },9):=by unfold DZ;rw[hA];rfl
  refine gS (Ad7 rfl (gS (Ad6 CY rfl (gS (Aax Vx rfl rfl (cellAt hb rfl) (gS (Aay (a:=(D.arm:Nat)) (b:=(0:Nat)) rfl rfl (Bj _ _ _ _) (kT (by omega) (cT rfl (gS (Ad7 rfl (gS (Ad6 CY rfl (gS (Aax Vx rfl rfl (cellAt hb rfl) (gS (Aaz (xv:=NI D.arm) (yv:=NI 1) rfl rfl rfl (BL _ _ _ (by omega) (by omega)) (gS (Ad7 rfl (gS (Ad6 CY rfl (gS (Aa0 (i:=5) (v:=NI ((D.arm)-(1))) rfl rfl hb (Afj rfl) Oj rfl rfl fun m h n t=> ?_)))))))))))))))))))))));have hgr:w.grownBy m (some H.g):=Am hgr n (fun _ e=> .inl e);clear hE;clear hb;have hb:=h;clear h;have u:=bl hb;refine gS (Ad7 rfl (gS (Ad6 CY rfl (gS (Aax Vx rfl rfl (cellAt hb rfl) (gS (Aay (a:=((D.arm)-(1):Nat)) (b:=(0:Nat)) rfl rfl (AH _ _ _ _) (kT (by omega) (cT rfl (gS (Ad7 rfl (gS (Ad6 P2 rfl (gS (Aa0 (i:=6) (v:= .bool (true)) rfl rfl hb (Afj rfl) V5 rfl rfl fun o j p x=> ?_)))))))))))))));have hgr:w.grownBy o (some H.g):=Am hgr p (fun _ e=> .inl e);clear hb;have hb:=j;clear j;have y:=bl hb;refine A8 rfl (vr (NI 9) rfl) ?_;exact⟨H,by rw[hV],by rw[hV];exact c.setBlkT hgr hb⟩
 rw[decide_eq_false ha1]at hA;have hV:DZ D g=(g { D with arm:=D.arm-1,down:=false },0):=by unfold DZ;rw[hA];rfl
 refine gS (Ad7 rfl (gS (Ad6 CY rfl (gS (Aax Vx rfl rfl (cellAt hb rfl) (gS (Aay (a:=(D.arm:Nat)) (b:=(0:Nat)) rfl rfl (Bj _ _ _ _) (kT (by omega) (cT rfl (gS (Ad7 rfl (gS (Ad6 CY rfl (gS (Aax Vx rfl rfl (cellAt hb rfl) (gS (Aaz (xv:=NI D.arm) (yv:=NI 1) rfl rfl rfl (BL _ _ _ (by omega) (by omega)) (gS (Ad7 rfl (gS (Ad6 CY rfl (gS (Aa0 (i:=5) (v:=NI ((D.arm)-(1))) rfl rfl hb (Afj rfl) Oj rfl rfl fun q k r z=> ?_)))))))))))))))))))))));have hgr:w.grownBy q (some H.g):=Am hgr r (fun _ e=> .inl e);clear hE;clear hb;have hb:=k;clear k;have aa:=bl hb;refine gS (Ad7 rfl (gS (Ad6 CY rfl (gS (Aax Vx rfl rfl (cellAt hb rfl) (gS (Aay (a:=((D.arm)-(1):Nat)) (b:=(0:Nat)) rfl rfl (AH _ _ _ _) (kF (by omega) (cF rfl ?_)))))))));have hT1:=c.setBlkT hgr hb;have hD1:({ D with quota:=D.quota,refused:=D.refused,arm:=D.arm-1,down:=D.down } :Ad)=(CI D).1:=by rw[hA,hdn]
 refine gS (Ac0 hpl rfl hve (hc _ _ hT1 hD1) fun ab hR35=> ?_);obtain⟨H3,hT2⟩:=hR35;have hT3:=hT1.trans hT2;refine A8 rfl (vr (NI 0) rfl) ?_;exact⟨H3,by rw[hV],by rw[hV];rw[<-hdn];exact hT3⟩
theorem Jy(t:Afa)(a b:Int)(h: -9223372036854775808<=a+b/\a+b<=9223372036854775807):AfL .add t (.int .i64 a) (.int .i64 b)=pure (.int .i64 (a+b)):=by
 show pure (AgQ .i64 (IntKind.i64.wrap (a+b)))=_;rw[IntWalk.i64_in _ h]
theorem O4(t:Afa)(a b:Int)(h: -9223372036854775808<=a-b/\a-b<=9223372036854775807):AfL .sub t (.int .i64 a) (.int .i64 b)=pure (.int .i64 (a-b)):=by
 show pure (AgQ .i64 (IntKind.i64.wrap (a-b)))=_;rw[IntWalk.i64_in _ h]
structure De (D : Ad) : Prop where
 quota:D.quota<=1073741824
 used:usedD D<4611686018427387904
 refused:D.refused<4611686018427387904
 arm:D.arm<9223372036854775808
 acts:D.acts.length<1099511627776
 now:D.now.length<1099511627776
 kept:D.kept.length+D.acts.length<1099511627776
 files:∀x∈D.files,x.1.length<1099511627776
theorem V6(D:Ad)(s t:AlJ):readyL D [t,s]=CP D s t:=by
 unfold readyL CP;by_cases h:D.down=true
 ·rw[if_pos h,if_pos h]
 ·rw[if_neg h,if_neg h];simp only[AjU,Alx,Bool.and_true,Agd];by_cases h1:Bg s=true <;> by_cases h2:Bg t=true <;> simp[h1,h2]
theorem G5(D:Ad)(s:AlJ):readyL D [s]=CP D s s:=by
 rw[<-V6];unfold readyL;simp
theorem Yx(w0 w:Ae3)(c:Ext w0 w)(H:Dk)(D:Ad)(hS:DkS w0.heap.size w H D)(bd bn bb:Nat)(s b:AlJ)(vb:Ae2)(hbd:w.heap[bd]? =some (.cells ([PQ H.g 0]).toArray 50 (0,0)))(hbn:w.heap[bn]? =some (.cells ([St s]).toArray 9 (0,0)))(hbb:w.heap[bb]? =some (.cells ([vb]).toArray 27 (0,0))) 
  (hrb:RB w vb b) (hoff:b= []\/∀i,vb.ownBlock=some i->¬B7 H D.files.length i) (hs:Bg s=true) (hbl:b.length<1099511627776) (hfs:∀x∈D.files,x.1.length<1099511627776) (hn:D.acts.length<1099511627776):
  ∀w1 D1,DkT w0.heap.size w H D w1 H D1->D1=(CI D).1->Calls Ae5 140 #[PQ bd 0,PQ bn 0,PQ bb 0] w1 fun e w' =>e = .returned (.tuple #[])/\∃H',DkT w0.heap.size w1 H D1 w' H' (Cg D1 s b):=by
 intro w1 D1 hT hD1;have hf:=Iu D;rw[<-hD1]at hf;have a:Ext w0 w1:=Chg.ext c hT.chg (fun i q=>(hS.foot q).2.2);have h1:=Aey hT hS hbd (by decide) (by decide) (by decide) (by decide);have h2:=Aey hT hS hbn (by decide) (by decide) (by decide) (by decide);have h3:=Aey hT hS hbb (by decide) (by decide) (by decide) (by decide);have h4:=hrb.chg hT.chg hoff;have h5:b= []\/∀i,vb.ownBlock=some i->¬B7 H D1.files.length i:=by rw[hf.1];exact hoff
 cases hlk:Ao D1.now s with
 | none=>exact(Aam w0 w1 a H D1 hT.st bd bn bb s b vb h1 h2 h3 h4 h5 hs hbl (by rw[hf.1];exact hfs) (by rw[hf.2.2.2.1];exact hn) hlk).mono fun e w' ⟨H',q1,q2⟩=>⟨q1,H',q2⟩
 | some k=>exact(Aal w0 w1 a H D1 hT.st bd bn bb s b vb h1 h2 h3 h4 h5 hs hbl (by rw[hf.1];exact hfs) (by rw[hf.2.2.2.1];exact hn) k hlk).mono fun e w' ⟨H',q1,q2⟩=>⟨q1,H',q2⟩
theorem H6(D:Ad)(s:AlJ):FD D s s=ER D [] s:=by
 unfold FD ER;rw[List.nil_append,G5] <;>
 (by_cases h:CP D s s≠0
  ·rw[if_pos h,if_pos h]
  ·rw[if_neg h,if_neg h] <;> (cases Ao D.now s <;> rfl))
theorem Mf{D:Ad}{ms:List AlJ}{s:AlJ}{c:Nat}(h:ER D ms s = .error c):c≠0:=by
 unfold ER at h;split at h
 ·rename_i hn;cases h;exact hn
 ·split at h
  ·cases h
  ·cases h;decide
theorem Mg{D:Ad}{ms:List AlJ}{s:AlJ}{k:Nat}(h:ER D ms s = .ok k):D.down=false/\Ao D.now s=some k/\∀t∈ms,Bg t=true:=by
 unfold ER at h;split at h
 ·cases h
 ·rename_i hn
  have hn:readyL D (ms++ [s])=0:=Classical.not_not.1 hn;split at h
  ·rename_i k' hk
   cases h;unfold readyL at hn;split at hn
   ·cases hn
   ·rename_i hd
    split at hn
    ·rename_i ha
     exact⟨Aj5.2 hd,hk,fun t ht=>AfP.1 ha t (List.mem_append_left _ ht)⟩
    ·cases hn
  ·cases h
theorem V7(w0 w:Ae3)(a:Ext w0 w)(H:Dk)(D:Ad)(hS:DkS w0.heap.size w H D)(bf bd k:Nat)(hbf:w.heap[bf]? =some (.cells ([PQ (H.F k) 0]).toArray 113 (0,0)))(hbd:w.heap[bd]? =some (.cells ([PQ H.g 0]).toArray 50 (0,0)))(hk:k<D.files.length):
  ∀w1 D1,DkT w0.heap.size w H D w1 H D1->D1=(CI D).1->Calls Ae5 142 #[PQ bf 0,PQ bd 0] w1 fun e w' =>e = .returned (.tuple #[])/\∃H',DkT w0.heap.size w1 H D1 w' H' { D1 with files:=D1.files.set k ((AG D1 k).1,(AG D1 k).1.length),kept:=D1.now,acts:= [] } :=by
 intro w1 D1 hT hD1;have hf:=Iu D;rw[<-hD1]at hf;have b:Ext w0 w1:=Chg.ext a hT.chg (fun i q=>(hS.foot q).2.2);exact(Aak w0 w1 b H D1 hT.st bf bd k (Aey hT hS hbf (by decide) (by decide) (by decide) (by decide)) (Aey hT hS hbd (by decide) (by decide) (by decide) (by decide)) (by rw[hf.1];exact hk)).mono fun e w' ⟨H',q1,q2⟩=>⟨q1,H',q2⟩
theorem V8(w0 w:Ae3)(a:Ext w0 w)(H:Dk)(D:Ad)(hS:DkS w0.heap.size w H D)(bd bs k:Nat)(s:AlJ)(hbd:w.heap[bd]? =some (.cells ([PQ H.g 0]).toArray 50 (0,0)))(hbs:w.heap[bs]? =some (.cells ([St s]).toArray 9 (0,0))) 
  (hk:k<D.files.length) (hs:Bg s=true) (hn:D.acts.length<1099511627776):
  ∀w1 D1,DkT w0.heap.size w H D w1 H D1->D1=(CI D).1->Calls Ae5 93 #[PQ bd 0,PQ bs 0] w1 fun e w' =>e = .returned (.tuple #[])/\∃H',DkT w0.heap.size w1 H D1 w' H' (turnedD D1 ⟨s,[],k⟩):=by
 intro w1 D1 hT hD1;have hf:=Iu D;rw[<-hD1]at hf;have b:Ext w0 w1:=Chg.ext a hT.chg (fun i q=>(hS.foot q).2.2);exact(Aaj w0 w1 b H D1 hT.st bd bs k s (Aey hT hS hbd (by decide) (by decide) (by decide) (by decide)) (Aey hT hS hbs (by decide) (by decide) (by decide) (by decide)) (by rw[hf.1];exact hk) hs (by rw[hf.2.2.2.1];exact hn)).mono fun e w' ⟨H',q1,q2⟩=>⟨q1,H',q2⟩
theorem Ki:AZ Ae5 107 0 0:=fun b o w=>by simp[go_sem]
theorem O5:Plain Ae5 57:=fun _ _=>by kernel_rfl
theorem Kj:AZ Ae5 107 4 4:=fun b o w=>by simp[go_sem]
theorem KJ:Plain Ae5 92:=fun _ _=>by kernel_rfl
theorem Ix:Plain Ae5 77:=fun _ _=>by kernel_rfl
theorem Uj(w0 w:Ae3)(h:Ext w0 w)(H:Dk)(D:Ad)(hS:DkS w0.heap.size w H D)(s:AlJ)(vb:Ae2)(b:AlJ)(hrb:RB w vb b)(hoff:b= []\/∀i,vb.ownBlock=some i->¬B7 H D.files.length i)(hbl:b.length<1099511627776)(hL:De D):
  Calls Ae5 88 #[PQ H.g 0,St s,vb] w fun e w' =>∃H',e = .returned (NI (A3 D s b).2)/\DkT w0.heap.size w H D w' H' (A3 D s b).1:=by
 have hb:=hS.blk;have hgl:=(bl hb);have hgl0:=hS.lo.1;have hsz0:=h.size;have ag:=hS;have hgr:=Agf w (some H.g);refine gG (args:= [PQ H.g 0,St (s),vb]) Tryz.func88 rfl 35 rfl rfl ?_;have hE:=Ad4 w;refine gS (Abx (vr (PQ H.g 0) rfl) rfl fun o w3 ak al u bk=> ?_);have bm:=hE.size;have bn:=h.size;have hgr:w.grownBy w3 (some H.g):=Am hgr u.grown (fun _ e=>by cases e);have c:=al;clear al;have bo:o<w3.heap.size:=by omega
 refine gS (Abx (vr (St (s)) rfl) rfl fun p am x an l bp=> ?_);have hE:=hE.trans u;have h:=h.trans u;have bq:=hE.size;have br:=h.size;have hgr:w.grownBy am (some H.g):=Am hgr l.grown (fun _ e=>by cases e);have f:=an;clear an;have bs:p<am.heap.size:=by omega
 have hE:=hE.trans l;refine gS (Abx (vr vb rfl) (Aeg (hrb.keep hE)).1 fun t ao m ap j bt=> ?_);have h:=h.trans l;have bu:=hE.size;have bv:=h.size;have hgr:w.grownBy ao (some H.g):=Am hgr j.grown (fun _ e=>by cases e);have k:=ap;clear ap;have bw:t<ao.heap.size:=by omega
 have hq0:=hL.quota;have hq1:=hL.used;by_cases y:CP D s s≠0
 ·have hV:A3 D s b=(D,CP D s s):=if_pos y;have aq:=Av (bl c) x;have c:=eb l c;have ar:=Av (bl c) m;have c:=eb j c;have au:=Av (bl f) m;have f:=eb j f;refine gS (Aax VY rfl rfl (cellAt c rfl) (gS (Aax QD rfl rfl (cellAt f rfl) (gS (Abh (a:=s) (enc:=CQ) (vr (St (s)) rfl) rfl (fun w=>KH _ w) fun a1 a2 a3 av=> ?_)))));have hgr:w.grownBy a2 (some H.g):=Am hgr av.grown (fun _ e=>by cases e);have hZ1:=j.trans av;have hE:=hE.trans hZ1;refine gS (AaA KI rfl rfl ((DO w0.heap.size _ H D (hS.keep hE) a1 [s] a3 (by simp)).mono ?_));rintro e a4 ⟨rfl,aw⟩;refine⟨_,rfl,?_⟩;have hgr:w.grownBy a4 (some H.g):=Am hgr aw.grown (fun _ e=>by cases e);refine gS (Aay (a:=(readyL D [s]:Nat)) (b:=(0:Nat)) rfl rfl (AV _ _ _ _) (kT (by rw[G5];omega) (cT rfl (A8 rfl (vr (NI (readyL D [s])) rfl) ?_))));have hE:=hE.trans aw;exact⟨H,by rw[hV,G5],by rw[hV];exact AbI ag hE⟩
 have a5:CP D s s=0:=Classical.not_not.1 y;obtain⟨hdn,hs,-⟩:=VW a5;by_cases hq:D.quota<usedD D+b.length
 ·have hV:A3 D s b=({ D with refused:=D.refused+1 },8):=(if_neg y).trans (if_pos hq);have aq:=Av (bl c) x;have c:=eb l c;have ar:=Av (bl c) m;have c:=eb j c;have au:=Av (bl f) m;have f:=eb j f;refine gS (Aax VY rfl rfl (cellAt c rfl) (gS (Aax QD rfl rfl (cellAt f rfl) (gS (Abh (a:=s) (enc:=CQ) (vr (St (s)) rfl) rfl (fun w=>KH _ w) fun a6 a7 ax ah=> ?_)))));have hgr:w.grownBy a7 (some H.g):=Am hgr ah.grown (fun _ e=>by cases e);have hZ2:=j.trans ah;have hE:=hE.trans hZ2;refine gS (AaA KI rfl rfl ((DO w0.heap.size _ H D (hS.keep hE) a6 [s] ax (by simp)).mono ?_));rintro e a8 ⟨rfl,z⟩;refine⟨_,rfl,?_⟩;have hgr:w.grownBy a8 (some H.g):=Am hgr z.grown (fun _ e=>by cases e);refine gS (Aay (a:=(readyL D [s]:Nat)) (b:=(0:Nat)) rfl rfl (AV _ _ _ _) (kF (by rw[G5];omega) (cF rfl (Ed [0,1,2,3,4,5,6,7,8,9] [7] [1,3,4] [0,2,5] fun ay aa=> ?_))));have hgr:w.grownBy ay (some H.g):=Am hgr aa.grown (fun _ e=>by cases e);have ab:=Ad4 ay;have a9:=Av (bl hb) ak;have hb:=eb u hb;have ba:=Av (bl hb) x;have hb:=eb l hb;have bb:=Av (bl hb) m;have hZ3:=(hZ2.trans z).trans aa;have hb:=eb hZ3 hb;have hZ4:=(ah.trans z).trans aa;have c:=eb hZ4 c;have k:=eb hZ4 k;have hZ5:=z.trans aa;have hE:=hE.trans hZ5;refine DV ab ?_;refine yf (fun _ ⟨hZ,_⟩=>Aax GR rfl rfl (cellAt (eb hZ k) rfl) zz) (yp (AaT GR (AaF (hrb.keep hE) rfl) zz) (yf (fun _ ⟨hZ,_⟩=>Aax VY rfl rfl (cellAt (eb hZ c) rfl) zz) (yp (Ad7 rfl zz) (yp (Ad6 Ki rfl zz) (yf (fun _ ⟨hZ,_⟩=>Aax Vx rfl rfl (cellAt (eb hZ hb) rfl) zz) (ys (Aax VY rfl rfl (cellAt c rfl) zz) (yE (AaE O5 rfl ((Md w0.heap.size _ H D (hS.keep hE) hL.used).mono ?_)))))))));rintro e bc ⟨rfl,ac⟩;refine⟨_,rfl,?_⟩;have hgr:w.grownBy bc (some H.g):=Am hgr ac.grown (fun _ e=>by cases e);have ab:=ab.trans ac;refine⟨ab,?_⟩;have hb:=eb ac hb;have c:=eb ac c;refine ys (Aaz (xv:= .int .i64 (((D.quota:Nat):Int))) (yv:= .int .i64 (((usedD D:Nat):Int))) rfl rfl rfl (O4 _ (((D.quota:Nat):Int)) (((usedD D:Nat):Int)) (by omega)) zz) (ys (Aay rfl rfl (Ra _ .i64 ((b.length:Nat):Int) (((((D.quota:Nat):Int))-(((usedD D:Nat):Int))):Int)) zz) (kT (by omega) (cT rfl (gS (Aax VY rfl rfl (cellAt c rfl) (gS (Ad7 rfl (gS (Ad6 Kj rfl (gS (Aax Vx rfl rfl (cellAt hb rfl) (gS (Aaz (xv:=NI D.refused) (yv:=NI 1) rfl rfl rfl (Ah _ _ _ (by have:=hL.refused;omega)) (gS (Ad7 rfl (gS (Ad6 Kj rfl (gS (Aa0 (i:=4) (v:=NI ((D.refused)+(1))) rfl rfl hb (Afj rfl) Oj rfl rfl fun bd az be bx=> ?_)))))))))))))))))));have hgr:w.grownBy bd (some H.g):=Am hgr be (fun _ e=> .inl e);clear hE;clear ax;clear hb;have hb:=az;clear az;have bz:=bl hb;refine A8 rfl (vr (NI 8) rfl) ?_;exact⟨H,by rw[hV],by rw[hV];exact ag.setBlkT hgr hb⟩
 have hV:A3 D s b=DZ D (fun d=>Cg d s b):=by unfold DZ;exact(if_neg y).trans (if_neg hq)
 have aq:=Av (bl c) x;have c:=eb l c;have ar:=Av (bl c) m;have c:=eb j c;have au:=Av (bl f) m;have f:=eb j f;refine gS (Aax VY rfl rfl (cellAt c rfl) (gS (Aax QD rfl rfl (cellAt f rfl) (gS (Abh (a:=s) (enc:=CQ) (vr (St (s)) rfl) rfl (fun w=>KH _ w) fun bf bg bh ai=> ?_)))));have hgr:w.grownBy bg (some H.g):=Am hgr ai.grown (fun _ e=>by cases e);have hZ6:=j.trans ai;have hE:=hE.trans hZ6;refine gS (AaA KI rfl rfl ((DO w0.heap.size _ H D (hS.keep hE) bf [s] bh (by simp)).mono ?_));rintro e bi ⟨rfl,ad⟩;refine⟨_,rfl,?_⟩;have hgr:w.grownBy bi (some H.g):=Am hgr ad.grown (fun _ e=>by cases e);refine gS (Aay (a:=(readyL D [s]:Nat)) (b:=(0:Nat)) rfl rfl (AV _ _ _ _) (kF (by rw[G5];omega) (cF rfl (Ed [0,1,2,3,4,5,6,7,8,9] [7] [1,3,4] [0,2,5] fun a0 ae=> ?_))));have hgr:w.grownBy a0 (some H.g):=Am hgr ae.grown (fun _ e=>by cases e);have af:=Ad4 a0;have a9:=Av (bl hb) ak;have hb:=eb u hb;have ba:=Av (bl hb) x;have hb:=eb l hb;have bb:=Av (bl hb) m;have hZ7:=(hZ6.trans ad).trans ae;have hb:=eb hZ7 hb;have hZ8:=(ai.trans ad).trans ae;have c:=eb hZ8 c;have k:=eb hZ8 k;have hZ9:=ad.trans ae;have hE:=hE.trans hZ9;refine DV af ?_;refine yf (fun _ ⟨hZ,_⟩=>Aax GR rfl rfl (cellAt (eb hZ k) rfl) zz) (yp (AaT GR (AaF (hrb.keep hE) rfl) zz) (yf (fun _ ⟨hZ,_⟩=>Aax VY rfl rfl (cellAt (eb hZ c) rfl) zz) (yp (Ad7 rfl zz) (yp (Ad6 Ki rfl zz) (yf (fun _ ⟨hZ,_⟩=>Aax Vx rfl rfl (cellAt (eb hZ hb) rfl) zz) (ys (Aax VY rfl rfl (cellAt c rfl) zz) (yE (AaE O5 rfl ((Md w0.heap.size _ H D (hS.keep hE) hL.used).mono ?_)))))))));rintro e bj ⟨rfl,n⟩;refine⟨_,rfl,?_⟩;have hgr:w.grownBy bj (some H.g):=Am hgr n.grown (fun _ e=>by cases e);have af:=af.trans n;refine⟨af,?_⟩;have c:=eb n c;refine ys (Aaz (xv:= .int .i64 (((D.quota:Nat):Int))) (yv:= .int .i64 (((usedD D:Nat):Int))) rfl rfl rfl (O4 _ (((D.quota:Nat):Int)) (((usedD D:Nat):Int)) (by omega)) zz) (ys (Aay rfl rfl (Ra _ .i64 ((b.length:Nat):Int) (((((D.quota:Nat):Int))-(((usedD D:Nat):Int))):Int)) zz) (kF (by omega) (cF rfl (gS (Aax VY rfl rfl (cellAt c rfl) (gS (Abk (vs:= #[PQ o 0,PQ p 0,PQ t 0]) (by simp only[AfI,AfG,AfQ];exact congrArg Agp (XJ (vr (PQ o 0) rfl) (vr (PQ p 0) rfl) (vr (PQ t 0) rfl))) ?_)))))));have hE:=hE.trans n;have hEc:=hE;have hSc:=(hS.keep hE);have hTc:=AbI ag hEc;have hZ10:=hZ7.trans n;have h:=h.trans hZ10;have hE0c:=h;have f:=eb (hZ8.trans n) f;have k:=eb n k;refine gS (AaA KJ rfl rfl ((O3 w0 _ hE0c H D hSc hdn hL.arm (.func (.func 140) #[] #[PQ o 0,PQ p 0,PQ t 0]) 140 #[PQ o 0,PQ p 0,PQ t 0] (fun _ _=>by kernel_rfl) rfl (fun d=>Cg d s b) (Yx w0 _ hE0c H D hSc o p t s b vb c f k (hrb.keep hE) (hoff.imp id fun q i hi r=>q i hi r) hs hbl hL.files hL.acts)).mono ?_));rintro e b0 ⟨H3,rfl,hT2⟩;refine⟨_,rfl,?_⟩;have hT3:=hTc.trans hT2;refine A8 rfl (vr (NI ((DZ D (fun d=>Cg d s b)).2)) rfl) ?_;exact⟨H3,by rw[hV],by rw[hV];exact hT3⟩
theorem Yy(w0 w:Ae3)(c:Ext w0 w)(H:Dk)(D:Ad)(hS:DkS w0.heap.size w H D)(s:AlJ)(hL:De D):
  Calls Ae5 90 #[PQ H.g 0,St s] w fun e w' =>∃H',e = .returned (NI (BD D s).2)/\DkT w0.heap.size w H D w' H' (BD D s).1:=by
 have hb:=hS.blk;have hgl:=(bl hb);have hgl0:=hS.lo.1;have hsz0:=c.size;have y:=hS;have hgr:=Agf w (some H.g);refine gG (args:= [PQ H.g 0,St (s)]) Tryz.func90 rfl 19 rfl rfl ?_;have hE:=Ad4 w;refine gS (Abx (vr (PQ H.g 0) rfl) rfl fun f z ar aa n au=> ?_);have j:=Ad4 w;have av:=hE.size;have aw:=c.size;have hgr:w.grownBy z (some H.g):=Am hgr n.grown (fun _ e=>by cases e);have l:=aa;clear aa;have ax:f<z.heap.size:=by omega
 rcases hV0:ER D [] s with ce | k
 ·have hV:BD D s=(D,ce):=by unfold BD;rw[H6,hV0]
  have hce:=Mf hV0;have hE:=hE.trans n;refine gS (Aax VY rfl rfl (cellAt l rfl) (gS (Aa9 Ix rfl rfl rfl (((show Calls _ _ _ _ (fun e w2=>e = .returned (.tuple #[.pointer none,NI ce])/\Ext _ w2)from by have h:=H5 w0.heap.size _ H D (hS.keep hE) s ((Afc none 0 0)) [] (.inl ⟨rfl,rfl⟩) (by simp);rw[hV0]at h;exact h)).mono ?_))));rintro e ak ⟨rfl,x⟩;refine⟨_,rfl,?_⟩;have hgr:w.grownBy ak (some H.g):=Am hgr x.grown (fun _ e=>by cases e);refine gS (Ad5 (vs:= [.pointer none,NI ce]) rfl rfl (gS (Ad5 (vs:= [.pointer none,NI ce]) rfl rfl (gS (Ad9 Ui fun al ab ay ac ad az=> ?_)))));have hE:=hE.trans x;have hZ1:=n.trans x;have c:=c.trans hZ1;have j:=j.trans hZ1;have a0:=hE.size;have a1:=c.size;have am:=j.size;have hgr:w.grownBy ab (some H.g):=Am hgr ad.grown (fun _ e=>by cases e);have q:=ac;clear ac;have a2:al<ab.heap.size:=by omega
  refine gS (Aa0 (i:=0) (v:= .pointer none) rfl rfl q (Afj rfl) R9 rfl rfl fun an ae af a3=> ?_);have hgr:w.grownBy an (some H.g):=Am hgr af (fun _ e=> .inr (by cases e;omega));clear q;have q:=ae;clear ae;have a4:=bl q;refine gS (Aay (a:=(ce:Nat)) (b:=(0:Nat)) rfl rfl (AV _ _ _ _) (kT (by omega) (cT rfl (A8 rfl (vr (NI ce) rfl) ?_))));have hE:=hE.trans ad;have hE:=Ab hE af (Ae7 am (by omega));exact⟨H,by rw[hV],by rw[hV];exact AbI y hE⟩
 have hV:BD D s=DZ D (fun d=> { d with files:=d.files.set k ((AG d k).1,(AG d k).1.length),kept:=d.now,acts:= [] }):=by unfold BD;rw[H6,hV0]
 obtain⟨hdn,hlk,hms⟩:=Mg hV0;have hkl:=hS.ok.now.look hlk;have hE:=hE.trans n;refine gS (Aax VY rfl rfl (cellAt l rfl) (gS (Aa9 Ix rfl rfl rfl (((show Calls _ _ _ _ (fun e w2=>e = .returned (.tuple #[.pointer (some ⟨(H.F k),0,none⟩),NI 0])/\Ext _ w2)from by have h:=H5 w0.heap.size _ H D (hS.keep hE) s ((Afc none 0 0)) [] (.inl ⟨rfl,rfl⟩) (by simp);rw[hV0]at h;exact h)).mono ?_))));rintro e ag ⟨rfl,r⟩;refine⟨_,rfl,?_⟩;have hgr:w.grownBy ag (some H.g):=Am hgr r.grown (fun _ e=>by cases e);refine gS (Ad5 (vs:= [.pointer (some ⟨(H.F k),0,none⟩),NI 0]) rfl rfl (gS (Ad5 (vs:= [.pointer (some ⟨(H.F k),0,none⟩),NI 0]) rfl rfl (gS (Ad9 Ui fun m ah a5 ai t a6=> ?_)))));have o:=Ad4 ag;have hE:=hE.trans r;have hZ2:=n.trans r;have c:=c.trans hZ2;have j:=j.trans hZ2;have a7:=hE.size;have ao:=c.size;have ap:=j.size;have hgr:w.grownBy ah (some H.g):=Am hgr t.grown (fun _ e=>by cases e);have p:=ai;clear ai;have a8:m<ah.heap.size:=by omega
 refine gS (Aa0 (i:=0) (v:= .pointer (some ⟨(H.F k),0,none⟩)) rfl rfl p (Afj rfl) R9 rfl rfl fun aq aj u a9=> ?_);have hgr:w.grownBy aq (some H.g):=Am hgr u (fun _ e=> .inr (by cases e;omega));clear p;have p:=aj;clear aj;have ba:=bl p;have o:=o.trans t;have o:=Ab o u (Ae7 (Ae8 _) (by omega));have l:=eb (r.trans o) l;refine gS (Aay (a:=(0:Nat)) (b:=(0:Nat)) rfl rfl (AV _ _ _ _) (kF (by decide) (cF rfl (gS (Aax VY rfl rfl (cellAt l rfl) (gS (Abk (vs:= #[PQ m 0,PQ f 0]) (by simp only[AfI,AfG,AfQ];exact congrArg Agp (E2 (vr (PQ m 0) rfl) (vr (PQ f 0) rfl))) ?_)))))));have hE:=hE.trans t;have hE:=Ab hE u (Ae7 ap (by omega));have hEc:=hE;have hSc:=(hS.keep hE);have hTc:=AbI y hEc;have c:=c.trans t;have c:=Ab c u (Ae7 ao (by omega));have hE0c:=c;refine gS (AaA KJ rfl rfl ((O3 w0 _ hE0c H D hSc hdn hL.arm (.func (.func 142) #[] #[PQ m 0,PQ f 0]) 142 #[PQ m 0,PQ f 0] (fun _ _=>by kernel_rfl) rfl (fun d=> { d with files:=d.files.set k ((AG d k).1,(AG d k).1.length),kept:=d.now,acts:= [] }) (V7 w0 _ hE0c H D hSc m f k p l hkl.1)).mono ?_));rintro e bb ⟨H3,rfl,hT2⟩;refine⟨_,rfl,?_⟩;have hT3:=hTc.trans hT2;refine A8 rfl (vr (NI ((DZ D (fun d=> { d with files:=d.files.set k ((AG d k).1,(AG d k).1.length),kept:=d.now,acts:= [] })).2)) rfl) ?_;exact⟨H3,by rw[hV],by rw[hV];exact hT3⟩
theorem Yz(w0 w:Ae3)(f:Ext w0 w)(H:Dk)(D:Ad)(hS:DkS w0.heap.size w H D)(s:AlJ)(hL:De D):
  Calls Ae5 52 #[PQ H.g 0,St s] w fun e w' =>∃H',e = .returned (NI (Bx D s).2)/\DkT w0.heap.size w H D w' H' (Bx D s).1:=by
 have hb:=hS.blk;have hgl:=(bl hb);have hgl0:=hS.lo.1;have hsz0:=f.size;have p:=hS;have hgr:=Agf w (some H.g);refine gG (args:= [PQ H.g 0,St (s)]) Tryz.func52 rfl 19 rfl rfl ?_;have hE:=Ad4 w;refine gS (Abx (vr (PQ H.g 0) rfl) rfl fun i q ab r o ac=> ?_);have ad:=hE.size;have ae:=f.size;have hgr:w.grownBy q (some H.g):=Am hgr o.grown (fun _ e=>by cases e);have c:=r;clear r;have af:i<q.heap.size:=by omega
 refine gS (Abx (vr (St (s)) rfl) rfl fun j t u v l ag=> ?_);have hE:=hE.trans o;have f:=f.trans o;have ah:=hE.size;have ai:=f.size;have hgr:w.grownBy t (some H.g):=Am hgr l.grown (fun _ e=>by cases e);have m:=v;clear v;have aj:j<t.heap.size:=by omega
 rcases hV0:ER D [] s with ce | k
 ·have hV:Bx D s=(D,ce):=by unfold Bx;rw[H6,hV0]
  have hce:=Mf hV0;have y:=Av (bl c) u;have c:=eb l c;have hE:=hE.trans l;refine gS (Aax VY rfl rfl (cellAt c rfl) (gS (Aax QD rfl rfl (cellAt m rfl) (gS (Aa9 Ix rfl rfl rfl (((show Calls _ _ _ _ (fun e w2=>e = .returned (.tuple #[.pointer none,NI ce])/\Ext _ w2)from by have h:=H5 w0.heap.size _ H D (hS.keep hE) s ((Afc none 0 0)) [] (.inl ⟨rfl,rfl⟩) (by simp);rw[hV0]at h;exact h)).mono ?_))))));rintro e z ⟨rfl,x⟩;refine⟨_,rfl,?_⟩;have hgr:w.grownBy z (some H.g):=Am hgr x.grown (fun _ e=>by cases e);refine gS (Ad5 (vs:= [.pointer none,NI ce]) rfl rfl (gS (Ad5 (vs:= [.pointer none,NI ce]) rfl rfl (gS (Aay (a:=(ce:Nat)) (b:=(0:Nat)) rfl rfl (AV _ _ _ _) (kT (by omega) (cT rfl (A8 rfl (vr (NI ce) rfl) ?_))))))));have hE:=hE.trans x;exact⟨H,by rw[hV],by rw[hV];exact AbI p hE⟩
 have hV:Bx D s=DZ D (fun d=>turnedD d ⟨s,[],k⟩):=by unfold Bx;rw[H6,hV0]
 obtain⟨hdn,hlk,hms⟩:=Mg hV0;have hkl:=hS.ok.now.look hlk;have y:=Av (bl c) u;have c:=eb l c;have hE:=hE.trans l;refine gS (Aax VY rfl rfl (cellAt c rfl) (gS (Aax QD rfl rfl (cellAt m rfl) (gS (Aa9 Ix rfl rfl rfl (((show Calls _ _ _ _ (fun e w2=>e = .returned (.tuple #[.pointer (some ⟨(H.F k),0,none⟩),NI 0])/\Ext _ w2)from by have h:=H5 w0.heap.size _ H D (hS.keep hE) s ((Afc none 0 0)) [] (.inl ⟨rfl,rfl⟩) (by simp);rw[hV0]at h;exact h)).mono ?_))))));rintro e aa ⟨rfl,n⟩;refine⟨_,rfl,?_⟩;have hgr:w.grownBy aa (some H.g):=Am hgr n.grown (fun _ e=>by cases e);have c:=eb n c;refine gS (Ad5 (vs:= [.pointer (some ⟨(H.F k),0,none⟩),NI 0]) rfl rfl (gS (Ad5 (vs:= [.pointer (some ⟨(H.F k),0,none⟩),NI 0]) rfl rfl (gS (Aay (a:=(0:Nat)) (b:=(0:Nat)) rfl rfl (AV _ _ _ _) (kF (by decide) (cF rfl (gS (Aax VY rfl rfl (cellAt c rfl) (gS (Abk (vs:= #[PQ i 0,PQ j 0]) (by simp only[AfI,AfG,AfQ];exact congrArg Agp (E2 (vr (PQ i 0) rfl) (vr (PQ j 0) rfl))) ?_)))))))))));have hE:=hE.trans n;have hEc:=hE;have hSc:=(hS.keep hE);have hTc:=AbI p hEc;have hZ1:=l.trans n;have f:=f.trans hZ1;have hE0c:=f;have m:=eb n m;refine gS (AaA KJ rfl rfl ((O3 w0 _ hE0c H D hSc hdn hL.arm (.func (.func 93) #[] #[PQ i 0,PQ j 0]) 93 #[PQ i 0,PQ j 0] (fun _ _=>by kernel_rfl) rfl (fun d=>turnedD d ⟨s,[],k⟩) (V8 w0 _ hE0c H D hSc i j k s c m hkl.1 hkl.2 hL.acts)).mono ?_));rintro e ak ⟨H3,rfl,hT2⟩;refine⟨_,rfl,?_⟩;have hT3:=hTc.trans hT2;refine A8 rfl (vr (NI ((DZ D (fun d=>turnedD d ⟨s,[],k⟩)).2)) rfl) ?_;exact⟨H3,by rw[hV],by rw[hV];exact hT3⟩
theorem Ac1{P:AfD}{K:Ae2->Ae3->Prop}{ρ:Ae}{w:Ae3}{d:Option Tmp}{ty:Afa}{pos:String}{af:Array Edge}{gd:Option (Nat × Bool)}{x y:Aff}{n:Int}(hx:Aa ρ x = .int .i64 n)(hy:Aa ρ y=NI 0)(hk:K (NI n.toNat) w):Yk P K ((execOp (Aa ρ) ⟨d, .call ⟨.builtin .max,#[x,y],#[3,3]⟩,ty,pos,af,gd⟩).run P w):=by
 refine Aea (v:=NI n.toNat) (w' :=w) ?_ hk;have he:(if(0:Int)>n then(0:Int)else n)=(n.toNat:Int):=by split <;> omega
 have hr:=run_max_int2 (P:=P) w #[3,3] ty .i64 .i64 n 0;rw[he]at hr;unfold execOp;simp only[resolve,invoke,builtin,Afm,Afo,Afe,AfI,AfG,AfQ,hx,hy,hr,show(NI 0:Ae2) = .int .i64 0 from rfl]
def Sa(D:Ad):Nat:=if D.down=true then 0 else usedD D
theorem V9:Plain Ae5 59:=fun _ _=>by kernel_rfl
theorem Wa:Plain Ae5 58:=fun _ _=>by kernel_rfl
theorem YA(w0 w:Ae3)(H:Dk)(D:Ad)(hS:DkS w0.heap.size w H D)(s:AlJ)(hL:De D):
  Calls Ae5 42 #[PQ H.g 0,St s] w fun e w' =>∃v,e = .returned (.tuple #[v,NI (Ar D s).2])/\w'.ownsRow w.heap.size 5 1 v (Ar D s).1.length (Ae4 (Ar D s).1)/\Ext w w' :=by
 have hb:=hS.blk;have hgl:=(bl hb);have c:=hS;refine gG (args:= [PQ H.g 0,St (s)]) Tryz.func42 rfl 22 rfl rfl ?_;have hE:=Ad4 w;rcases hV0:ER D [] s with ce | k
 ·have hV:Ar D s=([],ce):=by unfold Ar;rw[H6,hV0]
  have hce:=Mf hV0;refine gS (Aa9 Ix rfl rfl rfl (((show Calls _ _ _ _ (fun e w2=>e = .returned (.tuple #[.pointer none,NI ce])/\Ext _ w2)from by have h:=H5 w0.heap.size _ H D (hS.keep hE) s ((Afc none 0 0)) [] (.inl ⟨rfl,rfl⟩) (by simp);rw[hV0]at h;exact h)).mono ?_));rintro e n ⟨rfl,j⟩;refine⟨_,rfl,?_⟩;refine gS (Ad5 (vs:= [.pointer none,NI ce]) rfl rfl (gS (Ad5 (vs:= [.pointer none,NI ce]) rfl rfl (gS (Aay (a:=(ce:Nat)) (b:=(0:Nat)) rfl rfl (AV _ _ _ _) (kT (by omega) (cT rfl (BI rfl (vr (Afc none 0 0) rfl) (vr (NI ce) rfl) ?_))))))));have hE:=hE.trans j;exact⟨_,by rw[hV],by rw[hV];exact Af5 _ _ _ 1,hE⟩
 have hV:Ar D s=((AG D k).1,0):=by unfold Ar;rw[H6,hV0]
 obtain⟨hdn,hlk,hms⟩:=Mg hV0;have hkl:=(c.ok.now.look hlk).1;have hfa:=c.files.at_ k hkl;have hfb:=hfa.blk;have hfr:RB w (H.V k) (D.files.getD k ([],0)).1:=Aa5 hfa.row;have hlb:=hL.files _ (D5 (d:=([],0)) hkl);refine gS (Aa9 Ix rfl rfl rfl (((show Calls _ _ _ _ (fun e w2=>e = .returned (.tuple #[.pointer (some ⟨(H.F k),0,none⟩),NI 0])/\Ext _ w2)from by have h:=H5 w0.heap.size _ H D (hS.keep hE) s ((Afc none 0 0)) [] (.inl ⟨rfl,rfl⟩) (by simp);rw[hV0]at h;exact h)).mono ?_));rintro e o ⟨rfl,f⟩;refine⟨_,rfl,?_⟩;have hE:=hE.trans f;refine gS (Ad5 (vs:= [.pointer (some ⟨(H.F k),0,none⟩),NI 0]) rfl rfl (gS (Ad5 (vs:= [.pointer (some ⟨(H.F k),0,none⟩),NI 0]) rfl rfl (gS (Aay (a:=(0:Nat)) (b:=(0:Nat)) rfl rfl (AV _ _ _ _) (kF (by decide) (cF rfl (gS (Ad7 rfl (gS (Ad6 P4 rfl (gS (Aax GR rfl rfl (cellAt (eb hE hfb) rfl) (gS (AaE TU rfl ((Jr _ (H.V k) ((D.files.getD k ([],0)).1) (hfr.keep hE) (by omega)).mono ?_))))))))))))))));rintro e p ⟨l,rfl,i⟩;refine⟨_,rfl,?_⟩;have q:=hE.size;have hb:=eb f hb;have m:=i.own;refine BI rfl (vr l rfl) (vr (NI 0) rfl) ?_;have hE:=hE.trans i.ext;exact⟨_,by rw[hV],by rw[hV];exact BM m (by omega),hE⟩
theorem AaL(base:Nat)(w:Ae3)(H:Dk)(D:Ad)(hS:DkS base w H D)(hU:usedD D<4611686018427387904):
  Calls Ae5 25 #[PQ H.g 0] w fun e w' =>e = .returned (NI (Sa D))/\Ext w w' :=by
 have hb:=hS.blk;have hgl:=(bl hb);refine gG (args:= [PQ H.g 0]) Tryz.func25 rfl 8 rfl rfl ?_;have hE:=Ad4 w;cases hdn:D.down
 ·have hV:Sa D=usedD D:=if_neg (by rw[hdn];decide);have hr:readyL D []=0:=Jv hdn rfl;refine gS (AaA KI rfl rfl ((DO base _ H D (hS.keep hE) (Afc none 0 0) [] (AeH _ _ _) (by simp)).mono ?_));rintro e i ⟨rfl,c⟩;refine⟨_,rfl,?_⟩;have hE:=hE.trans c;refine gS (Aay (a:=(readyL D []:Nat)) (b:=(0:Nat)) rfl rfl (AV _ _ _ _) (kF (by omega) (cF rfl (gS (AaE O5 rfl ((Md base _ H D (hS.keep hE) hU).mono ?_))))));rintro e j ⟨rfl,f⟩;refine⟨_,rfl,?_⟩;refine A8 rfl (vr (NI (usedD D)) rfl) ?_;have hE:=hE.trans f;exact⟨by rw[hV],hE⟩
 have hV:Sa D=0:=if_pos hdn;have hr:readyL D []=9:=HE hdn;refine gS (AaA KI rfl rfl ((DO base _ H D (hS.keep hE) (Afc none 0 0) [] (AeH _ _ _) (by simp)).mono ?_));rintro e k ⟨rfl,h⟩;refine⟨_,rfl,?_⟩;refine gS (Aay (a:=(readyL D []:Nat)) (b:=(0:Nat)) rfl rfl (AV _ _ _ _) (kT (by omega) (cT rfl (A8 rfl (vr (NI 0) rfl) ?_))));have hE:=hE.trans h;exact⟨by rw[hV],hE⟩
theorem Wb(base:Nat)(w:Ae3)(H:Dk)(D:Ad)(hS:DkS base w H D):
  Calls Ae5 40 #[PQ H.g 0] w fun e w' =>e = .returned (.bool D.down)/\Ext w w' :=by
 have hb:=hS.blk;have hgl:=(bl hb);refine gG (args:= [PQ H.g 0]) Tryz.func40 rfl 11 rfl rfl ?_;have hE:=Ad4 w;refine gS (Acw VY rfl (gS (Ad7 rfl (gS (Ad6 P2 rfl (gS (Aax KD rfl rfl (cellAt hb rfl) (gS (AaS rfl rfl (A8 rfl (vr (.bool (D.down)) rfl) ?_))))))))));exact⟨rfl,hE⟩
theorem YB(base:Nat)(w:Ae3)(H:Dk)(D:Ad)(hS:DkS base w H D)(hlen:D.now.length<1099511627776):
  Calls Ae5 27 #[PQ H.g 0] w fun e w' =>∃v,e = .returned v/\OG w.heap.size 9 1 CQ w' v (AF D)/\Ext w w' :=by
 have hb:=hS.blk;have hgl:=(bl hb);have i:=hS;refine gG (args:= [PQ H.g 0]) Tryz.func27 rfl 12 rfl rfl ?_;have hE:=Ad4 w;cases hdn:D.down
 ·have hV:AF D=D.now.map AfB:=if_neg (by rw[hdn];decide);have hr:readyL D []=0:=Jv hdn rfl;refine gS (AaA KI rfl rfl ((DO base _ H D (hS.keep hE) (Afc none 0 0) [] (AeH _ _ _) (by simp)).mono ?_));rintro e c ⟨rfl,f⟩;refine⟨_,rfl,?_⟩;have hb:=eb f hb;refine gS (Aay (a:=(readyL D []:Nat)) (b:=(0:Nat)) rfl rfl (AV _ _ _ _) (kF (by omega) (cF rfl (gS (Ad7 rfl (gS (Ad6 P3 rfl (gS (Aax MY rfl rfl (cellAt hb rfl) ?_)))))))));have hE:=hE.trans f;have hm1:=(hS.keep hE).now;refine gS (AaE V9 rfl ((O1 _ _).mono ?_));rintro e h ⟨rfl,hwk⟩;refine⟨_,rfl,?_⟩;have hxk:Ext c h:=by rw[hwk];exact(AfV _ _).alloc (Ae8 _) _
  refine gS (AaE Wa rfl ((LH c h hwk hm1 i.ok.now hlen).mono ?_));rintro e n ⟨j,rfl,k,l⟩;refine⟨_,rfl,?_⟩;have hE:=hE.trans hxk;have o:=hE.size;refine A8 rfl (vr j rfl) ?_;have hE:=hE.trans l;exact⟨_,rfl,by rw[hV];exact AeR k (by omega),hE⟩
 have hV:AF D= []:=if_pos hdn;have hr:readyL D []=9:=HE hdn;refine gS (AaA KI rfl rfl ((DO base _ H D (hS.keep hE) (Afc none 0 0) [] (AeH _ _ _) (by simp)).mono ?_));rintro e p ⟨rfl,m⟩;refine⟨_,rfl,?_⟩;refine gS (Aay (a:=(readyL D []:Nat)) (b:=(0:Nat)) rfl rfl (AV _ _ _ _) (kT (by omega) (cT rfl (A8 rfl (vr (Afc none 0 0) rfl) ?_))));have hE:=hE.trans m;exact⟨_,rfl,by rw[hV];exact Aem _ _ _ _ _,hE⟩
theorem ZH(w0 w:Ae3)(b:Ext w0 w)(H:Dk)(D:Ad)(hS:DkS w0.heap.size w H D)(n:Int):
  Calls Ae5 37 #[PQ H.g 0, .int .i64 n] w fun e w' =>e = .returned (.tuple #[])/\DkT w0.heap.size w H D w' H { D with arm:=n.toNat } :=by
 have hb:=hS.blk;have hgl:=(bl hb);have hgl0:=hS.lo.1;have hsz0:=b.size;have c:=hS;have hgr:=Agf w (some H.g);refine gG (args:= [PQ H.g 0, .int .i64 (n:Int)]) Tryz.func37 rfl 11 rfl rfl ?_;have hE:=Ad4 w;refine gS (Acw VY rfl (cT rfl (gS (Ac1 rfl rfl (gS (Ad7 rfl (gS (Ad6 CY rfl (gS (Aa0 (i:=5) (v:=NI n.toNat) rfl rfl hb (Afj rfl) Oj rfl rfl fun w2 a f h=> ?_))))))))));have hgr:w.grownBy w2 (some H.g):=Am hgr f (fun _ e=> .inl e);clear hE;clear hb;have hb:=a;clear a;have j:=bl hb;refine rt0 rfl ?_;exact⟨rfl,c.setBlkT hgr hb⟩
theorem RG.kept{α:Type}{k:Nat}{enc:α->List Ae2}{w w' :Ae3}{v:Ae2}{l:List α}(h:RG k enc w v l){row:Option Nat}(hg:w.grownBy w' row)(hv:v.ownBlock=none\/v.ownBlock≠row):RG k enc w' v l:=by
 refine⟨h.1,?_⟩;obtain⟨h1,ao,cap,rfl,h2,h3,h4,h5⟩:=h.2;refine⟨h1,ao,cap,rfl,h2,h3,h4,fun a ha j u hu=> ?_⟩;have hc:=h5 a ha j u hu;subst ha;have hlt:=Agn w _ hc;have hbl:(a.add j).block=a.block:=by unfold Addr.add;split <;> rfl
 have hne:(some a.block)≠row:=by
  rcases hv with hv | hv
  ·cases hv
  ·exact hv
 rw[hbl]at hlt;rw[World.cell?_of_block (w:=w) (by rw[hbl];exact hg.block a.block hlt hne)];exact hc
theorem LI(t:Afa)(a b:Int)(hb:b≠0):AfL .rem t (.int .i64 a) (.int .i64 b)=pure (.int .i64 (AgZ a b)):=by
 unfold AfL;simp only[ne_eq,not_true_eq_false,if_false,Op.intDiv];rw[if_neg hb]
theorem Mh(x:Int)(m:Nat): -(m:Int)<=AgZ x ((m+1:Nat):Int)/\AgZ x ((m+1:Nat):Int)<=m:=by
 have h1:=Int.tmod_lt_of_pos x (show(0:Int)<((m+1:Nat):Int) by omega);have h2:=Int.lt_tmod_of_pos x (show(0:Int)<((m+1:Nat):Int) by omega);omega
theorem YC(t:Afa)(x:Int)(m:Nat)(y:Int)(hy:y=AgZ x ((m+1:Nat):Int)+m+1):AfL .rem t (.int .i64 y) (NI (m+1))=pure (NI (AgO x ((m+1:Nat):Int)).toNat):=by
 have hb:=Mh x m;have h:=LI t y ((m+1:Nat):Int) (by omega);refine h.trans ?_;have a:AgZ y ((m+1:Nat):Int)=AgO y ((m+1:Nat):Int):=Int.tmod_eq_emod_of_nonneg (by omega);have b:AgO y ((m+1:Nat):Int)=AgO x ((m+1:Nat):Int):=by
  have h3:AgZ x ((m+1:Nat):Int)=x-((m+1:Nat):Int)*Int.tdiv x ((m+1:Nat):Int):=Int.tmod_def _ _;have h4:y=x+((m+1:Nat):Int)*(1-Int.tdiv x ((m+1:Nat):Int)):=by
   rw[hy,h3,Int.mul_sub,Int.mul_one];omega
  show y%_=x%_;rw[h4,Int.add_mul_emod_self_left]
 have h5:0<=AgO x ((m+1:Nat):Int):=Ajy x (show((m+1:Nat):Int)≠0 by omega);rw[a,b];show pure (AgQ .i64 (AgO x _))=pure (AgQ .i64 (((AgO x ((m+1:Nat):Int)).toNat:Nat):Int));rw[Int.toNat_of_nonneg h5]
def En(q:Nat):Ad:=⟨q,[],[],[],[],0,0,false⟩
theorem YD(q:Nat):DOk (En q):=⟨AeX _,AeX _,fun a h=>(by cases h),fun x h=>(by cases h)⟩
theorem Adw{P:AfD}{K:Ae2->Ae3->Prop}{ρ:Ae}{w:Ae3}{d:Option Tmp}{t ty:Afa}{pos:String}{af:Array Edge}{gd:Option (Nat × Bool)}{i0 i1 i2:Nat}{x0 x1 x2:Aff}{a b c v:Ae2}(h0:Aa ρ x0=a)(h1:Aa ρ x1=b)(h2:Aa ρ x2=c)(hr:∀w:Ae3,(Ag3 t #[(i0,a),(i1,b),(i2,c)]).run P w = .ok v w)(hk:K v w):Yk P K ((execOp (Aa ρ) ⟨d, .build t #[(i0,x0),(i1,x1),(i2,x2)],ty,pos,af,gd⟩).run P w):=
 Yk.build (by simp[h0,h1,h2]) hr hk
theorem YE(q:Int)(a b:Nat)(w:Ae3):(Ag3 107 #[(0, .int .i64 q),(1, .map (some a)),(2, .map (some b))]).run Ae5 w = .ok (.agg #[.int .i64 q, .map (some a), .map (some b), .slice none 0 0,NI 0,NI 0, .bool false]) w:=by kernel_rfl
theorem Uk:(Tryz.prog.info? 22).map (·.size)=some 1:=by kernel_rfl
theorem ZI(w:Ae3)(q:Nat)(hq:q<=1073741824):
  Calls Ae5 21 #[NI q] w fun e w' =>∃H,e = .returned (PQ H.g 0)/\DkS w.heap.size w' H (En q)/\Ext w w' :=by
 refine gG (args:= [NI q]) Tryz.func21 rfl 14 rfl rfl ?_;have hE:=Ad4 w;refine gS (Aay (a:=(q:Nat)) (b:=(0:Nat)) rfl rfl (AE _ _ _ _) (kF (by omega) (gS (Aay (a:=(q:Nat)) (b:=(1073741824:Nat)) rfl rfl (Bj _ _ _ _) (kF (by omega) (gS (AaX rfl rfl (cF rfl ?_))))))));have v:=hE.size;refine gS (AbB St (pF (fun _=>0)) Nm fun c p x hm8 r y=> ?_);have z:c<p.heap.size:=by omega
 have hE:=hE.trans r;have aa:=hE.size;refine gS (AbB St (pF (fun _=>0)) Nm fun f s ab hm16 m ac=> ?_);have ad:f<s.heap.size:=by omega
 refine gS (Adw (vr (NI q) rfl) (vr (.map (some c)) rfl) (vr (.map (some f)) rfl) (fun w=>YE _ _ _ w) (gS (Ael (vr (.agg (Ju q c f (.slice none 0 0) 0 0 false).toArray) rfl) fun h t n o l ae=> ?_)));have hE:=hE.trans m;have af:=hE.size;have hm8:=hm8.keep m;have ag:=Av hm8.lt n;have ah:=Av hm16.lt n;have u:=o;clear o;have ai:h<t.heap.size:=by omega
 refine A8 rfl (vr (PQ h 0) rfl) ?_;have hE:=hE.trans l;have hm8:=hm8.keep l;have hm16:=hm16.keep l;exact⟨⟨h,c,f, .slice none 0 0,fun _=>0,fun _=> .slice none 0 0⟩,rfl,⟨u,hm8,hm16,by show c≠f;omega,⟨[],Af5 _ _ _ 1,rfl,fun i hi=>absurd hi (Age _)⟩,⟨fun k hk=>absurd hk (Age _),fun i j hi=>absurd hi (Age _),fun i j hi=>absurd hi (Age _)⟩,YD q,by show _<=h/\_<=c/\_<=f;omega⟩,hE⟩
theorem ZJ(w:Ae3)(bf:Nat)(vf:Ae2)(fs:List Int)(hbf:w.heap[bf]? =some (.cells ([vf]).toArray 22 (0,0)))(hrf:RG 1 BY w vf fs)(m:Nat)(hm:m<4611686018427387904)(hf:fs.length=0):
  Calls Ae5 70 #[NI m,PQ bf 0] w fun e w' =>e = .returned (NI 0)/\Ext w w' :=by
 have hbl:=(bl hbf);have hgr:=Agf w (some bf);refine gG (args:= [NI m,PQ bf 0]) Tryz.func70 rfl 23 rfl rfl ?_;have hE:=Ad4 w;refine gS (Aax ML rfl rfl (cellAt hbf rfl) (gS (AaW ML (AaD hrf rfl) (gS (Aay (a:=(fs.length:Nat)) (b:=(0:Nat)) rfl rfl (AH _ _ _ _) (kT (by omega) (cT rfl (A8 rfl (vr (NI 0) rfl) ?_))))))));exact⟨rfl,hE⟩
theorem ZK(w:Ae3)(bf:Nat)(vf:Ae2)(fs:List Int)(hbf:w.heap[bf]? =some (.cells ([vf]).toArray 22 (0,0)))(hrf:RG 1 BY w vf fs)(hap:OB vf bf)(m:Nat)(hm:m<4611686018427387904)(hf:0<fs.length):
  Calls Ae5 70 #[NI m,PQ bf 0] w fun e w' =>∃v',e = .returned (NI (AgO (fs.getD 0 0) ((m+1:Nat):Int)).toNat)/\w'.heap[bf]? =some (.cells ([v']).toArray 22 (0,0))/\RG 1 BY w' v' (fs.drop 1)/\v'.ownBlock=vf.ownBlock/\w.grownBy w' (some bf):=by
 have hbl:=(bl hbf);have hgr:=Agf w (some bf);refine gG (args:= [NI m,PQ bf 0]) Tryz.func70 rfl 23 rfl rfl ?_;have hE:=Ad4 w;refine gS (Aax ML rfl rfl (cellAt hbf rfl) (gS (AaW ML (AaD hrf rfl) (gS (Aay (a:=(fs.length:Nat)) (b:=(0:Nat)) rfl rfl (AH _ _ _ _) (kF (by omega) (cF rfl (gS (Aax ML rfl rfl (cellAt hbf rfl) ?_)))))))));have o:(BY (fs.getD (0) (0:Int))).length=1:=(Aec hrf (0:Int) (by omega));refine gS (AaZ ML HT (by decide) (0:Int) (AaD hrf rfl) rfl (by omega) fun p h=>(gS (AaY Vx rfl (Aef (Aa6 h rfl) rfl) ?_)));clear h;refine gS (Aax ML rfl rfl (cellAt hbf rfl) (gS (AcR (l:=1) ML HT rfl hrf rfl (by omega) fun f c hown11=> ?_)));have hown:=hown11;have k:OB f bf:=fun e=>hap (hown.symm.trans e);refine gS (Aa0 (i:=0) (v:=f) rfl rfl hbf (Afj rfl) Uk (AeK c).1 (AeK c).2 fun n j g q=> ?_);have hrf:=RG.kept hrf g (.inr hap);have hgr:w.grownBy n (some bf):=Am hgr g (fun _ e=> .inl e);clear hE;have c:=RG.kept c g (.inr k);clear hbf;have hbf:=j;clear j;have r:=bl hbf;have hbd:=Mh (fs.getD 0 0) m;refine gS (Aaz (xv:=NI m) (yv:=NI 1) rfl rfl rfl (Ah _ _ _ (by omega)) (gS (Aaz (xv:= .int .i64 (fs.getD (0) (0:Int))) (yv:=NI ((m)+(1))) rfl rfl rfl (LI _ (fs.getD (0) (0:Int)) _ (by omega)) (gS (Aaz (xv:= .int .i64 ((AgZ (fs.getD (0) (0:Int)) ((m+1:Nat):Int)))) (yv:= .int .i64 (((m:Nat):Int))) rfl rfl rfl (Jy _ ((AgZ (fs.getD (0) (0:Int)) ((m+1:Nat):Int))) (((m:Nat):Int)) (by omega)) (gS (Aaz (xv:= .int .i64 ((((AgZ (fs.getD (0) (0:Int)) ((m+1:Nat):Int)))+(((m:Nat):Int))))) (yv:= .int .i64 (((1:Nat):Int))) rfl rfl rfl (Jy _ ((((AgZ (fs.getD (0) (0:Int)) ((m+1:Nat):Int)))+(((m:Nat):Int)))) (((1:Nat):Int)) (by omega)) (gS (Aaz (xv:=NI m) (yv:=NI 1) rfl rfl rfl (Ah _ _ _ (by omega)) (gS (Aaz (xv:= .int .i64 ((((((AgZ (fs.getD (0) (0:Int)) ((m+1:Nat):Int)))+(((m:Nat):Int))))+(((1:Nat):Int))))) (yv:=NI ((m)+(1))) rfl rfl rfl (YC _ (fs.getD 0 0) m _ (by omega)) (A8 rfl (vr (NI ((AgO (fs.getD 0 0) ((m+1:Nat):Int)).toNat)) rfl) ?_))))))))))));exact⟨f,rfl,hbf,c,hown,hgr⟩
def Iy(D:Ad)(n:Nat):Br:=(D.acts.take n).foldl turnD D.kept
theorem Sb{D:Ad}{n:Nat}(h:n<D.acts.length):Iy D (n+1)=turnD (Iy D n) (D.acts.getD n ⟨[],[],0⟩):=by
 unfold Iy;rw[Afv h,List.foldl_append,Ae6,Afb h];rfl
theorem Wc{D:Ad}(h:DOk D)(n:Nat):DirOk D.files.length (Iy D n):=h.kept.fold fun a ha=>h.acts a ((Ajg _ _).subset ha)
theorem Sc(D:Ad)(l:List Int):Iy D (B6 l 0 (D.acts.length+1))=AS D l:=rfl
def Fe(D:Ad)(l:List Int)(L:Br)(n:Nat):List (AlJ × Nat):=(L.take n).mapIdx fun i e=>Em D l i e.2
def Eo(L:Br)(n:Nat):Br:=Dt (L.take n)
theorem Kk{α β:Type}(f:Nat->α->β)(l:List α)(a:α):(l++ [a]).mapIdx f=l.mapIdx f++ [f l.length a]:=by
 rw[List.mapIdx_append];simp
theorem Ul{D:Ad}{l:List Int}{L:Br}{n:Nat}(h:n<L.length):Fe D l L (n+1)=Fe D l L n++ [Em D l n (L.getD n ([],0)).2]:=by
 unfold Fe;rw[Afv h,Kk,Afi,Ahd (by omega),Ae6,Afb h];rfl
theorem numN_succ{L:Br}{n:Nat}(h:n<L.length):Eo L (n+1)=Eo L n++ [((L.getD n ([],0)).1,n)]:=by
 unfold Eo Dt;rw[Afv h,Kk,Afi,Ahd (by omega),Ae6,Afb h];rfl
theorem Wd(D:Ad)(l:List Int)(L:Br){n:Nat}(h:n<=L.length):(Fe D l L n).length=n:=by
 unfold Fe;rw[Ai5,Afi];omega
theorem Um{L:Br}(hs:Er L){n:Nat}(h:n<L.length):Ao (Eo L n) (L.getD n ([],0)).1=none:=by
 refine Ho.2 fun e he q=> ?_;have h1:e.1∈(Eo L n).map AfB:=Ahr he;unfold Eo at h1;rw[KG]at h1;obtain⟨x,hx,hxe⟩:=AfO.1 h1;obtain⟨j,hj,hjx⟩:=List.mem_iff_getElem.1 hx;rw[Afi]at hj;rw[List.getElem_take]at hjx;have h2:=List.pairwise_iff_getElem.1 hs j n (by omega) h (by omega);rw[Ae6,Afb h,Option.getD_some]at q;rw[hjx,hxe,q,Fj]at h2;cases h2
theorem We{L:Br}(hs:Er L){n:Nat}(h:n<L.length):updM (Ao (Eo L n)) (L.getD n ([],0)).1 (some n)=Ao (Eo L (n+1)):=by
 funext t
 rw[numN_succ h,Ir];unfold updM;by_cases ht:t=(L.getD n ([],0)).1
 ·rw[if_pos ht,ht,Um hs h];show _=Ao [_] _;rw[C3,if_pos rfl]
 ·rw[if_neg ht];rw[C3,if_neg (fun q=>ht q.symm)];show _=(Ao (Eo L n) t).or none;rw[Option.or_none]
theorem G6(D:Ad)(l:List Int):crashD D l = { quota:=D.quota,files:=Fe D l (AS D l) (AS D l).length,now:=Eo (AS D l) (AS D l).length,kept:=Eo (AS D l) (AS D l).length,acts:= [],refused:=D.refused,arm:=0,down:=false } :=by
 unfold crashD Fe Eo;rw[List.take_length]
theorem YF{L:Br}{n:Nat}{s:AlJ}{k:Nat}(h:Ao (Eo L n) s=some k):k<n:=by
 have:=Db h;unfold Eo Dt at this;obtain⟨i,hi,he⟩:=Aik.1 this;rw[Afi]at hi;cases he;omega
theorem AcM{base:Nat}{w:Ae3}{F:Nat->Nat}{V:Nat->Ae2}{fs:List (AlJ × Nat)}(h:FilesAt base w F V fs){f:Nat}{v:Ae2}{x:AlJ × Nat}(hf:FileAt base w f v x)(h1:∀k,k<fs.length->F k≠f)(h2:∀k,k<fs.length->∀i,(V k).ownBlock=some i->v.ownBlock≠some i):
  FilesAt base w (BC F fs.length f) (BC V fs.length v) (fs++ [x]):=by
 refine⟨fun k hk=> ?_,fun i j hi hj e=> ?_,fun i j hi hj hne y hy=> ?_⟩
 ·rw[Ae9,Afs]at hk;by_cases e:k=fs.length
  ·subst e;rw[Ca,Ca,Gg];exact hf
  ·have hk' :k<fs.length:=by omega
   rw[BW _ _ hk',BW _ _ hk',getD_left hk'];exact h.at_ k hk'
 ·rw[Ae9,Afs]at hi hj;by_cases ei:i=fs.length <;> by_cases ej:j=fs.length
  ·omega
  ·rw[ei,Ca,BW _ _ (by omega:j<fs.length)]at e;exact absurd e.symm (h1 j (by omega))
  ·rw[ej,Ca,BW _ _ (by omega:i<fs.length)]at e;exact absurd e (h1 i (by omega))
  ·rw[BW _ _ (by omega:i<fs.length),BW _ _ (by omega:j<fs.length)]at e;exact h.inj i j (by omega) (by omega) e
 ·rw[Ae9,Afs]at hi hj;by_cases ei:i=fs.length
  ·rw[ei,Ca]at hy;rw[BW _ _ (by omega:j<fs.length)];exact fun q=>h2 j (by omega) y q hy
  ·rw[BW _ _ (by omega:i<fs.length)]at hy;by_cases ej:j=fs.length
   ·rw[ej,Ca];exact h2 i (by omega) y hy
   ·rw[BW _ _ (by omega:j<fs.length)];exact h.apart i j (by omega) (by omega) hne y hy
section
variable {base : Nat} {w w' : Ae3} {H : Dk} {D : Ad}
theorem FilesAt.setT{F:Nat->Nat}{V:Nat->Ae2}{fs:List (AlJ × Nat)}(h:FilesAt base w F V fs){g x:Nat}(hg:w.grownBy w' (some g))(ht:CR w g=some x)(h1:x≠133+1)(h2:x≠5+1):FilesAt base w' F V fs:=
 h.chg (B:=fun i=>i=g) (Abd hg fun i e=> .inl (AfJ e).symm) fun k hk=>
  ⟨fun e=>B2 (BB (h.at_ k hk).blk) ht (fun q=>h1 q.symm) e,fun i hi e=>B2 (EM (h.at_ k hk).row hi) ht (fun q=>h2 q.symm) e⟩
theorem FilesAt.keep{F:Nat->Nat}{V:Nat->Ae2}{fs:List (AlJ × Nat)}(h:FilesAt base w F V fs)(hE:Ext w w'):FilesAt base w' F V fs:=FilesAt.chg h (B:=fun _=>False) (AbD hE) fun _ _=>⟨fun q=>q,fun _ _ q=>q⟩
theorem FilesAt.low{F:Nat->Nat}{V:Nat->Ae2}{fs:List (AlJ × Nat)}(h:FilesAt base w F V fs){b' :Nat}(hb:b' <=base):FilesAt b' w F V fs:=⟨fun k hk=>⟨(h.at_ k hk).blk,BM (h.at_ k hk).row hb,Ae7 hb (h.at_ k hk).lo⟩,h.inj,h.apart⟩
theorem FilesAt.nil(F:Nat->Nat)(V:Nat->Ae2):FilesAt base w F V []:=⟨fun k hk=>absurd hk (Age _),fun i j hi=>absurd hi (Age _),fun i j hi=>absurd hi (Age _)⟩
theorem DkS.crashed(h:DkS base w H D){l:List Int}{F' :Nat->Nat}{V' :Nat->Ae2}{na nb:Nat}(h0:base<=w.heap.size)(hc:Chg (fun i=>i=H.g) w w')(hb:w'.heap[H.g]? =some (.cells (Ju D.quota na nb (.slice none 0 0) D.refused 0 false).toArray 107 (0,0))) 
  (ha:MapF St (pF F') Nm w' na (Ao (Eo (AS D l) (AS D l).length))) (hk:MapF St (pF F') Nm w' nb (Ao (Eo (AS D l) (AS D l).length))) (hne:na≠nb) (hna:w.heap.size<=na) (hnb:w.heap.size<=nb)
  (hf:FilesAt w.heap.size w' F' V' (Fe D l (AS D l) (AS D l).length)):DkT base w H D w' ⟨H.g,na,nb, .slice none 0 0,F',V'⟩ (crashD D l):=by
 have hok:=h.ok.crash l;have hl:(crashD D l).files.length=(Fe D l (AS D l) (AS D l).length).length:=by rw[G6]
 refine⟨⟨by rw[G6];exact hb,by rw[G6];exact ha,by rw[G6];exact hk,hne,⟨[],Af5 _ _ _ 1,rfl,fun i hi=>absurd hi (Age _)⟩,by rw[G6];exact hf.low h0,hok,⟨h.lo.1,Ae7 h0 hna,Ae7 h0 hnb⟩⟩,rfl,hc.mono fun i _ e=> .inl e,fun i hi=> ?_⟩;rcases hi with e | e | e | e | ⟨k,hk',e⟩
 ·exact .inl (.inl e)
 ·exact .inr ((show i=na from e)▸hna)
 ·exact .inr ((show i=nb from e)▸hnb)
 ·cases(show(none:Option Nat)=some i from e)
 ·rw[hl]at hk';rcases e with e | e
  ·exact .inr ((show i=F' k from e)▸(hf.at_ k hk').lo)
  ·exact .inr (((hf.at_ k hk').row.lt i e).1)
end
def FAt(n0:Nat)(w:Ae3)(v:Ae2)(l:List Int):Prop:=RG 1 (fun n:Int=> [AgQ .i64 n]) w v l/\(l= []\/∃b,v.ownBlock=some b/\b<n0)
theorem Sd{α:Type}{k:Nat}{enc:α->List Ae2}{w w' :Ae3}{v:Ae2}(h:RG k enc w v ([]:List α)):RG k enc w' v []:=by
 obtain⟨h0,h1,ao,cap,rfl,h2,h3,h4,h5⟩:=h;exact⟨h0,h1,ao,cap,rfl,h2,h3,h4,fun a _ j u hu=>by simp at hu⟩
theorem FAt.keep{a:Nat}{w w' :Ae3}{v:Ae2}{l:List Int}(h:FAt a w v l)(hE:Ext w w'):FAt a w' v l:=⟨h.1.keep hE,h.2⟩
theorem Ad1{w:Ae3}{v:Ae2}{l:List Int}(h:RG 1 (fun n:Int=> [AgQ .i64 n]) w v l):FAt w.heap.size w v l:=by
 refine⟨h,?_⟩;cases l with
 | nil=>exact .inl rfl
 | cons x r=>
  obtain⟨-,h1,ao,cap,rfl,h2,h3,h4,h5⟩:=id h;cases ao with
  | none=>exact absurd (h4 rfl).1 (by simp)
  | some a=>
   have hc:=h5 a rfl 0 (.int .i64 x) (by simp);have hl:=Agn w _ hc;refine .inr ⟨a.block,rfl,?_⟩;have e:(a.add 0).block=a.block:=by unfold Addr.add;split <;> rfl
   rwa [e]at hl
theorem Un{α:Type}{l:List α}{n i:Nat}{d:α}(h:i<n):(l.take n).getD i d=l.getD i d:=by
 rw[Ae6,List.getElem?_take_of_lt h,<-Ae6]
theorem Wf{l:Br}{j:Nat}(h:j<l.length):(l.map AfB).getD j []=(l.getD j ([],0)).1:=by
 rw[Ae6,Ae6,List.getElem?_map,Afb h];rfl
theorem O6:∀(acs:List CL) (l:Br),(acs.foldl turnD l).length<=l.length+acs.length
 | [],l=>Ae8 _
 | a :: r,l=>by
  have h1:=O6 r (turnD l a);have h2:=OV l a;rw[List.foldl_cons,AfA];omega
theorem O7(D:Ad)(fs:List Int):(AS D fs).length<=D.kept.length+D.acts.length:=by
 have h:=O6 (D.acts.take (B6 fs 0 (D.acts.length+1))) D.kept;rw[Afi]at h;unfold AS;omega
end Go.Proofs.YtfpekahfdalfkaaGreatDoor
