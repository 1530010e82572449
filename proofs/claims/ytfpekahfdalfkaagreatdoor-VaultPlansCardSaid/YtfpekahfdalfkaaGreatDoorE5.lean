/- Part 5 of what stands behind these statements: laws and walks of the functions that are reached. Conditions: those that each theorem names. -/
import Derived.Test.YtfpekahfdalfkaaGreatDoorE4
set_option linter.unusedVariables false
set_option linter.unusedSimpArgs false
namespace Go.Proofs.YtfpekahfdalfkaaGreatDoor
open _root_.Go renaming World->AbJ,Value->AbI,TypeId->AbQ,Operand->AbV,Program->Acg,binOp->Acm,MapEntry->Adv
open _root_.Prod renaming fst->Aci
open _root_.Go.Lib renaming byteCells->AbK,byteCells_length->AbZ,indexByte->Agt
open _root_.Option.some renaming inj->Acu
open _root_.Go.Proofs.Tryz renaming prog->AbL,underlying4->Afb,isAgg4->Ahd,sizeOf4->AgU,zeroValue4->Af0,underlying0->Afc,isAgg0->Agi,sizeOf0->Af1,zeroValue0->Afl,underlying9->Aed,isAgg9->Afi,sizeOf9->Ae2,zeroValue9->Aem,underlying111->Agk,isAgg111->Ahy,sizeOf111->Ahk,zeroValue111->Agz,underlying56->AgA,isAgg56->AhV,sizeOf56->Ahz,zeroValue56->AgV,underlying3->AgW,isAgg3->Ah3,sizeOf3->AhW,zeroValue3->Ag7,underlying5->Afa,isAgg5->Ah4,sizeOf5->AhX,zeroValue5->Ag8
open _root_.Nat renaming le_of_ble_eq_true->Ab2,le_trans->AbM,le_refl->AbO,lt_of_lt_of_le->AcE,zero_le->Ack,sub_self->Ady,zero_add->Ac2,add_mul->Aee,not_lt_zero->Ads,mul_le_mul_left->AeD,le_succ_of_le->AdV,le_succ->AfL
open _root_.Go.Value renaming bool->Acs,slice->AbR,ownBlock->AbS
open _root_.List renaming length_take->Ab5,replicate->AbX,length_replicate->Ab8,map_toArray->Acp,map_cons->Aco,map_nil->Acz,toArray->Adh,length_nil->Acl,eq_nil_of_length_eq_zero->Acv,mem_cons_self->AcT,mem_cons_of_mem->AcW,pairwise_cons->AcS,mem_cons->Acy,filter_cons_of_neg->AfC,filter_cons_of_pos->AfD,takeWhile_append_dropWhile->AeH,dropWhile_cons->AhH,takeWhile_cons->AhI,takeWhile_sublist->AeU,dropWhile_sublist->AeV,length_append->AbP,length_cons->Ach,mem_append->Acb,mem_map_of_mem->Afj,mem_map->Acw,perm_ext_iff_of_nodup->Aer,length_map->Ab9,size_toArray->Ab4,map_map->AeB,map_congr_left->AhJ,filter_eq_self->Af5,getD_eq_getElem?_getD->AbN,getElem?_eq_getElem->AbT,getElem_mem->Adu,getElem?_eq_none->AcR,mem_singleton->AbW,length_set->Adq,mem_or_eq_of_mem_set->Aew,length_singleton->Ab7,getElem?_append_right->AcA,getElem?_append_left->AcG,flatMap_cons->AcJ,all_eq_true->Acx,take_succ_eq_append_getElem->Acn,all_append->Ag6,take_of_length_le->AcD,flatMap_append->AeC,all_cons->Ago,set_append_right->Ac9,range->AcZ,append_assoc->Acj
open _root_.Go.Sem renaming run_bind->AbY,run_pure->Ab1,run->AfU
open _root_.Go.Instr renaming buildSlice->Acq,next->Ahs,build->AdF
open _root_.Go.World renaming ownsRow_nil->AcH,ownsRow->Agr,block_lt_of_cell?->Ada,shape?->AhP
open _root_.Go.Op renaming bytesLess->AcX
open _root_.List.Pairwise renaming sublist->Ahj,of_map->Aev,map->AfE,nil->AdJ
open _root_.Bool renaming eq_false_iff->Agy,false_eq_true->Aeg,and_eq_true->AcQ
open _root_.Array renaming getElem?_eq_some_iff->Ace,toList_filter->Af7,filter->AhU,getElem?_setIfInBounds->Adp
open _root_.Go.Result renaming andThen_ok->AbU,andThen->AcF
open _root_.Go.RowKit.Below renaming refl->AcB
open _root_.Go.World.grownBy renaming refl->Ac7
open _root_.Go.Shelf renaming Ren->Ae1
open Go.RowKit
set_option maxRecDepth 100000
def BY(b:Bs):Except Nat A0:=if 1048576<b.length then .error 2 else if b.length<36 then .error 6 else if Sha.sum (b.take (b.length-32))=b.drop (b.length-32)then Cu b else .error 18
def PackAt(w:AbJ)(v:AbI)(p:A0):Prop:=∃g vi bo O,v=PQ g 0/\p.2=(fun k=>(O k).map Aci)/\w.heap[g]? =some (.cells ([vi, .map (some bo)]).toArray 163 (0,0))/\RG 32 AbK w vi p.1/\MapF rk Ch (fun id:Ah5 =>id.length=32) w bo O/\OOk w O
def XJ(w:AbJ)(v:AbI):Except Nat A0->Nat->Prop
 | .ok p,c=>c=0/\PackAt w v p
 | .error e,c=>c=e/\v = .pointer none
theorem PackAt.keep{w w' :AbJ}{v:AbI}{p:A0}(h:PackAt w v p)(k:Ext w w'):PackAt w' v p:=by
 obtain⟨g,vi,bo,O,h1,h2,h3,h4,h5,h6⟩:=h;exact⟨g,vi,bo,O,h1,h2,eb k h3,h4.keep k,h5.keep k,h6.keep k⟩
def PackNew(n:Nat)(w:AbJ)(v:AbI)(p:A0):Prop:=∃g vi bo O,v=PQ g 0/\p.2=(fun k=>(O k).map Aci)/\w.heap[g]? =some (.cells ([vi, .map (some bo)]).toArray 163 (0,0))/\RG 32 AbK w vi p.1/\MapF rk Ch (fun id:Ah5 =>id.length=32) w bo O/\OOk w O/\n<=g/\n<=bo/\NewV n vi/\NewM n O
theorem PackNew.keep{n:Nat}{w w' :AbJ}{v:AbI}{p:A0}(h:PackNew n w v p)(k:Ext w w'):PackNew n w' v p:=by
 obtain⟨g,vi,bo,O,h1,h2,h3,h4,h5,h6,h7⟩:=h;exact⟨g,vi,bo,O,h1,h2,eb k h3,h4.keep k,h5.keep k,h6.keep k,h7⟩
def OpenNew(n:Nat)(w:AbJ)(v:AbI):Except Nat A0->Nat->Prop
 | .ok p,c=>c=0/\PackNew n w v p
 | .error e,c=>c=e/\v = .pointer none
theorem PackNew.keepN{n:Nat}{w w' :AbJ}{v c:AbI}{p:A0}{b:Nat}{T:AbQ}{fr:Nat × Nat}(h:PackNew n w v p)(hb:w.heap[b]? =some (.cells ([c]).toArray T fr))(hc:∀x,c≠B8 x)(hg:w.grownBy w' (some b)):PackNew n w' v p:=by
 obtain⟨g,vi,bo,O,h1,h2,h3,h4,h5,h6,h7⟩:=h;have hm:=Ty hb hc;have a:g≠b:=fun e=>by rw[e,hb]at h3;simp at h3
 have f:bo≠b:=fun e=>by obtain⟨es,cl,h,-⟩:=h5;rw[e,hb]at h;cases h
 exact⟨g,vi,bo,O,h1,h2,(hg.block g (bl h3) (fun e=>a (Acu e))).trans h3,h4.keepN hm hg,h5.other hg (fun e=>f (Acu e).symm),fun id x hx=>(h6 id x hx).keepN hm hg,h7⟩
theorem Sf{d:Option Tmp}{ty:AbQ}{pos:String}{af:Array Edge}{gd:Option (Nat × Bool)}(σ:AbV->AbI)(w:AbJ):(execOp σ ⟨d, .alloc 89,ty,pos,af,gd⟩).run AbL w = .ok (.value (PQ w.heap.size 0)) (w.alloc (.cells ([.pointer none]).toArray 89)):=by kernel_rfl
theorem Sg{d:Option Tmp}{ty:AbQ}{pos:String}{af:Array Edge}{gd:Option (Nat × Bool)}(σ:AbV->AbI)(w:AbJ):(execOp σ ⟨d, .alloc 29,ty,pos,af,gd⟩).run AbL w = .ok (.value (PQ w.heap.size 0)) (w.alloc (.cells ([NI 0]).toArray 29)):=by kernel_rfl
theorem Fy:Tryz.prog.underlying 89=some (.pointer 163):=by kernel_rfl
theorem Sh:Plain AbL 79:=fun _ _=>by kernel_rfl
set_option maxHeartbeats 1600000
theorem NG(w:AbJ)(hG:Laid w)(v:AbI)(b:Bs)(hr:RB w v b):
  Calls AbL 43 #[v] w fun e w' =>∃x,e = .returned x/\∃p c,x = .tuple #[p,NI c]/\OpenNew w.heap.size w' p (BY b) c/\Ext w w' :=by
 refine ND (args:= [v]) Tryz.func43 rfl 30 rfl (Ab2 rfl) ?_;intro b6 hb;have o:b6 0=(v:AbI):=hb.get 0;clear hb;have hE:=AaY w;refine Cx _ B0 fun K1 ay=>(wt (oS rfl (Aa3 (cs:=([.pointer none]).toArray) Sf fun u w3 di bh b7 dj=> ?_)));have hE:=hE.trans b7;have g:=bh;clear bh;have dk:u<w3.heap.size:=by omega
 refine oS rfl (Aa3 (cs:=([NI 0]).toArray) Sg fun y b8 b9 bi a3 dl=> ?_);have s:=AaY w3;have dm:=hE;have a0:=hE.size;have dn:=As (bl g) b9;have hE:=hE.trans a3;have g:=eb a3 g;have s:=s.trans a3;have j:=bi;clear bi;have dp:y<b8.heap.size:=by omega
 refine GX [(0,v),(2,PQ u 0),(3,PQ y 0)] ⟨o,rfl,rfl,trivial⟩ fun dq ⟨o,q,r,_⟩=> ?_;by_cases q1:1048576<b.length
 ·have hP:BY b = .error 2:=if_pos q1;refine tN (ay _ _ (Cx _ B0 fun dr ds=>(sk fun dt ca=>(wt (oM rfl (oS rfl (XZ F7 (XV (hr.keep hE) o) (oS rfl (XQ (a:=(b.length:Nat)) (b:=(1048576:Nat)) rfl rfl (Bh _ _ _ _) (GX [(0,v),(2,PQ u 0),(3,PQ y 0),(7, .bool (true))] ⟨o,q,r,(congrArg Acs (decide_eq_true (q1))),trivial⟩ fun du ⟨o,q,r,t,_⟩=>(tN (ca _ _ (EK t (sk fun dv cb=>(wt (oS rfl (X5 (i:=0) (v:= .pointer none) q (vr (.pointer none) rfl) g (Ab2 rfl) Qq rfl rfl fun dw bj bk dx=> ?_)))))))))))))))));have hE:=Ab hE bk (AbM (AbO _) (by omega));clear s;have j:=kb bk j (by omega);clear g;have g:=bj;clear bj;have dy:=bl g;refine oS rfl (X5 (i:=0) (v:=NI 2) r (vr (NI 2) rfl) j (Ab2 rfl) Qr rfl rfl fun dz bm bn d0=> ?_);have hE:=Ab hE bn (AbM a0 (by omega));have g:=kb bn g (by omega);clear j;have j:=bm;clear bm;have d1:=bl j;refine GX [(0,v),(2,PQ u 0),(3,PQ y 0),(7, .bool (true))] ⟨o,q,r,t,trivial⟩ fun d2 ⟨o,q,r,t,_⟩=>(tN (cb _ _ (IZ (Ib (CK (fn:=Tryz.f43) _ rfl [.pointer none,NI 2] (.tuple #[.pointer none,NI 2]) rfl ⟨Ys q g Fy rfl,Ys r j Se rfl,trivial⟩ ?_)))));exact⟨_,rfl,_,_,rfl,by rw[hP];exact⟨rfl,rfl⟩,hE⟩
 by_cases q2:b.length<36
 ·have hP:BY b = .error 6:=(if_neg q1).trans (if_pos q2);refine tN (ay _ _ (Cx _ B0 fun d3 cc=>(sk fun d4 cd=>(wt (oM rfl (oS rfl (XZ F7 (XV (hr.keep hE) o) (oS rfl (XQ (a:=(b.length:Nat)) (b:=(1048576:Nat)) rfl rfl (Bh _ _ _ _) (GX [(0,v),(2,PQ u 0),(3,PQ y 0),(7, .bool (false))] ⟨o,q,r,(congrArg Acs (decide_eq_false (q1))),trivial⟩ fun d5 ⟨o,q,r,t,_⟩=>(tN (cd _ _ (CJ t (DE (tN (cc _ _ (Cx _ B0 fun d6 d7=>(sk fun d8 ce=>(wt (oM rfl ?_))))))))))))))))))));refine oS rfl (XZ F7 (XV (hr.keep hE) o) (oS rfl (XQ (a:=(b.length:Nat)) (b:=(36:Nat)) rfl rfl (AK _ _ _ _) (GX [(0,v),(2,PQ u 0),(3,PQ y 0),(7, .bool (false)),(10, .bool (true))] ⟨o,q,r,t,(congrArg Acs (decide_eq_true (q2))),trivial⟩ fun d9 ⟨o,q,r,t,z,_⟩=>(tN (ce _ _ (EK z (sk fun ea cf=>(wt (oS rfl (X5 (i:=0) (v:= .pointer none) q (vr (.pointer none) rfl) g (Ab2 rfl) Qq rfl rfl fun ec bp bq ed=> ?_)))))))))));have hE:=Ab hE bq (AbM (AbO _) (by omega));clear s;have j:=kb bq j (by omega);clear g;have g:=bp;clear bp;have ee:=bl g;refine oS rfl (X5 (i:=0) (v:=NI 6) r (vr (NI 6) rfl) j (Ab2 rfl) Qr rfl rfl fun ef br bs eg=> ?_);have hE:=Ab hE bs (AbM a0 (by omega));have g:=kb bs g (by omega);clear j;have j:=br;clear br;have eh:=bl j;refine GX [(0,v),(2,PQ u 0),(3,PQ y 0),(7, .bool (false)),(10, .bool (true))] ⟨o,q,r,t,z,trivial⟩ fun ei ⟨o,q,r,t,z,_⟩=>(tN (cf _ _ (IZ (Ib (CK (fn:=Tryz.f43) _ rfl [.pointer none,NI 6] (.tuple #[.pointer none,NI 6]) rfl ⟨Ys q g Fy rfl,Ys r j Se rfl,trivial⟩ ?_)))));exact⟨_,rfl,_,_,rfl,by rw[hP];exact⟨rfl,rfl⟩,hE⟩
 by_cases q3:Sha.sum (b.take (b.length-32))=b.drop (b.length-32)
 ·have hP:BY b=Cu b:=(if_neg q1).trans ((if_neg q2).trans (if_pos q3));refine tN (ay _ _ (Cx _ B0 fun ej cg=>(sk fun el ci=>(wt (oM rfl (oS rfl (XZ F7 (XV (hr.keep hE) o) (oS rfl (XQ (a:=(b.length:Nat)) (b:=(1048576:Nat)) rfl rfl (Bh _ _ _ _) (GX [(0,v),(2,PQ u 0),(3,PQ y 0),(7, .bool (false))] ⟨o,q,r,(congrArg Acs (decide_eq_false (q1))),trivial⟩ fun em ⟨o,q,r,t,_⟩=>(tN (ci _ _ (CJ t (DE (tN (cg _ _ (Cx _ B0 fun en cj=>(sk fun eo ck=>(wt (oM rfl ?_))))))))))))))))))));refine oS rfl (XZ F7 (XV (hr.keep hE) o) (oS rfl (XQ (a:=(b.length:Nat)) (b:=(36:Nat)) rfl rfl (AK _ _ _ _) (GX [(0,v),(2,PQ u 0),(3,PQ y 0),(7, .bool (false)),(10, .bool (false))] ⟨o,q,r,t,(congrArg Acs (decide_eq_false (q2))),trivial⟩ fun ep ⟨o,q,r,t,z,_⟩=>(tN (ck _ _ (CJ z (DE (tN (cj _ _ (Cx _ B0 fun eq cl=>(wt (oM rfl (oM rfl (oS rfl (XZ F7 (XV (hr.keep hE) o) (oS rfl (XR (xv:=NI b.length) (yv:=NI 32) rfl rfl rfl (BB _ _ _ (by omega) (by omega)) (oS rfl (YB (xs:=b) (n:=(b.length)-(32)) F7 PO o (hr.keep hE) (vr (NI ((b.length)-(32))) rfl) (by omega) fun cm an ha65=>(oS rfl (YA Ga (XV an (vr cm rfl)) fun bt er a4 ao=> ?_))))))))))))))))))))));have hE:=hE.trans ao;have g:=eb ao g;have s:=s.trans ao;have j:=eb ao j;have an:=an.keep ao;refine oS rfl (XX JM (vr bt rfl) ((F0 _ (hG.keep hE) bt (b.take ((b.length)-(32))) a4 (by simp only[Ab5];omega)).mono ?_));rintro e cn ⟨rfl,ah⟩;refine⟨_,rfl,?_⟩;have hE:=hE.trans ah;have g:=eb ah g;have s:=s.trans ah;have j:=eb ah j;have an:=an.keep ah;have a4:=a4.keep ah;refine oS rfl (Aa3 (cs:=(AbK (AbX 32 0)).toArray) Tn fun ai co bu bv ap es=> ?_);have ad:=AaY cn;have et:=hE;have eu:=s;have cp:=hE.size;have cq:=s.size;have ew:=As (bl g) bu;have ex:=As (bl j) bu;have hE:=hE.trans ap;have g:=eb ap g;have s:=s.trans ap;have j:=eb ap j;have ad:=ad.trans ap;have aa:=bv;clear bv;have ey:ai<co.heap.size:=by omega
  refine oS rfl (XT (vr (PQ ai 0) rfl) (vr (AB (Sha.sum (b.take ((b.length)-(32))))) rfl) aa (by exact BC (Sha.sum_length _) Ab8) (by exact Ad (Sha.sum_length _)) (Ag _) fun ez bw aq e1=> ?_);have hE:=Ab hE aq (AbM cp (by omega));have g:=kb aq g (by omega);have s:=Ab s aq (AbM cq (by omega));have j:=kb aq j (by omega);have ad:=Ab ad aq (AbM (AbO _) (by omega));clear aa;have aa:=bw;clear bw;have e2:=bl aa;refine GX [(0,v),(2,PQ u 0),(3,PQ y 0),(4,PQ ai 0),(7, .bool (false)),(10, .bool (false))] ⟨o,q,r,rfl,t,z,trivial⟩ fun e3 ⟨o,q,r,T4,t,z,_⟩=>(tN (cl _ _ (Cx _ B0 fun e5 cr=>(sk fun e6 ct=> ?_))));refine Hf [Is (.slice (some ⟨ai,0,none⟩) 32 32),Is (St ((Sha.sum (b.take ((b.length)-(32)))))),Is (v),Is (v),Is (NI b.length),Is (NI ((b.length)-(32))),fun x w' =>RB w' x (b.drop ((b.length)-(32))),Is (St (b.drop ((b.length)-(32)))),Is (.bool (false))] (by kernel_rfl) [18,19,20,21,22,23,24,25,26] (by kernel_rfl) (by kernel_rfl) (Xw ⟨(fun _ _ _ h k=>Abx h k),(LD trivial)⟩) ?cu ?hQ1006
  case cu=>
   refine⟨?_,?_,?_,?_,?_,?_,?_,?_,?_,trivial⟩
   ·refine Aj rfl fun σ w1 hC h=> ?_;have e4:=(AH (h 4 (by decide))).trans T4;exact Yy U7 PO e4 ⟨AaY _,rfl⟩
   ·refine Aj rfl fun σ w1 hC h=> ?_;have a6:=AH (h 18 (by decide));exact Yo F7 u5 Pi (XV (YL (eb hC aa) (Sha.sum_length _) (by decide)) a6) ⟨AaY _,rfl⟩
   ·refine Aj rfl fun σ w1 hC h=> ?_;have e0:=(AH (h 0 (by decide))).trans o;exact Aa7 e0 ⟨AaY _,rfl⟩
   ·refine Aj rfl fun σ w1 hC h=> ?_;have e0:=(AH (h 0 (by decide))).trans o;exact Aa7 e0 ⟨AaY _,rfl⟩
   ·refine Aj rfl fun σ w1 hC h=> ?_;have a7:=AH (h 21 (by decide));exact XZ F7 (XV (hr.keep (hE.trans hC)) a7) ⟨AaY _,rfl⟩
   ·refine Aj rfl fun σ w1 hC h=> ?_;have a8:=AH (h 22 (by decide));exact XR (xv:=NI b.length) (yv:=NI 32) a8 rfl rfl (BB _ _ _ (by omega) (by omega)) ⟨AaY _,rfl⟩
   ·refine Aj rfl fun σ w1 hC h=> ?_;have a9:=AH (h 20 (by decide));have ba:=AH (h 23 (by decide));exact Yn (xs:=b) (l:=(b.length)-(32)) F7 PO rfl (XV (hr.keep (hE.trans hC)) a9) ba (by omega) fun v hr _=>⟨AaY _,hr⟩
   ·refine Aj rfl fun σ w1 hC h=> ?_;have bb:(fun x w' =>RB w' x (b.drop ((b.length)-(32)))) (σ 24) w1:=h 24 (by decide);exact Yo F7 u5 Pi bb ⟨AaY _,rfl⟩
   ·refine Aj rfl fun σ w1 hC h=> ?_;have bc:=AH (h 19 (by decide));have bd:=AH (h 25 (by decide));exact YK (l:=(Sha.sum (b.take ((b.length)-(32))))) (m:=b.drop ((b.length)-(32))) (.inr rfl) bc bd (decide ((Sha.sum (b.take ((b.length)-(32))))≠(b.drop ((b.length)-(32)):Ah5))) rfl ⟨AaY _,(congrArg Acs (decide_eq_false (fun h=>h q3)))⟩
  intro cv e7 aj he hf;obtain⟨-,-,-,-,-,-,-,-,k26,-⟩:=hf;obtain⟨o,q,r,T4,t,z,-⟩:=he.hold [(0,_),(2,_),(3,_),(4,_),(7,_),(10,_)] ⟨o,q,r,T4,t,z,trivial⟩ rfl;clear he;have hE:=hE.trans aj;have g:=eb aj g;have s:=s.trans aj;have j:=eb aj j;have ad:=ad.trans aj;have aa:=eb aj aa;have ae:cv 26 = .bool (false):=k26;clear k26;refine tN (ct _ _ (CJ ae (DE (tN (cr _ _ (IB (GB rfl (Yx (vs:= #[PQ u 0,PQ y 0]) (by simp only[Acp,Aco,Acz];exact congrArg Adh (FK q r)) (Qo (vr (.func (.func 78) #[] #[PQ u 0,PQ y 0]) rfl) (Vw (vr (.func (.func 78) #[] #[PQ u 0,PQ y 0]) rfl)) (NC (fun ρ=>ρ 0=(v:AbI)/\ρ 2=(PQ u 0:AbI)/\ρ 3=(PQ y 0:AbI)/\ρ 4=(PQ ai 0:AbI)/\ρ 7=(.bool (false):AbI)/\ρ 10=(.bool (false):AbI)/\ρ 26=(.bool (false):AbI)/\True) ⟨o,q,r,T4,t,z,ae,trivial⟩ fun e8 ⟨o,q,r,T4,t,z,ae,_⟩=>(IB (GB rfl (Aa7 o (KK rfl (Aap Sh (vr v rfl) ?_)))))))))))))));refine Aq (Tx _ (hG.keep hE) v b (hr.keep hE) (by omega) (by omega)) ?_ ?_;rotate_left
  ·
   rintro ch e9 ⟨c,hce,rfl,hx⟩;intro a_ ha_;show Leaves _ _ a_.tmps _ a_.defers (.panicking _) _;rw[ha_.defers];refine leaves_cons (f:=78) (args:= #[PQ u 0,PQ y 0]) (by simp) (by simp[go_sem]) ((Qt w u y c _ _ _ (hE.trans hx) (by omega) (by omega) (by omega) (eb hx g) (eb hx j)).mono ?_);rintro e u' w3 ⟨rfl,rfl,cw,cx,cy⟩;exact KM (ρ:=_) _ rfl [.pointer none,NI c] (.tuple #[.pointer none,NI c]) rfl ha_.get ⟨Ys (q) cw Fy rfl,Ys (r) cx Se rfl,trivial⟩ ⟨_,rfl,_,_,rfl,by rw[hP,hce];exact⟨rfl,rfl⟩,cy⟩
  rintro v_ cz ⟨gp,vi,bo,ids,O,rfl,hrd,hgb,hgi,hmo,hoo,hlg,hlo,hlv,hlO,ak⟩;have hsz_:=(hE).size;have hE:=hE.trans ak;have g:=eb ak g;have s:=s.trans ak;have j:=eb ak j;have ad:=ad.trans ak;have aa:=eb ak aa;have hPk:PackNew w.heap.size cz (PQ gp 0) (ids,fun k=>(O k).map Aci):=⟨gp,vi,bo,O,rfl,rfl,hgb,hgi,hmo,hoo,AbM hsz_ hlg,AbM hsz_ hlo,(fun k hk=>AbM hsz_ (hlv k hk)),fun id x h k hk=>AbM hsz_ (hlO id x h k hk)⟩;have hob_n2:=g;refine GB rfl (X5 (i:=0) (v:=PQ gp 0) q (vr (PQ gp 0) rfl) g (Ab2 rfl) Qq rfl rfl fun c0 bx a1 fa=> ?_);have hE:=Ab hE a1 (AbM (AbO _) (by omega));clear s;have j:=kb a1 j (by omega);clear ad;have aa:=kb a1 aa (by omega);have hPk:PackNew w.heap.size c0 (PQ gp 0) (ids,fun k=>(O k).map Aci):=PackNew.keepN hPk hob_n2 (fun _ h=>by cases h) a1;clear g;have g:=bx;clear bx;have fb:=bl g;have hob_n10:=j;refine GB rfl (X5 (i:=0) (v:=NI 0) r (vr (NI 0) rfl) j (Ab2 rfl) Qr rfl rfl fun c1 bz a2 fc=> ?_);have hE:=Ab hE a2 (AbM a0 (by omega));have aa:=kb a2 aa (by omega);have hPk:PackNew w.heap.size c1 (PQ gp 0) (ids,fun k=>(O k).map Aci):=PackNew.keepN hPk hob_n10 (fun _ h=>by cases h) a2;have g:=kb a2 g (by omega);clear j;have j:=bz;clear bz;have fd:=bl j;refine NC (fun ρ=>ρ 0=(v:AbI)/\ρ 2=(PQ u 0:AbI)/\ρ 3=(PQ y 0:AbI)/\ρ 4=(PQ ai 0:AbI)/\ρ 7=(.bool (false):AbI)/\ρ 10=(.bool (false):AbI)/\ρ 26=(.bool (false):AbI)/\True) ⟨o,q,r,T4,t,z,ae,trivial⟩ fun fe ⟨o,q,r,T4,t,z,ae,_⟩=>(Vv fun a_ ha_=> ?_);show Leaves _ _ a_.tmps _ a_.defers .returning _;rw[ha_.defers];refine leaves_cons (f:=78) (args:= #[PQ u 0,PQ y 0]) (by simp) (by simp[go_sem]) ((Qs u y _).mono ?_);rintro e u' w3 ⟨rfl,rfl,hxi⟩;exact KM (ρ:=_) _ rfl [PQ gp 0,NI 0] (.tuple #[PQ gp 0,NI 0]) rfl ha_.get ⟨Ys (q) (eb hxi g) Fy rfl,Ys (r) (eb hxi j) Se rfl,trivial⟩ ⟨_,rfl,_,_,rfl,by rw[hP,hrd];exact⟨rfl,(hPk).keep hxi⟩,hE.trans hxi⟩
 have hP:BY b = .error 18:=(if_neg q1).trans ((if_neg q2).trans (if_neg q3));refine tN (ay _ _ (Cx _ B0 fun ff c2=>(sk fun fg c3=>(wt (oM rfl (oS rfl (XZ F7 (XV (hr.keep hE) o) (oS rfl (XQ (a:=(b.length:Nat)) (b:=(1048576:Nat)) rfl rfl (Bh _ _ _ _) (GX [(0,v),(2,PQ u 0),(3,PQ y 0),(7, .bool (false))] ⟨o,q,r,(congrArg Acs (decide_eq_false (q1))),trivial⟩ fun fh ⟨o,q,r,t,_⟩=>(tN (c3 _ _ (CJ t (DE (tN (c2 _ _ (Cx _ B0 fun fi c4=>(sk fun fj c5=>(wt (oM rfl ?_))))))))))))))))))));refine oS rfl (XZ F7 (XV (hr.keep hE) o) (oS rfl (XQ (a:=(b.length:Nat)) (b:=(36:Nat)) rfl rfl (AK _ _ _ _) (GX [(0,v),(2,PQ u 0),(3,PQ y 0),(7, .bool (false)),(10, .bool (false))] ⟨o,q,r,t,(congrArg Acs (decide_eq_false (q2))),trivial⟩ fun fk ⟨o,q,r,t,z,_⟩=>(tN (c5 _ _ (CJ z (DE (tN (c4 _ _ (Cx _ B0 fun fl c6=>(wt (oM rfl (oM rfl (oS rfl (XZ F7 (XV (hr.keep hE) o) (oS rfl (XR (xv:=NI b.length) (yv:=NI 32) rfl rfl rfl (BB _ _ _ (by omega) (by omega)) (oS rfl (YB (xs:=b) (n:=(b.length)-(32)) F7 PO o (hr.keep hE) (vr (NI ((b.length)-(32))) rfl) (by omega) fun c7 ar ha123=>(oS rfl (YA Ga (XV ar (vr c7 rfl)) fun b0 fm be au=> ?_))))))))))))))))))))));have hE:=hE.trans au;have g:=eb au g;have s:=s.trans au;have j:=eb au j;have ar:=ar.keep au;refine oS rfl (XX JM (vr b0 rfl) ((F0 _ (hG.keep hE) b0 (b.take ((b.length)-(32))) be (by simp only[Ab5];omega)).mono ?_));rintro e c8 ⟨rfl,al⟩;refine⟨_,rfl,?_⟩;have hE:=hE.trans al;have g:=eb al g;have s:=s.trans al;have j:=eb al j;have ar:=ar.keep al;have be:=be.keep al;refine oS rfl (Aa3 (cs:=(AbK (AbX 32 0)).toArray) Tn fun av c9 b1 b2 aw fo=> ?_);have ag:=AaY c8;have fp:=hE;have fq:=s;have da:=hE.size;have db:=s.size;have fr:=As (bl g) b1;have fs:=As (bl j) b1;have hE:=hE.trans aw;have g:=eb aw g;have s:=s.trans aw;have j:=eb aw j;have ag:=ag.trans aw;have ac:=b2;clear b2;have ft:av<c9.heap.size:=by omega
 refine oS rfl (XT (vr (PQ av 0) rfl) (vr (AB (Sha.sum (b.take ((b.length)-(32))))) rfl) ac (by exact BC (Sha.sum_length _) Ab8) (by exact Ad (Sha.sum_length _)) (Ag _) fun fu b3 ax fv=> ?_);have hE:=Ab hE ax (AbM da (by omega));have g:=kb ax g (by omega);have s:=Ab s ax (AbM db (by omega));have j:=kb ax j (by omega);have ag:=Ab ag ax (AbM (AbO _) (by omega));clear ac;have ac:=b3;clear b3;have fw:=bl ac;refine GX [(0,v),(2,PQ u 0),(3,PQ y 0),(4,PQ av 0),(7, .bool (false)),(10, .bool (false))] ⟨o,q,r,rfl,t,z,trivial⟩ fun fx ⟨o,q,r,T4,t,z,_⟩=>(tN (c6 _ _ (Cx _ B0 fun fy fz=>(sk fun f0 dc=> ?_))));refine Hf [Is (.slice (some ⟨av,0,none⟩) 32 32),Is (St ((Sha.sum (b.take ((b.length)-(32)))))),Is (v),Is (v),Is (NI b.length),Is (NI ((b.length)-(32))),fun x w' =>RB w' x (b.drop ((b.length)-(32))),Is (St (b.drop ((b.length)-(32)))),Is (.bool (true))] (by kernel_rfl) [18,19,20,21,22,23,24,25,26] (by kernel_rfl) (by kernel_rfl) (Xw ⟨(fun _ _ _ h k=>Abx h k),(LD trivial)⟩) ?dd ?hQ2006
 case dd=>
  refine⟨?_,?_,?_,?_,?_,?_,?_,?_,?_,trivial⟩
  ·refine Aj rfl fun σ w1 hC h=> ?_;have e4:=(AH (h 4 (by decide))).trans T4;exact Yy U7 PO e4 ⟨AaY _,rfl⟩
  ·refine Aj rfl fun σ w1 hC h=> ?_;have a6:=AH (h 18 (by decide));exact Yo F7 u5 Pi (XV (YL (eb hC ac) (Sha.sum_length _) (by decide)) a6) ⟨AaY _,rfl⟩
  ·refine Aj rfl fun σ w1 hC h=> ?_;have e0:=(AH (h 0 (by decide))).trans o;exact Aa7 e0 ⟨AaY _,rfl⟩
  ·refine Aj rfl fun σ w1 hC h=> ?_;have e0:=(AH (h 0 (by decide))).trans o;exact Aa7 e0 ⟨AaY _,rfl⟩
  ·refine Aj rfl fun σ w1 hC h=> ?_;have a7:=AH (h 21 (by decide));exact XZ F7 (XV (hr.keep (hE.trans hC)) a7) ⟨AaY _,rfl⟩
  ·refine Aj rfl fun σ w1 hC h=> ?_;have a8:=AH (h 22 (by decide));exact XR (xv:=NI b.length) (yv:=NI 32) a8 rfl rfl (BB _ _ _ (by omega) (by omega)) ⟨AaY _,rfl⟩
  ·refine Aj rfl fun σ w1 hC h=> ?_;have a9:=AH (h 20 (by decide));have ba:=AH (h 23 (by decide));exact Yn (xs:=b) (l:=(b.length)-(32)) F7 PO rfl (XV (hr.keep (hE.trans hC)) a9) ba (by omega) fun v hr _=>⟨AaY _,hr⟩
  ·refine Aj rfl fun σ w1 hC h=> ?_;have bb:(fun x w' =>RB w' x (b.drop ((b.length)-(32)))) (σ 24) w1:=h 24 (by decide);exact Yo F7 u5 Pi bb ⟨AaY _,rfl⟩
  ·refine Aj rfl fun σ w1 hC h=> ?_;have bc:=AH (h 19 (by decide));have bd:=AH (h 25 (by decide));exact YK (l:=(Sha.sum (b.take ((b.length)-(32))))) (m:=b.drop ((b.length)-(32))) (.inr rfl) bc bd (decide ((Sha.sum (b.take ((b.length)-(32))))≠(b.drop ((b.length)-(32)):Ah5))) rfl ⟨AaY _,(congrArg Acs (decide_eq_true (q3)))⟩
 intro de f1 am he hf;obtain⟨-,-,-,-,-,-,-,-,k26,-⟩:=hf;obtain⟨o,q,r,T4,t,z,-⟩:=he.hold [(0,_),(2,_),(3,_),(4,_),(7,_),(10,_)] ⟨o,q,r,T4,t,z,trivial⟩ rfl;clear he;have hE:=hE.trans am;have g:=eb am g;have s:=s.trans am;have j:=eb am j;have ag:=ag.trans am;have ac:=eb am ac;have ae:de 26 = .bool (true):=k26;clear k26;refine tN (dc _ _ (EK ae (sk fun f2 df=>(wt (oS rfl (X5 (i:=0) (v:= .pointer none) q (vr (.pointer none) rfl) g (Ab2 rfl) Qq rfl rfl fun f3 b4 bf f4=> ?_))))));have hE:=Ab hE bf (AbM (AbO _) (by omega));clear s;have j:=kb bf j (by omega);clear ag;have ac:=kb bf ac (by omega);clear g;have g:=b4;clear b4;have f5:=bl g;refine oS rfl (X5 (i:=0) (v:=NI 18) r (vr (NI 18) rfl) j (Ab2 rfl) Qr rfl rfl fun f6 b5 bg f7=> ?_);have hE:=Ab hE bg (AbM a0 (by omega));have ac:=kb bg ac (by omega);have g:=kb bg g (by omega);clear j;have j:=b5;clear b5;have f8:=bl j;refine GX [(0,v),(2,PQ u 0),(3,PQ y 0),(4,PQ av 0),(7, .bool (false)),(10, .bool (false)),(26, .bool (true))] ⟨o,q,r,T4,t,z,ae,trivial⟩ fun f9 ⟨o,q,r,T4,t,z,ae,_⟩=>(tN (df _ _ (IZ (Ib (CK (fn:=Tryz.f43) _ rfl [.pointer none,NI 18] (.tuple #[.pointer none,NI 18]) rfl ⟨Ys q g Fy rfl,Ys r j Se rfl,trivial⟩ ?_)))));exact⟨_,rfl,_,_,rfl,by rw[hP];exact⟨rfl,rfl⟩,hE⟩
section
variable {P : Acg} {K : AbI -> AbJ -> Prop} {ρ : Ac} {w : AbJ} {d : Option Tmp} {ty : AbQ} {pos : String} {af : Array Edge} {gd : Option (Nat × Bool)}
theorem Si{t e:AbQ}(ht:P.underlying t=some (.slice e))(a:Option Addr)(n c:Nat)(w:AbJ):(Op.equal t (.slice a n c) (.slice none 0 0)).run P w = .ok a.isNone w:=by
 unfold Op.equal;rw[show Op.maxDepth=(Op.maxDepth-1)+1 from rfl];cases a <;> simp[Op.equalIn,run_underlying ht,AbY,Ab1]
theorem Zf{t e ty2:AbQ}(ht:P.underlying t=some (.slice e)){x:AbV}{a:Option Addr}{n c:Nat}(hx:Aa ρ x = .slice a n c)(hk:K (.bool a.isNone) w):Yk P K ((execOp (Aa ρ) ⟨d, .binOp .eql t x (.const (.slice none 0 0)) ty2,ty,pos,af,gd⟩).run P w):=by
 have hy:Aa ρ (.const (.slice none 0 0)) = .slice none 0 0:=rfl;refine Aa4 (v:= .bool a.isNone) (w' :=w) ?_ hk;have hr:=Si ht a n c w;unfold execOp;simp only[hx,hy];cases a <;> simp[eqGuard,Acm,hr]
end
def PackO(w:AbJ)(v:AbI):Option A0->Prop
 | none=>v = .pointer none
 | some p=>PackAt w v p
theorem PackO.keep{w w' :AbJ}{v:AbI}:∀ {q:Option A0},PackO w v q->Ext w w' ->PackO w' v q
 | none,h,_=>h
 | some _,h,k=>PackAt.keep h k
def Cq(q:Option A0)(id:Bs):(Bs × Nat)× Nat:=
 match q with
 | none=>(([],0),1)
 | some p=>match p.2 id with
  | none=>(([],0),12)
  | some x=>(x,0)
theorem Qu(w:AbJ):(Acq 27 0 #[]).run AbL w = .ok (.slice (some ⟨w.heap.size,0,none⟩) 0 0) (w.alloc (.cells #[] 5)):=by kernel_rfl
theorem Qv:Plain AbL 139:=fun _ _=>by kernel_rfl
theorem Sj:Plain AbL 72:=fun _ _=>by kernel_rfl
theorem WH(w:AbJ):
  Calls AbL 72 #[(.slice none 0 0)] w fun e w' =>∃v',e = .returned v' /\NewB 5 w w' v' []:=by
 refine gG (args:= [(.slice none 0 0)]) Tryz.func72 rfl 8 rfl rfl ?_;have hE:=AaY w;refine gS (Zf F7 rfl (cT rfl (Bp rfl (vr (AbR none 0 0) rfl) ?_)));exact⟨_,rfl,⟨AcH _ _ _ 1,hE.grown⟩⟩
theorem WI(w:AbJ)(a:Addr)(c:Nat)(l:Bs)(hr:RB w (.slice (some a) l.length c) l)(hl:l.length<1099511627776):
  Calls AbL 72 #[(.slice (some a) l.length c)] w fun e w' =>∃v',e = .returned v' /\NewB 5 w w' v' l:=by
 refine gG (args:= [(.slice (some a) l.length c)]) Tryz.func72 rfl 8 rfl rfl ?_;have hE:=AaY w;refine gS (Zf F7 rfl (cF rfl (gS (AaL Qu fun g j h=> ?_))));have b:=h.own;have hE:=hE.trans h.ext;refine gS (Yh _ _ w.heap.size (.int .u8 0) F7 MM rfl F7 (([]:Ah5)) (l) (CV b (vr g rfl)) (XV (hr.keep hE) (vr (.slice (some a) l.length c) rfl)) (by simp only[Acl];omega) hE.size fun i k m f=> ?_);have f:Grew j k g i:=f;have hE:=Ao hE f b (AbO _);clear b;refine Bp rfl (vr i rfl) ?_;exact⟨_,rfl,⟨(show Agr _ _ _ _ _ _ _ from by simpa using m),hE.grown⟩⟩
theorem LX(w:AbJ)(v:AbI)(l:Bs)(h:RB w v l)(hl:l.length<1099511627776):
  Calls AbL 72 #[v] w fun e w' =>∃v',e = .returned v' /\NewB 5 w w' v' l:=by
 obtain⟨h1,ao,cap,rfl,h2,h3,h4,h5⟩:=id h;cases ao with
 | none=>
  have hl:=h4 rfl;have:l= []:=Acv hl.1;subst this;rw[show cap=0 from hl.2];exact WH w
 | some a=>exact WI w a cap l h hl
theorem Sk(w:AbJ)(id:Bs)(hid:id.length=32):
  Calls AbL 139 #[.pointer none,AB id] w fun e w' =>∃x,e = .returned x/\∃(o:Bs × Nat) (s:AbI),x = .tuple #[.agg ([s,NI o.2]).toArray,NI (Cq (none:Option A0) id).2]/\o=(Cq (none:Option A0) id).1/\RB w' s o.1/\Ext w w' :=by
 refine gG (args:= [.pointer none,AB id]) Tryz.func139 rfl 24 rfl rfl ?_;have hE:=AaY w;refine gS (Abh (vr (AB id) rfl) fun h i p b j q=> ?_);have r:=b;clear b;have t:h<i.heap.size:=by omega
 refine gS (Aa3 DI fun c k u f l y=> ?_);have hE:=hE.trans j;have m:=hE.size;have a:=f;clear f;have z:c<k.heap.size:=by omega
 refine gS (Ye Fy rfl (cT rfl (gS (Abo (v:= .agg ([(AbR none 0 0),NI 0]).toArray) (by kernel_rfl) (gS (XT (vr (PQ c 0) rfl) (vr (.agg ([(AbR none 0 0),NI 0]).toArray) rfl) a rfl (show(Tryz.prog.info? 215).map (·.size)=some 2 from Bi) (Cn rfl) fun aa g n ab=> ?_))))));clear a;have a:=g;clear g;have ac:=bl a;refine M4 rfl (Aa9 rfl a (Dn).choose_spec rfl ((show(Tryz.prog.info? 215).map (·.size)=some 2 from Bi))) (vr (NI 1) rfl) ?_;have hE:=hE.trans l;have hE:=Ab hE n (AbM m (by omega));exact⟨_,rfl,([],0),_,rfl,rfl,Abi _,hE⟩
theorem Tz(w:AbJ)(g bo:Nat)(vi:AbI)(ids:List Bs)(O:Bs->Option Cp)(hg:w.heap[g]? =some (.cells ([vi, .map (some bo)]).toArray 163 (0,0)))(hrg:RG 32 AbK w vi ids)(hmo:MapF rk Ch (fun id:Ah5 =>id.length=32) w bo O)(hoo:OOk w O)(id:Bs)(hid:id.length=32):
  Calls AbL 139 #[PQ g 0,AB id] w fun e w' =>∃x,e = .returned x/\∃(o:Bs × Nat) (s:AbI),x = .tuple #[.agg ([s,NI o.2]).toArray,NI (Cq (some (ids,fun k=>(O k).map Aci)) id).2]/\o=(Cq (some (ids,fun k=>(O k).map Aci)) id).1/\RB w' s o.1/\Ext w w' :=by
 refine gG (args:= [PQ g 0,AB id]) Tryz.func139 rfl 24 rfl rfl ?_;have hE:=AaY w;refine gS (Abh (vr (AB id) rfl) fun n2 w3 r aa j a6=> ?_);have a7:=As hmo.lt r;have b:=aa;clear aa;have a8:n2<w3.heap.size:=by omega
 refine gS (Aa3 DI fun t aw c ab ac a9=> ?_);have hE:=hE.trans j;have ad:=hE.size;have hmo:=hmo.keep j;have ba:=As hmo.lt c;have a:=ab;clear ab;have bb:t<aw.heap.size:=by omega
 refine gS (Ye Fy rfl ?_);rcases hO:O id with _ | x
 ·have hQ:Cq (some (ids,fun k=>(O k).map Aci)) id=(([],0),12):=by show(match (O id).map Aci with | none=>_ | some x=>_)=_;rw[hO];rfl
  refine cF rfl (DZ [0,1,2,3,4,5,6,7,8,9,10,11] [9,10] [1,2,7,8] [3,4,5] fun ae af=> ?_);have f:=AaY ae;have hZ1:=ac.trans af;have hE:=hE.trans hZ1;have ax:=hE.size;have l:=AaY ae;have ay:=As (bl hg) r;have hg:=eb j hg;have az:=As (bl hg) c;have hg:=eb hZ1 hg;have a0:=As (bl b) c;have b:=eb hZ1 b;have hmo:=hmo.keep hZ1;refine DS l ?_;refine yp (Aa1 rfl zz) (yp (Aa0 NA rfl zz) (yf (fun _ ⟨hZ,_⟩=>XP CH rfl rfl (cellAt (eb hZ hg) rfl) zz) (yf (fun _ ⟨hZ,_⟩=>XU rfl (eb hZ b) U7 rfl (by exact Ad hid) zz) (yf (fun _ ⟨hZ,_⟩=>YC (ek:=rk) (ev:=Ch) (D:=(fun id:Ah5 =>id.length=32)) Ce Cf (fun _ _=>B9) CH (z:=Ch Lg) G5 rfl rfl (hmo.keep hZ) hid hO zz) (yp (AaZ (vs:= [.agg ([(AbR none 0 0),NI 0]).toArray, .bool (false)]) rfl rfl zz) (yp (AaZ (vs:= [.agg ([(AbR none 0 0),NI 0]).toArray, .bool (false)]) rfl rfl zz) (yE (Aa3 DI fun ag a1 a2 ah m bc=> ?_))))))));have bd:=As hmo.lt a2;have n:=ah;clear ah;have be:ag<a1.heap.size:=by omega
  have l:=l.trans m;refine⟨l,?_⟩;refine yD rfl (XT (vr (PQ ag 0) rfl) (vr (.agg ([(AbR none 0 0),NI 0]).toArray) rfl) n rfl (show(Tryz.prog.info? 215).map (·.size)=some 2 from Bi) (Cn rfl) fun bf ai u bg=> ?_);have hmo:=hmo.keep m;have hmo:=Aa2 hmo u (Am (by omega));clear n;have n:=ai;clear ai;have bh:=bl n;have f:=f.trans m;have f:=Ab f u (AbM (AbO _) (by omega));have a:=eb (af.trans f) a;refine gS (Yz rfl (cT rfl (gS (Abo (v:= .agg ([(AbR none 0 0),NI 0]).toArray) (by kernel_rfl) (gS (XT (vr (PQ t 0) rfl) (vr (.agg ([(AbR none 0 0),NI 0]).toArray) rfl) a rfl (show(Tryz.prog.info? 215).map (·.size)=some 2 from Bi) (Cn rfl) fun bi aj ak bj=> ?_))))));have hmo:=Aa2 hmo ak (Am (by omega));clear a;have a:=aj;clear aj;have bk:=bl a;refine M4 rfl (Aa9 rfl a (Dn).choose_spec rfl ((show(Tryz.prog.info? 215).map (·.size)=some 2 from Bi))) (vr (NI 12) rfl) ?_;have hE:=hE.trans m;have hE:=Ab hE u (AbM ax (by omega));have hE:=Ab hE ak (AbM ad (by omega));exact⟨_,rfl,([],0),_,by rw[hQ],by rw[hQ],Abi _,hE⟩
 have hQ:Cq (some (ids,fun k=>(O k).map Aci)) id=(x.1,0):=by show(match (O id).map Aci with | none=>_ | some x=>_)=_;rw[hO];rfl
 have hxr:=hoo id x hO;refine cF rfl (DZ [0,1,2,3,4,5,6,7,8,9,10,11] [9,10] [1,2,7,8] [3,4,5] fun al am=> ?_);have h:=AaY al;have hZ2:=ac.trans am;have hE:=hE.trans hZ2;have a3:=hE.size;have p:=AaY al;have ay:=As (bl hg) r;have hg:=eb j hg;have az:=As (bl hg) c;have hg:=eb hZ2 hg;have a0:=As (bl b) c;have b:=eb hZ2 b;have hmo:=hmo.keep hZ2;refine DS p ?_;refine yp (Aa1 rfl zz) (yp (Aa0 NA rfl zz) (yf (fun _ ⟨hZ,_⟩=>XP CH rfl rfl (cellAt (eb hZ hg) rfl) zz) (yf (fun _ ⟨hZ,_⟩=>XU rfl (eb hZ b) U7 rfl (by exact Ad hid) zz) (yf (fun _ ⟨hZ,_⟩=>Yw (ek:=rk) (ev:=Ch) (D:=(fun id:Ah5 =>id.length=32)) Ce Cf (fun _ _=>B9) CH (z:=Ch Lg) G5 rfl rfl (hmo.keep hZ) hid hO zz) (yp (AaZ (vs:= [.agg ([x.2,NI x.1.2]).toArray, .bool (true)]) rfl rfl zz) (yp (AaZ (vs:= [.agg ([x.2,NI x.1.2]).toArray, .bool (true)]) rfl rfl zz) (yE (Aa3 DI fun an a4 a5 ao q bm=> ?_))))))));have bn:=As hmo.lt a5;have i:=ao;clear ao;have bp:an<a4.heap.size:=by omega
 have p:=p.trans q;refine⟨p,?_⟩;have hE:=hE.trans q;refine yD rfl (XT (vr (PQ an 0) rfl) (vr (.agg ([x.2,NI x.1.2]).toArray) rfl) i rfl (show(Tryz.prog.info? 215).map (·.size)=some 2 from Bi) (Cn (Aa8 (hxr.keep hE)).2) fun bq ap y br=> ?_);have hmo:=hmo.keep q;have hmo:=Aa2 hmo y (Am (by omega));clear i;have i:=ap;clear ap;have bs:=bl i;have h:=h.trans q;have h:=Ab h y (AbM (AbO _) (by omega));have a:=eb (am.trans h) a;have hE:=Ab hE y (AbM a3 (by omega));refine gS (Yz rfl (cF rfl (gS (XU rfl i (Dn).choose_spec rfl (show(Tryz.prog.info? 215).map (·.size)=some 2 from Bi) (gS (XT (vr (PQ t 0) rfl) (vr (.agg ([x.2,NI x.1.2]).toArray) rfl) a rfl (show(Tryz.prog.info? 215).map (·.size)=some 2 from Bi) (Cn (Aa8 (hxr.keep hE)).2) fun bt aq ar bu=> ?_))))));have hmo:=Aa2 hmo ar (Am (by omega));clear a;have a:=aq;clear aq;have bv:=bl a;refine M4 rfl (Aa9 rfl a (Dn).choose_spec rfl ((show(Tryz.prog.info? 215).map (·.size)=some 2 from Bi))) (vr (NI 0) rfl) ?_;have hE:=Ab hE ar (AbM ad (by omega));exact⟨_,rfl,x.1,x.2,by rw[hQ],by rw[hQ],(hxr.keep hE),hE⟩
theorem Sl(w:AbJ)(v:AbI)(q:Option A0)(h:PackO w v q)(id:Bs)(hid:id.length=32):
  Calls AbL 139 #[v,AB id] w fun e w' =>∃x,e = .returned x/\∃(o:Bs × Nat) (s:AbI),x = .tuple #[.agg ([s,NI o.2]).toArray,NI (Cq q id).2]/\o=(Cq q id).1/\RB w' s o.1/\Ext w w' :=by
 match q,h with
 | none,h=>rw[show v = .pointer none from h];exact Sk w id hid
 | some p,h=>
  obtain⟨g,vi,bo,O,rfl,h2,hg,hrg,hmo,hoo⟩:=h;obtain⟨ids,P⟩:=p;subst h2;exact Tz w g bo vi ids O hg hrg hmo hoo id hid
theorem TA(w:AbJ)(v:AbI)(q:Option A0)(hq:PackO w v q)(id:Bs)(hid:id.length=32)(hb:(Cq q id).1.1.length<1099511627776):
  Calls AbL 85 #[v,AB id] w fun e w' =>∃v',e = .returned (.tuple #[v',NI (Cq q id).2])/\w'.ownsRow w.heap.size 5 1 v' (Cq q id).1.1.length (AbK (Cq q id).1.1)/\Ext w w' :=by
 refine gG (args:= [v,AB id]) Tryz.func85 rfl 18 rfl rfl ?_;have hE:=AaY w;refine gS (Abh (vr (AB id) rfl) fun r s ab g t ac=> ?_);have f:=g;clear g;have ad:r<s.heap.size:=by omega
 have hE:=hE.trans t;refine gS (XU rfl f U7 rfl (by exact Ad hid) (gS (XS Qv rfl rfl ((Sl _ v q (hq.keep hE) id hid).mono ?_))));rintro e u ⟨_,rfl,o,c,rfl,ho,h,i⟩;refine⟨_,rfl,?_⟩;subst ho;refine gS (AaZ (vs:= [.agg ([c,NI ((Cq q id).1.2)]).toArray,NI ((Cq q id).2)]) rfl rfl (gS (AaZ (vs:= [.agg ([c,NI ((Cq q id).1.2)]).toArray,NI ((Cq q id).2)]) rfl rfl (gS (Aa3 DI fun j x ae k l af=> ?_)))));have a:=AaY u;have hE:=hE.trans i;have y:=hE.size;have b:=k;clear k;have ag:j<x.heap.size:=by omega
 have a:=a.trans l;refine gS (XT (vr (PQ j 0) rfl) (vr (.agg ([c,NI ((Cq q id).1.2)]).toArray) rfl) b rfl (show(Tryz.prog.info? 215).map (·.size)=some 2 from Bi) (Cn (Aa8 (h.keep a)).2) fun ah m n ai=> ?_);clear b;have b:=m;clear m;have aj:=bl b;have a:=Ab a n (AbM (AbO _) (by omega));refine gS (Aa0 Gh rfl (gS (XP F7 rfl rfl (cellAt b rfl) (gS (XX Sj rfl ((LX _ c (Cq q id).1.1 (h.keep a) (by omega)).mono ?_))))));rintro e ak ⟨z,rfl,p⟩;refine⟨_,rfl,?_⟩;have hE:=hE.trans l;have hE:=Ab hE n (AbM y (by omega));have al:=hE.size;have am:=a.size;have f:=eb (i.trans a) f;have aa:=p.own;refine BA rfl (vr z rfl) (vr (NI ((Cq q id).2)) rfl) ?_;have hE:=hE.trans p.ext;exact⟨_,rfl,BJ aa (by omega),hE⟩
abbrev BZ:=List (Ah5 × Nat)
def Aw:BZ->Ah5->Option Nat
 | [],_=>none
 | e :: r,s=>if e.1=s then some e.2 else Aw r s
theorem Do(e:Ah5 × Nat)(r:BZ)(s:Ah5):Aw (e :: r) s=if e.1=s then some e.2 else Aw r s:=rfl
def G8(l:BZ)(s:Ah5):BZ:=l.filter fun e=> !decide (e.1=s)
def Gi(l:BZ)(s:Ah5)(k:Nat):BZ:=l.takeWhile (fun e=>AcX e.1 s)++(s,k) :: l.dropWhile (fun e=>AcX e.1 s)
structure CR where
 frm:Ah5
 to:Ah5
 file:Nat
def turnD(l:BZ)(a:CR):BZ:=if a.to.length=0 then G8 l a.frm else Gi (G8 (G8 l a.frm) a.to) a.to a.file
def Fm(l:BZ):Prop:=l.Pairwise fun a b=>AcX a.1 b.1=true
theorem NH{a b c:Ah5}(h:AcX a b=true)(k:AcX b c=true):AcX a c=true:=by
 rw[bytesLess_eq,decide_eq_true_eq]at *;exact List.lt_trans h k
theorem Fz(a:Ah5):AcX a a=false:=by
 rw[bytesLess_eq];exact decide_eq_false (List.lt_irrefl a)
theorem TB{a b:Ah5}(h:AcX a b=false)(hne:b≠a):AcX b a=true:=by
 rw[bytesLess_eq,decide_eq_false_iff_not]at h;rw[bytesLess_eq,decide_eq_true_eq];have h:b<=a:=h;rcases List.le_total a b with h2 | h2
 ·exact absurd (List.le_antisymm h h2) hne
 ·exact Classical.byContradiction fun hn=>hne (List.le_antisymm h hn)
theorem IC{l:BZ}{s:Ah5}:Aw l s=none↔∀e∈l,e.1≠s:=by
 induction l with
 | nil=>simp[Aw]
 | cons e r ih=>
  rw[Do];by_cases h:e.1=s
  ·simp[h]
  ·simp[h,ih]
theorem Ed{l:BZ}{s:Ah5}{k:Nat}(h:Aw l s=some k):(s,k)∈l:=by
 induction l with
 | nil=>cases h
 | cons e r ih=>
  rw[Do]at h;split at h
  ·rename_i he
   cases h;rw[<-he];exact AcT
  ·exact AcW _ (ih h)
theorem I8{l:BZ}(hs:Fm l){e:Ah5 × Nat}(h:e∈l):Aw l e.1=some e.2:=by
 induction l with
 | nil=>cases h
 | cons x r ih=>
  obtain⟨h1,h2⟩:=AcS.1 hs;rw[Do];rcases Acy.1 h with rfl | h
  ·exact if_pos rfl
  ·have:=h1 e h;rw[if_neg (fun he=>by rw[he,Fz]at this;cases this)];exact ih h2 h
theorem JQ{l r:BZ}{s:Ah5}:Aw (l++r) s=(Aw l s).or (Aw r s):=by
 induction l with
 | nil=>rfl
 | cons e l ih=>
  rw[List.cons_append,Do,Do];by_cases h:e.1=s
  ·rw[if_pos h,if_pos h];rfl
  ·rw[if_neg h,if_neg h];exact ih
theorem I9(l:BZ)(s t:Ah5):Aw (G8 l s) t=if t=s then none else Aw l t:=by
 induction l with
 | nil=>simp[G8,Aw]
 | cons e r ih=>
  unfold G8 at ih ⊢;by_cases h:e.1=s
  ·rw[AfC (by simp[h]),ih];split
   ·rfl
   ·rename_i ht
    rw[Do,if_neg (fun he=>ht (he.symm.trans h))]
  ·rw[AfD (by simp[h])];rw[Do,Do];by_cases he:e.1=t
   ·rw[if_pos he,if_pos he,if_neg (fun ht=>h (he.trans ht))]
   ·rw[if_neg he,if_neg he];exact ih
theorem TC{l:BZ}{s:Ah5}(k:Nat)(h:Aw l s=none)(t:Ah5):Aw (Gi l s k) t=if t=s then some k else Aw l t:=by
 have hl:l=l.takeWhile (fun e=>AcX e.1 s)++l.dropWhile (fun e=>AcX e.1 s):=(AeH).symm;have hn:=h;rw[hl,JQ]at hn;unfold Gi;rw[JQ];rw[Do];simp only;by_cases ht:t=s
 ·subst ht;rw[if_pos rfl,if_pos rfl];cases h2:Aw (l.takeWhile fun e=>AcX e.1 t) t with
  | none=>rfl
  | some x=>rw[h2]at hn;cases hn
 ·rw[if_neg (fun e=>ht e.symm),if_neg ht]
  conv=>rhs;rw[hl,JQ]
theorem Lh{l:BZ}(h:Fm l)(s:Ah5):Fm (G8 l s):=Ahj (List.filter_sublist) h
theorem Vz{l:BZ}{s:Ah5}(hs:Fm l)(h:Aw l s=none):∀e∈l.dropWhile (fun e=>AcX e.1 s),AcX s e.1=true:=by
 induction l with
 | nil=>intro e he;cases he
 | cons x r ih=>
  obtain⟨h1,h2⟩:=AcS.1 hs;have h3:=IC.1 h;intro e he;by_cases hx:AcX x.1 s=true
  ·rw[AhH,if_pos hx]at he;exact ih h2 (IC.2 fun y hy=>h3 y (AcW _ hy)) e he
  ·rw[AhH,if_neg hx]at he;have hxs:=TB (Agy.2 hx) (fun q=>h3 x AcT q.symm);rcases Acy.1 he with rfl | he
   ·exact hxs
   ·exact NH hxs (h1 e he)
theorem VA{l:BZ}{s:Ah5}:∀e∈l.takeWhile (fun e=>AcX e.1 s),AcX e.1 s=true:=by
 induction l with
 | nil=>intro e he;cases he
 | cons x r ih=>
  intro e he;by_cases hx:AcX x.1 s=true
  ·rw[AhI,if_pos hx]at he;rcases Acy.1 he with rfl | he
   ·exact hx
   ·exact ih e he
  ·rw[AhI,if_neg hx]at he;cases he
theorem TD{l:BZ}{s:Ah5}(k:Nat)(hs:Fm l)(h:Aw l s=none):Fm (Gi l s k):=by
 unfold Gi Fm;have h1:=Vz hs h;have h2:=VA (l:=l) (s:=s);rw[List.pairwise_append];refine⟨hs.sublist (AeU _),AcS.2 ⟨fun e he=>h1 e he,hs.sublist (AeV _)⟩,fun a ha b hb=> ?_⟩;rcases Acy.1 hb with rfl | hb
 ·exact h2 a ha
 ·exact NH (h2 a ha) (h1 b hb)
theorem NJ(l:BZ)(a b:Ah5):Aw (G8 (G8 l a) b) b=none:=by rw[I9,if_pos rfl]
theorem look_turn(l:BZ)(a:CR)(t:Ah5):Aw (turnD l a) t=if a.to.length=0 then(if t=a.frm then none else Aw l t)else if t=a.to then some a.file else if t=a.frm then none else Aw l t:=by
 unfold turnD;by_cases h:a.to.length=0
 ·rw[if_pos h,if_pos h,I9]
 ·rw[if_neg h,if_neg h,TC _ (NJ _ _ _)];by_cases ht:t=a.to
  ·rw[if_pos ht,if_pos ht]
  ·rw[if_neg ht,if_neg ht,I9,if_neg ht,I9]
theorem Sm{l:BZ}(h:Fm l)(a:CR):Fm (turnD l a):=by
 unfold turnD;split
 ·exact Lh h _
 ·exact TD _ (Lh (Lh h _) _) (NJ _ _ _)
theorem Sn(l:BZ)(s:Ah5):(G8 l s).length<=l.length:=List.length_filter_le _ _
theorem VB(l:BZ)(s:Ah5)(k:Nat):(Gi l s k).length=l.length+1:=by
 unfold Gi;have h:(l.takeWhile (fun e=>AcX e.1 s)++l.dropWhile (fun e=>AcX e.1 s)).length=l.length:=by rw[AeH]
 rw[AbP]at h;rw[AbP,Ach];omega
theorem TE(l:BZ)(a:CR):(turnD l a).length<=l.length+1:=by
 have h1:=Sn l a.frm;have h2:=Sn (G8 l a.frm) a.to;unfold turnD;split
 ·omega
 ·rw[VB];omega
theorem ID{l:BZ}{s:Ah5}{e:Ah5 × Nat}(h:e∈G8 l s):e∈l:=(List.mem_filter.1 h).1
theorem VC{l:BZ}{s:Ah5}{k:Nat}{e:Ah5 × Nat}(h:e∈Gi l s k):e∈l\/e=(s,k):=by
 unfold Gi at h;rcases Acb.1 h with h | h
 ·exact .inl ((AeU _).subset h)
 ·rcases Acy.1 h with h | h
  ·exact .inr h
  ·exact .inl ((AeV _).subset h)
theorem JR{l:BZ}{a:CR}{e:Ah5 × Nat}(h:e∈turnD l a):e∈l\/(a.to.length≠0/\e=(a.to,a.file)):=by
 unfold turnD at h;split at h
 ·exact .inl (ID h)
 ·rename_i hn
  rcases VC h with h | h
  ·exact .inl (ID (ID h))
  ·exact .inr ⟨hn,h⟩
structure Af where
 quota:Nat
 files:List (Ah5 × Nat)
 now:BZ
 kept:BZ
 acts:List CR
 refused:Nat
 arm:Nat
 down:Bool
def Bk(s:Ah5):Bool:=decide (1<=s.length)&&decide (s.length<=80)
def CB(d:Af)(a b:Ah5):Nat:=if d.down=true then 9 else if Bk a=true/\Bk b=true then 0 else 10
def AY(d:Af)(k:Nat):Ah5 × Nat:=d.files.getD k ([],0)
def usedD(d:Af):Nat:=(d.now.map fun e=>(AY d e.2).1.length).sum
def CS(d:Af):Af × Bool:=if d.arm=0 then(d,false)else({ d with arm:=d.arm-1,down:=decide (d.arm-1=0) },decide (d.arm-1=0))
def turnedD(d:Af)(a:CR):Af:= { d with now:=turnD d.now a,acts:=d.acts++ [a] }
def Cd(d:Af)(s b:Ah5):Af:=
 match Aw d.now s with
 | some k=> { d with files:=d.files.set k ((AY d k).1++b,(AY d k).2) }
 | none=> { turnedD d ⟨[],s,d.files.length⟩with files:=d.files++ [(b,0)] }
def A2(d:Af)(s b:Ah5):Af × Nat:=
 if CB d s s≠0 then(d,CB d s s)
 else if d.quota<usedD d+b.length then({ d with refused:=d.refused+1 },8)
 else if(CS d).2=true then((CS d).1,9)else(Cd (CS d).1 s b,0)
def FE(d:Af)(a b:Ah5):Except Nat Nat:=if CB d a b≠0 then .error (CB d a b)else match Aw d.now a with | some k=> .ok k | none=> .error 4
def DV(d:Af)(f:Af->Af):Af × Nat:=if(CS d).2=true then((CS d).1,9)else(f (CS d).1,0)
def BD(d:Af)(s:Ah5):Af × Nat:=
 match FE d s s with
 | .error e=>(d,e)
 | .ok k=>DV d fun d=> { d with files:=d.files.set k ((AY d k).1,(AY d k).1.length),kept:=d.now,acts:= [] }
def By(d:Af)(s:Ah5):Af × Nat:=
 match FE d s s with
 | .error e=>(d,e)
 | .ok k=>DV d fun d=>turnedD d ⟨s,[],k⟩
def An(d:Af)(s:Ah5):Ah5 × Nat:=
 match FE d s s with
 | .error e=>([],e)
 | .ok k=>((AY d k).1,0)
def Bd(d:Af):List Ah5:=if d.down=true then []else d.now.map Aci
open Go.WideElems (Fit rd rg rg_of)
open Go.WideShapes (sorted_perm)
open Go.MapKept Go.WideShapes
theorem Xe{es:List Adv}:(∀e∈es,∃a,e.key=St a)->∃ks:List Ah5,es.map (·.key)=ks.map St:=by
 induction es with
 | nil=>intro _;exact⟨[],rfl⟩
 | cons e r ih=>
  intro h;obtain⟨a,ha⟩:=h e AcT;obtain⟨ks,hk⟩:=ih fun x hx=>h x (AcW _ hx);exact⟨a :: ks,by rw[Aco,Aco,ha,hk]⟩
theorem C7{a b:Ah5}(h:St a=St b):a=b:=by simpa using h
theorem TF{P:Acg}{k:AbQ}(hk:P.underlying k=some .string){a:Ah5}(ha:a.length<=maxLen):keyOf P k (St a)=some (.string a):=by
 simp[keyOf,hk,mapKey];exact ha
abbrev HC(_:AbI):Option (DataW Unit × List MemPlace):=some (.nil,[])
theorem MapF.owns{β:Type}{P:Acg}{k:AbQ}(hk:P.underlying k=some .string){ev:β->AbI}{D:Ah5->Prop}(hD:∀a,D a->a.length<=maxLen){w:AbJ}{b:Nat}{G:Ah5->Option β}(h:MapF St ev D w b G){keys:List Ah5}(hn:keys.Nodup)(hG:∀s,(G s).isSome=true↔s∈keys)(hmax:keys.length<=maxLen):
  ∃D0:DataW Unit,w.ownsMap P k HC b keys.length D0/\(strKeys D0).Perm keys/\Maps.size D0=keys.length:=by
 obtain⟨es,c,hb,H,hS⟩:=h;obtain⟨ks,hks⟩:=Xe (es:=es) fun e he=>by obtain⟨a,y,-,h2,-,-⟩:=H.ent e he;exact⟨a,h2⟩
 have hnd:ks.Nodup:=by
  have h:=H.keys;rw[hks]at h;exact Aev St (fun a b hne e=>hne (by rw[e])) h
 have hmem:∀s,s∈ks↔(G s).isSome=true:=fun s=>by
  constructor
  ·intro hs;have h1:St s∈es.map (·.key):=by rw[hks];exact Afj hs
   obtain⟨e,he,f⟩:=Acw.1 h1;obtain⟨a,y,-,h2,-,h4⟩:=H.ent e he;obtain rfl:a=s:=C7 (h2.symm.trans f);rw[h4];rfl
  ·intro hs;obtain⟨y,hy⟩:=Option.isSome_iff_exists.1 hs;obtain⟨-,e,he,f⟩:=H.all s y hy;have h1:St s∈es.map (·.key):=Acw.2 ⟨e,he,f⟩;rw[hks]at h1;obtain⟨a,ha,g⟩:=Acw.1 h1
   rwa [<-C7 g]
 have hperm:ks.Perm keys:=(Aer hnd hn).2 fun s=>(hmem s).trans (hG s);have hlen:es.length=keys.length:=by
  have h1:=congrArg List.length hks;rw[Ab9,Ab9]at h1;rw[h1,hperm.length_eq]
 have hrd:∀x∈es,∃a,x.key=St a/\rd P k HC x=some (.string a, .nil):=fun x hx=>by
  obtain⟨a,y,ha,h2,-,-⟩:=H.ent x hx;exact⟨a,h2,by unfold Go.WideElems.rd;rw[h2,TF hk (hD a ha)];rfl⟩
 have hF:Fit P k HC es.toArray c:=⟨by rw[Ab4,hlen];exact hmax,hS,fun x hx=>by
  obtain⟨a,-,h2⟩:=hrd x (by simpa using hx);exact⟨_,h2⟩⟩
 refine⟨.map ((es.toArray.toList.map (rg P k HC)).foldr DataW.insert []),⟨es.toArray,c,hb,hF,by rw[Ab4,hlen];exact AbO _,rfl⟩,?_,?_⟩
 ·have h1:(strKeys (.map ((es.toArray.toList.map (rg P k HC)).foldr DataW.insert []))).Perm ((es.map (rg P k HC)).map fun p=>strOf p.1):=(sorted_perm _).map _;refine h1.trans ?_;have h2:(es.map (rg P k HC)).map (fun p=>strOf p.1)=(es.map (·.key)).map fun v=>match v with | .string s=>s.data.toList | _=> []:=by
   rw[AeB,AeB];refine AhJ fun x hx=> ?_;obtain⟨a,h3,h4⟩:=hrd x hx;show strOf (rg P k HC x).1=_;rw[rg_of h4];simp only[Function.comp,h3,strOf]
  rw[h2,hks,AeB];have h5:ks.map ((fun v:AbI=>match v with | .string s=>s.data.toList | _=> [])∘St)=ks:=by
   conv=>rhs;rw[<-List.map_id ks]
   exact AhJ fun a _=>rfl
  rw[h5];exact hperm
 ·show((es.toArray.toList.map (rg P k HC)).foldr DataW.insert []).length=_;rw[(sorted_perm _).length_eq,Ab9,hlen]
section
variable {α β : Type} (ek : α -> AbI) (ev : β -> AbI)
def MIt(w:AbJ)(g bm:Nat)(left:List (α × β)):Prop:=
 ∃es clock since seen c0,w.heap[g]? =some (.mapIter (some bm) since seen c0)/\w.heap[bm]? =some (.map es clock)/\MapKept.Stamped es clock/\(∀x∈es.toList,x.born<since)/\since<=c0/\since<=clock/\((leftOf es seen).toList.map fun e=>(e.key,e.val)).Perm (left.map fun p=>(ek p.1,ev p.2))
def WJ(w:AbJ)(g bm:Nat)(a:α)(y:β):Prop:=
 ∃(es:Array Adv) (clock since:Nat) (seen:Array Nat) (e:Adv),w.heap[g]? =some (.mapIter (some bm) since (seen.push e.born) clock)/\w.heap[bm]? =some (.map es clock)/\(es.toList.map (·.born)).Nodup/\e∈es.toList/\e.key=ek a/\e.val=ev y
end
def YR(w:AbJ)(g:Nat):Nat:=match w.heap[g]? with
 | some (.mapIter (some bm) _ seen _)=>(match w.heap[bm]? with | some (.map es _)=>(leftOf es seen).size | _=>0)
 | _=>0
theorem Zz{α β:Type}{ek:α->AbI}{ev:β->AbI}{w:AbJ}{g bm:Nat}{left:List (α × β)}(h:MIt ek ev w g bm left):YR w g=left.length:=by
 obtain⟨es,clock,since,seen,c0,hg,hb,-,-,-,-,hp⟩:=h;have:=hp.length_eq;rw[Ab9,Ab9]at this;unfold YR;rw[hg];simp only[hb];rw[<-this];simp
theorem MIt.lt{α β:Type}{ek:α->AbI}{ev:β->AbI}{w:AbJ}{g bm:Nat}{left:List (α × β)}(h:MIt ek ev w g bm left):g<w.heap.size:=by
 obtain⟨es,clock,since,seen,c0,hg,-⟩:=h;exact(Ace.1 hg).1
theorem LY{e:Adv}:∀ {l:List Adv},(l.map (·.born)).Nodup->e∈l->l.Perm (e :: l.filter fun x=> !(x.born==e.born))
 | [],_,h=>by cases h
 | x :: l,hn,h=>by
  have hn' :=List.nodup_cons.1 hn;rcases Acy.1 h with rfl | h
  ·have hf:l.filter (fun x=> !(x.born==e.born))=l:=Af5.2 fun y hy=>by
    have:y.born≠e.born:=fun q=>hn'.1 (Acw.2 ⟨y,hy,q⟩)
    simpa using this
   rw[AfC (by simp),hf]
  ·have hx:x.born≠e.born:=fun q=>hn'.1 (Acw.2 ⟨e,h,q.symm⟩);rw[AfD (by simpa using hx)];exact((LY hn'.2 h).cons x).trans (List.Perm.swap _ _ _)
theorem So(es:Array Adv)(seen:Array Nat)(b:Nat):(leftOf es (seen.push b)).toList=(leftOf es seen).toList.filter fun x=> !(x.born==b):=by
 unfold leftOf;simp only[Af7,List.filter_filter];refine List.filter_congr fun x _=> ?_;rw[Bool.eq_iff_iff];simp[and_comm]
theorem Qw{es:Array Adv}{seen:Array Nat}(h:(es.toList.map (·.born)).Nodup):((leftOf es seen).toList.map (·.born)).Nodup:=by
 unfold leftOf;rw[Af7];exact(List.filter_sublist.map _).nodup h
section
variable {P : Acg} {K : AbI -> AbJ -> Prop} {ρ : Ac} {w : AbJ} {d : Option Tmp} {ty : AbQ} {pos : String} {af : Array Edge} {gd : Option (Nat × Bool)}
variable {α β : Type} {ek : α -> AbI} {ev : β -> AbI} {D : α -> Prop} {b : Nat} {G : α -> Option β} {t Kt E : AbQ}
theorem Aat(hi:∀a c,ek a=ek c->a=c)(ht:P.underlying t=some (.map Kt E)){x:AbV}(hx:Aa ρ x = .map (some b))(h:MapF ek ev D w b G){ps:List (α × β)}(hn:(ps.map Aci).Nodup)(hG:∀a y,G a=some y↔(a,y)∈ps) 
  (hk:∀n w',w.heap.size=n->MIt ek ev w' n b ps->Ext w w' ->w'.heap.size=n+1->K (.pointer (some ⟨n,0,none⟩)) w'):Yk P K ((execOp (Aa ρ) ⟨d, .range t x,ty,pos,af,gd⟩).run P w):=by
 have hlt:=h.lt;obtain⟨es,c,hb,H,hS⟩:=h;have hr:(execOp (Aa ρ) ⟨d, .range t x,ty,pos,af,gd⟩).run P w = .ok (.value (.pointer (some ⟨w.heap.size,0,none⟩))) (w.alloc (.mapIter (some b) c #[] c)):=by
  unfold execOp;simp only[hx,AbY,run_range_map w t Kt E b _ c ht hb,AbU,Ab1]
 rw[hr];refine hk _ _ rfl ⟨es.toArray,c,c,#[],c,heap_alloc_new _ _,(heap_alloc_old _ _ hlt).trans hb,hS,hS.1,AbO _,AbO _,?_⟩ ((AcB _ _).alloc (AbO _) _) (by simp);have h0:(leftOf es.toArray #[]).toList=es:=by
  unfold leftOf;rw[Af7];exact Af5.2 fun _ _=>by simp
 rw[h0];refine(Aer ?_ ?_).2 fun q=> ?_
 ·exact Aev (S:=(· ≠ ·)) Aci (fun a c hne e=>hne (by rw[e])) (by rw[AeB];exact H.keys)
 ·refine AfE _ (fun p q hne e=>hne ?_) (Aev (S:=(· ≠ ·)) (R:=fun p q:α × β=>p.1≠q.1) Aci (fun _ _ h=>h) hn);exact hi _ _ (congrArg Aci e)
 ·constructor
  ·intro hq;obtain⟨e,he,rfl⟩:=Acw.1 hq;obtain⟨a,y,-,h2,h3,h4⟩:=H.ent e he;exact Acw.2 ⟨(a,y),(hG a y).1 h4,by rw[h2,h3]⟩
  ·intro hq;obtain⟨p,hp,rfl⟩:=Acw.1 hq;have hg:=(hG p.1 p.2).2 hp;obtain⟨-,e,he,hek⟩:=H.all p.1 p.2 hg;obtain⟨a,y,-,h2,h3,h4⟩:=H.ent e he;have ha:a=p.1:=hi _ _ (h2.symm.trans hek);rw[ha,hg]at h4;cases h4;exact Acw.2 ⟨e,he,by rw[hek,h3]⟩
theorem ZM{x:AbV}{g bm:Nat}{left:List (α × β)}(hx:Aa ρ x = .pointer (some ⟨g,0,none⟩))(h:MIt ek ev w g bm left) 
  (h0:left= []->K (.tuple #[.bool false]) w) (h1:∀a y rest w',left.Perm ((a,y) :: rest)->MIt ek ev w' g bm rest->WJ ek ev w' g bm a y->w.grownBy w' (some g)->w'.heap.size=w.heap.size->K (.tuple #[.bool true,ek a,ev y]) w'):
  Yk P K ((execOp (Aa ρ) ⟨d, .next x false,ty,pos,af,gd⟩).run P w):=by
 obtain⟨es,clock,since,seen,c0,hg,hb,hS,hold,hsc,hck,hp⟩:=h;have hgl:=(Ace.1 hg).1;have hne:bm≠g:=fun e=>by rw[e,hg]at hb;cases hb
 have hlp:=hp.length_eq;rw[Ab9,Ab9]at hlp;have hL:(leftOf es seen).toList.length=(leftOf es seen).size:=by simp
 by_cases hz:(leftOf es seen).size=0
 ·have hr:(Ahs (.pointer (some ⟨g,0,none⟩)) false ty).run P w = .ok (.tuple #[.bool false]) w:=by
   simp only[Ahs,getObj,AbY,AfU,hg,hb,AcF,next_test_false seen es since c0 hold hsc,Aeg,if_false];unfold leftOf at hz;have hz' :AhU (fun e=> !seen.contains e.born) es = #[]:=Array.eq_empty_of_size_eq_zero hz;rw[hz'];simp[choose,AfU,Question.forced]
  unfold execOp;simp only[hx,hr,AbY,AbU,Ab1];exact h0 (Acv (by omega))
 ·obtain⟨e,he,w1,hw1,hsz1,hr⟩:∃e∈(leftOf es seen).toList,∃w1:AbJ,w.grownBy w1 none/\w1.heap=w.heap/\(Ahs (.pointer (some ⟨g,0,none⟩)) false ty).run P w = .ok (.tuple #[.bool true,e.key,e.val]) { w1 with heap:=w1.heap.setIfInBounds g (.mapIter (some bm) since (seen.push e.born) clock) } :=by
   simp only[Ahs,getObj,AbY,AfU,hg,hb,AcF,next_test_false seen es since c0 hold hsc,Aeg,if_false];unfold leftOf at hz ⊢;have hmem:∀x∈(AhU (fun e=> !seen.contains e.born) es).toList,x.born<since:=fun x hx=>hold x (by simp at hx ⊢;exact hx.1)
   generalize AhU (fun e=> !seen.contains e.born) es=L at hmem hz ⊢
   have l:L.filter (fun x=>decide (x.born<since))=L:=Array.filter_eq_self.2 (fun x hx=>by simpa using hmem x (by simpa using hx));have m:L.filter (fun x=>decide (x.born>=since)) = #[]:=by
    rw[Array.filter_eq_empty_iff];intro x hx;have:=hmem x (by simpa using hx);simp;omega
   simp only[l,m,Array.append_empty];have hne' :L.isEmpty=false:=by simp[Array.isEmpty,hz]
   simp only[hne',Aeg,if_false,Array.empty_append,Array.size_map];have hch:∃(j:Nat) (w1:AbJ),j<L.size/\w.grownBy w1 none/\w1.heap=w.heap/\(choose (Question.mapNext L.size)).run P w = .ok j w1:=by
    by_cases hf:L.size<=1
    ·exact⟨0,w,by omega,Ac7 _ _,rfl,by simp[choose,AfU,Question.forced,hf]⟩
    ·exact⟨_,w.drew,Nat.mod_lt _ (by omega),(AbF w undef).drew.by_,rfl,by
      simp only[choose,AfU,Question.forced,decide_eq_true_eq,hf,if_false,Question.cut];rfl⟩
   obtain⟨j,w1,hj,hal,hwh,hrun⟩:=hch;refine⟨L[j],by simp,w1,hal,hwh,?_⟩;simp only[hrun,Array.getElem?_map,Array.getElem?_eq_getElem hj,Option.map_some,AbY,AcF,setObj,AfU,hwh,hg];rfl
  have hmk:(e.key,e.val)∈left.map fun p=>(ek p.1,ev p.2):=hp.mem_iff.1 (Afj (f:=fun e:Adv=>(e.key,e.val)) he);obtain⟨p,hpm,hpe⟩:=Acw.1 hmk;obtain⟨rest,hrest⟩:∃rest,left.Perm (p :: rest):=by
   obtain⟨s,t,hst⟩:=List.append_of_mem hpm;exact⟨s++t,by rw[hst];exact List.perm_middle⟩
  have b:ek p.1=e.key:=congrArg Aci hpe;have c:ev p.2=e.val:=congrArg Prod.snd hpe;unfold execOp;simp only[hx,hr,AbY,AbU,Ab1];rw[<-b,<-c];have hgr:w.grownBy { w1 with heap:=w1.heap.setIfInBounds g (.mapIter (some bm) since (seen.push e.born) clock) } (some g):=
   ⟨hw1.os,hw1.tape,hw1.output,by simp[hsz1],fun i _ hi=>by rw[hsz1];simp only[Adp];rw[if_neg (fun q=>hi (by rw[q]))]⟩
  have k:({ w1 with heap:=w1.heap.setIfInBounds g (.mapIter (some bm) since (seen.push e.born) clock) } :AbJ).heap[bm]? =some (.map es clock):=by
   simp only[hsz1,Adp];rw[if_neg (fun q=>hne q.symm)];exact hb
  have hes:e∈es.toList:=by have:=he;unfold leftOf at this;simp at this ⊢;exact this.1
  refine h1 p.1 p.2 rest _ hrest ⟨es,clock,since,seen.push e.born,clock,by simp[hsz1,hgl],k,hS,hold,hck,hck,?_⟩ ⟨es,clock,since,seen,e,by simp[hsz1,hgl],k,hS.2.1,hes,b.symm,c.symm⟩ hgr (by simp[hsz1])
  ·have h2:=(LY (Qw (seen:=seen) hS.2.1) he).map fun e:Adv=>(e.key,e.val);rw[<-So]at h2;have h3:=(h2.symm.trans hp).trans (hrest.map fun p=>(ek p.1,ev p.2));rw[Aco,Aco,<-hpe]at h3;exact h3.cons_inv
theorem ZT{x:AbV}{g bm:Nat}{left:List (α × β)}(hx:Aa ρ x = .pointer (some ⟨g,0,none⟩))(h:MIt ek ev w g bm left)(h0:left= [])(hk:K (.tuple #[.bool false]) w):
  Yk P K ((execOp (Aa ρ) ⟨d, .next x false,ty,pos,af,gd⟩).run P w):=
 ZM hx h (fun _=>hk) fun a y rest w' hp _ _ _ _=>by rw[h0]at hp;exact absurd hp.length_eq (by simp)
theorem Aab{x:AbV}{g bm:Nat}{left:List (α × β)}(hx:Aa ρ x = .pointer (some ⟨g,0,none⟩))(h:MIt ek ev w g bm left)(h0:left≠ []) 
 (hk:∀a y rest w',left.Perm ((a,y) :: rest)->MIt ek ev w' g bm rest->WJ ek ev w' g bm a y->w.grownBy w' (some g)->w'.heap.size=w.heap.size->K (.tuple #[.bool true,ek a,ev y]) w'):
 Yk P K ((execOp (Aa ρ) ⟨d, .next x false,ty,pos,af,gd⟩).run P w):=ZM hx h (fun e=>absurd e h0) hk
theorem Aau{x:AbV}{g bm:Nat}{a:α}{y:β}(hx:Aa ρ x = .pointer (some ⟨g,0,none⟩))(h:WJ ek ev w g bm a y)(hk:K (.tuple #[ek a,ev y]) w):
  Yk P K ((execOp (Aa ρ) ⟨d, .entry x,ty,pos,af,gd⟩).run P w):=by
 obtain⟨es,clock,since,seen,e,hg,hb,hn,he,h1,h2⟩:=h;have hf:es.find? (·.born==e.born)=some e:=by rw[<-Array.find?_toList];exact find_born e es.toList hn he
 have hr:(Instr.entry (.pointer (some ⟨g,0,none⟩))).run P w = .ok (.tuple #[e.key,e.val]) w:=by
  simp only[Instr.entry,getObj,AbY,AfU,hg,hb,AcF,Array.back?_push,bne_self_eq_false,Aeg,if_false,hf];rfl
 unfold execOp;simp only[hx,hr,AbY,AbU,Ab1];rw[h1,h2];exact hk
end
structure DirOk (n : Nat) (l : BZ) : Prop where
 sort:Fm l
 num:∀e∈l,e.2<n
 may:∀e∈l,Bk e.1=true
structure ActOk (n : Nat) (a : CR) : Prop where
 num:a.file<n
 may:a.to.length≠0->Bk a.to=true
 frm:a.frm.length<=80
structure DOk (d : Af) : Prop where
 now:DirOk d.files.length d.now
 kept:DirOk d.files.length d.kept
 acts:∀a∈d.acts,ActOk d.files.length a
 syn:∀x∈d.files,x.2<=x.1.length
theorem DirOk.nil(n:Nat):DirOk n []:=⟨AdJ,fun _ h=>(by cases h),fun _ h=>(by cases h)⟩
abbrev AbG:=@DirOk.nil
theorem DirOk.mono{n m:Nat}{l:BZ}(h:DirOk n l)(hn:n<=m):DirOk m l:=⟨h.sort,fun e he=>AcE (h.num e he) hn,h.may⟩
theorem ActOk.mono{n m:Nat}{a:CR}(h:ActOk n a)(hn:n<=m):ActOk m a:=⟨AcE h.num hn,h.may,h.frm⟩
theorem DirOk.turn{n:Nat}{l:BZ}{a:CR}(h:DirOk n l)(ha:ActOk n a):DirOk n (turnD l a):=
 ⟨Sm h.sort a,fun e he=>(JR he).elim (h.num e) fun⟨_,q⟩=>q▸ha.num,fun e he=>(JR he).elim (h.may e) fun⟨q,r⟩=>r▸ha.may q⟩
theorem DirOk.look{n:Nat}{l:BZ}(h:DirOk n l){s:Ah5}{k:Nat}(hk:Aw l s=some k):k<n/\Bk s=true:=⟨h.num _ (Ed hk),h.may _ (Ed hk)⟩
theorem Cv{s:Ah5}(h:Bk s=true):1<=s.length/\s.length<=80:=by
 unfold Bk at h
 simpa using h
theorem DirOk.noEmpty{n:Nat}{l:BZ}(h:DirOk n l):Aw l []=none:=IC.2 fun e he q=>by
 have:=Cv (h.may e he);rw[q]at this;simp at this
theorem IE{d:Af}{k:Nat}(h:k<d.files.length):AY d k∈d.files:=by
 unfold AY;rw[AbN,AbT h];exact Adu h
theorem DOk.sync_le{d:Af}(h:DOk d)(k:Nat):(AY d k).2<=(AY d k).1.length:=by
 by_cases hk:k<d.files.length
 ·exact h.syn _ (IE hk)
 ·unfold AY;rw[AbN,AcR (by omega)];exact AbO 0
theorem DOk.turned{d:Af}(h:DOk d){a:CR}(ha:ActOk d.files.length a):DOk (turnedD d a):=
 ⟨h.now.turn ha,h.kept,fun b hb=>(Acb.1 hb).elim (h.acts b) fun q=>AbW.1 q▸ha,h.syn⟩
theorem DOk.files{d:Af}(h:DOk d)(fs:List (Ah5 × Nat))(hl:d.files.length<=fs.length)(hs:∀x∈fs,x.2<=x.1.length):DOk { d with files:=fs } :=
 ⟨h.now.mono hl,h.kept.mono hl,fun a ha=>(h.acts a ha).mono hl,hs⟩
theorem DOk.setFile{d:Af}(h:DOk d)(k:Nat)(x:Ah5 × Nat)(hx:x.2<=x.1.length):DOk { d with files:=d.files.set k x } :=
 h.files _ (by rw[Adq];exact AbO _) fun y hy=>(Aew hy).elim (h.syn y) fun q=>q▸hx
theorem DOk.newFile{d:Af}(h:DOk d)(x:Ah5 × Nat)(hx:x.2<=x.1.length):DOk { d with files:=d.files++ [x] } :=
 h.files _ (by rw[AbP];exact Nat.le_add_right _ _) fun y hy=>(Acb.1 hy).elim (h.syn y) fun q=>AbW.1 q▸hx
theorem DOk.add{d:Af}(h:DOk d){s:Ah5}(b:Ah5)(hs:Bk s=true):DOk (Cd d s b):=by
 unfold Cd;split
 ·rename_i k hk
  refine h.setFile k _ ?_;have:=h.sync_le k;simp only[AbP];omega
 ·have h1:=h.newFile (b,0) (Ack _);have h2:=h1.turned (a:=⟨[],s,d.files.length⟩) ⟨by simp,fun _=>hs,Ack _⟩;exact h2
theorem HE(d:Af):(CS d).1.files=d.files/\(CS d).1.now=d.now/\(CS d).1.kept=d.kept/\(CS d).1.acts=d.acts/\(CS d).1.quota=d.quota/\(CS d).1.refused=d.refused:=by
 unfold CS;split <;> exact⟨rfl,rfl,rfl,rfl,rfl,rfl⟩
theorem DOk.synced{d:Af}(h:DOk d)(k:Nat):DOk { d with files:=d.files.set k ((AY d k).1,(AY d k).1.length),kept:=d.now,acts:= [] } :=by
 have h1:=h.setFile k ((AY d k).1,(AY d k).1.length) (AbO _);exact⟨h1.now,h1.now,fun a ha=>(by cases ha),h1.syn⟩
theorem TG{d:Af}{s t:Ah5}(h:CB d s t=0):d.down=false/\Bk s=true/\Bk t=true:=by
 unfold CB at h;split at h
 ·cases h
 ·rename_i hd
  split at h
  ·rename_i hm
   exact⟨Agy.2 hd,hm⟩
  ·cases h
structure Chg (B : Nat -> Prop) (w w' : AbJ) : Prop where
 os:w'.os=w.os
 tape:w'.tape=w.tape
 output:w'.output=w.output
 size:w.heap.size<=w'.heap.size
 blk:∀i,i<w.heap.size->¬B i->w'.heap[i]? =w.heap[i]?
theorem Chg.refl(B:Nat->Prop)(w:AbJ):Chg B w w:=⟨rfl,rfl,rfl,AbO _,fun _ _ _=>rfl⟩
abbrev Abs:=@Chg.refl
theorem Chg.trans{B B' :Nat->Prop}{w w1 w2:AbJ}(h:Chg B w w1)(k:Chg B' w1 w2)(hB:∀i,B' i->B i\/w.heap.size<=i):Chg B w w2:=
 ⟨k.os.trans h.os,k.tape.trans h.tape,k.output.trans h.output,AbM h.size k.size,fun i hi hn=>by
  have hs:=h.size;rw[k.blk i (by omega) (fun hb=>(hB i hb).elim hn (by omega)),h.blk i hi hn]⟩
theorem Chg.mono{B B' :Nat->Prop}{w w' :AbJ}(h:Chg B w w')(hB:∀i,i<w.heap.size->B i->B' i):Chg B' w w' :=
 ⟨h.os,h.tape,h.output,h.size,fun i hi hn=>h.blk i hi fun hb=>hn (hB i hi hb)⟩
theorem Yj{w w' :AbJ}{r:Option Nat}{B:Nat->Prop}(h:w.grownBy w' r)(hr:∀i,r=some i->B i\/w.heap.size<=i):Chg B w w' :=
 ⟨h.os,h.tape,h.output,h.size,fun i hi hn=>h.block i hi fun e=>(hr i e.symm).elim hn (by omega)⟩
theorem YU{w w' :AbJ}{B:Nat->Prop}(h:Ext w w'):Chg B w w' :=Yj h.grown fun i e=>by cases e
theorem Chg.ext{w0 w w' :AbJ}{B:Nat->Prop}(hE:Ext w0 w)(h:Chg B w w')(hB:∀i,B i->w0.heap.size<=i):Ext w0 w' :=by
 have h1:=hE.grown;have hs:=hE.size;exact(AcB _ _).grown (⟨h.os.trans h1.os,h.tape.trans h1.tape,h.output.trans h1.output,AbM hs h.size,fun i hi hn=>by
  rw[h.blk i (by omega) (fun hb=>by have:=hB i hb;omega),h1.block i hi hn]⟩:w0.grownBy w' none) (AbO _) (fun _ e=>by cases e)
theorem Du{base:Nat}{e:AbQ}{size:Nat}{v:AbI}{n:Nat}{xs:List AbI}{B:Nat->Prop}{w w' :AbJ}(hc:Chg B w w')(h:w.ownsRow base e size v n xs)(hB:∀i,v.ownBlock=some i->¬B i):w'.ownsRow base e size v n xs:=by
 refine⟨h.1,h.2.imp (fun x=>x) fun⟨g,cap,cur,a,c,b,r⟩=>⟨g,cap,cur,a,c,(hc.blk g (bl b) (hB g (by rw[a];rfl))).trans b,r⟩⟩
structure Dk where
 g:Nat
 mn:Nat
 ml:Nat
 va:AbI
 F:Nat->Nat
 V:Nat->AbI
def B3(H:Dk)(n:Nat)(i:Nat):Prop:=i=H.g\/i=H.mn\/i=H.ml\/H.va.ownBlock=some i\/∃k,k<n/\(i=H.F k\/(H.V k).ownBlock=some i)
structure FileAt (base : Nat) (w : AbJ) (f : Nat) (v : AbI) (x : Ah5 × Nat) : Prop where
 blk:w.heap[f]? =some (.cells ([v,NI x.2]).toArray 133 (0,0))
 row:w.ownsRow base 5 1 v x.1.length (AbK x.1)
 lo:base<=f
structure FilesAt (base : Nat) (w : AbJ) (F : Nat -> Nat) (V : Nat -> AbI) (fs : List (Ah5 × Nat)) : Prop where
 at_:∀k,k<fs.length->FileAt base w (F k) (V k) (fs.getD k ([],0))
 inj:∀i j,i<fs.length->j<fs.length->F i=F j->i=j
 apart:∀i j,i<fs.length->j<fs.length->i≠j->∀x,(V i).ownBlock=some x->(V j).ownBlock≠some x
theorem FileAt.keep{base:Nat}{w w' :AbJ}{f:Nat}{v:AbI}{x:Ah5 × Nat}(h:FileAt base w f v x){B:Nat->Prop}(hc:Chg B w w')(h1:¬B f)(h2:∀i,v.ownBlock=some i->¬B i):FileAt base w' f v x:=
 ⟨(hc.blk f (bl h.blk) h1).trans h.blk,Du hc h.row h2,h.lo⟩
theorem FilesAt.chg{base:Nat}{w w' :AbJ}{F:Nat->Nat}{V:Nat->AbI}{fs:List (Ah5 × Nat)}(h:FilesAt base w F V fs){B:Nat->Prop}(hc:Chg B w w')(hB:∀k,k<fs.length->¬B (F k)/\∀i,(V k).ownBlock=some i->¬B i):FilesAt base w' F V fs:=
 ⟨fun k hk=>(h.at_ k hk).keep hc (hB k hk).1 (hB k hk).2,h.inj,h.apart⟩
def Xf:Prop:=False
def ActAt(w:AbJ)(F:Nat->Nat)(v:AbI)(a:CR):Prop:=
 (∃bf bn,v = .func (.func 141) #[] #[PQ bf 0,PQ bn 0]/\w.heap[bf]? =some (.cells ([PQ (F a.file) 0]).toArray 113 (0,0))/\w.heap[bn]? =some (.cells ([St a.to]).toArray 9 (0,0))/\a.frm= []/\a.to.length≠0) \/
 (Xf/\∃bs bf bn,v = .func (.func 0) #[] #[PQ bs 0,PQ bf 0,PQ bn 0]/\w.heap[bs]? =some (.cells ([St a.frm]).toArray 9 (0,0))/\w.heap[bf]? =some (.cells ([PQ (F a.file) 0]).toArray 113 (0,0))/\w.heap[bn]? =some (.cells ([St a.to]).toArray 9 (0,0))/\a.to.length≠0) \/
 (∃bn,v = .func (.func 95) #[] #[PQ bn 0]/\w.heap[bn]? =some (.cells ([St a.frm]).toArray 9 (0,0))/\a.to= [])
def TyB(w:AbJ)(i:Nat):Prop:=(∃es c,w.heap[i]? =some (.map es c))\/∃cs t fr,w.heap[i]? =some (.cells cs t fr)/\(t=107\/t=133\/t=5\/t=131)
theorem TyB.off{w:AbJ}{i:Nat}{cs:Array AbI}{t:AbQ}{fr:Nat × Nat}(h:w.heap[i]? =some (.cells cs t fr))(h1:t≠107)(h2:t≠133)(h3:t≠5)(h4:t≠131):¬TyB w i:=by
 rintro(⟨es,c,e⟩ | ⟨cs',t',fr',e,k⟩)
 ·rw[h]at e;cases e
 ·rw[h]at e;cases e;rcases k with k | k | k | k
  ·exact h1 k
  ·exact h2 k
  ·exact h3 k
  ·exact h4 k
theorem ActAt.chg{w w' :AbJ}{F F' :Nat->Nat}{v:AbI}{a:CR}{B:Nat->Prop}(h:ActAt w F v a)(hc:Chg B w w')(hB:∀i,i<w.heap.size->B i->TyB w i)(hF:F' a.file=F a.file):ActAt w' F' v a:=by
 have k:∀ {b:Nat} {cs:Array AbI} {t:AbQ} {fr:Nat × Nat},w.heap[b]? =some (.cells cs t fr)->t≠107->t≠133->t≠5->t≠131->w'.heap[b]? =some (.cells cs t fr):=fun e h1 h2 h3 h4=>(hc.blk _ (bl e) fun q=>TyB.off e h1 h2 h3 h4 (hB _ (bl e) q)).trans e;rcases h with ⟨bf,bn,e,h1,h2,h3,h4⟩ | ⟨hm,bs,bf,bn,e,h1,h2,h3,h4⟩ | ⟨bn,e,h1,h2⟩
 ·exact .inl ⟨bf,bn,e,by rw[hF];exact k h1 (by decide) (by decide) (by decide) (by decide),k h2 (by decide) (by decide) (by decide) (by decide),h3,h4⟩
 ·exact .inr (.inl ⟨hm,bs,bf,bn,e,k h1 (by decide) (by decide) (by decide) (by decide),by rw[hF];exact k h2 (by decide) (by decide) (by decide) (by decide),k h3 (by decide) (by decide) (by decide) (by decide),h4⟩)
 ·exact .inr (.inr ⟨bn,e,k h1 (by decide) (by decide) (by decide) (by decide),h2⟩)
abbrev pF(F:Nat->Nat)(k:Nat):AbI:=PQ (F k) 0
abbrev Nm(s:Ah5):Prop:=s.length<=80
abbrev Jr(q mn ml:Nat)(va:AbI)(rf ar:Nat)(dn:Bool):List AbI:= [NI q, .map (some mn), .map (some ml),va,NI rf,NI ar, .bool dn]
structure NK (base : Nat) (w : AbJ) (va : AbI) (F : Nat -> Nat) (acs : List CR) (vs : List AbI) : Prop where
 row:w.ownsRow base 131 1 va vs.length vs
 len:vs.length=acs.length
 at_:∀i,i<acs.length->ActAt w F (vs.getD i undef) (acs.getD i ⟨[],[],0⟩)
structure DkS (base : Nat) (w : AbJ) (H : Dk) (D : Af) : Prop where
 blk:w.heap[H.g]? =some (.cells (Jr D.quota H.mn H.ml H.va D.refused D.arm D.down).toArray 107 (0,0))
 now:MapF St (pF H.F) Nm w H.mn (Aw D.now)
 kept:MapF St (pF H.F) Nm w H.ml (Aw D.kept)
 ne:H.mn≠H.ml
 acts:∃vs,NK base w H.va H.F D.acts vs
 files:FilesAt base w H.F H.V D.files
 ok:DOk D
 lo:base<=H.g/\base<=H.mn/\base<=H.ml
def CT(w:AbJ)(i:Nat):Option Nat:=match w.heap[i]? with | some (.map _ _)=>some 0 | some (.cells _ t _)=>some (t+1) | _=>none
theorem Co{w:AbJ}{i:Nat}{cs:Array AbI}{t:AbQ}{fr:Nat × Nat}(h:w.heap[i]? =some (.cells cs t fr)):CT w i=some (t+1):=by unfold CT;rw[h]
theorem Li{base:Nat}{e:AbQ}{size:Nat}{v:AbI}{n:Nat}{xs:List AbI}{w:AbJ}(h:w.ownsRow base e size v n xs){i:Nat}(hi:v.ownBlock=some i):CT w i=some (e+1):=by
 rcases h.2 with ⟨rfl,-⟩ | ⟨g,cap,cur,rfl,b,a,-⟩
 ·cases hi
 ·obtain rfl:g=i:=Acu hi;exact Co a
theorem MapF.tag{α β:Type}{ek:α->AbI}{ev:β->AbI}{D:α->Prop}{w:AbJ}{b:Nat}{G:α->Option β}(h:MapF ek ev D w b G):CT w b=some 0:=by
 obtain⟨es,c,h,-⟩:=h;unfold CT;rw[h]
theorem MapF.congr{α β:Type}{ek:α->AbI}{ev ev' :β->AbI}{D:α->Prop}{w:AbJ}{b:Nat}{G:α->Option β}(h:MapF ek ev D w b G)(he:∀a y,G a=some y->ev' y=ev y):MapF ek ev' D w b G:=by
 obtain⟨es,c,h1,h2,h3⟩:=h;exact⟨es,c,h1,⟨h2.keys,fun e he' =>by
  obtain⟨a,y,k1,k2,k3,k4⟩:=h2.ent e he';exact⟨a,y,k1,k2,k3.trans (he a y k4).symm,k4⟩,h2.all⟩,h3⟩
theorem MapF.chg{α β:Type}{ek:α->AbI}{ev:β->AbI}{D:α->Prop}{w w' :AbJ}{b:Nat}{G:α->Option β}{B:Nat->Prop}(h:MapF ek ev D w b G)(hc:Chg B w w')(hB:¬B b):MapF ek ev D w' b G:=by
 obtain⟨es,c,h1,h2⟩:=h;exact⟨es,c,(hc.blk b (bl h1) hB).trans h1,h2⟩
theorem Chg.keep{B:Nat->Prop}{w w1 w2:AbJ}(h:Chg B w w1)(k:Ext w1 w2):Chg B w w2:=h.trans (B' :=fun _=>False) (YU k) fun _ h=>h.elim
theorem Chg.set{B:Nat->Prop}{w w1 w2:AbJ}{g:Nat}(h:Chg B w w1)(k:w1.grownBy w2 (some g))(hg:B g\/w.heap.size<=g):Chg B w w2:=h.trans (B' :=fun i=>i=g) (Yj k fun i e=> .inl (Acu e).symm) fun i e=>e▸hg
abbrev AbA:=@Chg.set
theorem Chg.grew{B:Nat->Prop}{w w1 w2:AbJ}{v v' :AbI}(h:Chg B w w1)(k:Grew w1 w2 v v')(hv:∀i,v.ownBlock=some i->B i\/w.heap.size<=i):Chg B w w2:=h.trans (B' :=fun i=>v.ownBlock=some i) (Yj k.by_ fun i e=> .inl e) hv
section
variable {base : Nat} {w w' : AbJ} {H : Dk} {D : Af}
theorem DkS.tg(h:DkS base w H D):CT w H.g=some (107+1):=Co h.blk
theorem DkS.tF(h:DkS base w H D){k:Nat}(hk:k<D.files.length):CT w (H.F k)=some (133+1):=Co (h.files.at_ k hk).blk
theorem DkS.tV(h:DkS base w H D){k:Nat}(hk:k<D.files.length){i:Nat}(hi:(H.V k).ownBlock=some i):CT w i=some (5+1):=Li (h.files.at_ k hk).row hi
theorem DkS.tA(h:DkS base w H D){i:Nat}(hi:H.va.ownBlock=some i):CT w i=some (131+1):=by
 obtain⟨vs,hv⟩:=h.acts;exact Li hv.row hi
theorem Dd{i:Nat}(h:CT w i=some 0\/CT w i=some (107+1)\/CT w i=some (133+1)\/CT w i=some (5+1)\/CT w i=some (131+1)):TyB w i:=by
 unfold CT at h;cases hb:w.heap[i]? with
 | none=>rw[hb]at h;simp at h
 | some o=>
  rw[hb]at h;cases o with
  | map es c=>exact .inl ⟨es,c,hb⟩
  | cells cs t fr=>
   refine .inr ⟨cs,t,fr,hb,?_⟩;simp only[Option.some.injEq]at h;rcases h with h | h | h | h | h
   ·omega
   ·exact .inl (Nat.succ.inj h)
   ·exact .inr (.inl (Nat.succ.inj h))
   ·exact .inr (.inr (.inl (Nat.succ.inj h)))
   ·exact .inr (.inr (.inr (Nat.succ.inj h)))
  | _=>simp at h
theorem DkS.foot(h:DkS base w H D){i:Nat}(hi:B3 H D.files.length i):TyB w i/\i<w.heap.size/\base<=i:=by
 have lt:∀ {j:Nat} {x:Nat},CT w j=some x->j<w.heap.size:=fun {j x} e=>by
  rcases Nat.lt_or_ge j w.heap.size with q | q
  ·exact q
  ·unfold CT at e;rw[Array.getElem?_eq_none q]at e;cases e
 rcases hi with rfl | rfl | rfl | hi | ⟨k,hk,rfl | hi⟩
 ·exact⟨Dd (.inr (.inl h.tg)),lt h.tg,h.lo.1⟩
 ·exact⟨Dd (.inl h.now.tag),lt h.now.tag,h.lo.2.1⟩
 ·exact⟨Dd (.inl h.kept.tag),lt h.kept.tag,h.lo.2.2⟩
 ·obtain⟨vs,hv⟩:=h.acts;exact⟨Dd (.inr (.inr (.inr (.inr (h.tA hi))))),lt (h.tA hi),(hv.row.lt i hi).1⟩
 ·exact⟨Dd (.inr (.inr (.inl (h.tF hk)))),lt (h.tF hk),(h.files.at_ k hk).lo⟩
 ·exact⟨Dd (.inr (.inr (.inr (.inl (h.tV hk hi))))),lt (h.tV hk hi),((h.files.at_ k hk).row.lt i hi).1⟩
theorem DkS.keepB{B:Nat->Prop}(h:DkS base w H D)(hc:Chg B w w')(hB:∀i,B3 H D.files.length i->¬B i)(hT:∀i,i<w.heap.size->B i->TyB w i):DkS base w' H D:=by
 obtain⟨vs,hv⟩:=h.acts;exact⟨(hc.blk _ (bl h.blk) (hB _ (.inl rfl))).trans h.blk,h.now.chg hc (hB _ (.inr (.inl rfl))),h.kept.chg hc (hB _ (.inr (.inr (.inl rfl)))),h.ne,
  ⟨vs,Du hc hv.row (fun i hi=>hB i (.inr (.inr (.inr (.inl hi))))),hv.len,fun i hi=>(hv.at_ i hi).chg hc hT rfl⟩,
  h.files.chg hc (fun k hk=>⟨hB _ (.inr (.inr (.inr (.inr ⟨k,hk, .inl rfl⟩)))),fun i hi=>hB i (.inr (.inr (.inr (.inr ⟨k,hk, .inr hi⟩))))⟩),h.ok,h.lo⟩
theorem DkS.keep(h:DkS base w H D)(k:Ext w w'):DkS base w' H D:=h.keepB (B:=fun _=>False) (YU k) (fun _ _ q=>q) (fun _ _ q=>q.elim)
theorem DkS.setBlk(h:DkS base w H D)(hg:w.grownBy w' (some H.g)){q rf ar:Nat}{dn:Bool}(hb:w'.heap[H.g]? =some (.cells (Jr q H.mn H.ml H.va rf ar dn).toArray 107 (0,0))):DkS base w' H { D with quota:=q,refused:=rf,arm:=ar,down:=dn } :=by
 have hc:Chg (fun i=>i=H.g) w w' :=Yj hg fun i e=> .inl (Acu e).symm;have hT:∀i,i<w.heap.size->i=H.g->TyB w i:=fun i _ e=>e▸Dd (.inr (.inl h.tg));obtain⟨vs,hv⟩:=h.acts;have ne0:∀ {i x:Nat},CT w i=some x->x≠107+1->i≠H.g:=fun e hx q=>by rw[q,h.tg]at e;exact hx (Acu e).symm
 exact⟨hb,h.now.chg hc (ne0 h.now.tag (by decide)),h.kept.chg hc (ne0 h.kept.tag (by decide)),h.ne,
  ⟨vs,Du hc hv.row (fun i hi=>ne0 (h.tA hi) (by decide)),hv.len,fun i hi=>(hv.at_ i hi).chg hc hT rfl⟩,
  h.files.chg hc (fun k hk=>⟨ne0 (h.tF hk) (by decide),fun i hi=>ne0 (h.tV hk hi) (by decide)⟩),⟨h.ok.now,h.ok.kept,h.ok.acts,h.ok.syn⟩,h.lo⟩
def BU{α:Type}(F:Nat->α)(n:Nat)(x:α)(k:Nat):α:=if k=n then x else F k
theorem C2{α:Type}(F:Nat->α){n k:Nat}(x:α)(h:k<n):BU F n x k=F k:=if_neg (by omega)
theorem C3{α:Type}(F:Nat->α)(n:Nat)(x:α):BU F n x n=x:=if_pos rfl
theorem G9{α:Type}(F:Nat->α){n k:Nat}(x:α)(h:k≠n):BU F n x k=F k:=if_neg h
theorem DkS.newFile(h:DkS base w H D)(hE:Ext w w'){f:Nat}(hf:w.heap.size<=f)(hb:w'.heap[f]? =some (.cells ([.slice none 0 0,NI 0]).toArray 133 (0,0)))(h0:base<=w.heap.size):
  DkS base w' { H with F:=BU H.F D.files.length f,V:=BU H.V D.files.length (.slice none 0 0) } { D with files:=D.files++ [([],0)] } :=by
 have h1:=h.keep hE;obtain⟨vs,hv⟩:=h1.acts;refine⟨h1.blk,h1.now.congr fun a y hy=> ?_,h1.kept.congr fun a y hy=> ?_,h1.ne,⟨vs,hv.row,hv.len,fun i hi=> ?_⟩,⟨fun k hk=> ?_,fun i j hi hj e=> ?_,fun i j hi hj hne x hx=> ?_⟩,h.ok.newFile _ (AbO 0),h1.lo⟩
 ·show PQ (BU _ _ _ _) 0=_;rw[C2 _ _ (h.ok.now.look hy).1]
 ·show PQ (BU _ _ _ _) 0=_;rw[C2 _ _ (h.ok.kept.look hy).1]
 ·refine(hv.at_ i hi).chg (B:=fun _=>False) (Abs _ _) (fun _ _ q=>q.elim) (C2 _ _ ?_);exact(h.ok.acts _ (by rw[AbN,AbT hi];exact Adu hi)).num
 ·rw[AbP,Ab7]at hk;by_cases e:k=D.files.length
  ·subst e;show FileAt base w' (BU _ _ _ _) (BU _ _ _ _) _;rw[C3,C3,AbN,AcA (AbO _),Ady];exact⟨hb,AcH _ _ _ 1,by omega⟩
  ·have hk' :k<D.files.length:=by omega
   show FileAt base w' (BU _ _ _ _) (BU _ _ _ _) _;rw[C2 _ _ hk',C2 _ _ hk',AbN,AcG hk',<-AbN];exact h1.files.at_ k hk'
 ·rw[AbP,Ab7]at hi hj;have lt:∀k,k<D.files.length->H.F k<w.heap.size:=fun k hk=>(h.foot (.inr (.inr (.inr (.inr ⟨k,hk, .inl rfl⟩))))).2.1;by_cases ei:i=D.files.length <;> by_cases ej:j=D.files.length
  ·omega
  ·exfalso;have e:BU H.F D.files.length f i=BU H.F D.files.length f j:=e;rw[ei,C3,C2 _ _ (by omega:j<D.files.length)]at e;have:=lt j (by omega);omega
  ·exfalso;have e:BU H.F D.files.length f i=BU H.F D.files.length f j:=e;rw[ej,C3,C2 _ _ (by omega:i<D.files.length)]at e;have:=lt i (by omega);omega
  ·have e:BU H.F D.files.length f i=BU H.F D.files.length f j:=e;rw[C2 _ _ (by omega:i<D.files.length),C2 _ _ (by omega:j<D.files.length)]at e;exact h.files.inj i j (by omega) (by omega) e
 ·rw[AbP,Ab7]at hi hj;have hx:(BU H.V D.files.length (.slice none 0 0) i).ownBlock=some x:=hx;show(BU H.V D.files.length (.slice none 0 0) j).ownBlock≠some x;by_cases ei:i=D.files.length
  ·rw[ei,C3]at hx;cases hx
  ·by_cases ej:j=D.files.length
   ·rw[ej,C3];exact fun q=>by cases q
   ·rw[C2 _ _ (by omega:i<D.files.length)]at hx;rw[C2 _ _ (by omega:j<D.files.length)];exact h.files.apart i j (by omega) (by omega) hne x hx
theorem DkS.setFile(h:DkS base w H D){k:Nat}(hk:k<D.files.length){v:AbI}{x:Ah5 × Nat}(hx:x.2<=x.1.length)(hc:Chg (fun i=>i=H.F k\/(H.V k).ownBlock=some i) w w')(hf:FileAt base w' (H.F k) v x)(hv:∀i,v.ownBlock=some i->(H.V k).ownBlock=some i\/w.heap.size<=i):
    DkS base w' { H with V:=BU H.V k v } { D with files:=D.files.set k x } :=by
  have hT:∀i,i<w.heap.size->(i=H.F k\/(H.V k).ownBlock=some i)->TyB w i:=fun i _ e=>e.elim (fun e=>e▸Dd (.inr (.inr (.inl (h.tF hk))))) fun e=>Dd (.inr (.inr (.inr (.inl (h.tV hk e)))));obtain⟨vs,hvs⟩:=h.acts;have ne0:∀ {i x:Nat},CT w i=some x->x≠133+1->x≠5+1->¬(i=H.F k\/(H.V k).ownBlock=some i):=fun e h1 h2 q=>q.elim (fun q=>by rw[q,h.tF hk]at e;exact h1 (Acu e).symm) fun q=>by rw[h.tV hk q]at e;exact h2 (Acu e).symm
  have off:∀j,j<D.files.length->j≠k->¬(H.F j=H.F k\/(H.V k).ownBlock=some (H.F j))/\∀i,(H.V j).ownBlock=some i->¬(i=H.F k\/(H.V k).ownBlock=some i):=fun j hj hne=>
    ⟨fun q=>q.elim (fun q=>hne (h.files.inj j k hj hk q)) fun q=>by have:=h.tV hk q;rw[h.tF hj]at this;exact absurd (Acu this) (by decide),
     fun i hi q=>q.elim (fun q=>by have:=h.tV hj hi;rw[q,h.tF hk]at this;exact absurd (Acu this) (by decide)) fun q=>h.files.apart j k hj hk hne i hi q⟩
  refine⟨(hc.blk _ (bl h.blk) (ne0 h.tg (by decide) (by decide))).trans h.blk,h.now.chg hc (ne0 h.now.tag (by decide) (by decide)),h.kept.chg hc (ne0 h.kept.tag (by decide) (by decide)),h.ne,
    ⟨vs,Du hc hvs.row (fun i hi=>ne0 (h.tA hi) (by decide) (by decide)),hvs.len,fun i hi=>(hvs.at_ i hi).chg hc hT rfl⟩,⟨fun j hj=> ?_,fun i j hi hj e=> ?_,fun i j hi hj hne y hy=> ?_⟩,h.ok.setFile k x hx,h.lo⟩
  · rw[Adq]at hj;by_cases e:j=k
    · subst e;show FileAt base w' (H.F j) (BU _ _ _ _) _;rw[C3,AbN,List.getElem?_set_self hj];exact hf
    · show FileAt base w' (H.F j) (BU _ _ _ _) _;rw[G9 _ _ e,AbN,List.getElem?_set_ne (fun q=>e q.symm),<-AbN];exact(h.files.at_ j hj).keep hc (off j hj e).1 (off j hj e).2
  · rw[Adq]at hi hj;exact h.files.inj i j hi hj e
  · rw[Adq]at hi hj;have hy:(BU H.V k v i).ownBlock=some y:=hy;show(BU H.V k v j).ownBlock≠some y;by_cases ei:i=k
    · have ej:j≠k:=fun q=>hne (ei.trans q.symm);rw[ei,C3]at hy;rw[G9 _ _ ej];intro q;rcases hv y hy with r | r
      · exact h.files.apart j k hj hk ej y q r
      · have:=(h.foot (.inr (.inr (.inr (.inr ⟨j,hj, .inr q⟩))))).2.1;omega
    · rw[G9 _ _ ei]at hy;by_cases ej:j=k
      · rw[ej,C3];intro q;rcases hv y q with r | r
        · exact h.files.apart i k hi hk ei y hy r
        · have:=(h.foot (.inr (.inr (.inr (.inr ⟨i,hi, .inr hy⟩))))).2.1;omega
      · rw[G9 _ _ ej];exact h.files.apart i j hi hj hne y hy
end
abbrev CX(s:Ah5):List AbI:= [St s]
abbrev E1(v:AbI):List AbI:= [v]
theorem NL(l:List Ah5):l.flatMap CX=l.map St:=by
 induction l with
 | nil=>rfl
 | cons a l ih=>rw[AcJ,Aco,ih];rfl
theorem NM(l:List AbI):l.flatMap E1=l:=by
 induction l with
 | nil=>rfl
 | cons a l ih=>rw[AcJ,ih];rfl
section
variable {P : Acg} {K : AbI -> AbJ -> Prop} {ρ : Ac} {w : AbJ} {d : Option Tmp} {ty : AbQ} {pos : String} {af : Array Edge} {gd : Option (Nat × Bool)}
theorem Yi{α:Type}{enc:α->List AbI}{t e:AbQ}{x:AbV}{a:α}{u:AbI}(hx:Aa ρ x=u)(hu:enc a= [u]) 
  (hr:∀w:AbJ,(Acq t 1 #[(0,u)]).run P w = .ok (.slice (some ⟨w.heap.size,0,none⟩) 1 1) (w.alloc (.cells #[u] e)))
  (hk:∀v w',RG 1 enc w' v [a]->Ext w w' ->K v w'):Yk P K ((execOp (Aa ρ) ⟨d, .buildSlice t 1 #[(0,x)],ty,pos,af,gd⟩).run P w):=by
 have hE:Ext w (w.alloc (.cells #[u] e)):=(AcB _ _).alloc (AbO _) _;have hb:(w.alloc (.cells #[u] e)).heap[w.heap.size]? =some (.cells ([u]:List AbI).toArray e (0,0)):=heap_alloc_new w _;refine Aa4 (v:= .slice (some ⟨w.heap.size,0,none⟩) 1 1) (w' :=w.alloc (.cells #[u] e)) ?_ (hk _ _ ⟨fun y hy=>by rw[AbW.1 hy,hu];rfl,by simp[hu],_,1,rfl,AbO _,by simp[maxLen],(fun hq=>by cases hq),fun q hq j z hz=> ?_⟩ hE)
 ·unfold execOp;simp only[Acp,Aco,Acz,hx,AbY,hr,AbU,Ab1]
 ·cases hq;rw[Addr.add_lit,Ac2];exact cellAt hb (by simpa [hu] using hz)
end
abbrev A1(n:Int):List AbI:= [.int .i64 n]
def readyL(d:Af)(l:List Ah5):Nat:=if d.down=true then 9 else if l.all Bk=true then 0 else 10
theorem GQ{d:Af}{l:List Ah5}(h:d.down=true):readyL d l=9:=if_pos h
theorem IF{d:Af}{l:List Ah5}(h:d.down=false)(h2:l.all Bk=true):readyL d l=0:=(if_neg (by rw[h];decide)).trans (if_pos h2)
theorem Qx{d:Af}{l:List Ah5}{i:Nat}(h:d.down=false)(hi:i<l.length)(hm:Bk (l.getD i [])=false):readyL d l=10:=by
 refine(if_neg (by rw[h];decide)).trans (if_neg fun ha=> ?_);have:=Acx.1 ha (l.getD i []) (by rw[AbN,AbT hi];exact Adu hi);rw[hm]at this;cases this
theorem TH{l:List Ah5}{i:Nat}(hi:i<l.length)(h:(l.take i).all Bk=true)(hm:Bk (l.getD i [])=true):(l.take (i+1)).all Bk=true:=by
 rw[Acn hi,Ag6,h];rw[AbN,AbT hi]at hm
 simpa using hm
theorem TI:Tryz.prog.underlying 50=some (.pointer 107):=by kernel_rfl
theorem OL:A4 AbL 107 6 6:=fun b o w=>by simp[go_sem]
theorem NN:Tryz.prog.underlying 56=some (.slice 9):=by kernel_rfl
theorem TJ:∀w' :AbJ,(sizeOf 9).run AbL w' = .ok 1 w' :=fun _=>by kernel_rfl
theorem Sp:Plain AbL 101:=fun _ _=>by kernel_rfl
theorem VD(w:AbJ)(s:Ah5):
  Calls AbL 101 #[St s] w fun e w' =>e = .returned (.bool (Bk s))/\Ext w w' :=by
 refine Rh (args:= [St (s)]) Tryz.func101 rfl 11 rfl rfl ?_;have hE:=AaY w;refine gS (YI (l:=s) Pi rfl (gS (XQ (a:=(s.length:Nat)) (b:=(1:Nat)) rfl rfl (Ek _ _ _ _) (gO fun _=>DY (St (s)) rfl rfl (gT rfl) (fun hG3=>Aa7 rfl ⟨rfl,rfl⟩) (M3 (gO fun _=>DY (NI s.length) rfl rfl (gT rfl) (fun hG4=>YI (l:=s) Pi (JC rfl hG4) ⟨rfl,rfl⟩) (M3 (gO fun _=>DY (.bool (decide ((s.length)<=(80)))) rfl rfl (gT rfl) (fun hG5=>XQ (a:=((s.length:Nat):Int)) (b:=((80:Nat):Int)) (JC rfl hG5) rfl (Dw _ .i64 (s.length) (80)) ⟨rfl,rfl⟩) (M3 (gS (ZP rfl (fun hA=>(JC rfl hA)) rfl fun bb6 hbb7=>(Bp rfl (vr (.bool (bb6)) rfl) ?_))))))))))));subst hbb7;exact⟨rfl,hE⟩
theorem Dv(base:Nat)(w:AbJ)(H:Dk)(D:Af)(hS:DkS base w H D)(v:AbI)(l:List Ah5)(hr:RG 1 CX w v l)(hl:l.length<4611686018427387904):
  Calls AbL 56 #[PQ H.g 0,v] w fun e w' =>e = .returned (NI (readyL D l))/\Ext w w' :=by
 have hb:=hS.blk;have hgl:=(bl hb);refine gG (args:= [PQ H.g 0,v]) Tryz.func56 rfl 23 rfl rfl ?_;have hE:=AaY w;refine gS (Ye TI rfl (cF rfl (gS (Aa1 rfl (gS (Aa0 OL rfl (gS (XP JO rfl rfl (cellAt hb rfl) ?_))))))));refine cB (D.down) rfl (fun c=> ?_) fun c=> ?_
 ·refine Bp rfl (vr (NI 9) rfl) ?_;exact⟨by rw[GQ (by simpa using c)],hE⟩
 refine gS (X6 NN (XW hr rfl) (gL (fun(ρ:Ac) (wz:AbJ)=>∃i:Nat,ρ 0=(PQ H.g 0:AbI)/\ρ 1=(v:AbI)/\ρ 8=(.bool (false):AbI)/\ρ 13=(v:AbI)/\ρ 14=(NI l.length:AbI)/\ρ 15=(NI i:AbI)/\RG 1 CX wz v l/\wz.heap[H.g]? =some (.cells (Jr (D.quota) (H.mn) (H.ml) (H.va) (D.refused) (D.arm) (D.down)).toArray 107 (0,0))/\Ext w wz/\(i<=l.length)/\((l.take i).all Bk=true)/\True) (fun ρ _=>l.length-(intOf (ρ 15)).toNat) ⟨0,rfl,rfl,rfl,rfl,rfl,rfl,hr,hb,hE,Ack _,rfl,trivial⟩ ?_));clear hr hb hE;rintro p t ⟨i,q,r,s,k,m,f,hr,hb,hE,hi,hn,-⟩;have q15:=f;refine gS (XQ (a:=(i:Nat)) (b:=(l.length:Nat)) f m (AK _ _ _ _) ?_);refine cD rfl (fun n=> ?_) fun n=> ?_
 ·have hlt:i<l.length:=n;have u:(CX (l.getD (i) ([]:Ah5))).length=1:=(Aa6 hr ([]:Ah5) (by omega));refine gS (X9 NN TJ (by decide) ([]:Ah5) (XW hr k) f (by omega) fun x o=>(gS (X4 Pi rfl (Abd (Yc o rfl) rfl) ?_)));clear o;refine gS (XX Sp rfl ((VD _ (l.getD (i) ([]:Ah5))).mono ?_));rintro e y ⟨rfl,h⟩;refine⟨_,rfl,?_⟩;refine gS (Yz rfl ?_);refine cB (!(Bk (l.getD (i) ([]:Ah5)))) rfl (fun j=> ?_) fun j=> ?_
  ·have hm:Bk (l.getD i [])=false:=by simpa using j
   refine Bp rfl (vr (NI 10) rfl) ?_;have hE:=hE.trans h;exact⟨by rw[Qx (by simpa using c) hlt hm],hE⟩
  have hm:Bk (l.getD i [])=true:=by simpa using j
  have hr:=hr.keep h;have hb:=eb h hb;have hE:=hE.trans h;refine gS (XR (xv:=NI i) (yv:=NI 1) f rfl rfl (Ah _ _ _ (by omega)) (gK (And.intro ⟨i+1,q,r,s,k,m,rfl,hr,hb,hE,by omega,TH hlt hn hm,trivial⟩ ?_)));show l.length-(intOf (NI ((i)+(1)))).toNat<l.length-(intOf (p 15)).toNat;rw[q15];simp only[intOf,Int.toNat_natCast];omega
 refine Bp rfl (vr (NI 0) rfl) ?_;exact⟨by rw[IF (by simpa using c) (by rw[AcD (by omega)]at hn;exact hn)],hE⟩
theorem Sq{n:Nat}{l:BZ}(h:DirOk n l):(l.map Aci).Nodup:=
 AfE _ (fun a b q e=>by rw[e,Fz]at q;cases q) h.sort
theorem VE{n:Nat}{l:BZ}(h:DirOk n l)(a:Ah5)(y:Nat):Aw l a=some y↔(a,y)∈l:=⟨Ed,fun q=>I8 h.sort q⟩
theorem TK{α:Type}(f:α->Nat){l:List α}{a:α}{r:List α}(h:l.Perm (a :: r)):(l.map f).sum=f a+(r.map f).sum:=by
 have:=(h.map f).sum_nat;rw[this,Aco,List.sum_cons]
theorem OM:A4 AbL 107 1 1:=fun b o w=>by simp[go_sem]
theorem LZ:Tryz.prog.underlying 104=some (.map 9 113):=by kernel_rfl
theorem ON:A4 AbL 133 0 0:=fun b o w=>by simp[go_sem]
theorem Lj(base:Nat)(w:AbJ)(H:Dk)(D:Af)(hS:DkS base w H D)(hU:usedD D<4611686018427387904):
  Calls AbL 57 #[PQ H.g 0] w fun e w' =>e = .returned (NI (usedD D))/\Ext w w' :=by
 have hb:=hS.blk;have hgl:=(bl hb);refine gG (args:= [PQ H.g 0]) Tryz.func57 rfl 23 rfl rfl ?_;have hE:=AaY w;refine gS (Aa1 rfl (gS (Aa0 OM rfl (gS (XP LZ rfl rfl (cellAt (eb hE hb) rfl) (gS (Aat (fun a c=>C7) LZ rfl (hS.keep hE).now (Sq hS.ok.now) (VE hS.ok.now) fun b u v j l x=> ?_)))))));have hI11:=j;clear j;have hgi:=MIt.lt hI11;have hE:=hE.trans l;refine gL (fun(ρ:Ac) (wz:AbJ)=>∃left:List (Ah5 × Nat),∃s:Nat,ρ 0=(PQ H.g 0:AbI)/\ρ 2=(NI 0:AbI)/\ρ 10=(PQ b 0:AbI)/\ρ 3=(NI s:AbI)/\Ext w wz/\MIt St (pF H.F) wz b H.mn left/\(∀p∈left,p∈D.now)/\(s+(left.map fun e=>(AY D e.2).1.length).sum=usedD D)/\True) (fun ρ wz=>YR wz b) ⟨D.now,0,rfl,rfl,rfl,rfl,hE,hI11,fun p hp=>hp,Ac2 _,trivial⟩ ?_;clear hI11;clear hE;rintro y m ⟨left,s,n,o,f,k,hE,hI,hsub,htot,-⟩;by_cases i:left= []
 ·refine gS (ZT f hI i (gS (AaZ (vs:= [.bool (false)]) rfl rfl (cF rfl (Bp rfl k ?_)))));exact⟨by rw[i]at htot;rw[<-htot];rfl,hE⟩
 refine gS (Aab f hI i fun a18 y19 rest20 q h hI23 r t z=> ?_);have hm0:=Zz hI;clear hI;have hI:=hI23;clear hI23;have hgi:=MIt.lt hI;have hmem:(a18,y19)∈D.now:=hsub _ (h.mem_iff.2 AcT);have hyl:=hS.ok.now.num _ hmem;have hfl:=hS.files.at_ y19 hyl;have hsum:(left.map fun e=>(AY D e.2).1.length).sum=(D.files.getD y19 ([],0)).1.length+(rest20.map fun e=>(AY D e.2).1.length).sum:=TK _ h;have hfb:=hfl.blk;have hfr:RB w (H.V y19) (D.files.getD y19 ([],0)).1:=Ya hfl.row;have hE:=Ab hE t (AbM (AbO _) (by omega));refine gS (AaZ (vs:= [.bool (true),St (a18), .pointer (some ⟨(H.F y19),0,none⟩)]) rfl rfl (cT rfl (gS (Aau f r (gS (AaZ (vs:= [St (a18), .pointer (some ⟨(H.F y19),0,none⟩)]) rfl rfl (gS (Aa1 rfl (gS (Aa0 ON rfl (gS (XP F7 rfl rfl (cellAt (eb hE hfb) rfl) (gS (XZ F7 (XV (hfr.keep hE) rfl) (gS (XR (xv:=NI s) (yv:=NI (((D.files.getD y19 ([],0)).1:Ah5).length)) k rfl rfl (Ah _ _ _ (by have:=hU;rw[hsum]at htot;omega)) (gK (And.intro ⟨rest20,s+(D.files.getD y19 ([],0)).1.length,n,o,f,rfl,hE,hI,fun p hp=>hsub p (h.mem_iff.2 (AcW _ hp)),by rw[hsum]at htot;exact(Nat.add_assoc _ _ _).trans htot,trivial⟩ ?_))))))))))))))))));show YR q b<YR m b;rw[Zz hI,hm0,h.length_eq];simp
section
variable {P : Acg} {K : AbI -> AbJ -> Prop} {ρ : Ac} {w : AbJ} {d : Option Tmp} {ty : AbQ} {pos : String} {af : Array Edge} {gd : Option (Nat × Bool)}
theorem KN(w:AbJ)(t tx ty e:AbQ)(i:TypeInfo)(z:AbI)(size bytes:Nat)(ht:P.underlying t=some (.slice e))(hi:P.info? e=some i)(hz:i.zero=some z) 
  (hsize:i.size=size) (hby:i.bytes=bytes) (hzs:z.cells.size=size) (a:Addr) (n:Nat) (xs:List AbI) (hxs:xs.length=n*size) (hc:∀j u,xs[j]? =some u->w.cell? (a.add j)=some u)
  (x:AbI) (m:Nat) (news:List AbI) (hs:Src P size tx x m news w) (hm:0<m) (h63:n+m<=maxLen) (hbytes:(n+m)*bytes<=140737488355328):
  ∃v' w',(Builtin.append_ #[t,tx] ty #[.slice (some a) n n,x]).run P w = .ok v' w' /\w'.ownsRow w.heap.size e size v' (n+m) (xs++news)/\Ext w w' :=by
 subst hsize;subst hby
 have hsmall:n+m<=9223372036854775807:=by simp only[maxLen]at h63;omega
 have hl:=hs.newsLen;have hlen:(xs++news).length=(n+m)*i.size:=by rw[AbP,hxs,hl,Aee]
 have hge:=grownCap_ge w (n+m) n e;have hcm:grownCap w (n+m) n e<=maxLen:=grownCap_le_maxLen w (n+m) n e h63;have hr:=run_append_grow_src (P:=P) w t tx ty e i z ht hi hz (some a) n n xs (run_firstCells_some w.drew i.size n a n n xs hxs (by simpa using hc)) x m news hs (by omega) (by omega) (growslice_fits (by omega) hbytes);refine⟨_,_,hr,⟨hlen, .inr ⟨w.heap.size,_,_,rfl,AbO _,heap_alloc_new w.drew _,hge,hcm,?_,?_⟩⟩,(AcB _ _).grown ((AbF w (AbR none 0 0)).drew.alloc _).by_ (AbO _) (fun _ e=>by simp[AbS]at e)⟩
 ·simp only[Array.size_append,Ab4,size_zeroCells,hzs,hlen,<-Aee]
  congr 1
  omega
 ·simp only[Array.toList_append];rw[<-hlen];exact List.take_left
def FullG{α:Type}(k:Nat)(enc:α->List AbI)(w:AbJ)(v:AbI)(l:List α):Prop:=(v = .slice none 0 0/\l= [])\/∃a,v = .slice (some a) l.length l.length/\RG k enc w v l
theorem FullG.keep{α:Type}{k:Nat}{enc:α->List AbI}{w w' :AbJ}{v:AbI}{l:List α}(h:FullG k enc w v l)(hE:Ext w w'):FullG k enc w' v l:=h.imp id fun⟨a,h1,h2⟩=>⟨a,h1,h2.keep hE⟩
theorem FullG.rg{α:Type}{k:Nat}{enc:α->List AbI}{w:AbJ}{v:AbI}{l:List α}(h:FullG k enc w v l):RG k enc w v l:=by
 rcases h with ⟨rfl,rfl⟩ | ⟨a,h1,h2⟩
 ·exact Abv _ _ _
 ·exact h2
theorem YV{α:Type}{k:Nat}{enc:α->List AbI}{t tx e e' :AbQ}{z:AbI}{bytes:Nat}(ht:P.underlying t=some (.slice e))(hi:(P.info? e).map (fun i=>(i.zero,i.size,i.bytes))=some (some z,k,bytes))(hzs:z.cells.size=k)(hu:P.underlying tx=some (.slice e')) 
  (h1:∀x:α,∀u∈enc x,u.oneCell' =true) {s x:AbV} {v y:AbI} {l m:List α} (hs:Aa ρ s=v) (h:FullG k enc w v l) (hx:Aa ρ x=y) (hy:RG k enc w y m) (hm:0<m.length) (hlen:(l.length+m.length)*bytes<=140737488355328) (hlen2:l.length+m.length<=maxLen)
  (hk:∀v' w',OG w.heap.size e k enc w' v' (l++m)->Ext w w' ->K v' w'):Yk P K ((execOp (Aa ρ) ⟨d, .call ⟨.builtin .append,#[s,x],#[t,tx]⟩,ty,pos,af,gd⟩).run P w):=by
 obtain⟨i,hi0,hi1⟩:=Option.map_eq_some_iff.1 hi;have hz:i.zero=some z:=congrArg Aci hi1;have hsz:i.size=k:=congrArg (fun q=>q.2.1) hi1;have hby:i.bytes=bytes:=congrArg (fun q=>q.2.2) hi1;have hsrc:Src P k tx y m.length (m.flatMap enc) w:=by
  obtain⟨q1,q2,ao,cap,rfl,q3,q4,q5,q6⟩:=hy;cases ao with
  | none=>exact absurd (q5 rfl).1 (by omega)
  | some a=>exact Src.ofSlice w hu a _ cap _ q2 (q6 a rfl) fun u hu=>let ⟨x,_,hx⟩:=List.mem_flatMap.1 hu;h1 x u hx
 have hlen' :∀ {xs:List α},(∀x∈xs,(enc x).length=k)->(xs.flatMap enc).length=xs.length*k:=fun {xs} hxs=>by
  induction xs with
  | nil=>simp
  | cons a r ih=>rw[AcJ,AbP,hxs a AcT,ih fun x hx=>hxs x (AcW _ hx),Ach,Aee,Nat.one_mul,Nat.add_comm]
 have hall:∀x∈l++m,(enc x).length=k:=fun x hx=>(Acb.1 hx).elim (h.rg.1 x) (hy.1 x);have fin:∀v' w',(Builtin.append_ #[t,tx] ty #[v,y]).run P w = .ok v' w' ->w'.ownsRow w.heap.size e k v' (l.length+m.length) (l.flatMap enc++m.flatMap enc)->Ext w w' ->Yk P K ((execOp (Aa ρ) ⟨d, .call ⟨.builtin .append,#[s,x],#[t,tx]⟩,ty,pos,af,gd⟩).run P w):=fun v' w' hr ho hE=>by
  refine Aa4 (v:=v') (w' :=w') ?_ (hk v' w' ⟨hall,by rw[AbP,AeC];exact ho⟩ hE);unfold execOp;simp only[resolve,invoke,builtin,AbY,Ab1,AbU,Acp,Aco,Acz,hs,hx,hr]
 rcases h with ⟨rfl,rfl⟩ | ⟨a,hv,hr⟩
 ·obtain⟨v',w',hr,ho,hg⟩:=E7 (P:=P) w w.heap.size t tx ty e i z k bytes ht hi0 hz hsz hby hzs (.slice none 0 0) 0 [] (AcH _ _ _ _) y m.length _ hsrc (by simpa using hlen2) (by simpa using hlen) (AbO _);exact fin v' w' hr (by simpa using ho) ((AcB _ _).grown hg.by_ (AbO _) fun _ q=>by simp[AbS]at q)
 ·obtain⟨-,q2,ao,cap,q3,-,-,-,q6⟩:=id hr;rw[hv]at q3;cases q3;obtain⟨v',w',hr',ho,hE⟩:=KN (P:=P) (ty:=ty) w t tx e i z k bytes ht hi0 hz hsz hby hzs a l.length _ q2 (q6 a rfl) y m.length _ hsrc hm hlen2 hlen;exact fin v' w' (by rw[hv];exact hr') ho hE
end
theorem Fb:KL AbL 9 (MapKept.IsKey .string):=ZH (by kernel_rfl)
theorem Er(a:Ah5)(_:Nm a):MapKept.IsKey .string (St a):=trivial
theorem Ja(u:AbJ):(zeroValue 113).run AbL u = .ok (.pointer none) u:=by kernel_rfl
def Eu(d:Af)(ms:List Ah5)(s:Ah5):Except Nat Nat:=if readyL d (ms++ [s])≠0 then .error (readyL d (ms++ [s]))else match Aw d.now s with | some k=> .ok k | none=> .error 4
def XD(H:Dk):Except Nat Nat->AbI
 | .ok k=>PQ (H.F k) 0
 | .error _=> .pointer none
def XE:Except Nat Nat->Nat
 | .ok _=>0
 | .error e=>e
theorem Qy{d:Af}{ms:List Ah5}{s:Ah5}(h:readyL d (ms++ [s])=0):Bk s=true:=by
 unfold readyL at h;split at h
 ·cases h
 ·split at h
  ·rename_i h2
   rw[Ag6]at h2;simp only[AcQ,Ago,List.all_nil,Bool.and_true]at h2;exact h2.2
  ·cases h
theorem JS(z:ByteArray)(w:AbJ):(Acq 56 1 #[(0, .string z)]).run AbL w = .ok (.slice (some ⟨w.heap.size,0,none⟩) 1 1) (w.alloc (.cells #[.string z] 9)):=by kernel_rfl
theorem Lk:(Tryz.prog.info? 9).map (fun i=>(i.zero,i.size,i.bytes))=some (some (.string ⟨#[]⟩),1,16):=by kernel_rfl
theorem JT:Plain AbL 56:=fun _ _=>by kernel_rfl
theorem L0:Tryz.prog.underlying 113=some (.pointer 133):=by kernel_rfl
theorem Ha(base:Nat)(w:AbJ)(H:Dk)(D:Af)(hS:DkS base w H D)(s:Ah5)(v:AbI)(ms:List Ah5)(hF:FullG 1 CX w v ms)(hl:ms.length<=1):
  Calls AbL 77 #[PQ H.g 0,St s,v] w fun e w' =>e = .returned (.tuple #[XD H (Eu D ms s),NI (XE (Eu D ms s))])/\Ext w w' :=by
 have hb:=hS.blk;have hgl:=(bl hb);refine gG (args:= [PQ H.g 0,St (s),v]) Tryz.func77 rfl 28 rfl rfl ?_;have hE:=AaY w;by_cases c:readyL D (ms++ [s])≠0
 ·have hV:Eu D ms s = .error (readyL D (ms++ [s])):=if_pos c;refine gS (Yi (a:=s) (enc:=CX) (vr (St (s)) rfl) rfl (fun w=>JS _ w) fun n w5 o p=> ?_);have hE:=hE.trans p;refine gS (YV NN Lk rfl NN (fun y u hu=>by rw[AbW.1 hu];rfl) (vr v rfl) (hF.keep hE) (vr n rfl) o (by simp) (by simp;omega) (by simp[maxLen];omega) fun q w9 r t=> ?_);have ak:=hE.size;have hE:=hE.trans t;refine gS (XS JT rfl rfl ((Dv base _ H D (hS.keep hE) q (ms++ [s]) (X1 r) (by simp;omega)).mono ?_));rintro e al ⟨rfl,x⟩;refine⟨_,rfl,?_⟩;refine gS (XQ (a:=(readyL D (ms++ [s]):Nat)) (b:=(0:Nat)) rfl rfl (AV _ _ _ _) (kT (by omega) (cT rfl (BA rfl (vr (.pointer none) rfl) (vr (NI (readyL D (ms++ [s]))) rfl) ?_))));have hE:=hE.trans x;exact⟨by rw[hV];rfl,hE⟩
 have z:readyL D (ms++ [s])=0:=Classical.not_not.1 c;have hm:=Qy z;rcases hlk:Aw D.now s with _ | k
 ·have hV:Eu D ms s = .error 4:=by unfold Eu;rw[if_neg c,hlk]
  refine gS (Yi (a:=s) (enc:=CX) (vr (St (s)) rfl) rfl (fun w=>JS _ w) fun aa am ab f=> ?_);have hE:=hE.trans f;refine gS (YV NN Lk rfl NN (fun y u hu=>by rw[AbW.1 hu];rfl) (vr v rfl) (hF.keep hE) (vr aa rfl) ab (by simp) (by simp;omega) (by simp[maxLen];omega) fun ac an ad h=> ?_);have ao:=hE.size;have hE:=hE.trans h;refine gS (XS JT rfl rfl ((Dv base _ H D (hS.keep hE) ac (ms++ [s]) (X1 ad) (by simp;omega)).mono ?_));rintro e ap ⟨rfl,i⟩;refine⟨_,rfl,?_⟩;have hb:=eb ((f.trans h).trans i) hb;have hE:=hE.trans i;refine gS (XQ (a:=(readyL D (ms++ [s]):Nat)) (b:=(0:Nat)) rfl rfl (AV _ _ _ _) (kF (by omega) (cF rfl (gS (Aa1 rfl (gS (Aa0 OM rfl (gS (XP LZ rfl rfl (cellAt hb rfl) (gS (Za Fb Er (fun _ _=>C7) LZ Ja rfl rfl (hS.keep hE).now (by have:=Cv hm;exact this.2) hlk (gS (Ye L0 rfl (kB (rfl) (cT rfl (BA rfl (vr (.pointer none) rfl) (vr (NI 4) rfl) ?_))))))))))))))));exact⟨by rw[hV];rfl,hE⟩
 have hV:Eu D ms s = .ok k:=by unfold Eu;rw[if_neg c,hlk]
 refine gS (Yi (a:=s) (enc:=CX) (vr (St (s)) rfl) rfl (fun w=>JS _ w) fun ae aq af j=> ?_);have hE:=hE.trans j;refine gS (YV NN Lk rfl NN (fun y u hu=>by rw[AbW.1 hu];rfl) (vr v rfl) (hF.keep hE) (vr ae rfl) af (by simp) (by simp;omega) (by simp[maxLen];omega) fun ag ar ah l=> ?_);have au:=hE.size;have hE:=hE.trans l;refine gS (XS JT rfl rfl ((Dv base _ H D (hS.keep hE) ag (ms++ [s]) (X1 ah) (by simp;omega)).mono ?_));rintro e av ⟨rfl,m⟩;refine⟨_,rfl,?_⟩;have hb:=eb ((j.trans l).trans m) hb;have hE:=hE.trans m;refine gS (XQ (a:=(readyL D (ms++ [s]):Nat)) (b:=(0:Nat)) rfl rfl (AV _ _ _ _) (kF (by omega) (cF rfl (gS (Aa1 rfl (gS (Aa0 OM rfl (gS (XP LZ rfl rfl (cellAt hb rfl) (gS (YM Fb Er (fun _ _=>C7) LZ Ja rfl rfl (hS.keep hE).now (by have:=Cv hm;exact this.2) hlk (gS (Ye L0 rfl (kB (rfl) (cF rfl (BA rfl (vr (.pointer (some ⟨(H.F k),0,none⟩)) rfl) (vr (NI 0) rfl) ?_))))))))))))))));exact⟨by rw[hV];rfl,hE⟩
theorem U9{α β:Type}{ek:α->AbI}{ev:β->AbI}{D:α->Prop}{w w' :AbJ}{m:Nat}{G:α->Option β}(h:MapF ek ev D w m G)(hg:w.grownBy w' (some m)){b:Nat}{cs:Array AbI}{t:AbQ}{fr:Nat × Nat}(hb:w.heap[b]? =some (.cells cs t fr)):w'.heap[b]? =some (.cells cs t fr):=
 kb hg hb fun e=>by obtain⟨es,c,h1,-⟩:=h;rw[e,h1]at hb;cases hb
theorem VF{ev:Nat->AbI}(w:AbJ)(m:Nat)(G:Ah5->Option Nat)(hM:MapF St ev Nm w m (G))(bf bn fk k:Nat)(to:Ah5)(h1:w.heap[bf]? =some (.cells ([PQ fk 0]).toArray 113 (0,0)))(h2:w.heap[bn]? =some (.cells ([St to]).toArray 9 (0,0)))(hev:PQ fk 0=ev k)(ht:Nm to):
  Calls AbL 141 #[.map (some m),PQ bf 0,PQ bn 0] w fun e w' =>e = .returned (.tuple #[])/\MapF St ev Nm w' m (updM G to (some k))/\w.grownBy w' (some m):=by
 have a:=Ac7 w (some m);refine gG (args:= [.map (some m),PQ bf 0,PQ bn 0]) Tryz.func141 rfl 7 rfl rfl ?_;have hE:=AaY w;refine gS (XP Pi rfl rfl (cellAt h2 rfl) (gS (XP L0 rfl rfl (cellAt h1 rfl) (gS (YG (ev:=ev) (c:=k) Fb Er LZ (vr (.map (some m)) rfl) (vr (St (to)) rfl) (Eq.trans ((vr (PQ fk 0) rfl)) hev) (hM.keep hE) ht fun w1 hM2 b f=> ?_)))));have h1:w1.heap[bf]? =some (.cells ([PQ fk 0]).toArray 113 (0,0)):=U9 hM b h1;have h2:w1.heap[bn]? =some (.cells ([St to]).toArray 9 (0,0)):=U9 hM b h2;have a:w.grownBy w1 (some m):=Ak a b (fun _ e=> .inl e);clear hE;have hM:=hM2;clear hM2;refine rt0 rfl ?_;exact⟨rfl,hM,a⟩
theorem VG{ev:Nat->AbI}(w:AbJ)(m:Nat)(G:Ah5->Option Nat)(hM:MapF St ev Nm w m (G))(bs:Nat)(frm:Ah5)(h3:w.heap[bs]? =some (.cells ([St frm]).toArray 9 (0,0)))(hf:Nm frm):
  Calls AbL 95 #[.map (some m),PQ bs 0] w fun e w' =>e = .returned (.tuple #[])/\MapF St ev Nm w' m (updM G frm none)/\w.grownBy w' (some m):=by
 have a:=Ac7 w (some m);refine gG (args:= [.map (some m),PQ bs 0]) Tryz.func95 rfl 5 rfl rfl ?_;have hE:=AaY w;refine gS (XP Pi rfl rfl (cellAt h3 rfl) (gS (Zu Fb Er (fun _ _=>C7) LZ rfl rfl (hM.keep hE) hf fun w1 hM2 b c=> ?_)));have h3:w1.heap[bs]? =some (.cells ([St frm]).toArray 9 (0,0)):=U9 hM b h3;have a:w.grownBy w1 (some m):=Ak a b (fun _ e=> .inl e);clear hE;have hM:=hM2;clear hM2;refine rt0 rfl ?_;exact⟨rfl,hM,a⟩
theorem TL{n:Nat}{l:BZ}(h:DirOk n l)(a:CR)(hn:a.to.length≠0):updM (updM (Aw l) a.frm none) a.to (some a.file)=Aw (turnD l a):=by
 funext t
 rw[look_turn,if_neg hn];unfold updM;rfl
theorem Sr{n:Nat}{l:BZ}(h:DirOk n l)(a:CR)(hn:a.to.length≠0)(hf:a.frm= []):updM (Aw l) a.to (some a.file)=Aw (turnD l a):=by
 rw[<-TL h a hn]
 funext t
 unfold updM;by_cases ht:t=a.to
 ·rw[if_pos ht,if_pos ht]
 ·rw[if_neg ht,if_neg ht];by_cases h2:t=a.frm
  ·rw[if_pos h2,h2,hf,h.noEmpty]
  ·rw[if_neg h2]
theorem Ss{l:BZ}(a:CR)(hn:a.to= []):updM (Aw l) a.frm none=Aw (turnD l a):=by
 funext t
 rw[look_turn,if_pos (by rw[hn];rfl)];unfold updM;rfl
theorem TM{w:AbJ}{F:Nat->Nat}{v:AbI}{a:CR}(h:ActAt w F v a){m n:Nat}{l:BZ}(hM:MapF St (pF F) Nm w m (Aw l))(hl:DirOk n l)(ha:ActOk n a):
  ∃f caps,v = .func (.func f) #[] caps/\Plain AbL f/\Calls AbL f (#[.map (some m)]++caps) w fun e w' =>e = .returned (.tuple #[])/\MapF St (pF F) Nm w' m (Aw (turnD l a))/\w.grownBy w' (some m):=by
 rcases h with ⟨bf,bn,e,h1,h2,h3,h4⟩ | ⟨hm,bs,bf,bn,e,h1,h2,h3,h4⟩ | ⟨bn,e,h1,h2⟩
 ·refine⟨_,_,e,fun _ _=>by kernel_rfl,?_⟩;have:=VF (ev:=pF F) w m _ hM bf bn (F a.file) a.file a.to h1 h2 rfl (Cv (ha.may h4)).2;rw[Sr hl a h4 h3]at this;exact this
 ·exact(show False from hm).elim
 ·refine⟨_,_,e,fun _ _=>by kernel_rfl,?_⟩;have:=VG (ev:=pF F) w m _ hM bn a.frm h1 ha.frm;rw[Ss a h2]at this;exact this
theorem getD_left{α:Type}{l r:List α}{i:Nat}{x:α}(h:i<l.length):(l++r).getD i x=l.getD i x:=by rw[AbN,AcG h,<-AbN]
theorem GC{α:Type}{l:List α}{a x:α}:(l++ [a]).getD l.length x=a:=by rw[AbN,AcA (AbO _),Ady];rfl
section
variable {base : Nat} {w w' : AbJ} {H : Dk} {D : Af}
theorem Cw{w:AbJ}{i j x y:Nat}(h:CT w i=some x)(k:CT w j=some y)(hx:x≠y):i≠j:=fun e=>by rw[e,k]at h;exact hx (Acu h).symm
theorem DkS.turned(h:DkS base w H D){a:CR}(ha:ActOk D.files.length a){v:AbI}(hat:ActAt w H.F v a){vs:List AbI}(hvs:NK base w H.va H.F D.acts vs){va' :AbI} 
  (hc:Chg (fun i=>i=H.mn\/i=H.g\/H.va.ownBlock=some i) w w') (hm:MapF St (pF H.F) Nm w' H.mn (Aw (turnD D.now a)))
  (hb:w'.heap[H.g]? =some (.cells (Jr D.quota H.mn H.ml va' D.refused D.arm D.down).toArray 107 (0,0))) (hr:w'.ownsRow base 131 1 va' (vs++ [v]).length (vs++ [v])):
  DkS base w' { H with va:=va' } (turnedD D a):=by
 have hT:∀i,i<w.heap.size->(i=H.mn\/i=H.g\/H.va.ownBlock=some i)->TyB w i:=fun i _ e=>by
  rcases e with e | e | e
  ·exact e▸Dd (.inl h.now.tag)
  ·exact e▸Dd (.inr (.inl h.tg))
  ·exact Dd (.inr (.inr (.inr (.inr (h.tA e)))))
 have ne0:∀ {i x:Nat},CT w i=some x->x≠0->x≠107+1->x≠131+1->¬(i=H.mn\/i=H.g\/H.va.ownBlock=some i):=fun e h0 h1 h2 q=>by
  rcases q with q | q | q
  ·rw[q,h.now.tag]at e;exact h0 (Acu e).symm
  ·rw[q,h.tg]at e;exact h1 (Acu e).symm
  ·rw[h.tA q]at e;exact h2 (Acu e).symm
 refine⟨hb,hm,h.kept.chg hc fun q=> ?_,h.ne,⟨vs++ [v],hr,?_,fun i hi=> ?_⟩,h.files.chg hc (fun k hk=>⟨ne0 (h.tF hk) (by decide) (by decide) (by decide),fun i hi=>ne0 (h.tV hk hi) (by decide) (by decide) (by decide)⟩),h.ok.turned ha,h.lo⟩
 ·rcases q with q | q | q
  ·exact h.ne q.symm
  ·exact Cw h.kept.tag h.tg (by decide) q
  ·exact Cw h.kept.tag (h.tA q) (by decide) rfl
 ·show(vs++ [v]).length=(D.acts++ [a]).length;rw[AbP,AbP,hvs.len];rfl
 ·show ActAt w' H.F ((vs++ [v]).getD i undef) ((D.acts++ [a]).getD i _);rw[show(turnedD D a).acts.length=D.acts.length+1 by show(D.acts++ [a]).length=_;simp]at hi;have hl:=hvs.len;by_cases e:i<D.acts.length
  ·rw[getD_left (by omega:i<vs.length),getD_left e];exact(hvs.at_ i e).chg hc hT rfl
  ·obtain rfl:i=D.acts.length:=by omega
   rw[GC,<-hl,GC];exact hat.chg hc hT rfl
theorem DkS.synced(h:DkS base w H D){ml' :Nat}(hc:Chg (fun i=>i=H.g) w w')(hn:w.heap.size<=ml')(hm:MapF St (pF H.F) Nm w' ml' (Aw D.now))(h0:base<=w.heap.size) 
  (hb:w'.heap[H.g]? =some (.cells (Jr D.quota H.mn ml' (.slice none 0 0) D.refused D.arm D.down).toArray 107 (0,0))):
  DkS base w' { H with ml:=ml',va:= .slice none 0 0 } { D with kept:=D.now,acts:= [] } :=by
 have ne0:∀ {i x:Nat},CT w i=some x->x≠107+1->i≠H.g:=fun e hx=>Cw e h.tg hx;have hlt:=h.now.lt;exact⟨hb,h.now.chg hc (ne0 h.now.tag (by decide)),hm,fun(q:H.mn=ml')=>by omega,⟨[],AcH _ _ _ 1,rfl,fun i hi=>absurd hi (Ads _)⟩,
  h.files.chg hc (fun k hk=>⟨ne0 (h.tF hk) (by decide),fun i hi=>ne0 (h.tV hk hi) (by decide)⟩),⟨h.ok.now,h.ok.now,fun a ha=>(by cases ha),h.ok.syn⟩,⟨h.lo.1,h.lo.2.1,AbM h0 hn⟩⟩
structure DkT (base : Nat) (w : AbJ) (H : Dk) (D : Af) (w' : AbJ) (H' : Dk) (D' : Af) : Prop where
 st:DkS base w' H' D'
 g:H'.g=H.g
 chg:Chg (B3 H D.files.length) w w'
 foot:∀i,B3 H' D'.files.length i->B3 H D.files.length i\/w.heap.size<=i
theorem DkT.refl(h:DkS base w H D):DkT base w H D w H D:=⟨h,rfl,Abs _ _,fun _ q=> .inl q⟩
theorem DkT.trans{w2:AbJ}{H1 H2:Dk}{D1 D2:Af}(h:DkT base w H D w' H1 D1)(k:DkT base w' H1 D1 w2 H2 D2):DkT base w H D w2 H2 D2:=
 ⟨k.st,k.g.trans h.g,h.chg.trans k.chg h.foot,fun i q=>(k.foot i q).elim (h.foot i) fun r=> .inr (AbM h.chg.size r)⟩
theorem DkT.keep{w2:AbJ}{H1:Dk}{D1:Af}(h:DkT base w H D w' H1 D1)(k:Ext w' w2):DkT base w H D w2 H1 D1:=⟨h.st.keep k,h.g,h.chg.keep k,h.foot⟩
theorem RB.chg{B:Nat->Prop}{v:AbI}{l:Ah5}(h:RB w v l)(hc:Chg B w w')(hB:l= []\/∀i,v.ownBlock=some i->¬B i):RB w' v l:=by
 obtain⟨h1,ao,cap,rfl,h2,h3,h4,h5⟩:=h;refine⟨h1,ao,cap,rfl,h2,h3,h4,fun a ha j u hu=> ?_⟩;have hl:=h5 a ha j u hu;have hlt:=Ada w _ hl;rcases hB with rfl | hB
 ·simp[AbK]at hu
 ·have hn:¬B (a.add j).block:=hB _ (by rw[ha];obtain⟨a1,a2,a3⟩:=a;simp only[AbS,Addr.add];split <;> rfl);have hb:=hc.blk _ hlt hn;unfold World.cell? at hl ⊢;rw[hb];exact hl
theorem DkS.offT(h:DkS base w H D){b:Nat}{cs:Array AbI}{t:AbQ}{fr:Nat × Nat}(hb:w.heap[b]? =some (.cells cs t fr))(h1:t≠107)(h2:t≠133)(h3:t≠5)(h4:t≠131):¬B3 H D.files.length b:=fun q=>TyB.off hb h1 h2 h3 h4 (h.foot q).1
theorem DkT.box{H1:Dk}{D1:Af}(h:DkT base w H D w' H1 D1)(h0:DkS base w H D){b:Nat}{cs:Array AbI}{t:AbQ}{fr:Nat × Nat}(hb:w.heap[b]? =some (.cells cs t fr))(h1:t≠107)(h2:t≠133)(h3:t≠5)(h4:t≠131):w'.heap[b]? =some (.cells cs t fr):=
 (h.chg.blk b (bl hb) (h0.offT hb h1 h2 h3 h4)).trans hb
abbrev Abn:=@DkT.box
theorem DkS.setFileT(h:DkS base w H D){k:Nat}(hk:k<D.files.length){v:AbI}{x:Ah5 × Nat}(hx:x.2<=x.1.length)(hc:Chg (fun i=>i=H.F k\/(H.V k).ownBlock=some i) w w')(hf:FileAt base w' (H.F k) v x)(hv:∀i,v.ownBlock=some i->(H.V k).ownBlock=some i\/w.heap.size<=i):
  DkT base w H D w' { H with V:=BU H.V k v } { D with files:=D.files.set k x } :=
 ⟨h.setFile hk hx hc hf hv,rfl,hc.mono fun i _ e=> .inr (.inr (.inr (.inr ⟨k,hk,e⟩))),fun i hi=>by
  rcases hi with e | e | e | e | ⟨j,hj,e⟩
  ·exact .inl (.inl e)
  ·exact .inl (.inr (.inl e))
  ·exact .inl (.inr (.inr (.inl e)))
  ·exact .inl (.inr (.inr (.inr (.inl e))))
  ·have hj:j<D.files.length:=by have:j<(D.files.set k x).length:=hj;rwa [Adq]at this
   rcases e with e | e
   ·exact .inl (.inr (.inr (.inr (.inr ⟨j,hj, .inl e⟩))))
   ·by_cases ej:j=k
    ·have e:(BU H.V k v j).ownBlock=some i:=e;rw[ej,C3]at e;exact(hv i e).imp (fun q=> .inr (.inr (.inr (.inr ⟨k,hk, .inr q⟩)))) id
    ·have e:(BU H.V k v j).ownBlock=some i:=e;rw[G9 _ _ ej]at e;exact .inl (.inr (.inr (.inr (.inr ⟨j,hj, .inr e⟩))))⟩
theorem DkS.newFileT(h:DkS base w H D)(hE:Ext w w'){f:Nat}(hf:w.heap.size<=f)(hb:w'.heap[f]? =some (.cells ([.slice none 0 0,NI 0]).toArray 133 (0,0)))(h0:base<=w.heap.size):
  DkT base w H D w' { H with F:=BU H.F D.files.length f,V:=BU H.V D.files.length (.slice none 0 0) } { D with files:=D.files++ [([],0)] } :=
 ⟨h.newFile hE hf hb h0,rfl,YU hE,fun i hi=>by
  rcases hi with e | e | e | e | ⟨j,hj,e⟩
  ·exact .inl (.inl e)
  ·exact .inl (.inr (.inl e))
  ·exact .inl (.inr (.inr (.inl e)))
  ·exact .inl (.inr (.inr (.inr (.inl e))))
  ·have hj:j<D.files.length+1:=by have:j<(D.files++ [(([]:Ah5),0)]).length:=hj;rwa [AbP]at this
   by_cases ej:j=D.files.length
   ·rcases e with e | e
    ·have e:i=BU H.F D.files.length f j:=e;rw[ej,C3]at e;exact .inr (e▸hf)
    ·have e:(BU H.V D.files.length (.slice none 0 0) j).ownBlock=some i:=e;rw[ej,C3]at e;cases e
   ·have hj' :j<D.files.length:=by omega
    rcases e with e | e
    ·have e:i=BU H.F D.files.length f j:=e;rw[C2 _ _ hj']at e;exact .inl (.inr (.inr (.inr (.inr ⟨j,hj', .inl e⟩))))
    ·have e:(BU H.V D.files.length (.slice none 0 0) j).ownBlock=some i:=e;rw[C2 _ _ hj']at e;exact .inl (.inr (.inr (.inr (.inr ⟨j,hj', .inr e⟩))))⟩
theorem DkS.setBlkT(h:DkS base w H D)(hg:w.grownBy w' (some H.g)){q rf ar:Nat}{dn:Bool}(hb:w'.heap[H.g]? =some (.cells (Jr q H.mn H.ml H.va rf ar dn).toArray 107 (0,0))):DkT base w H D w' H { D with quota:=q,refused:=rf,arm:=ar,down:=dn } :=
 ⟨h.setBlk hg hb,rfl,Yj hg fun i e=> .inl (.inl (Acu e).symm),fun i hi=> .inl hi⟩
theorem DkS.syncedT(h:DkS base w H D){ml' :Nat}(hc:Chg (fun i=>i=H.g) w w')(hn:w.heap.size<=ml')(hm:MapF St (pF H.F) Nm w' ml' (Aw D.now))(h0:base<=w.heap.size) 
  (hb:w'.heap[H.g]? =some (.cells (Jr D.quota H.mn ml' (.slice none 0 0) D.refused D.arm D.down).toArray 107 (0,0))):
  DkT base w H D w' { H with ml:=ml',va:= .slice none 0 0 } { D with kept:=D.now,acts:= [] } :=
 ⟨h.synced hc hn hm h0 hb,rfl,hc.mono fun i _ e=> .inl e,fun i hi=>by
  rcases hi with e | e | e | e | e
  ·exact .inl (.inl e)
  ·exact .inl (.inr (.inl e))
  ·exact .inr ((show i=ml' from e)▸hn)
  ·cases(show(none:Option Nat)=some i from e)
  ·exact .inl (.inr (.inr (.inr (.inr e))))⟩
end
theorem AaP{P:Acg}{K:AbI->AbJ->Prop}{ρ:Ac}{w:AbJ}{d:Option Tmp}{ty:AbQ}{pos:String}{af:Array Edge}{gd:Option (Nat × Bool)}{f:FuncId}{c x:AbV}{v y:AbI}{caps:Array AbI}{R:AbJ->Prop}{at_:Array AbQ}(hp:Plain P f)(hc:Aa ρ c=v)(hve:v = .func (.func f) #[] caps)(hx:Aa ρ x=y) 
  (h:Calls P f (#[y]++caps) w fun e w' =>e = .returned (.tuple #[])/\R w') (hk:∀w',R w' ->K (.tuple #[]) w'):Yk P K ((execOp (Aa ρ) ⟨d, .call ⟨.value c,#[x],at_⟩,ty,pos,af,gd⟩).run P w):=
 YT hp (hc.trans hve) _ (by simp[hx]) (h.mono fun e w' q=>⟨_,q.1,hk w' q.2⟩)
theorem Xg{base:Nat}{w w' :AbJ}{H:Dk}{D:Af}(h:DkS base w H D)(hg:w.grownBy w' (some H.mn)){vs:List AbI}(hr:OG base 131 1 E1 w H.va vs):OG base 131 1 E1 w' H.va vs:=
 hr.kept hg fun q=>Cw h.now.tag (h.tA q) (by decide) rfl
theorem OO{base:Nat}{w w' :AbJ}{H:Dk}{D:Af}(h:DkS base w H D){a:CR}(ha:ActOk D.files.length a){v:AbI}(hat:ActAt w H.F v a){vs:List AbI}(hvs:NK base w H.va H.F D.acts vs){va' :AbI} 
  (hc:Chg (fun i=>i=H.mn\/i=H.g\/H.va.ownBlock=some i) w w') (hm:MapF St (pF H.F) Nm w' H.mn (Aw (turnD D.now a)))
  (hb:w'.heap[H.g]? =some (.cells (Jr D.quota H.mn H.ml va' D.refused D.arm D.down).toArray 107 (0,0))) (hr:w'.ownsRow base 131 1 va' (vs++ [v]).length (vs++ [v]))
  (hv:∀i,va'.ownBlock=some i->H.va.ownBlock=some i\/w.heap.size<=i):DkT base w H D w' { H with va:=va' } (turnedD D a):=
 ⟨h.turned ha hat hvs hc hm hb hr,rfl,hc.mono fun i _ e=>e.elim (fun e=> .inr (.inl e)) fun e=>e.elim .inl fun e=> .inr (.inr (.inr (.inl e))),fun i hi=>by
  rcases hi with e | e | e | e | e
  ·exact .inl (.inl e)
  ·exact .inl (.inr (.inl e))
  ·exact .inl (.inr (.inr (.inl e)))
  ·exact(hv i e).imp (fun e=> .inr (.inr (.inr (.inl e)))) id
  ·exact .inl (.inr (.inr (.inr (.inr e))))⟩
theorem Js:A4 AbL 107 3 3:=fun b o w=>by simp[go_sem]
theorem IG:Tryz.prog.underlying 105=some (.slice 131):=by kernel_rfl
theorem Su(f:Fn)(a:Array AbI)(c:Array AbI)(w:AbJ):(Acq 105 1 #[(0, .func f a c)]).run AbL w = .ok (.slice (some ⟨w.heap.size,0,none⟩) 1 1) (w.alloc (.cells #[.func f a c] 131)):=by kernel_rfl
theorem dw5_ig131:∃z,(Tryz.prog.info? 131).map (fun i=>(i.zero,i.size,i.bytes))=some (some z,1,8)/\z.cells.size=1:=E8 (by kernel_rfl)
theorem Qz:(Tryz.prog.info? 105).map (·.size)=some 1:=by kernel_rfl
theorem Pj(w0 w:AbJ)(b:Ext w0 w)(H:Dk)(D:Af)(hS:DkS w0.heap.size w H D)(v:AbI)(a:CR)(ha:ActOk D.files.length a)(hat:ActAt w H.F v a)(hn:D.acts.length<1099511627776):
  Calls AbL 94 #[PQ H.g 0,v] w fun e w' =>∃va',e = .returned (.tuple #[])/\DkT w0.heap.size w H D w' { H with va:=va' } (turnedD D a):=by
 have hb:=hS.blk;have hgl:=(bl hb);have hsz0:=b.size;have hmnl:=hS.lo.2.1;have hgl0:=hS.lo.1;have h:=hS;obtain⟨vs,hvs⟩:=hS.acts;have hvl:=hvs.len;have hrow:OG w0.heap.size 131 1 E1 w H.va vs:=⟨fun _ _=>rfl,by rw[NM];exact hvs.row⟩;have hvg:H.va.ownBlock≠some H.g:=fun q=>Cw hS.tg (hS.tA q) (by decide) rfl;obtain⟨f,caps,hve,hpl,hcl⟩:=TM hat hS.now hS.ok.now ha;refine gG (args:= [PQ H.g 0,v]) Tryz.func94 rfl 20 rfl rfl ?_;have hE:=AaY w;refine gS (Aa1 rfl (gS (Aa0 OM rfl (gS (XP LZ rfl rfl (cellAt hb rfl) (gS (AaP hpl rfl hve rfl hcl fun w2 hR3=> ?_)))))));have hb:w2.heap[H.g]? =some (.cells (Jr (D.quota) (H.mn) (H.ml) (H.va) (D.refused) (D.arm) (D.down)).toArray 107 (0,0)):=U9 hS.now hR3.2 hb;have hrow:OG w0.heap.size 131 1 (E1) w2 H.va vs:=Xg hS hR3.2 hrow;have b:=Ab b hR3.2 (AbM (AbO _) (by omega));clear hE;have hC:Chg (fun i=>i=H.g\/H.va.ownBlock=some i) w2 w2:=Abs _ _;refine gS (Aa1 rfl (gS (Aa0 Js rfl (gS (XP IG rfl rfl (cellAt hb rfl) (gS (Yi (a:=(v)) (enc:=E1) (vr v rfl) rfl (fun w=>by rw[hve];exact Su _ _ _ w) fun t n o k=> ?_)))))));have hC:Chg (fun i=>i=H.g\/H.va.ownBlock=some i) w2 n:=(hC.keep k);have hrow:=hrow.keep k;have b:=b.trans k;refine gS (X7 _ _ w0.heap.size _ 8 IG dw5_ig131.choose_spec.1 dw5_ig131.choose_spec.2 IG (vs) ([(v)]) (Abf hrow (vr H.va rfl)) (XW o (vr t rfl)) (fun y hy u hu=>by rw[AbW.1 hu,AbW.1 hy,hve];rfl) (by simp;omega) (by simp;omega) b.size fun l p j c=> ?_);have c:Grew n p H.va l:=c;have hb:=eb k hb;have x:OB l H.g:=Ap c hvg (bl hb);have hb:=Ar hb c hvg;have b:=Ao b c hrow.2 (AbO _);have hvf:=fun i e=>(c.fresh i e).imp id (fun q=>AbM (AbM hR3.2.size hC.size) q);have hC:Chg (fun i=>i=H.g\/H.va.ownBlock=some i) w2 p:=Chg.grew hC c (fun i e=> .inl (.inr e));clear o;clear hrow;refine gS (Aa1 rfl (gS (Aa0 Js rfl (gS (X5 (i:=3) (v:=l) rfl rfl hb (Ab2 rfl) Qz (B7 j.2).1 (B7 j.2).2 fun m r s z=> ?_)))));clear b;have hC:Chg (fun i=>i=H.g\/H.va.ownBlock=some i) w2 m:=AbA hC s (.inl (.inl rfl));clear hb;have hb:=r;clear r;have aa:=bl hb;refine rt0 rfl ?_;have hC0:Chg (fun i=>i=H.mn\/i=H.g\/H.va.ownBlock=some i) w m:=((Yj hR3.2 (fun i e=> .inl (.inl (Acu e).symm)):Chg (fun i=>i=H.mn\/i=H.g\/H.va.ownBlock=some i) w w2)).trans hC (fun i e=> .inl (.inr e));have hmf:=hR3.1.chg hC (fun q=>q.elim (fun q=>Cw h.now.tag h.tg (by decide) q) (fun q=>Cw h.now.tag (h.tA q) (by decide) rfl));have j:=Abc j s x;have hown:m.ownsRow w0.heap.size 131 1 l (vs++ [v]).length (vs++ [v]):=by have:=j.2;rw[NM]at this;exact this
 exact⟨_,rfl,OO h ha hat hvs hC0 hmf hb hown hvf⟩
open Go.Shelf Go.RowKit
def QA:Ae1:=⟨fun | 5=>71 | 7=>122 | n=>n,fun | 23=>104 | 25=>9 | 3=>113 | 4=>4 | 20=>20 | n=>n,fun | n=>n⟩
theorem WK:Go.Proofs.SlLaysW.n5 AbL QA:= {
  mixed:=by kernel_rfl
  f5:=⟨Tryz.f71.name,by decide,Tryz.func71.trans (congrArg some (by kernel_rfl))⟩
  f7:=Tryz.func122.trans (congrArg some (by kernel_rfl))
  t4:=Afb
  a4:=Ahd
  z4:=AgU
  v4:=Af0
  t20:=Tryz.underlying20
  a20:=Tryz.isAgg20
  z20:=Tryz.sizeOf20
  v20:=Tryz.zeroValue20
  t23:=Tryz.underlying104
  a23:=Tryz.isAgg104
  z23:=Tryz.sizeOf104
  v23:=Tryz.zeroValue104 }
def L1:Ae1:=⟨fun | 7=>59 | 10=>104 | n=>n,fun | 23=>104 | 26=>9 | 3=>113 | 28=>111 | 0=>0 | 27=>110 | 33=>139 | 4=>4 | n=>n,fun | n=>n⟩
theorem Va:Go.Proofs.SlLaysZ.n7 AbL L1:= {
  mixed:=by kernel_rfl
  f7:=⟨Tryz.f59.name,by decide,Tryz.func59.trans (congrArg some (by kernel_rfl))⟩
  f10:=⟨Tryz.f104.name,by decide,Tryz.func104.trans (congrArg some (by kernel_rfl))⟩
  t0:=Afc
  a0:=Agi
  z0:=Af1
  v0:=Afl
  t4:=Afb
  a4:=Ahd
  z4:=AgU
  v4:=Af0
  t23:=Tryz.underlying104
  a23:=Tryz.isAgg104
  z23:=Tryz.sizeOf104
  v23:=Tryz.zeroValue104
  t26:=Aed
  a26:=Afi
  z26:=Ae2
  v26:=Aem
  t27:=Tryz.underlying110
  a27:=Tryz.isAgg110
  z27:=Tryz.sizeOf110
  v27:=Tryz.zeroValue110
  t28:=Agk
  a28:=Ahy
  z28:=Ahk
  v28:=Agz
  t33:=Tryz.underlying139
  a33:=Tryz.isAgg139
  z33:=Tryz.sizeOf139
  v33:=Tryz.zeroValue139 }
def Jt:Ae1:=⟨fun | 6=>58 | 8=>102 | 9=>103 | 11=>148 | 13=>150 | 12=>149 | 23=>194 | 24=>195 | 14=>185 | 15=>186 | 16=>187 | 17=>188 | 18=>189 | 19=>190 | 20=>191 | 21=>192 | 22=>193 | 25=>215 | 26=>216 | 27=>217 | 28=>218 | 29=>219 | 30=>220 | 31=>223 | n=>n,fun | 26=>9 | 28=>111 | 24=>56 | 0=>0 | 3=>3 | 37=>184 | 48=>181 | 50=>228 | 4=>4 | 40=>276 | 39=>275 | 45=>193 | 5=>5 | 9=>9 | 51=>307 | 55=>311 | 57=>317 | 58=>297 | 33=>139 | n=>n,fun | n=>n⟩
theorem Pk:Go.Proofs.SlLaysZ.n6 AbL Jt:= {
  mixed:=by kernel_rfl
  f6:=⟨Tryz.f58.name,by decide,Tryz.func58.trans (congrArg some (by kernel_rfl))⟩
  f8:=⟨Tryz.f102.name,by decide,Tryz.func102.trans (congrArg some (by kernel_rfl))⟩
  f11:=⟨Tryz.f148.name,by decide,Tryz.func148.trans (congrArg some (by kernel_rfl))⟩
  t0:=Afc
  a0:=Agi
  z0:=Af1
  v0:=Afl
  t24:=AgA
  a24:=AhV
  z24:=Ahz
  v24:=AgV
  t26:=Aed
  a26:=Afi
  z26:=Ae2
  v26:=Aem
  t28:=Agk
  a28:=Ahy
  z28:=Ahk
  v28:=Agz
  i26:=by kernel_rfl }
def Sv:Ae1:=⟨fun | 6=>103 | 8=>150 | 9=>149 | 19=>194 | 20=>195 | 21=>185 | 22=>186 | 23=>187 | 24=>188 | 25=>189 | 26=>190 | 27=>191 | 28=>192 | 29=>193 | 36=>215 | 31=>216 | 32=>217 | 37=>218 | 38=>219 | 39=>220 | 41=>223 | n=>n,fun | 27=>56 | 29=>9 | 3=>3 | 32=>184 | 26=>56 | 0=>0 | 44=>181 | 46=>228 | 4=>4 | 36=>276 | 35=>275 | 41=>193 | 5=>5 | 9=>9 | 53=>307 | 57=>311 | 63=>317 | 64=>297 | n=>n,fun | n=>n⟩
theorem Vb:Go.Proofs.SlLaysM.n6 AbL Sv:= {
  mixed:=by kernel_rfl
  f6:=⟨Tryz.f103.name,by decide,Tryz.func103.trans (congrArg some (by kernel_rfl))⟩
  f8:=Tryz.func150.trans (congrArg some (by kernel_rfl))
  f9:=⟨Tryz.f149.name,by decide,Tryz.func149.trans (congrArg some (by kernel_rfl))⟩
  f19:=Tryz.func194.trans (congrArg some (by kernel_rfl))
  f20:=Tryz.func195.trans (congrArg some (by kernel_rfl))
  f21:=⟨Tryz.f185.name,by decide,Tryz.func185.trans (congrArg some (by kernel_rfl))⟩
  f22:=⟨Tryz.f186.name,by decide,Tryz.func186.trans (congrArg some (by kernel_rfl))⟩
  f23:=⟨Tryz.f187.name,by decide,Tryz.func187.trans (congrArg some (by kernel_rfl))⟩
  f24:=⟨Tryz.f188.name,by decide,Tryz.func188.trans (congrArg some (by kernel_rfl))⟩
  f25:=⟨Tryz.f189.name,by decide,Tryz.func189.trans (congrArg some (by kernel_rfl))⟩
  f26:=⟨Tryz.f190.name,by decide,Tryz.func190.trans (congrArg some (by kernel_rfl))⟩
  f27:=⟨Tryz.f191.name,by decide,Tryz.func191.trans (congrArg some (by kernel_rfl))⟩
  f28:=⟨Tryz.f192.name,by decide,Tryz.func192.trans (congrArg some (by kernel_rfl))⟩
  f29:=⟨Tryz.f193.name,by decide,Tryz.func193.trans (congrArg some (by kernel_rfl))⟩
  f31:=Tryz.func216.trans (congrArg some (by kernel_rfl))
  f32:=Tryz.func217.trans (congrArg some (by kernel_rfl))
  f36:=⟨Tryz.f215.name,by decide,Tryz.func215.trans (congrArg some (by kernel_rfl))⟩
  f37:=⟨Tryz.f218.name,by decide,Tryz.func218.trans (congrArg some (by kernel_rfl))⟩
  f38:=⟨Tryz.f219.name,by decide,Tryz.func219.trans (congrArg some (by kernel_rfl))⟩
  f39:=⟨Tryz.f220.name,by decide,Tryz.func220.trans (congrArg some (by kernel_rfl))⟩
  f41:=⟨Tryz.f223.name,by decide,Tryz.func223.trans (congrArg some (by kernel_rfl))⟩
  t0:=Afc
  a0:=Agi
  z0:=Af1
  v0:=Afl
  t3:=AgW
  a3:=Ah3
  z3:=AhW
  v3:=Ag7
  t4:=Afb
  a4:=Ahd
  z4:=AgU
  v4:=Af0
  t5:=Afa
  a5:=Ah4
  z5:=AhX
  v5:=Ag8
  t9:=Aed
  a9:=Afi
  z9:=Ae2
  v9:=Aem
  t26:=AgA
  a26:=AhV
  z26:=Ahz
  v26:=AgV
  t27:=AgA
  a27:=AhV
  z27:=Ahz
  v27:=AgV
  t29:=Aed
  a29:=Afi
  z29:=Ae2
  v29:=Aem
  t32:=Tryz.underlying184
  a32:=Tryz.isAgg184
  z32:=Tryz.sizeOf184
  v32:=Tryz.zeroValue184
  t35:=Tryz.underlying275
  a35:=Tryz.isAgg275
  z35:=Tryz.sizeOf275
  v35:=Tryz.zeroValue275
  t36:=Tryz.underlying276
  a36:=Tryz.isAgg276
  z36:=Tryz.sizeOf276
  v36:=Tryz.zeroValue276
  t41:=Tryz.underlying193
  a41:=Tryz.isAgg193
  z41:=Tryz.sizeOf193
  v41:=Tryz.zeroValue193
  t44:=Tryz.underlying181
  a44:=Tryz.isAgg181
  z44:=Tryz.sizeOf181
  v44:=Tryz.zeroValue181
  t46:=Tryz.underlying228
  a46:=Tryz.isAgg228
  z46:=Tryz.sizeOf228
  v46:=Tryz.zeroValue228
  t53:=Tryz.underlying307
  a53:=Tryz.isAgg307
  z53:=Tryz.sizeOf307
  v53:=Tryz.zeroValue307
  t57:=Tryz.underlying311
  a57:=Tryz.isAgg311
  z57:=Tryz.sizeOf311
  v57:=Tryz.zeroValue311
  t63:=Tryz.underlying317
  a63:=Tryz.isAgg317
  z63:=Tryz.sizeOf317
  v63:=Tryz.zeroValue317
  t64:=Tryz.underlying297
  a64:=Tryz.isAgg297
  z64:=Tryz.sizeOf297
  v64:=Tryz.zeroValue297 }
open Go.RowKit Go.Shelf
theorem Sw(w:AbJ){F:Nat->Nat}{b:Nat}{G:Ah5->Option Nat}(h:MapF St (pF F) Nm w b G):
  Calls AbL 71 #[.map (some b)] w fun e w' =>∃n,e = .returned (.map (some n))/\w.heap.size<=n/\MapF St (pF F) Nm w' n G/\Ext w w' :=by
 obtain⟨es,c,hb,hI⟩:=h;have h0:=AnyW.maps_Clone WK b es.toArray c w hb;change Calls _ 71 _ _ _ at h0;refine h0.mono fun e w' ⟨he,hw⟩=>⟨w.heap.size,he,AbO _,⟨es,c,by rw[hw];exact heap_alloc_new _ _,hI⟩,by rw[hw];exact(AcB _ _).alloc (AbO _) _⟩
theorem Sx(m:Nat):AnyZ.SortsIn AbL Jt Fence.wide m:=
 ⟨fun blk off cap ss W hH hblk hsz=>callsIn_wide.2 (AnyM.slices_Sort_string Vb blk off cap ss W hH hblk hsz),fun p cap W=>callsIn_wide.2 (AnyM.slices_Sort_string_none Vb p cap W)⟩
theorem TN(w:AbJ)(b:Nat):Calls AbL 59 #[.map (some b)] w fun e w' =>e = .returned (.func (.func 104) #[] #[.pointer (some ⟨w.heap.size,0,none⟩)])/\w' =w.alloc (.cells #[.map (some b)] 104):=by
 have h:=AnyZ.keys_in Va Fence.wide 5 trivial rfl (some b) w;exact callsIn_wide.1 h
theorem QB{n:Nat}{l:BZ}(h:DirOk n l){ss:List Ah5}(hp:ss.Perm (l.map Aci)):ss.mergeSort (fun x y=>decide (x<=y))=l.map Aci:=by
 have h1:=mergeSort_of_perm hp;refine h1.trans (List.mergeSort_of_pairwise ?_);refine h.sort.map _ fun a b q=> ?_;rw[bytesLess_eq,decide_eq_true_eq]at q;simp only[decide_eq_true_eq];exact List.le_of_lt q
set_option maxHeartbeats 1000000 in
theorem QC(w w2:AbJ){F:Nat->Nat}{b n:Nat}{l:BZ}(hw:w2=w.alloc (.cells #[.map (some b)] 104))(h:MapF St (pF F) Nm w b (Aw l))(hl:DirOk n l)(hlen:l.length<1099511627776):
  Calls AbL 58 #[.func (.func 104) #[] #[.pointer (some ⟨w.heap.size,0,none⟩)]] w2 fun e w' =>∃v,e = .returned v/\OG w2.heap.size 9 1 CX w' v (l.map Aci)/\Ext w2 w' :=by
 subst hw;obtain⟨D0,hown,hperm,hsize⟩:=h.owns (P:=AbL) (k:=9) (by kernel_rfl) (fun a q=>AbM q (by decide)) (keys:=l.map Aci) (AfE _ (fun a b q e=>by rw[e,Fz]at q;cases q) hl.sort) (fun s=>by
  constructor
  ·intro q;obtain⟨y,hy⟩:=Option.isSome_iff_exists.1 q;exact Acw.2 ⟨(s,y),Ed hy,rfl⟩
  ·intro q;obtain⟨e,he,rfl⟩:=Acw.1 q;rw[I8 hl.sort he];rfl) (by rw[Ab9];simp only[maxLen];omega)
 rw[Ab9]at hsize;have hbl:=hown.lt;have hseq:SeqGives Fence.wide 2 AbL 104 #[.pointer (some ⟨w.heap.size,0,none⟩)] encStr (fun ss=>ss.Perm (strKeys D0)) (Maps.size D0) (w.alloc (.cells #[.map (some b)] 104)):=
  AnyZ.keys_gives (ρ:=L1) { Va with } Fence.wide _ trivial rfl (by omega) w.heap.size b _ D0 _ (by simp) (by simp) (by
   obtain⟨es,clock,hb,Ft,hs,hD⟩:=hown;exact⟨es,clock,(Below.heap_alloc _ _ b hbl).trans hb,Ft,hs,hD⟩)
 have hS:=AnyZ.sorted_in Pk Fence.wide 5 trivial trivial trivial trivial rfl (by omega) (Sx _) (enters_of Tryz.func103 (by kernel_rfl) rfl) 104 #[.pointer (some ⟨w.heap.size,0,none⟩)] trivial (enters_of Tryz.func104 (by kernel_rfl) rfl) _ _ (by rw[hsize];simp only[maxLen];omega) (by rw[hsize];omega) _ hseq;refine(callsIn_wide.1 hS).mono fun e w' q=> ?_;obtain⟨v,ss,he,hp,hrow,-,hB⟩:=q;refine⟨v,he,⟨fun _ _=>rfl,?_⟩,hB⟩;have hs:=QB hl (hp.trans hperm);rw[hs]at hrow;rw[NL];have hlen:ss.length=(l.map Aci).length:=(hp.trans hperm).length_eq;rw[hlen]at hrow;exact hrow
theorem VH(w0 w:AbJ)(b:Ext w0 w)(H:Dk)(D:Af)(hS:DkS w0.heap.size w H D)(g:Nat)(hg:H.g=g)(v:AbI)(a:CR)(ha:ActOk D.files.length a)(hat:ActAt w H.F v a)(hn:D.acts.length<1099511627776):
  Calls AbL 94 #[PQ g 0,v] w fun e w' =>∃va',e = .returned (.tuple #[])/\DkT w0.heap.size w H D w' { H with va:=va' } (turnedD D a):=by
 subst hg;exact Pj w0 w b H D hS v a ha hat hn
theorem TO{base:Nat}{w w' :AbJ}{H H1:Dk}{D D1:Af}(h:DkT base w H D w' H1 D1){v:AbI}{b:Ah5}(hr:RB w v b)(ho:b= []\/∀i,v.ownBlock=some i->¬B3 H D.files.length i):b= []\/∀i,v.ownBlock=some i->¬B3 H1 D1.files.length i:=by
 rcases ho with h0 | ho
 ·exact .inl h0
 ·by_cases hb:b= []
  ·exact .inl hb
  ·refine .inr fun i hi q=> ?_;rcases h.foot i q with q | q
   ·exact ho i hi q
   ·have:=RB.lt hr (List.length_pos_iff.2 hb) hi;omega
theorem YN{base:Nat}{w w' :AbJ}{H:Dk}{D:Af}(h:DkS base w H D)(hE:Ext w w'):DkT base w H D w' H D:=⟨h.keep hE,rfl,YU hE,fun _ q=> .inl q⟩
theorem VI{D:Af}{s b:Ah5}{k:Nat}(h:Aw D.now s=some k):Cd D s b = { D with files:=D.files.set k ((D.files.getD k ([],0)).1++b,(D.files.getD k ([],0)).2) } :=by unfold Cd;rw[h];rfl
theorem VJ{D:Af}{s b:Ah5}(h:Aw D.now s=none): { turnedD { D with files:=D.files++ [([],0)] } ⟨[],s,D.files.length⟩with files:=(turnedD { D with files:=D.files++ [([],0)] } ⟨[],s,D.files.length⟩).files.set D.files.length (((turnedD { D with files:=D.files++ [([],0)] } ⟨[],s,D.files.length⟩).files.getD D.files.length ([],0)).1++b,((turnedD { D with files:=D.files++ [([],0)] } ⟨[],s,D.files.length⟩).files.getD D.files.length ([],0)).2) } = Cd D s b:=by
 unfold Cd;rw[h];have h1:(turnedD { D with files:=D.files++ [([],0)] } ⟨[],s,D.files.length⟩).files=D.files++ [([],0)]:=rfl;rw[h1,GC];have h2:(D.files++ [(([]:Ah5),0)]).set D.files.length ([]++b,0)=D.files++ [(b,0)]:=by
  rw[Ac9 _ _ (AbO _),Ady];rfl
 rw[h2];rfl
theorem GD{α:Type}{l:List α}{k:Nat}{d:α}(h:k<l.length):l.getD k d∈l:=by rw[AbN,AbT h];exact Adu h
theorem NO:Plain AbL 94:=fun _ _=>by kernel_rfl
theorem OP:A4 AbL 133 1 1:=fun b o w=>by simp[go_sem]
theorem TP:Plain AbL 71:=fun _ _=>by kernel_rfl
theorem OQ:A4 AbL 107 2 2:=fun b o w=>by simp[go_sem]
theorem QD:(Tryz.prog.info? 104).map (·.size)=some 1:=by kernel_rfl
theorem Sz{d:Option Tmp}{ty:AbQ}{pos:String}{af:Array Edge}{gd:Option (Nat × Bool)}(σ:AbV->AbI)(w:AbJ):(execOp σ ⟨d, .alloc 113,ty,pos,af,gd⟩).run AbL w = .ok (.value (PQ w.heap.size 0)) (w.alloc (.cells ([.pointer none]).toArray 113)):=by kernel_rfl
theorem QE:(Tryz.prog.info? 113).map (·.size)=some 1:=by kernel_rfl
theorem Xh(w0 w:AbJ)(a:Ext w0 w)(H:Dk)(D:Af)(hS:DkS w0.heap.size w H D)(bd bs k:Nat)(s:Ah5)(hbd:w.heap[bd]? =some (.cells ([PQ H.g 0]).toArray 50 (0,0)))(h3:w.heap[bs]? =some (.cells ([St s]).toArray 9 (0,0)))(hk:k<D.files.length)(hs:Bk s=true)(hn:D.acts.length<1099511627776):
  Calls AbL 93 #[PQ bd 0,PQ bs 0] w fun e w' =>∃H',e = .returned (.tuple #[])/\DkT w0.heap.size w H D w' H' (turnedD D ⟨s,[],k⟩):=by
 have hb:=hS.blk;have hgl0:=hS.lo.1;have hsz0:=a.size;refine gG (args:= [PQ bd 0,PQ bs 0]) Tryz.func93 rfl 5 rfl rfl ?_;have hE:=AaY w;refine gS (XP TI rfl rfl (cellAt hbd rfl) (gS (Yx (vs:= #[PQ bs 0]) (by simp only[Acp,Aco,Acz];exact congrArg Adh (PJ (vr (PQ bs 0) rfl))) (gS (XS NO rfl rfl ((Pj w0 _ a H D (hS.keep hE) (.func (.func 95) #[] #[PQ bs 0]) ⟨s,[],k⟩ ⟨hk,fun q=>absurd rfl q,(Cv hs).2⟩ (.inr (.inr ⟨bs,rfl,h3,rfl⟩)) hn).mono ?_))))));rintro e w1 ⟨va2,rfl,hT⟩;refine⟨_,rfl,?_⟩;refine rt0 rfl ?_;exact⟨_,rfl,hT⟩
theorem Xi(w0 w:AbJ)(f:Ext w0 w)(H:Dk)(D:Af)(hS:DkS w0.heap.size w H D)(bf bd k:Nat)(hbf:w.heap[bf]? =some (.cells ([PQ (H.F k) 0]).toArray 113 (0,0)))(hbd:w.heap[bd]? =some (.cells ([PQ H.g 0]).toArray 50 (0,0)))(hkl:k<D.files.length):
  Calls AbL 142 #[PQ bf 0,PQ bd 0] w fun e w' =>∃H',e = .returned (.tuple #[])/\DkT w0.heap.size w H D w' H' ({ D with files:=D.files.set k ((AY D k).1,(AY D k).1.length),kept:=D.now,acts:= [] }):=by
 have hb:=hS.blk;have hgl0:=hS.lo.1;have hsz0:=f.size;have h:=hS;have hbd0:=hbd;have af:bf≠H.F k:=Cw (Co hbf) (hS.tF hkl) (by decide);have ag:bd≠H.F k:=Cw (Co hbd) (hS.tF hkl) (by decide);have ah:H.g≠H.F k:=Cw hS.tg (hS.tF hkl) (by decide);have hfa:=h.files.at_ k hkl;have hfb:=hfa.blk;have hfl:=(bl hfb);have hfo:=hfa.row;have hflo:=hfa.lo;have hfv:(H.V k).ownBlock≠some (H.F k):=fun q=>Cw (h.tF hkl) (h.tV hkl q) (by decide) rfl;have hfr:RB w (H.V k) (D.files.getD k ([],0)).1:=Ya hfo;have hC:Chg (fun i=>i=(H.F k)) w w:=Abs _ _;refine gG (args:= [PQ bf 0,PQ bd 0]) Tryz.func142 rfl 21 rfl rfl ?_;have hE:=AaY w;refine CA [0,1,2,3,4,5,6,7,8] [8] [] fun w2 j=> ?_;have hC:Chg (fun i=>i=(H.F k)) w w2:=(hC.keep j);have hbf:=eb j hbf;have hfb:=eb j hfb;have hE:=hE.trans j;refine ys (XP L0 rfl rfl (cellAt hbf rfl) zz) (ys (XP L0 rfl rfl (cellAt hbf rfl) zz) (ys (Aa1 rfl zz) (ys (Aa0 ON rfl zz) (ys (XP F7 rfl rfl (cellAt hfb rfl) zz) (ys (XZ F7 (XV (hfr.keep hE) rfl) zz) (ys (Aa1 rfl zz) (ys (Aa0 OP rfl zz) (yC (X5 (i:=1) (v:=NI (((D.files.getD k ([],0)).1:Ah5).length)) rfl rfl hfb (Ab2 rfl) Nf rfl rfl fun b p r ai=> ?_)))))))));have hC:Chg (fun i=>i=(H.F k)) w b:=AbA hC r (.inl rfl);clear hE;clear hfb;have hfb:=p;clear p;have aj:=bl hfb;have hT1:=h.setFileT (x:=((D.files.getD k ([],0)).1,(D.files.getD k ([],0)).1.length)) hkl (AbO _) (hC.mono fun i _ e=> .inl e) ⟨hfb,Du hC hfo (fun i e q=>hfv (e.trans (congrArg some q))),hflo⟩ (fun i e=> .inl e);have hbd1:=Abn hT1 h hbd0 (by decide) (by decide) (by decide) (by decide);obtain⟨H1,s⟩:∃x,x=({ H with V:=BU H.V k (H.V k) } :Dk):=⟨_,rfl⟩;obtain⟨D1,hD1⟩:∃x,x=({ D with files:=D.files.set k ((D.files.getD k ([],0)).1,(D.files.getD k ([],0)).1.length) } :Af):=⟨_,rfl⟩;rw[<-s,<-hD1]at hT1;have y:H1.g=H.g:=by rw[s]
 have c:=hT1.st;have f:=f.trans j;have f:=Ab f r (AbM (AbO _) (by omega));have z:=f;have a:=c.blk;have hgl1:=(bl a);rw[<-y]at hbd1;have hm1:=c.now;have ak:bd≠H1.g:=Cw (Co hbd1) c.tg (by decide);have hgm:H1.g≠H1.mn:=Cw c.tg c.now.tag (by decide);have hmn1:=c.now.lt;have hC2:Chg (fun i=>i=H1.g) b b:=Abs _ _;have hg1l:=c.lo.1;refine DZ [0,1,2,3,4,5,6,7,8,9,10,11,12] [6,9,12] [] [0,1] fun w9 l=> ?_;have hC2:Chg (fun i=>i=H1.g) b w9:=(hC2.keep l);have hm1:=hm1.keep l;have a:=eb l a;have hbd1:=eb l hbd1;refine Xz hbd1 ?_;refine yf (fun _ ⟨hbd1,_⟩=>XP TI rfl rfl (cellAt hbd1 rfl) zz) (yf (fun _ ⟨hbd1,_⟩=>XP TI rfl rfl (cellAt hbd1 rfl) zz) (ys (XP TI rfl rfl (cellAt hbd1 rfl) zz) (ys (Aa1 rfl zz) (ys (Aa0 OM rfl zz) (ys (XP LZ rfl rfl (cellAt a rfl) zz) (yI (XX TP rfl ((Sw _ hm1).mono ?_))))))));rintro e ab ⟨nm,rfl,hnl,hmm,m⟩;refine⟨_,rfl,?_⟩;have hnl1:b.heap.size<=nm:=AbM hC2.size hnl;have hC2:Chg (fun i=>i=H1.g) b ab:=(hC2.keep m);have hgn:H1.g≠nm:=by omega
 have a:=eb m a;have hbd1:=eb m hbd1;refine⟨⟨hbd1,trivial⟩,?_⟩;refine ys (Aa1 rfl zz) (ys (Aa0 OQ rfl zz) (yI (X5 (i:=2) (v:= .map (some nm)) rfl rfl a (Ab2 rfl) QD rfl rfl fun ac t n al=> ?_)));have hm1:=hm1.keep m;have hm1:=Aa2 hm1 n (Am (by omega));have hC2:Chg (fun i=>i=H1.g) b ac:=AbA hC2 n (.inl rfl);have hmm:=Aa2 hmm n (Am (by omega));clear a;have a:=t;clear t;have am:=bl a;have hbd1:=kb n hbd1 (by omega);refine⟨⟨hbd1,trivial⟩,?_⟩;refine ys (Aa1 rfl zz) (ys (Aa0 Js rfl zz) (yD rfl (X5 (i:=3) (v:=(AbR none 0 0)) rfl rfl a (Ab2 rfl) Qz rfl rfl fun ad u o an=> ?_)));have hm1:=Aa2 hm1 o (Am (by omega));have hC2:Chg (fun i=>i=H1.g) b ad:=AbA hC2 o (.inl rfl);have hmm:=Aa2 hmm o (Am (by omega));clear a;have a:=u;clear u;have ao:=bl a;refine rt0 rfl ?_;have ae:=a;have hT2:=c.syncedT hC2 hnl1 hmm z.size ae;exact⟨_,rfl,by have:=hT1.trans hT2;rw[hD1]at this;exact this⟩
theorem Xj(w0 w:AbJ)(c:Ext w0 w)(H:Dk)(D:Af)(hS:DkS w0.heap.size w H D)(bd bn bb:Nat)(s b:Ah5)(vb:AbI)(hbd:w.heap[bd]? =some (.cells ([PQ H.g 0]).toArray 50 (0,0)))(hbn:w.heap[bn]? =some (.cells ([St s]).toArray 9 (0,0)))(hbb:w.heap[bb]? =some (.cells ([vb]).toArray 27 (0,0)))(hrb:RB w vb b)(hoff:b= []\/∀i,vb.ownBlock=some i->¬B3 H D.files.length i)(hs:Bk s=true)(hbl:b.length<1099511627776)(hfs:∀x∈D.files,x.1.length<1099511627776)(hn:D.acts.length<1099511627776)(k:Nat)(hlk:Aw D.now s=some k):
  Calls AbL 140 #[PQ bd 0,PQ bn 0,PQ bb 0] w fun e w' =>∃H',e = .returned (.tuple #[])/\DkT w0.heap.size w H D w' H' (Cd D s b):=by
 have hb:=hS.blk;have hgl0:=hS.lo.1;have hsz0:=c.size;have aa:=hS;have hrb0:=hrb;have ab:=c;have hT12:=DkT.refl hS;have hkl:=(hS.ok.now.look hlk).1;have hlb:=hfs _ (GD (d:=([],0)) hkl);refine gG (args:= [PQ bd 0,PQ bn 0,PQ bb 0]) Tryz.func140 rfl 32 rfl rfl ?_;have hE:=AaY w;refine CA [0,1,2,3,4,5,6] [] [] fun u h=> ?_;have hT12:DkT w0.heap.size w H D u H D:=(hT12.keep h);have hb:=eb h hb;have hbd:=eb h hbd;have hbn:=eb h hbn;refine ys (XP TI rfl rfl (cellAt hbd rfl) zz) (ys (Aa1 rfl zz) (ys (Aa0 OM rfl zz) (ys (XP LZ rfl rfl (cellAt hb rfl) zz) (ys (XP Pi rfl rfl (cellAt hbn rfl) zz) (ys (YM Fb Er (fun _ _=>C7) LZ Ja rfl rfl hT12.st.now (Cv hs).2 hlk zz) (ys (Ye L0 rfl zz) (kB (rfl) (cF rfl (CA [0,1,2,3,4,5,6] [] [] fun f j=> ?_)))))))));have hT12:DkT w0.heap.size w H D f H D:=(hT12.keep j);have hb:=eb j hb;have hbd:=eb j hbd;have hbn:=eb j hbn;refine ys (XP TI rfl rfl (cellAt hbd rfl) zz) (ys (Aa1 rfl zz) (ys (Aa0 OM rfl zz) (ys (XP LZ rfl rfl (cellAt hb rfl) zz) (ys (XP Pi rfl rfl (cellAt hbn rfl) zz) (ys (YM Fb Er (fun _ _=>C7) LZ Ja rfl rfl hT12.st.now (Cv hs).2 hlk zz) ?_)))));have hTc:=hT12;have hSc:=hTc.st;have hfa:=hSc.files.at_ k hkl;have hfb:=hfa.blk;have hfl:=(bl hfb);have hfo:=hfa.row;have hflo:=hfa.lo;have hfv:(H.V k).ownBlock≠some (H.F k):=fun q=>Cw (hSc.tF hkl) (hSc.tV hkl q) (by decide) rfl;have hC:Chg (fun i=>i=(H.F k)\/(H.V k).ownBlock=some i) f f:=Abs _ _;have hsy:=hSc.ok.syn _ (GD (d:=([],0)) hkl);have hZ1:=h.trans j;have hbb:=eb hZ1 hbb;have hvb:AbS (H.V k)≠some bb:=fun q=>Cw (Co hbb) (hSc.tV hkl q) (by decide) rfl;have ac:bb≠(H.F k):=Cw (Co hbb) (hSc.tF hkl) (by decide);refine CA [0,1,2,3,4,5,6,7,8,9] [6,9] [] fun o l=> ?_;have hC:Chg (fun i=>i=(H.F k)\/(H.V k).ownBlock=some i) f o:=(hC.keep l);have hZ2:=hZ1.trans l;have hE:=hE.trans hZ2;have c:=c.trans hZ2;have hbb:=eb l hbb;have hfb:=eb l hfb;have hfo:=Aa5 _ _ _ _ _ _ _ _ hfo l;refine ys (Aa1 rfl zz) (ys (Aa0 ON rfl zz) (ys (XP F7 rfl rfl (cellAt hfb rfl) zz) (ys (XP F7 rfl rfl (cellAt hbb rfl) zz) (yC (Yh _ _ w0.heap.size (.int .u8 0) F7 MM rfl F7 ((D.files.getD k ([],0)).1) (b) (CV hfo (vr (H.V k) rfl)) (XV (hrb.keep hE) (vr vb rfl)) (by omega) c.size fun n p m a=> ?_)))));have a:Grew o p (H.V k) n:=a;have y:AbS n≠some (H.F k):=Ap a hfv (bl hfb);have hbb:=Ar hbb a hvb;clear hE;have c:=Ao c a hfo (AbO _);have hfb:=Ar hfb a hfv;have hvf:=fun i e=>(a.fresh i e).imp id (fun q=>AbM hC.size q);have hC:Chg (fun i=>i=(H.F k)\/(H.V k).ownBlock=some i) f p:=Chg.grew hC a (fun i e=> .inl (.inr e));clear hfo;refine ys (Aa1 rfl zz) (ys (Aa0 ON rfl zz) (yC (X5 (i:=0) (v:=n) rfl rfl hfb (Ab2 rfl) Kn (B7 m).1 (B7 m).2 fun z r t ad=> ?_)));have hC:Chg (fun i=>i=(H.F k)\/(H.V k).ownBlock=some i) f z:=AbA hC t (.inl (.inl rfl));clear hfb;have hfb:=r;clear r;have ae:=bl hfb;refine rt0 rfl ?_;have m:=BK m t y;have hTf:=hSc.setFileT (x:=((D.files.getD k ([],0)).1++b,(D.files.getD k ([],0)).2)) hkl (by simp only[AbP];omega) hC ⟨hfb,(show Agr _ _ _ _ _ _ _ from by simpa using m),hflo⟩ hvf;exact⟨_,rfl,by rw[VI hlk];exact hTc.trans hTf⟩
theorem Xk(w0 w:AbJ)(a:Ext w0 w)(H:Dk)(D:Af)(hS:DkS w0.heap.size w H D)(bd bn bb:Nat)(s b:Ah5)(vb:AbI)(hbd:w.heap[bd]? =some (.cells ([PQ H.g 0]).toArray 50 (0,0)))(hbn:w.heap[bn]? =some (.cells ([St s]).toArray 9 (0,0)))(hbb:w.heap[bb]? =some (.cells ([vb]).toArray 27 (0,0)))(hrb:RB w vb b)(hoff:b= []\/∀i,vb.ownBlock=some i->¬B3 H D.files.length i)(hs:Bk s=true)(hbl:b.length<1099511627776)(hfs:∀x∈D.files,x.1.length<1099511627776)(hn:D.acts.length<1099511627776)(hlk:Aw D.now s=none):
  Calls AbL 140 #[PQ bd 0,PQ bn 0,PQ bb 0] w fun e w' =>∃H',e = .returned (.tuple #[])/\DkT w0.heap.size w H D w' H' (Cd D s b):=by
 have hb:=hS.blk;have hgl0:=hS.lo.1;have hsz0:=a.size;have ap:=hS;have hrb0:=hrb;have aq:=a;have hT12:=DkT.refl hS;refine gG (args:= [PQ bd 0,PQ bn 0,PQ bb 0]) Tryz.func140 rfl 32 rfl rfl ?_;have hE:=AaY w;refine CA [0,1,2,3,4,5,6] [] [] fun w3 j=> ?_;have hT12:DkT w0.heap.size w H D w3 H D:=(hT12.keep j);have hb:=eb j hb;have hbd:=eb j hbd;have hbn:=eb j hbn;refine ys (XP TI rfl rfl (cellAt hbd rfl) zz) (ys (Aa1 rfl zz) (ys (Aa0 OM rfl zz) (ys (XP LZ rfl rfl (cellAt hb rfl) zz) (ys (XP Pi rfl rfl (cellAt hbn rfl) zz) (ys (Za Fb Er (fun _ _=>C7) LZ Ja rfl rfl hT12.st.now (Cv hs).2 hlk zz) (ys (Ye L0 rfl zz) (kB (rfl) (cT rfl (gS (Abo (v:= .agg #[.slice none 0 0,NI 0]) (by kernel_rfl) ?_))))))))));have hE:=hE.trans j;have hzb:=hE.size;refine gS (Abh (cs:=([.slice none 0 0,NI 0]:List AbI).toArray) (show _=(.agg ([.slice none 0 0,NI 0]:List AbI).toArray:AbI)from rfl) fun m w7 a0 ag aa a1=> ?_);have c:=AaY w3;have a:=a.trans j;have a2:=hE.size;have a3:=a.size;have ab:=ag;clear ag;have a4:m<w7.heap.size:=by omega
 refine gS (Aa3 Sz fun n ar a5 ah y a6=> ?_);have o:=AaY w7;have hE:=hE.trans aa;have a:=a.trans aa;have c:=c.trans aa;have au:=hE.size;have av:=a.size;have p:=ah;clear ah;have a7:n<ar.heap.size:=by omega
 refine gS (X5 (i:=0) (v:=PQ m 0) rfl rfl p (Ab2 rfl) QE rfl rfl fun a8 ai z a9=> ?_);clear p;have p:=ai;clear ai;have ba:=bl p;have aw:=c.size;have c:=c.trans y;have c:=Ab c z (AbM aw (by omega));have hbd:=eb c hbd;refine gS (XP TI rfl rfl (cellAt hbd rfl) (gS (Yx (vs:= #[PQ n 0,PQ bn 0]) (by simp only[Acp,Aco,Acz];exact congrArg Adh (FK (vr (PQ n 0) rfl) (vr (PQ bn 0) rfl))) ?_)));have o:=o.trans y;have o:=Ab o z (AbM (AbO _) (by omega));have ab:=eb o ab;have hE:=hE.trans y;have hE:=Ab hE z (AbM au (by omega));have hT1:=ap.newFileT (f:=m) hE (by omega) ab aq.size;obtain⟨H1,ac⟩:∃x,x=({ H with F:=BU H.F D.files.length m,V:=BU H.V D.files.length (.slice none 0 0) } :Dk):=⟨_,rfl⟩;obtain⟨D1,hD1⟩:∃x,x=({ D with files:=D.files++ [([],0)] } :Af):=⟨_,rfl⟩;rw[<-ac,<-hD1]at hT1;have r:=hT1.st;have aj:H1.g=H.g:=by rw[ac]
 have hF1:H1.F D.files.length=m:=by rw[ac];exact C3 _ _ _
 have hD1l:D1.files.length=D.files.length+1:=by rw[hD1];simp
 have hsl:=(Cv hs).1;have hbd1:=hbd;have hbn:=eb c hbn;have hbn1:=hbn;have hbb:=eb (j.trans c) hbb;have hbb1:=hbb;have hrb1:=(hrb.keep hE);have a:=a.trans y;have a:=Ab a z (AbM av (by omega));refine gS (XS NO rfl rfl ((VH w0 _ a H1 D1 r H.g aj (.func (.func 141) #[] #[PQ n 0,PQ bn 0]) ⟨[],s,D.files.length⟩ ⟨by rw[hD1l];exact Nat.lt_succ_self _,fun _=>hs,Ack _⟩ (.inl ⟨n,bn,rfl,by rw[hF1];exact p,hbn,rfl,show s.length≠0 from by omega⟩) (by rw[hD1];exact hn)).mono ?_));rintro e bc ⟨va2,rfl,hT2⟩;refine⟨_,rfl,?_⟩;have a:=Chg.ext a hT2.chg (fun i q=>(r.foot q).2.2);have hT12:=hT1.trans hT2;obtain⟨H2,ak⟩:∃x,x=({ H1 with va:=va2 } :Dk):=⟨_,rfl⟩;obtain⟨D2,hD2⟩:∃x,x=turnedD D1 ⟨[],s,D.files.length⟩:=⟨_,rfl⟩;rw[<-ak,<-hD2]at hT12;have ax:H2.g=H.g:=by rw[ak];exact aj
 have hlk2:Aw D2.now s=some D.files.length:=by rw[hD2];exact(look_turn _ _ _).trans ((if_neg (show s.length≠0 by omega)).trans (if_pos rfl))
 have hkl:=(hT12.st.ok.now.look hlk2).1;have hlb:(D2.files.getD D.files.length ([],0)).1.length<1099511627776:=by rw[hD2,hD1];show((D.files++ [(([]:Ah5),0)]).getD D.files.length ([],0)).1.length<_;rw[GC];decide
 have hoff1:=TO hT1 hrb0 hoff;have hbd:=Abn hT2 r hbd1 (by decide) (by decide) (by decide) (by decide);have hbn:=Abn hT2 r hbn1 (by decide) (by decide) (by decide) (by decide);have hbb:=Abn hT2 r hbb1 (by decide) (by decide) (by decide) (by decide);have hrb:=hrb1.chg hT2.chg hoff1;have hb:=eb c hb;have hb:=hT12.st.blk;rw[ax]at hb;have hgl2:=(bl hb);refine CA [0,1,2,3,4,5,6] [] [] fun k l=> ?_;have hT12:DkT w0.heap.size w H D k H2 D2:=(hT12.keep l);have hb:=eb l hb;have hbd:=eb l hbd;have hbn:=eb l hbn;refine ys (XP TI rfl rfl (cellAt hbd rfl) zz) (ys (Aa1 rfl zz) (ys (Aa0 OM rfl zz) (ys (XP LZ rfl rfl (cellAt hb rfl) zz) (ys (XP Pi rfl rfl (cellAt hbn rfl) zz) (ys (YM Fb Er (fun _ _=>C7) LZ Ja rfl rfl hT12.st.now (Cv hs).2 hlk2 zz) ?_)))));have hTc:=hT12;have hSc:=hTc.st;have hfa:=hSc.files.at_ (D.files.length) hkl;have hfb:=hfa.blk;have hfl:=(bl hfb);have hfo:=hfa.row;have hflo:=hfa.lo;have hfv:(H2.V (D.files.length)).ownBlock≠some (H2.F (D.files.length)):=fun q=>Cw (hSc.tF hkl) (hSc.tV hkl q) (by decide) rfl;have hC:Chg (fun i=>i=(H2.F (D.files.length))\/(H2.V (D.files.length)).ownBlock=some i) k k:=Abs _ _;have hsy:=hSc.ok.syn _ (GD (d:=([],0)) hkl);have hbb:=eb l hbb;have hvb:AbS (H2.V (D.files.length))≠some bb:=fun q=>Cw (Co hbb) (hSc.tV hkl q) (by decide) rfl;have be:bb≠(H2.F (D.files.length)):=Cw (Co hbb) (hSc.tF hkl) (by decide);refine CA [0,1,2,3,4,5,6,7,8,9] [6,9] [] fun al t=> ?_;have hC:Chg (fun i=>i=(H2.F (D.files.length))\/(H2.V (D.files.length)).ownBlock=some i) k al:=(hC.keep t);have hZ1:=l.trans t;have a:=a.trans hZ1;have hrb:=hrb.keep hZ1;have hbb:=eb t hbb;have hfb:=eb t hfb;have hfo:=Aa5 _ _ _ _ _ _ _ _ hfo t;refine ys (Aa1 rfl zz) (ys (Aa0 ON rfl zz) (ys (XP F7 rfl rfl (cellAt hfb rfl) zz) (ys (XP F7 rfl rfl (cellAt hbb rfl) zz) (yC (Yh _ _ w0.heap.size (.int .u8 0) F7 MM rfl F7 ((D2.files.getD (D.files.length) ([],0)).1) (b) (CV hfo (vr (H2.V (D.files.length)) rfl)) (XV hrb (vr vb rfl)) (by omega) a.size fun ad am u h=> ?_)))));have h:Grew al am (H2.V (D.files.length)) ad:=h;have ay:AbS ad≠some (H2.F (D.files.length)):=Ap h hfv (bl hfb);have a:=Ao a h hfo (AbO _);have hbb:=Ar hbb h hvb;clear hrb;have hfb:=Ar hfb h hfv;have hvf:=fun i e=>(h.fresh i e).imp id (fun q=>AbM hC.size q);have hC:Chg (fun i=>i=(H2.F (D.files.length))\/(H2.V (D.files.length)).ownBlock=some i) k am:=Chg.grew hC h (fun i e=> .inl (.inr e));clear hfo;refine ys (Aa1 rfl zz) (ys (Aa0 ON rfl zz) (yC (X5 (i:=0) (v:=ad) rfl rfl hfb (Ab2 rfl) Kn (B7 u).1 (B7 u).2 fun az an ao bf=> ?_)));have hC:Chg (fun i=>i=(H2.F (D.files.length))\/(H2.V (D.files.length)).ownBlock=some i) k az:=AbA hC ao (.inl (.inl rfl));clear hfb;have hfb:=an;clear an;have bg:=bl hfb;refine rt0 rfl ?_;have u:=BK u ao ay;have hTf:=hSc.setFileT (x:=((D2.files.getD (D.files.length) ([],0)).1++b,(D2.files.getD (D.files.length) ([],0)).2)) hkl (by simp only[AbP];omega) hC ⟨hfb,(show Agr _ _ _ _ _ _ _ from by simpa using u),hflo⟩ hvf;exact⟨_,rfl,by rw[<-VJ hlk];have:=hTc.trans hTf;rw[hD2,hD1]at this;exact this⟩
theorem ZY{P:Acg}{K:AbI->AbJ->Prop}{ρ:Ac}{w:AbJ}{d:Option Tmp}{ty:AbQ}{pos:String}{af:Array Edge}{gd:Option (Nat × Bool)}{f:FuncId}{c:AbV}{v:AbI}{caps:Array AbI}{R:AbJ->Prop}{at_:Array AbQ}(hp:Plain P f)(hc:Aa ρ c=v)(hve:v = .func (.func f) #[] caps) 
  (h:Calls P f caps w fun e w' =>e = .returned (.tuple #[])/\R w') (hk:∀w',R w' ->K (.tuple #[]) w'):Yk P K ((execOp (Aa ρ) ⟨d, .call ⟨.value c,#[],at_⟩,ty,pos,af,gd⟩).run P w):=
 YT hp (hc.trans hve) _ (by simp) (h.mono fun e w' q=>⟨_,q.1,hk w' q.2⟩)
theorem CI:A4 AbL 107 5 5:=fun b o w=>by simp[go_sem]
theorem TQ:(Tryz.prog.info? 4).map (·.size)=some 1:=by kernel_rfl
theorem NP(w0 w:AbJ)(l:Ext w0 w)(H:Dk)(D:Af)(hS:DkS w0.heap.size w H D)(hdn:D.down=false)(har:D.arm<9223372036854775808)(v:AbI)(f:FuncId)(caps:Array AbI)(hpl:Plain AbL f)(hve:v = .func (.func f) #[] caps)(g:Af->Af) 
  (hc:∀w1 D1,DkT w0.heap.size w H D w1 H D1->D1=(CS D).1->Calls AbL f caps w1 fun e w' =>e = .returned (.tuple #[])/\∃H',DkT w0.heap.size w1 H D1 w' H' (g D1)):
  Calls AbL 92 #[PQ H.g 0,v] w fun e w' =>∃H',e = .returned (NI (DV D g).2)/\DkT w0.heap.size w H D w' H' (DV D g).1:=by
 have hb:=hS.blk;have hgl:=(bl hb);have hgl0:=hS.lo.1;have hsz0:=l.size;have c:=hS;have hgr:=Ac7 w (some H.g);refine gG (args:= [PQ H.g 0,v]) Tryz.func92 rfl 27 rfl rfl ?_;have hE:=AaY w;by_cases ha0:D.arm=0
 ·have hA:CS D=(D,false):=if_pos ha0;have hV:DV D g=(g D,0):=by unfold DV;rw[hA];rfl
  refine gS (Aa1 rfl (gS (Aa0 CI rfl (gS (XP Tk rfl rfl (cellAt hb rfl) (gS (XQ (a:=(D.arm:Nat)) (b:=(0:Nat)) rfl rfl (Bh _ _ _ _) (kF (by omega) (cF rfl ?_)))))))));have hT1:=YN c hE;have hD1:D=(CS D).1:=by rw[hA]
  refine gS (ZY hpl rfl hve (hc _ _ hT1 hD1) fun s hR6=> ?_);obtain⟨H3,hT2⟩:=hR6;have hT3:=hT1.trans hT2;refine Bp rfl (vr (NI 0) rfl) ?_;exact⟨H3,by rw[hV],by rw[hV];exact hT3⟩
 have hA:CS D=({ D with arm:=D.arm-1,down:=decide (D.arm-1=0) },decide (D.arm-1=0)):=if_neg ha0;by_cases ha1:D.arm-1=0
 ·rw[decide_eq_true ha1]at hA;have hV:DV D g=({ D with arm:=D.arm-1,down:=true },9):=by unfold DV;rw[hA];rfl
  refine gS (Aa1 rfl (gS (Aa0 CI rfl (gS (XP Tk rfl rfl (cellAt hb rfl) (gS (XQ (a:=(D.arm:Nat)) (b:=(0:Nat)) rfl rfl (Bh _ _ _ _) (kT (by omega) (cT rfl (gS (Aa1 rfl (gS (Aa0 CI rfl (gS (XP Tk rfl rfl (cellAt hb rfl) (gS (XR (xv:=NI D.arm) (yv:=NI 1) rfl rfl rfl (BB _ _ _ (by omega) (by omega)) (gS (Aa1 rfl (gS (Aa0 CI rfl (gS (X5 (i:=5) (v:=NI ((D.arm)-(1))) rfl rfl hb (Ab2 rfl) Nf rfl rfl fun m h n t=> ?_)))))))))))))))))))))));have hgr:w.grownBy m (some H.g):=Ak hgr n (fun _ e=> .inl e);clear hE;clear hb;have hb:=h;clear h;have u:=bl hb;refine gS (Aa1 rfl (gS (Aa0 CI rfl (gS (XP Tk rfl rfl (cellAt hb rfl) (gS (XQ (a:=((D.arm)-(1):Nat)) (b:=(0:Nat)) rfl rfl (AI _ _ _ _) (kT (by omega) (cT rfl (gS (Aa1 rfl (gS (Aa0 OL rfl (gS (X5 (i:=6) (v:= .bool (true)) rfl rfl hb (Ab2 rfl) TQ rfl rfl fun o j p x=> ?_)))))))))))))));have hgr:w.grownBy o (some H.g):=Ak hgr p (fun _ e=> .inl e);clear hb;have hb:=j;clear j;have y:=bl hb;refine Bp rfl (vr (NI 9) rfl) ?_;exact⟨H,by rw[hV],by rw[hV];exact c.setBlkT hgr hb⟩
 rw[decide_eq_false ha1]at hA;have hV:DV D g=(g { D with arm:=D.arm-1,down:=false },0):=by unfold DV;rw[hA];rfl
 refine gS (Aa1 rfl (gS (Aa0 CI rfl (gS (XP Tk rfl rfl (cellAt hb rfl) (gS (XQ (a:=(D.arm:Nat)) (b:=(0:Nat)) rfl rfl (Bh _ _ _ _) (kT (by omega) (cT rfl (gS (Aa1 rfl (gS (Aa0 CI rfl (gS (XP Tk rfl rfl (cellAt hb rfl) (gS (XR (xv:=NI D.arm) (yv:=NI 1) rfl rfl rfl (BB _ _ _ (by omega) (by omega)) (gS (Aa1 rfl (gS (Aa0 CI rfl (gS (X5 (i:=5) (v:=NI ((D.arm)-(1))) rfl rfl hb (Ab2 rfl) Nf rfl rfl fun q k r z=> ?_)))))))))))))))))))))));have hgr:w.grownBy q (some H.g):=Ak hgr r (fun _ e=> .inl e);clear hE;clear hb;have hb:=k;clear k;have aa:=bl hb;refine gS (Aa1 rfl (gS (Aa0 CI rfl (gS (XP Tk rfl rfl (cellAt hb rfl) (gS (XQ (a:=((D.arm)-(1):Nat)) (b:=(0:Nat)) rfl rfl (AI _ _ _ _) (kF (by omega) (cF rfl ?_)))))))));have hT1:=c.setBlkT hgr hb;have hD1:({ D with quota:=D.quota,refused:=D.refused,arm:=D.arm-1,down:=D.down } :Af)=(CS D).1:=by rw[hA,hdn]
 refine gS (ZY hpl rfl hve (hc _ _ hT1 hD1) fun ab hR35=> ?_);obtain⟨H3,hT2⟩:=hR35;have hT3:=hT1.trans hT2;refine Bp rfl (vr (NI 0) rfl) ?_;exact⟨H3,by rw[hV],by rw[hV];rw[<-hdn];exact hT3⟩
theorem Hb(t:AbQ)(a b:Int)(h: -9223372036854775808<=a+b/\a+b<=9223372036854775807):Acm .add t (.int .i64 a) (.int .i64 b)=pure (.int .i64 (a+b)):=by
 show pure (Value.int .i64 (IntKind.i64.wrap (a+b)))=_;rw[IntWalk.i64_in _ h]
theorem KO(t:AbQ)(a b:Int)(h: -9223372036854775808<=a-b/\a-b<=9223372036854775807):Acm .sub t (.int .i64 a) (.int .i64 b)=pure (.int .i64 (a-b)):=by
 show pure (Value.int .i64 (IntKind.i64.wrap (a-b)))=_;rw[IntWalk.i64_in _ h]
structure DN (D : Af) : Prop where
 quota:D.quota<=1073741824
 used:usedD D<4611686018427387904
 refused:D.refused<4611686018427387904
 arm:D.arm<9223372036854775808
 acts:D.acts.length<1099511627776
 now:D.now.length<1099511627776
 kept:D.kept.length+D.acts.length<1099511627776
 files:∀x∈D.files,x.1.length<1099511627776
theorem TR(D:Af)(s t:Ah5):readyL D [t,s]=CB D s t:=by
 unfold readyL CB;by_cases h:D.down=true
 ·rw[if_pos h,if_pos h]
 ·rw[if_neg h,if_neg h];simp only[Ago,List.all_nil,Bool.and_true,AcQ];by_cases h1:Bk s=true <;> by_cases h2:Bk t=true <;> simp[h1,h2]
theorem Gj(D:Af)(s:Ah5):readyL D [s]=CB D s s:=by
 rw[<-TR];unfold readyL;simp
theorem VK(w0 w:AbJ)(c:Ext w0 w)(H:Dk)(D:Af)(hS:DkS w0.heap.size w H D)(bd bn bb:Nat)(s b:Ah5)(vb:AbI)(hbd:w.heap[bd]? =some (.cells ([PQ H.g 0]).toArray 50 (0,0)))(hbn:w.heap[bn]? =some (.cells ([St s]).toArray 9 (0,0)))(hbb:w.heap[bb]? =some (.cells ([vb]).toArray 27 (0,0))) 
  (hrb:RB w vb b) (hoff:b= []\/∀i,vb.ownBlock=some i->¬B3 H D.files.length i) (hs:Bk s=true) (hbl:b.length<1099511627776) (hfs:∀x∈D.files,x.1.length<1099511627776) (hn:D.acts.length<1099511627776):
  ∀w1 D1,DkT w0.heap.size w H D w1 H D1->D1=(CS D).1->Calls AbL 140 #[PQ bd 0,PQ bn 0,PQ bb 0] w1 fun e w' =>e = .returned (.tuple #[])/\∃H',DkT w0.heap.size w1 H D1 w' H' (Cd D1 s b):=by
 intro w1 D1 hT hD1;have hf:=HE D;rw[<-hD1]at hf;have a:Ext w0 w1:=Chg.ext c hT.chg (fun i q=>(hS.foot q).2.2);have h1:=Abn hT hS hbd (by decide) (by decide) (by decide) (by decide);have h2:=Abn hT hS hbn (by decide) (by decide) (by decide) (by decide);have h3:=Abn hT hS hbb (by decide) (by decide) (by decide) (by decide);have h4:=hrb.chg hT.chg hoff;have h5:b= []\/∀i,vb.ownBlock=some i->¬B3 H D1.files.length i:=by rw[hf.1];exact hoff
 cases hlk:Aw D1.now s with
 | none=>exact(Xk w0 w1 a H D1 hT.st bd bn bb s b vb h1 h2 h3 h4 h5 hs hbl (by rw[hf.1];exact hfs) (by rw[hf.2.2.2.1];exact hn) hlk).mono fun e w' ⟨H',q1,q2⟩=>⟨q1,H',q2⟩
 | some k=>exact(Xj w0 w1 a H D1 hT.st bd bn bb s b vb h1 h2 h3 h4 h5 hs hbl (by rw[hf.1];exact hfs) (by rw[hf.2.2.2.1];exact hn) k hlk).mono fun e w' ⟨H',q1,q2⟩=>⟨q1,H',q2⟩
theorem Hc(D:Af)(s:Ah5):FE D s s=Eu D [] s:=by
 unfold FE Eu;rw[List.nil_append,Gj] <;>
 (by_cases h:CB D s s≠0
  ·rw[if_pos h,if_pos h]
  ·rw[if_neg h,if_neg h] <;> (cases Aw D.now s <;> rfl))
theorem Ll{D:Af}{ms:List Ah5}{s:Ah5}{c:Nat}(h:Eu D ms s = .error c):c≠0:=by
 unfold Eu at h;split at h
 ·rename_i hn;cases h;exact hn
 ·split at h
  ·cases h
  ·cases h;decide
theorem Lm{D:Af}{ms:List Ah5}{s:Ah5}{k:Nat}(h:Eu D ms s = .ok k):D.down=false/\Aw D.now s=some k/\∀t∈ms,Bk t=true:=by
 unfold Eu at h;split at h
 ·cases h
 ·rename_i hn
  have hn:readyL D (ms++ [s])=0:=Classical.not_not.1 hn;split at h
  ·rename_i k' hk
   cases h;unfold readyL at hn;split at hn
   ·cases hn
   ·rename_i hd
    split at hn
    ·rename_i ha
     exact⟨Agy.2 hd,hk,fun t ht=>Acx.1 ha t (List.mem_append_left _ ht)⟩
    ·cases hn
  ·cases h
theorem TS(w0 w:AbJ)(a:Ext w0 w)(H:Dk)(D:Af)(hS:DkS w0.heap.size w H D)(bf bd k:Nat)(hbf:w.heap[bf]? =some (.cells ([PQ (H.F k) 0]).toArray 113 (0,0)))(hbd:w.heap[bd]? =some (.cells ([PQ H.g 0]).toArray 50 (0,0)))(hk:k<D.files.length):
  ∀w1 D1,DkT w0.heap.size w H D w1 H D1->D1=(CS D).1->Calls AbL 142 #[PQ bf 0,PQ bd 0] w1 fun e w' =>e = .returned (.tuple #[])/\∃H',DkT w0.heap.size w1 H D1 w' H' { D1 with files:=D1.files.set k ((AY D1 k).1,(AY D1 k).1.length),kept:=D1.now,acts:= [] } :=by
 intro w1 D1 hT hD1;have hf:=HE D;rw[<-hD1]at hf;have b:Ext w0 w1:=Chg.ext a hT.chg (fun i q=>(hS.foot q).2.2);exact(Xi w0 w1 b H D1 hT.st bf bd k (Abn hT hS hbf (by decide) (by decide) (by decide) (by decide)) (Abn hT hS hbd (by decide) (by decide) (by decide) (by decide)) (by rw[hf.1];exact hk)).mono fun e w' ⟨H',q1,q2⟩=>⟨q1,H',q2⟩
theorem TT(w0 w:AbJ)(a:Ext w0 w)(H:Dk)(D:Af)(hS:DkS w0.heap.size w H D)(bd bs k:Nat)(s:Ah5)(hbd:w.heap[bd]? =some (.cells ([PQ H.g 0]).toArray 50 (0,0)))(hbs:w.heap[bs]? =some (.cells ([St s]).toArray 9 (0,0))) 
  (hk:k<D.files.length) (hs:Bk s=true) (hn:D.acts.length<1099511627776):
  ∀w1 D1,DkT w0.heap.size w H D w1 H D1->D1=(CS D).1->Calls AbL 93 #[PQ bd 0,PQ bs 0] w1 fun e w' =>e = .returned (.tuple #[])/\∃H',DkT w0.heap.size w1 H D1 w' H' (turnedD D1 ⟨s,[],k⟩):=by
 intro w1 D1 hT hD1;have hf:=HE D;rw[<-hD1]at hf;have b:Ext w0 w1:=Chg.ext a hT.chg (fun i q=>(hS.foot q).2.2);exact(Xh w0 w1 b H D1 hT.st bd bs k s (Abn hT hS hbd (by decide) (by decide) (by decide) (by decide)) (Abn hT hS hbs (by decide) (by decide) (by decide) (by decide)) (by rw[hf.1];exact hk) hs (by rw[hf.2.2.2.1];exact hn)).mono fun e w' ⟨H',q1,q2⟩=>⟨q1,H',q2⟩
theorem Ju:A4 AbL 107 0 0:=fun b o w=>by simp[go_sem]
theorem NQ:Plain AbL 57:=fun _ _=>by kernel_rfl
theorem Jv:A4 AbL 107 4 4:=fun b o w=>by simp[go_sem]
theorem JU:Plain AbL 92:=fun _ _=>by kernel_rfl
theorem HF:Plain AbL 77:=fun _ _=>by kernel_rfl
theorem SA(w0 w:AbJ)(h:Ext w0 w)(H:Dk)(D:Af)(hS:DkS w0.heap.size w H D)(s:Ah5)(vb:AbI)(b:Ah5)(hrb:RB w vb b)(hoff:b= []\/∀i,vb.ownBlock=some i->¬B3 H D.files.length i)(hbl:b.length<1099511627776)(hL:DN D):
  Calls AbL 88 #[PQ H.g 0,St s,vb] w fun e w' =>∃H',e = .returned (NI (A2 D s b).2)/\DkT w0.heap.size w H D w' H' (A2 D s b).1:=by
 have hb:=hS.blk;have hgl:=(bl hb);have hgl0:=hS.lo.1;have hsz0:=h.size;have ag:=hS;have hgr:=Ac7 w (some H.g);refine gG (args:= [PQ H.g 0,St (s),vb]) Tryz.func88 rfl 35 rfl rfl ?_;have hE:=AaY w;refine gS (YF (vr (PQ H.g 0) rfl) rfl fun o w3 ak al u bk=> ?_);have bm:=hE.size;have bn:=h.size;have hgr:w.grownBy w3 (some H.g):=Ak hgr u.grown (fun _ e=>by cases e);have c:=al;clear al;have bo:o<w3.heap.size:=by omega
 refine gS (YF (vr (St (s)) rfl) rfl fun p am x an l bp=> ?_);have hE:=hE.trans u;have h:=h.trans u;have bq:=hE.size;have br:=h.size;have hgr:w.grownBy am (some H.g):=Ak hgr l.grown (fun _ e=>by cases e);have f:=an;clear an;have bs:p<am.heap.size:=by omega
 have hE:=hE.trans l;refine gS (YF (vr vb rfl) (Aa8 (hrb.keep hE)).1 fun t ao m ap j bt=> ?_);have h:=h.trans l;have bu:=hE.size;have bv:=h.size;have hgr:w.grownBy ao (some H.g):=Ak hgr j.grown (fun _ e=>by cases e);have k:=ap;clear ap;have bw:t<ao.heap.size:=by omega
 have hq0:=hL.quota;have hq1:=hL.used;by_cases y:CB D s s≠0
 ·have hV:A2 D s b=(D,CB D s s):=if_pos y;have aq:=As (bl c) x;have c:=eb l c;have ar:=As (bl c) m;have c:=eb j c;have au:=As (bl f) m;have f:=eb j f;refine gS (XP TI rfl rfl (cellAt c rfl) (gS (XP Pi rfl rfl (cellAt f rfl) (gS (Yi (a:=s) (enc:=CX) (vr (St (s)) rfl) rfl (fun w=>JS _ w) fun a1 a2 a3 av=> ?_)))));have hgr:w.grownBy a2 (some H.g):=Ak hgr av.grown (fun _ e=>by cases e);have hZ1:=j.trans av;have hE:=hE.trans hZ1;refine gS (XS JT rfl rfl ((Dv w0.heap.size _ H D (hS.keep hE) a1 [s] a3 (by simp)).mono ?_));rintro e a4 ⟨rfl,aw⟩;refine⟨_,rfl,?_⟩;have hgr:w.grownBy a4 (some H.g):=Ak hgr aw.grown (fun _ e=>by cases e);refine gS (XQ (a:=(readyL D [s]:Nat)) (b:=(0:Nat)) rfl rfl (AV _ _ _ _) (kT (by rw[Gj];omega) (cT rfl (Bp rfl (vr (NI (readyL D [s])) rfl) ?_))));have hE:=hE.trans aw;exact⟨H,by rw[hV,Gj],by rw[hV];exact YN ag hE⟩
 have a5:CB D s s=0:=Classical.not_not.1 y;obtain⟨hdn,hs,-⟩:=TG a5;by_cases hq:D.quota<usedD D+b.length
 ·have hV:A2 D s b=({ D with refused:=D.refused+1 },8):=(if_neg y).trans (if_pos hq);have aq:=As (bl c) x;have c:=eb l c;have ar:=As (bl c) m;have c:=eb j c;have au:=As (bl f) m;have f:=eb j f;refine gS (XP TI rfl rfl (cellAt c rfl) (gS (XP Pi rfl rfl (cellAt f rfl) (gS (Yi (a:=s) (enc:=CX) (vr (St (s)) rfl) rfl (fun w=>JS _ w) fun a6 a7 ax ah=> ?_)))));have hgr:w.grownBy a7 (some H.g):=Ak hgr ah.grown (fun _ e=>by cases e);have hZ2:=j.trans ah;have hE:=hE.trans hZ2;refine gS (XS JT rfl rfl ((Dv w0.heap.size _ H D (hS.keep hE) a6 [s] ax (by simp)).mono ?_));rintro e a8 ⟨rfl,z⟩;refine⟨_,rfl,?_⟩;have hgr:w.grownBy a8 (some H.g):=Ak hgr z.grown (fun _ e=>by cases e);refine gS (XQ (a:=(readyL D [s]:Nat)) (b:=(0:Nat)) rfl rfl (AV _ _ _ _) (kF (by rw[Gj];omega) (cF rfl (DZ [0,1,2,3,4,5,6,7,8,9] [7] [1,3,4] [0,2,5] fun ay aa=> ?_))));have hgr:w.grownBy ay (some H.g):=Ak hgr aa.grown (fun _ e=>by cases e);have ab:=AaY ay;have a9:=As (bl hb) ak;have hb:=eb u hb;have ba:=As (bl hb) x;have hb:=eb l hb;have bb:=As (bl hb) m;have hZ3:=(hZ2.trans z).trans aa;have hb:=eb hZ3 hb;have hZ4:=(ah.trans z).trans aa;have c:=eb hZ4 c;have k:=eb hZ4 k;have hZ5:=z.trans aa;have hE:=hE.trans hZ5;refine DS ab ?_;refine yf (fun _ ⟨hZ,_⟩=>XP F7 rfl rfl (cellAt (eb hZ k) rfl) zz) (yp (XZ F7 (XV (hrb.keep hE) rfl) zz) (yf (fun _ ⟨hZ,_⟩=>XP TI rfl rfl (cellAt (eb hZ c) rfl) zz) (yp (Aa1 rfl zz) (yp (Aa0 Ju rfl zz) (yf (fun _ ⟨hZ,_⟩=>XP Tk rfl rfl (cellAt (eb hZ hb) rfl) zz) (ys (XP TI rfl rfl (cellAt c rfl) zz) (yE (XX NQ rfl ((Lj w0.heap.size _ H D (hS.keep hE) hL.used).mono ?_)))))))));rintro e bc ⟨rfl,ac⟩;refine⟨_,rfl,?_⟩;have hgr:w.grownBy bc (some H.g):=Ak hgr ac.grown (fun _ e=>by cases e);have ab:=ab.trans ac;refine⟨ab,?_⟩;have hb:=eb ac hb;have c:=eb ac c;refine ys (XR (xv:= .int .i64 (((D.quota:Nat):Int))) (yv:= .int .i64 (((usedD D:Nat):Int))) rfl rfl rfl (KO _ (((D.quota:Nat):Int)) (((usedD D:Nat):Int)) (by omega)) zz) (ys (XQ rfl rfl (Kb _ .i64 ((b.length:Nat):Int) (((((D.quota:Nat):Int))-(((usedD D:Nat):Int))):Int)) zz) (kT (by omega) (cT rfl (gS (XP TI rfl rfl (cellAt c rfl) (gS (Aa1 rfl (gS (Aa0 Jv rfl (gS (XP Tk rfl rfl (cellAt hb rfl) (gS (XR (xv:=NI D.refused) (yv:=NI 1) rfl rfl rfl (Ah _ _ _ (by have:=hL.refused;omega)) (gS (Aa1 rfl (gS (Aa0 Jv rfl (gS (X5 (i:=4) (v:=NI ((D.refused)+(1))) rfl rfl hb (Ab2 rfl) Nf rfl rfl fun bd az be bx=> ?_)))))))))))))))))));have hgr:w.grownBy bd (some H.g):=Ak hgr be (fun _ e=> .inl e);clear hE;clear ax;clear hb;have hb:=az;clear az;have bz:=bl hb;refine Bp rfl (vr (NI 8) rfl) ?_;exact⟨H,by rw[hV],by rw[hV];exact ag.setBlkT hgr hb⟩
 have hV:A2 D s b=DV D (fun d=>Cd d s b):=by unfold DV;exact(if_neg y).trans (if_neg hq)
 have aq:=As (bl c) x;have c:=eb l c;have ar:=As (bl c) m;have c:=eb j c;have au:=As (bl f) m;have f:=eb j f;refine gS (XP TI rfl rfl (cellAt c rfl) (gS (XP Pi rfl rfl (cellAt f rfl) (gS (Yi (a:=s) (enc:=CX) (vr (St (s)) rfl) rfl (fun w=>JS _ w) fun bf bg bh ai=> ?_)))));have hgr:w.grownBy bg (some H.g):=Ak hgr ai.grown (fun _ e=>by cases e);have hZ6:=j.trans ai;have hE:=hE.trans hZ6;refine gS (XS JT rfl rfl ((Dv w0.heap.size _ H D (hS.keep hE) bf [s] bh (by simp)).mono ?_));rintro e bi ⟨rfl,ad⟩;refine⟨_,rfl,?_⟩;have hgr:w.grownBy bi (some H.g):=Ak hgr ad.grown (fun _ e=>by cases e);refine gS (XQ (a:=(readyL D [s]:Nat)) (b:=(0:Nat)) rfl rfl (AV _ _ _ _) (kF (by rw[Gj];omega) (cF rfl (DZ [0,1,2,3,4,5,6,7,8,9] [7] [1,3,4] [0,2,5] fun a0 ae=> ?_))));have hgr:w.grownBy a0 (some H.g):=Ak hgr ae.grown (fun _ e=>by cases e);have af:=AaY a0;have a9:=As (bl hb) ak;have hb:=eb u hb;have ba:=As (bl hb) x;have hb:=eb l hb;have bb:=As (bl hb) m;have hZ7:=(hZ6.trans ad).trans ae;have hb:=eb hZ7 hb;have hZ8:=(ai.trans ad).trans ae;have c:=eb hZ8 c;have k:=eb hZ8 k;have hZ9:=ad.trans ae;have hE:=hE.trans hZ9;refine DS af ?_;refine yf (fun _ ⟨hZ,_⟩=>XP F7 rfl rfl (cellAt (eb hZ k) rfl) zz) (yp (XZ F7 (XV (hrb.keep hE) rfl) zz) (yf (fun _ ⟨hZ,_⟩=>XP TI rfl rfl (cellAt (eb hZ c) rfl) zz) (yp (Aa1 rfl zz) (yp (Aa0 Ju rfl zz) (yf (fun _ ⟨hZ,_⟩=>XP Tk rfl rfl (cellAt (eb hZ hb) rfl) zz) (ys (XP TI rfl rfl (cellAt c rfl) zz) (yE (XX NQ rfl ((Lj w0.heap.size _ H D (hS.keep hE) hL.used).mono ?_)))))))));rintro e bj ⟨rfl,n⟩;refine⟨_,rfl,?_⟩;have hgr:w.grownBy bj (some H.g):=Ak hgr n.grown (fun _ e=>by cases e);have af:=af.trans n;refine⟨af,?_⟩;have c:=eb n c;refine ys (XR (xv:= .int .i64 (((D.quota:Nat):Int))) (yv:= .int .i64 (((usedD D:Nat):Int))) rfl rfl rfl (KO _ (((D.quota:Nat):Int)) (((usedD D:Nat):Int)) (by omega)) zz) (ys (XQ rfl rfl (Kb _ .i64 ((b.length:Nat):Int) (((((D.quota:Nat):Int))-(((usedD D:Nat):Int))):Int)) zz) (kF (by omega) (cF rfl (gS (XP TI rfl rfl (cellAt c rfl) (gS (Yx (vs:= #[PQ o 0,PQ p 0,PQ t 0]) (by simp only[Acp,Aco,Acz];exact congrArg Adh (U3 (vr (PQ o 0) rfl) (vr (PQ p 0) rfl) (vr (PQ t 0) rfl))) ?_)))))));have hE:=hE.trans n;have hEc:=hE;have hSc:=(hS.keep hE);have hTc:=YN ag hEc;have hZ10:=hZ7.trans n;have h:=h.trans hZ10;have hE0c:=h;have f:=eb (hZ8.trans n) f;have k:=eb n k;refine gS (XS JU rfl rfl ((NP w0 _ hE0c H D hSc hdn hL.arm (.func (.func 140) #[] #[PQ o 0,PQ p 0,PQ t 0]) 140 #[PQ o 0,PQ p 0,PQ t 0] (fun _ _=>by kernel_rfl) rfl (fun d=>Cd d s b) (VK w0 _ hE0c H D hSc o p t s b vb c f k (hrb.keep hE) (hoff.imp id fun q i hi r=>q i hi r) hs hbl hL.files hL.acts)).mono ?_));rintro e b0 ⟨H3,rfl,hT2⟩;refine⟨_,rfl,?_⟩;have hT3:=hTc.trans hT2;refine Bp rfl (vr (NI ((DV D (fun d=>Cd d s b)).2)) rfl) ?_;exact⟨H3,by rw[hV],by rw[hV];exact hT3⟩
theorem VL(w0 w:AbJ)(c:Ext w0 w)(H:Dk)(D:Af)(hS:DkS w0.heap.size w H D)(s:Ah5)(hL:DN D):
  Calls AbL 90 #[PQ H.g 0,St s] w fun e w' =>∃H',e = .returned (NI (BD D s).2)/\DkT w0.heap.size w H D w' H' (BD D s).1:=by
 have hb:=hS.blk;have hgl:=(bl hb);have hgl0:=hS.lo.1;have hsz0:=c.size;have y:=hS;have hgr:=Ac7 w (some H.g);refine gG (args:= [PQ H.g 0,St (s)]) Tryz.func90 rfl 19 rfl rfl ?_;have hE:=AaY w;refine gS (YF (vr (PQ H.g 0) rfl) rfl fun f z ar aa n au=> ?_);have j:=AaY w;have av:=hE.size;have aw:=c.size;have hgr:w.grownBy z (some H.g):=Ak hgr n.grown (fun _ e=>by cases e);have l:=aa;clear aa;have ax:f<z.heap.size:=by omega
 rcases hV0:Eu D [] s with ce | k
 ·have hV:BD D s=(D,ce):=by unfold BD;rw[Hc,hV0]
  have hce:=Ll hV0;have hE:=hE.trans n;refine gS (XP TI rfl rfl (cellAt l rfl) (gS (Yf HF rfl rfl rfl (((show Calls _ _ _ _ (fun e w2=>e = .returned (.tuple #[.pointer none,NI ce])/\Ext _ w2)from by have h:=Ha w0.heap.size _ H D (hS.keep hE) s ((AbR none 0 0)) [] (.inl ⟨rfl,rfl⟩) (by simp);rw[hV0]at h;exact h)).mono ?_))));rintro e ak ⟨rfl,x⟩;refine⟨_,rfl,?_⟩;have hgr:w.grownBy ak (some H.g):=Ak hgr x.grown (fun _ e=>by cases e);refine gS (AaZ (vs:= [.pointer none,NI ce]) rfl rfl (gS (AaZ (vs:= [.pointer none,NI ce]) rfl rfl (gS (Aa3 Sz fun al ab ay ac ad az=> ?_)))));have hE:=hE.trans x;have hZ1:=n.trans x;have c:=c.trans hZ1;have j:=j.trans hZ1;have a0:=hE.size;have a1:=c.size;have am:=j.size;have hgr:w.grownBy ab (some H.g):=Ak hgr ad.grown (fun _ e=>by cases e);have q:=ac;clear ac;have a2:al<ab.heap.size:=by omega
  refine gS (X5 (i:=0) (v:= .pointer none) rfl rfl q (Ab2 rfl) QE rfl rfl fun an ae af a3=> ?_);have hgr:w.grownBy an (some H.g):=Ak hgr af (fun _ e=> .inr (by cases e;omega));clear q;have q:=ae;clear ae;have a4:=bl q;refine gS (XQ (a:=(ce:Nat)) (b:=(0:Nat)) rfl rfl (AV _ _ _ _) (kT (by omega) (cT rfl (Bp rfl (vr (NI ce) rfl) ?_))));have hE:=hE.trans ad;have hE:=Ab hE af (AbM am (by omega));exact⟨H,by rw[hV],by rw[hV];exact YN y hE⟩
 have hV:BD D s=DV D (fun d=> { d with files:=d.files.set k ((AY d k).1,(AY d k).1.length),kept:=d.now,acts:= [] }):=by unfold BD;rw[Hc,hV0]
 obtain⟨hdn,hlk,hms⟩:=Lm hV0;have hkl:=hS.ok.now.look hlk;have hE:=hE.trans n;refine gS (XP TI rfl rfl (cellAt l rfl) (gS (Yf HF rfl rfl rfl (((show Calls _ _ _ _ (fun e w2=>e = .returned (.tuple #[.pointer (some ⟨(H.F k),0,none⟩),NI 0])/\Ext _ w2)from by have h:=Ha w0.heap.size _ H D (hS.keep hE) s ((AbR none 0 0)) [] (.inl ⟨rfl,rfl⟩) (by simp);rw[hV0]at h;exact h)).mono ?_))));rintro e ag ⟨rfl,r⟩;refine⟨_,rfl,?_⟩;have hgr:w.grownBy ag (some H.g):=Ak hgr r.grown (fun _ e=>by cases e);refine gS (AaZ (vs:= [.pointer (some ⟨(H.F k),0,none⟩),NI 0]) rfl rfl (gS (AaZ (vs:= [.pointer (some ⟨(H.F k),0,none⟩),NI 0]) rfl rfl (gS (Aa3 Sz fun m ah a5 ai t a6=> ?_)))));have o:=AaY ag;have hE:=hE.trans r;have hZ2:=n.trans r;have c:=c.trans hZ2;have j:=j.trans hZ2;have a7:=hE.size;have ao:=c.size;have ap:=j.size;have hgr:w.grownBy ah (some H.g):=Ak hgr t.grown (fun _ e=>by cases e);have p:=ai;clear ai;have a8:m<ah.heap.size:=by omega
 refine gS (X5 (i:=0) (v:= .pointer (some ⟨(H.F k),0,none⟩)) rfl rfl p (Ab2 rfl) QE rfl rfl fun aq aj u a9=> ?_);have hgr:w.grownBy aq (some H.g):=Ak hgr u (fun _ e=> .inr (by cases e;omega));clear p;have p:=aj;clear aj;have ba:=bl p;have o:=o.trans t;have o:=Ab o u (AbM (AbO _) (by omega));have l:=eb (r.trans o) l;refine gS (XQ (a:=(0:Nat)) (b:=(0:Nat)) rfl rfl (AV _ _ _ _) (kF (by decide) (cF rfl (gS (XP TI rfl rfl (cellAt l rfl) (gS (Yx (vs:= #[PQ m 0,PQ f 0]) (by simp only[Acp,Aco,Acz];exact congrArg Adh (FK (vr (PQ m 0) rfl) (vr (PQ f 0) rfl))) ?_)))))));have hE:=hE.trans t;have hE:=Ab hE u (AbM ap (by omega));have hEc:=hE;have hSc:=(hS.keep hE);have hTc:=YN y hEc;have c:=c.trans t;have c:=Ab c u (AbM ao (by omega));have hE0c:=c;refine gS (XS JU rfl rfl ((NP w0 _ hE0c H D hSc hdn hL.arm (.func (.func 142) #[] #[PQ m 0,PQ f 0]) 142 #[PQ m 0,PQ f 0] (fun _ _=>by kernel_rfl) rfl (fun d=> { d with files:=d.files.set k ((AY d k).1,(AY d k).1.length),kept:=d.now,acts:= [] }) (TS w0 _ hE0c H D hSc m f k p l hkl.1)).mono ?_));rintro e bb ⟨H3,rfl,hT2⟩;refine⟨_,rfl,?_⟩;have hT3:=hTc.trans hT2;refine Bp rfl (vr (NI ((DV D (fun d=> { d with files:=d.files.set k ((AY d k).1,(AY d k).1.length),kept:=d.now,acts:= [] })).2)) rfl) ?_;exact⟨H3,by rw[hV],by rw[hV];exact hT3⟩
theorem VM(w0 w:AbJ)(f:Ext w0 w)(H:Dk)(D:Af)(hS:DkS w0.heap.size w H D)(s:Ah5)(hL:DN D):
  Calls AbL 52 #[PQ H.g 0,St s] w fun e w' =>∃H',e = .returned (NI (By D s).2)/\DkT w0.heap.size w H D w' H' (By D s).1:=by
 have hb:=hS.blk;have hgl:=(bl hb);have hgl0:=hS.lo.1;have hsz0:=f.size;have p:=hS;have hgr:=Ac7 w (some H.g);refine gG (args:= [PQ H.g 0,St (s)]) Tryz.func52 rfl 19 rfl rfl ?_;have hE:=AaY w;refine gS (YF (vr (PQ H.g 0) rfl) rfl fun i q ab r o ac=> ?_);have ad:=hE.size;have ae:=f.size;have hgr:w.grownBy q (some H.g):=Ak hgr o.grown (fun _ e=>by cases e);have c:=r;clear r;have af:i<q.heap.size:=by omega
 refine gS (YF (vr (St (s)) rfl) rfl fun j t u v l ag=> ?_);have hE:=hE.trans o;have f:=f.trans o;have ah:=hE.size;have ai:=f.size;have hgr:w.grownBy t (some H.g):=Ak hgr l.grown (fun _ e=>by cases e);have m:=v;clear v;have aj:j<t.heap.size:=by omega
 rcases hV0:Eu D [] s with ce | k
 ·have hV:By D s=(D,ce):=by unfold By;rw[Hc,hV0]
  have hce:=Ll hV0;have y:=As (bl c) u;have c:=eb l c;have hE:=hE.trans l;refine gS (XP TI rfl rfl (cellAt c rfl) (gS (XP Pi rfl rfl (cellAt m rfl) (gS (Yf HF rfl rfl rfl (((show Calls _ _ _ _ (fun e w2=>e = .returned (.tuple #[.pointer none,NI ce])/\Ext _ w2)from by have h:=Ha w0.heap.size _ H D (hS.keep hE) s ((AbR none 0 0)) [] (.inl ⟨rfl,rfl⟩) (by simp);rw[hV0]at h;exact h)).mono ?_))))));rintro e z ⟨rfl,x⟩;refine⟨_,rfl,?_⟩;have hgr:w.grownBy z (some H.g):=Ak hgr x.grown (fun _ e=>by cases e);refine gS (AaZ (vs:= [.pointer none,NI ce]) rfl rfl (gS (AaZ (vs:= [.pointer none,NI ce]) rfl rfl (gS (XQ (a:=(ce:Nat)) (b:=(0:Nat)) rfl rfl (AV _ _ _ _) (kT (by omega) (cT rfl (Bp rfl (vr (NI ce) rfl) ?_))))))));have hE:=hE.trans x;exact⟨H,by rw[hV],by rw[hV];exact YN p hE⟩
 have hV:By D s=DV D (fun d=>turnedD d ⟨s,[],k⟩):=by unfold By;rw[Hc,hV0]
 obtain⟨hdn,hlk,hms⟩:=Lm hV0;have hkl:=hS.ok.now.look hlk;have y:=As (bl c) u;have c:=eb l c;have hE:=hE.trans l;refine gS (XP TI rfl rfl (cellAt c rfl) (gS (XP Pi rfl rfl (cellAt m rfl) (gS (Yf HF rfl rfl rfl (((show Calls _ _ _ _ (fun e w2=>e = .returned (.tuple #[.pointer (some ⟨(H.F k),0,none⟩),NI 0])/\Ext _ w2)from by have h:=Ha w0.heap.size _ H D (hS.keep hE) s ((AbR none 0 0)) [] (.inl ⟨rfl,rfl⟩) (by simp);rw[hV0]at h;exact h)).mono ?_))))));rintro e aa ⟨rfl,n⟩;refine⟨_,rfl,?_⟩;have hgr:w.grownBy aa (some H.g):=Ak hgr n.grown (fun _ e=>by cases e);have c:=eb n c;refine gS (AaZ (vs:= [.pointer (some ⟨(H.F k),0,none⟩),NI 0]) rfl rfl (gS (AaZ (vs:= [.pointer (some ⟨(H.F k),0,none⟩),NI 0]) rfl rfl (gS (XQ (a:=(0:Nat)) (b:=(0:Nat)) rfl rfl (AV _ _ _ _) (kF (by decide) (cF rfl (gS (XP TI rfl rfl (cellAt c rfl) (gS (Yx (vs:= #[PQ i 0,PQ j 0]) (by simp only[Acp,Aco,Acz];exact congrArg Adh (FK (vr (PQ i 0) rfl) (vr (PQ j 0) rfl))) ?_)))))))))));have hE:=hE.trans n;have hEc:=hE;have hSc:=(hS.keep hE);have hTc:=YN p hEc;have hZ1:=l.trans n;have f:=f.trans hZ1;have hE0c:=f;have m:=eb n m;refine gS (XS JU rfl rfl ((NP w0 _ hE0c H D hSc hdn hL.arm (.func (.func 93) #[] #[PQ i 0,PQ j 0]) 93 #[PQ i 0,PQ j 0] (fun _ _=>by kernel_rfl) rfl (fun d=>turnedD d ⟨s,[],k⟩) (TT w0 _ hE0c H D hSc i j k s c m hkl.1 hkl.2 hL.acts)).mono ?_));rintro e ak ⟨H3,rfl,hT2⟩;refine⟨_,rfl,?_⟩;have hT3:=hTc.trans hT2;refine Bp rfl (vr (NI ((DV D (fun d=>turnedD d ⟨s,[],k⟩)).2)) rfl) ?_;exact⟨H3,by rw[hV],by rw[hV];exact hT3⟩
theorem AaQ{P:Acg}{K:AbI->AbJ->Prop}{ρ:Ac}{w:AbJ}{d:Option Tmp}{ty:AbQ}{pos:String}{af:Array Edge}{gd:Option (Nat × Bool)}{x y:AbV}{n:Int}(hx:Aa ρ x = .int .i64 n)(hy:Aa ρ y=NI 0)(hk:K (NI n.toNat) w):Yk P K ((execOp (Aa ρ) ⟨d, .call ⟨.builtin .max,#[x,y],#[3,3]⟩,ty,pos,af,gd⟩).run P w):=by
 refine Aa4 (v:=NI n.toNat) (w' :=w) ?_ hk;have he:(if(0:Int)>n then(0:Int)else n)=(n.toNat:Int):=by split <;> omega
 have hr:=run_max_int2 (P:=P) w #[3,3] ty .i64 .i64 n 0;rw[he]at hr;unfold execOp;simp only[resolve,invoke,builtin,AbY,Ab1,AbU,Acp,Aco,Acz,hx,hy,hr,show(NI 0:AbI) = .int .i64 0 from rfl]
def QG(D:Af):Nat:=if D.down=true then 0 else usedD D
theorem TU:Plain AbL 59:=fun _ _=>by kernel_rfl
theorem TV:Plain AbL 58:=fun _ _=>by kernel_rfl
theorem VN(w0 w:AbJ)(H:Dk)(D:Af)(hS:DkS w0.heap.size w H D)(s:Ah5)(hL:DN D):
  Calls AbL 42 #[PQ H.g 0,St s] w fun e w' =>∃v,e = .returned (.tuple #[v,NI (An D s).2])/\w'.ownsRow w.heap.size 5 1 v (An D s).1.length (AbK (An D s).1)/\Ext w w' :=by
 have hb:=hS.blk;have hgl:=(bl hb);have c:=hS;refine gG (args:= [PQ H.g 0,St (s)]) Tryz.func42 rfl 22 rfl rfl ?_;have hE:=AaY w;rcases hV0:Eu D [] s with ce | k
 ·have hV:An D s=([],ce):=by unfold An;rw[Hc,hV0]
  have hce:=Ll hV0;refine gS (Yf HF rfl rfl rfl (((show Calls _ _ _ _ (fun e w2=>e = .returned (.tuple #[.pointer none,NI ce])/\Ext _ w2)from by have h:=Ha w0.heap.size _ H D (hS.keep hE) s ((AbR none 0 0)) [] (.inl ⟨rfl,rfl⟩) (by simp);rw[hV0]at h;exact h)).mono ?_));rintro e n ⟨rfl,j⟩;refine⟨_,rfl,?_⟩;refine gS (AaZ (vs:= [.pointer none,NI ce]) rfl rfl (gS (AaZ (vs:= [.pointer none,NI ce]) rfl rfl (gS (XQ (a:=(ce:Nat)) (b:=(0:Nat)) rfl rfl (AV _ _ _ _) (kT (by omega) (cT rfl (BA rfl (vr (AbR none 0 0) rfl) (vr (NI ce) rfl) ?_))))))));have hE:=hE.trans j;exact⟨_,by rw[hV],by rw[hV];exact AcH _ _ _ 1,hE⟩
 have hV:An D s=((AY D k).1,0):=by unfold An;rw[Hc,hV0]
 obtain⟨hdn,hlk,hms⟩:=Lm hV0;have hkl:=(c.ok.now.look hlk).1;have hfa:=c.files.at_ k hkl;have hfb:=hfa.blk;have hfr:RB w (H.V k) (D.files.getD k ([],0)).1:=Ya hfa.row;have hlb:=hL.files _ (GD (d:=([],0)) hkl);refine gS (Yf HF rfl rfl rfl (((show Calls _ _ _ _ (fun e w2=>e = .returned (.tuple #[.pointer (some ⟨(H.F k),0,none⟩),NI 0])/\Ext _ w2)from by have h:=Ha w0.heap.size _ H D (hS.keep hE) s ((AbR none 0 0)) [] (.inl ⟨rfl,rfl⟩) (by simp);rw[hV0]at h;exact h)).mono ?_));rintro e o ⟨rfl,f⟩;refine⟨_,rfl,?_⟩;have hE:=hE.trans f;refine gS (AaZ (vs:= [.pointer (some ⟨(H.F k),0,none⟩),NI 0]) rfl rfl (gS (AaZ (vs:= [.pointer (some ⟨(H.F k),0,none⟩),NI 0]) rfl rfl (gS (XQ (a:=(0:Nat)) (b:=(0:Nat)) rfl rfl (AV _ _ _ _) (kF (by decide) (cF rfl (gS (Aa1 rfl (gS (Aa0 ON rfl (gS (XP F7 rfl rfl (cellAt (eb hE hfb) rfl) (gS (XX Sj rfl ((LX _ (H.V k) ((D.files.getD k ([],0)).1) (hfr.keep hE) (by omega)).mono ?_))))))))))))))));rintro e p ⟨l,rfl,i⟩;refine⟨_,rfl,?_⟩;have q:=hE.size;have hb:=eb f hb;have m:=i.own;refine BA rfl (vr l rfl) (vr (NI 0) rfl) ?_;have hE:=hE.trans i.ext;exact⟨_,by rw[hV],by rw[hV];exact BJ m (by omega),hE⟩
theorem XF(base:Nat)(w:AbJ)(H:Dk)(D:Af)(hS:DkS base w H D)(hU:usedD D<4611686018427387904):
  Calls AbL 25 #[PQ H.g 0] w fun e w' =>e = .returned (NI (QG D))/\Ext w w' :=by
 have hb:=hS.blk;have hgl:=(bl hb);refine gG (args:= [PQ H.g 0]) Tryz.func25 rfl 8 rfl rfl ?_;have hE:=AaY w;cases hdn:D.down
 ·have hV:QG D=usedD D:=if_neg (by rw[hdn];decide);have hr:readyL D []=0:=IF hdn rfl;refine gS (XS JT rfl rfl ((Dv base _ H D (hS.keep hE) (AbR none 0 0) [] (Abv _ _ _) (by simp)).mono ?_));rintro e i ⟨rfl,c⟩;refine⟨_,rfl,?_⟩;have hE:=hE.trans c;refine gS (XQ (a:=(readyL D []:Nat)) (b:=(0:Nat)) rfl rfl (AV _ _ _ _) (kF (by omega) (cF rfl (gS (XX NQ rfl ((Lj base _ H D (hS.keep hE) hU).mono ?_))))));rintro e j ⟨rfl,f⟩;refine⟨_,rfl,?_⟩;refine Bp rfl (vr (NI (usedD D)) rfl) ?_;have hE:=hE.trans f;exact⟨by rw[hV],hE⟩
 have hV:QG D=0:=if_pos hdn;have hr:readyL D []=9:=GQ hdn;refine gS (XS JT rfl rfl ((Dv base _ H D (hS.keep hE) (AbR none 0 0) [] (Abv _ _ _) (by simp)).mono ?_));rintro e k ⟨rfl,h⟩;refine⟨_,rfl,?_⟩;refine gS (XQ (a:=(readyL D []:Nat)) (b:=(0:Nat)) rfl rfl (AV _ _ _ _) (kT (by omega) (cT rfl (Bp rfl (vr (NI 0) rfl) ?_))));have hE:=hE.trans h;exact⟨by rw[hV],hE⟩
theorem TW(base:Nat)(w:AbJ)(H:Dk)(D:Af)(hS:DkS base w H D):
  Calls AbL 40 #[PQ H.g 0] w fun e w' =>e = .returned (.bool D.down)/\Ext w w' :=by
 have hb:=hS.blk;have hgl:=(bl hb);refine gG (args:= [PQ H.g 0]) Tryz.func40 rfl 11 rfl rfl ?_;have hE:=AaY w;refine gS (Aaf TI rfl (gS (Aa1 rfl (gS (Aa0 OL rfl (gS (XP JO rfl rfl (cellAt hb rfl) (gS (XY rfl rfl (Bp rfl (vr (.bool (D.down)) rfl) ?_))))))))));exact⟨rfl,hE⟩
theorem VO(base:Nat)(w:AbJ)(H:Dk)(D:Af)(hS:DkS base w H D)(hlen:D.now.length<1099511627776):
  Calls AbL 27 #[PQ H.g 0] w fun e w' =>∃v,e = .returned v/\OG w.heap.size 9 1 CX w' v (Bd D)/\Ext w w' :=by
 have hb:=hS.blk;have hgl:=(bl hb);have i:=hS;refine gG (args:= [PQ H.g 0]) Tryz.func27 rfl 12 rfl rfl ?_;have hE:=AaY w;cases hdn:D.down
 ·have hV:Bd D=D.now.map Aci:=if_neg (by rw[hdn];decide);have hr:readyL D []=0:=IF hdn rfl;refine gS (XS JT rfl rfl ((Dv base _ H D (hS.keep hE) (AbR none 0 0) [] (Abv _ _ _) (by simp)).mono ?_));rintro e c ⟨rfl,f⟩;refine⟨_,rfl,?_⟩;have hb:=eb f hb;refine gS (XQ (a:=(readyL D []:Nat)) (b:=(0:Nat)) rfl rfl (AV _ _ _ _) (kF (by omega) (cF rfl (gS (Aa1 rfl (gS (Aa0 OM rfl (gS (XP LZ rfl rfl (cellAt hb rfl) ?_)))))))));have hE:=hE.trans f;have hm1:=(hS.keep hE).now;refine gS (XX TU rfl ((TN _ _).mono ?_));rintro e h ⟨rfl,hwk⟩;refine⟨_,rfl,?_⟩;have hxk:Ext c h:=by rw[hwk];exact(AcB _ _).alloc (AbO _) _
  refine gS (XX TV rfl ((QC c h hwk hm1 i.ok.now hlen).mono ?_));rintro e n ⟨j,rfl,k,l⟩;refine⟨_,rfl,?_⟩;have hE:=hE.trans hxk;have o:=hE.size;refine Bp rfl (vr j rfl) ?_;have hE:=hE.trans l;exact⟨_,rfl,by rw[hV];exact OG.low k (by omega),hE⟩
 have hV:Bd D= []:=if_pos hdn;have hr:readyL D []=9:=GQ hdn;refine gS (XS JT rfl rfl ((Dv base _ H D (hS.keep hE) (AbR none 0 0) [] (Abv _ _ _) (by simp)).mono ?_));rintro e p ⟨rfl,m⟩;refine⟨_,rfl,?_⟩;refine gS (XQ (a:=(readyL D []:Nat)) (b:=(0:Nat)) rfl rfl (AV _ _ _ _) (kT (by omega) (cT rfl (Bp rfl (vr (AbR none 0 0) rfl) ?_))));have hE:=hE.trans m;exact⟨_,rfl,by rw[hV];exact Abg _ _ _ _ _,hE⟩
theorem RG.kept{α:Type}{k:Nat}{enc:α->List AbI}{w w' :AbJ}{v:AbI}{l:List α}(h:RG k enc w v l){row:Option Nat}(hg:w.grownBy w' row)(hv:v.ownBlock=none\/v.ownBlock≠row):RG k enc w' v l:=by
 refine⟨h.1,?_⟩;obtain⟨h1,ao,cap,rfl,h2,h3,h4,h5⟩:=h.2;refine⟨h1,ao,cap,rfl,h2,h3,h4,fun a ha j u hu=> ?_⟩;have hc:=h5 a ha j u hu;subst ha;have hlt:=Ada w _ hc;have hbl:(a.add j).block=a.block:=by unfold Addr.add;split <;> rfl
 have hne:(some a.block)≠row:=by
  rcases hv with hv | hv
  ·cases hv
  ·exact hv
 rw[hbl]at hlt;rw[World.cell?_of_block (w:=w) (by rw[hbl];exact hg.block a.block hlt hne)];exact hc
theorem NR(t:AbQ)(a b:Int)(hb:b≠0):Acm .rem t (.int .i64 a) (.int .i64 b)=pure (.int .i64 (Int.tmod a b)):=by
 unfold Acm;simp only[ne_eq,not_true_eq_false,if_false,Op.intDiv];rw[if_neg hb]
theorem Pl(x:Int)(m:Nat): -(m:Int)<=Int.tmod x ((m+1:Nat):Int)/\Int.tmod x ((m+1:Nat):Int)<=m:=by
 have h1:=Int.tmod_lt_of_pos x (show(0:Int)<((m+1:Nat):Int) by omega);have h2:=Int.lt_tmod_of_pos x (show(0:Int)<((m+1:Nat):Int) by omega);omega
def Fc(q:Nat):Af:=⟨q,[],[],[],[],0,0,false⟩
theorem VP(q:Nat):DOk (Fc q):=⟨AbG _,AbG _,fun a h=>(by cases h),fun x h=>(by cases h)⟩
theorem Aav{P:Acg}{K:AbI->AbJ->Prop}{ρ:Ac}{w:AbJ}{d:Option Tmp}{t ty:AbQ}{pos:String}{af:Array Edge}{gd:Option (Nat × Bool)}{i0 i1 i2:Nat}{x0 x1 x2:AbV}{a b c v:AbI}(h0:Aa ρ x0=a)(h1:Aa ρ x1=b)(h2:Aa ρ x2=c)(hr:∀w:AbJ,(AdF t #[(i0,a),(i1,b),(i2,c)]).run P w = .ok v w)(hk:K v w):Yk P K ((execOp (Aa ρ) ⟨d, .build t #[(i0,x0),(i1,x1),(i2,x2)],ty,pos,af,gd⟩).run P w):=
 Yk.build (by simp[h0,h1,h2]) hr hk
theorem VQ(q:Int)(a b:Nat)(w:AbJ):(AdF 107 #[(0, .int .i64 q),(1, .map (some a)),(2, .map (some b))]).run AbL w = .ok (.agg #[.int .i64 q, .map (some a), .map (some b), .slice none 0 0,NI 0,NI 0, .bool false]) w:=by kernel_rfl
theorem WL(w:AbJ)(q:Nat)(hq:q<=1073741824):
  Calls AbL 21 #[NI q] w fun e w' =>∃H,e = .returned (PQ H.g 0)/\DkS w.heap.size w' H (Fc q)/\Ext w w' :=by
 refine gG (args:= [NI q]) Tryz.func21 rfl 14 rfl rfl ?_;have hE:=AaY w;refine gS (XQ (a:=(q:Nat)) (b:=(0:Nat)) rfl rfl (AK _ _ _ _) (kF (by omega) (gS (XQ (a:=(q:Nat)) (b:=(1073741824:Nat)) rfl rfl (Bh _ _ _ _) (kF (by omega) (gS (X2 rfl rfl (cF rfl ?_))))))));have v:=hE.size;refine gS (YJ St (pF (fun _=>0)) Nm fun c p x hm8 r y=> ?_);have z:c<p.heap.size:=by omega
 have hE:=hE.trans r;have aa:=hE.size;refine gS (YJ St (pF (fun _=>0)) Nm fun f s ab hm16 m ac=> ?_);have ad:f<s.heap.size:=by omega
 refine gS (Aav (vr (NI q) rfl) (vr (.map (some c)) rfl) (vr (.map (some f)) rfl) (fun w=>VQ _ _ _ w) (gS (Abh (vr (.agg (Jr q c f (.slice none 0 0) 0 0 false).toArray) rfl) fun h t n o l ae=> ?_)));have hE:=hE.trans m;have af:=hE.size;have hm8:=hm8.keep m;have ag:=As hm8.lt n;have ah:=As hm16.lt n;have u:=o;clear o;have ai:h<t.heap.size:=by omega
 refine Bp rfl (vr (PQ h 0) rfl) ?_;have hE:=hE.trans l;have hm8:=hm8.keep l;have hm16:=hm16.keep l;exact⟨⟨h,c,f, .slice none 0 0,fun _=>0,fun _=> .slice none 0 0⟩,rfl,⟨u,hm8,hm16,by show c≠f;omega,⟨[],AcH _ _ _ 1,rfl,fun i hi=>absurd hi (Ads _)⟩,⟨fun k hk=>absurd hk (Ads _),fun i j hi=>absurd hi (Ads _),fun i j hi=>absurd hi (Ads _)⟩,VP q,by show _<=h/\_<=c/\_<=f;omega⟩,hE⟩
section
variable {base : Nat} {w w' : AbJ} {H : Dk} {D : Af}
theorem FilesAt.low{F:Nat->Nat}{V:Nat->AbI}{fs:List (Ah5 × Nat)}(h:FilesAt base w F V fs){b' :Nat}(hb:b' <=base):FilesAt b' w F V fs:=⟨fun k hk=>⟨(h.at_ k hk).blk,BJ (h.at_ k hk).row hb,AbM hb (h.at_ k hk).lo⟩,h.inj,h.apart⟩
end
structure DBd (n : Nat) (D : Af) : Prop where
 quota:D.quota<=1073741824
 refused:D.refused<=n
 arm:D.arm<=9223372036854775807
 acts:D.kept.length+D.acts.length<=n
 now:D.now.length<=n
 files:∀x∈D.files,x.1.length<=300*n
theorem DBd.file{n:Nat}{D:Af}(h:DBd n D)(k:Nat):(AY D k).1.length<=300*n:=by
 by_cases hk:k<D.files.length
 ·exact h.files _ (IE hk)
 ·unfold AY;rw[AbN,AcR (by omega)];exact Ack _
theorem QH{l:List Nat}{m:Nat}(h:∀x∈l,x<=m):l.sum<=l.length*m:=by
 induction l with
 | nil=>simp
 | cons a r ih=>
  have h1:=h a AcT;have h2:=ih fun x hx=>h x (AcW _ hx);rw[List.sum_cons,Ach,Nat.succ_mul];omega
theorem DBd.used{n:Nat}{D:Af}(h:DBd n D):usedD D<=n*(300*n):=by
 unfold usedD;have h1:=QH (l:=D.now.map fun e=>(AY D e.2).1.length) (m:=300*n) fun x hx=>by
  obtain⟨e,_,rfl⟩:=Acw.1 hx;exact h.file e.2
 rw[Ab9]at h1;exact AbM h1 (Nat.mul_le_mul_right _ h.now)
theorem DBd.lt{n:Nat}{D:Af}(h:DBd n D)(hn:n<=100000):DN D:=by
 have h1:=h.used;have h2:n*(300*n)<=100000*(300*100000):=Nat.mul_le_mul hn (AeD _ hn);have h3:=h.acts;have h4:=h.now;have h5:=h.refused;have h6:=h.arm;exact⟨h.quota,by omega,by omega,by omega,by omega,by omega,by omega,fun x hx=>by have:=h.files x hx;omega⟩
theorem DBd.mono{n m:Nat}{D:Af}(h:DBd n D)(hn:n<=m):DBd m D:=
 ⟨h.quota,AbM h.refused hn,h.arm,AbM h.acts hn,AbM h.now hn,fun x hx=>AbM (h.files x hx) (AeD _ hn)⟩
theorem DBd.new{q:Nat}(hq:q<=1073741824):DBd 0 (Fc q):=⟨hq,AbO _,Ack _,AbO _,AbO _,fun x h=>by cases h⟩
theorem DBd.armed{n:Nat}{D:Af}(h:DBd n D):DBd n (CS D).1:=by
 unfold CS;split
 ·exact h
 ·have:=h.arm;exact⟨h.quota,h.refused,by show D.arm-1<=_;omega,h.acts,h.now,h.files⟩
theorem DBd.turned{n:Nat}{D:Af}(h:DBd n D)(a:CR):DBd (n+1) (turnedD D a):=by
 have h1:=TE D.now a;have h2:=h.acts;have h3:=h.now;refine⟨h.quota,AdV h.refused,h.arm,?_,?_,fun x hx=>AbM (h.files x hx) (AeD _ (AfL n))⟩
 ·show D.kept.length+(D.acts++ [a]).length<=n+1;rw[AbP,Ab7];omega
 ·show(turnD D.now a).length<=n+1;omega
theorem DBd.add{n:Nat}{D:Af}(h:DBd n D)(s:Ah5){b:Ah5}(hb:b.length<=300):DBd (n+1) (Cd D s b):=by
 unfold Cd;split
 ·rename_i k _
  refine⟨h.quota,AdV h.refused,h.arm,AdV h.acts,AdV h.now,fun x hx=> ?_⟩;rcases Aew hx with hx | rfl
  ·have:=h.files x hx;omega
  ·have:=h.file k;show((AY D k).1++b).length<=_;rw[AbP];omega
 ·have h1:=h.turned ⟨[],s,D.files.length⟩;refine⟨h1.quota,h1.refused,h1.arm,h1.acts,h1.now,fun x hx=> ?_⟩;rcases Acb.1 hx with hx | hx
  ·have:=h.files x hx;omega
  ·rw[AbW.1 hx];show b.length<=_;omega
theorem DBd.did{n:Nat}{D:Af}(h:DBd n D){f:Af->Af}(hf:∀E,DBd n E->DBd (n+1) (f E)):DBd (n+1) (DV D f).1:=by
 unfold DV;split
 ·exact h.armed.mono (AfL n)
 ·exact hf _ h.armed
theorem DBd.append{n:Nat}{D:Af}(h:DBd n D)(s:Ah5){b:Ah5}(hb:b.length<=300):DBd (n+1) (A2 D s b).1:=by
 unfold A2;split
 ·exact h.mono (AfL n)
 ·split
  ·exact⟨h.quota,Nat.succ_le_succ h.refused,h.arm,AdV h.acts,AdV h.now,fun x hx=>AbM (h.files x hx) (AeD _ (AfL n))⟩
  ·exact h.did (f:=fun d=>Cd d s b) fun E hE=>hE.add s hb
theorem DBd.sync{n:Nat}{D:Af}(h:DBd n D)(s:Ah5):DBd (n+1) (BD D s).1:=by
 unfold BD;split
 ·exact h.mono (AfL n)
 ·rename_i k _
  refine h.did fun E hE=>⟨hE.quota,AdV hE.refused,hE.arm,?_,AdV hE.now,fun x hx=> ?_⟩
  ·have:=hE.now;show E.now.length+0<=_;omega
  ·rcases Aew hx with hx | rfl
   ·have:=hE.files x hx;omega
   ·have:=hE.file k;show(AY E k).1.length<=_;omega
theorem DBd.drop{n:Nat}{D:Af}(h:DBd n D)(s:Ah5):DBd (n+1) (By D s).1:=by
 unfold By;split
 ·exact h.mono (AfL n)
 ·exact h.did fun E hE=>hE.turned _
section
variable {base : Nat} {w w' wb : AbJ} {g : Nat} {H H' : Dk} {D D' : Af}
theorem DkS.low(h:DkS base w H D){b' :Nat}(hb:b' <=base):DkS b' w H D:=by
 obtain⟨vs,hv⟩:=h.acts;exact⟨h.blk,h.now,h.kept,h.ne,⟨vs,BJ hv.row hb,hv.len,hv.at_⟩,h.files.low hb,h.ok,⟨AbM hb h.lo.1,AbM hb h.lo.2.1,AbM hb h.lo.2.2⟩⟩
structure DkG (wb w : AbJ) (g : Nat) (H : Dk) (D : Af) : Prop where
 ext:Ext wb w
 st:DkS wb.heap.size w H D
 hg:H.g=g
theorem DkG.keep(h:DkG wb w g H D)(k:Ext w w'):DkG wb w' g H D:=⟨h.ext.trans k,h.st.keep k,h.hg⟩
theorem DkG.step(h:DkG wb w g H D)(k:DkT wb.heap.size w H D w' H' D'):DkG wb w' g H' D' :=⟨k.chg.ext h.ext (fun i q=>(h.st.foot q).2.2),k.st,k.g.trans h.hg⟩
theorem DkG.box(h:DkG wb w g H D)(hc:Chg (B3 H D.files.length) w w'){b:Nat}{cs:Array AbI}{t:AbQ}{fr:Nat × Nat}(hb:w.heap[b]? =some (.cells cs t fr))(h1:t≠107)(h2:t≠133)(h3:t≠5)(h4:t≠131):w'.heap[b]? =some (.cells cs t fr):=
 (hc.blk b (bl hb) (h.st.offT hb h1 h2 h3 h4)).trans hb
abbrev Abe:=@DkG.box
theorem DkG.read(h:DkG wb w g H D)(s:Ah5)(hL:DN D):
  Calls AbL 42 #[PQ g 0,St s] w fun e w' =>∃v,e = .returned (.tuple #[v,NI (An D s).2])/\w'.ownsRow w.heap.size 5 1 v (An D s).1.length (AbK (An D s).1)/\Ext w w' :=by
 rw[<-h.hg];exact VN wb w H D h.st s hL
theorem DkG.list(h:DkG wb w g H D)(hL:DN D):
  Calls AbL 27 #[PQ g 0] w fun e w' =>∃v,e = .returned v/\OG w.heap.size 9 1 CX w' v (Bd D)/\Ext w w' :=by
 rw[<-h.hg];exact VO _ w H D h.st hL.now
theorem DkG.down(h:DkG wb w g H D):
  Calls AbL 40 #[PQ g 0] w fun e w' =>e = .returned (.bool D.down)/\Ext w w' :=by
 rw[<-h.hg];exact TW _ w H D h.st
theorem Xl(wb w:AbJ)(hE:Ext wb w)(q:Nat)(hq:q<=1073741824):
  Calls AbL 21 #[NI q] w fun e w' =>∃g H,e = .returned (PQ g 0)/\DkG wb w' g H (Fc q)/\Ext w w' :=
 (WL w q hq).mono fun e w' ⟨H,he,hS,hx⟩=>⟨H.g,H,he,⟨hE.trans hx,hS.low hE.size,rfl⟩,hx⟩
end
section
variable {base : Nat} {w w' wb : AbJ} {g : Nat} {H H' : Dk} {D D' : Af}
structure DkW (wb w : AbJ) (g : Nat) (H : Dk) (D : Af) (w' : AbJ) (H' : Dk) (D' : Af) : Prop where
 g:DkG wb w' g H' D'
 chg:Chg (B3 H D.files.length) w w'
 foot:∀i,B3 H' D'.files.length i->B3 H D.files.length i\/w.heap.size<=i
theorem DkG.stepW(h:DkG wb w g H D)(k:DkT wb.heap.size w H D w' H' D'):DkW wb w g H D w' H' D' :=⟨h.step k,k.chg,k.foot⟩
theorem DkG.appendW(h:DkG wb w g H D)(s:Ah5)(vb:AbI)(b:Ah5)(hrb:RB w vb b)(hoff:b= []\/∀i,vb.ownBlock=some i->¬B3 H D.files.length i)(hbl:b.length<1099511627776)(hL:DN D):
  Calls AbL 88 #[PQ g 0,St s,vb] w fun e w' =>∃H',e = .returned (NI (A2 D s b).2)/\DkW wb w g H D w' H' (A2 D s b).1:=by
 rw[<-h.hg];exact(SA wb w h.ext H D h.st s vb b hrb hoff hbl hL).mono fun e w' ⟨H',he,hT⟩=>⟨H',he,by rw[h.hg];exact h.stepW hT⟩
theorem DkG.syncW(h:DkG wb w g H D)(s:Ah5)(hL:DN D):
  Calls AbL 90 #[PQ g 0,St s] w fun e w' =>∃H',e = .returned (NI (BD D s).2)/\DkW wb w g H D w' H' (BD D s).1:=by
 rw[<-h.hg];exact(VL wb w h.ext H D h.st s hL).mono fun e w' ⟨H',he,hT⟩=>⟨H',he,by rw[h.hg];exact h.stepW hT⟩
theorem DkG.dropW(h:DkG wb w g H D)(s:Ah5)(hL:DN D):
  Calls AbL 52 #[PQ g 0,St s] w fun e w' =>∃H',e = .returned (NI (By D s).2)/\DkW wb w g H D w' H' (By D s).1:=by
 rw[<-h.hg];exact(VM wb w h.ext H D h.st s hL).mono fun e w' ⟨H',he,hT⟩=>⟨H',he,by rw[h.hg];exact h.stepW hT⟩
theorem ActAt.setT{F:Nat->Nat}{v:AbI}{a:CR}{g:Nat}{cs:Array AbI}{t:AbQ}{fr:Nat × Nat}(h:ActAt w F v a)(hc:Chg (fun i=>i=g) w w')(hb:w.heap[g]? =some (.cells cs t fr))(h1:t≠113)(h2:t≠9):ActAt w' F v a:=by
 have k:∀ {b:Nat} {cs' :Array AbI} {t' :AbQ} {fr' :Nat × Nat},w.heap[b]? =some (.cells cs' t' fr')->t' ≠t->w'.heap[b]? =some (.cells cs' t' fr'):=fun e hne=>(hc.blk _ (bl e) fun q=>by rw[q,hb]at e;cases e;exact hne rfl).trans e;rcases h with ⟨bf,bn,e,q1,q2,q3,q4⟩ | ⟨hm,bs,bf,bn,e,q1,q2,q3,q4⟩ | ⟨bn,e,q1,q2⟩
 ·exact .inl ⟨bf,bn,e,k q1 (Ne.symm h1),k q2 (Ne.symm h2),q3,q4⟩
 ·exact .inr (.inl ⟨hm,bs,bf,bn,e,k q1 (Ne.symm h2),k q2 (Ne.symm h1),k q3 (Ne.symm h2),q4⟩)
 ·exact .inr (.inr ⟨bn,e,k q1 (Ne.symm h2),q2⟩)
theorem DkS.setT(h:DkS base w H D){g:Nat}{cs:Array AbI}{t:AbQ}{fr:Nat × Nat}(hg:w.grownBy w' (some g))(hb:w.heap[g]? =some (.cells cs t fr))(h1:t≠107)(h2:t≠133)(h3:t≠5)(h4:t≠131)(h5:t≠113)(h6:t≠9):DkS base w' H D:=by
 have hc:Chg (fun i=>i=g) w w' :=Yj hg fun i e=> .inl (Acu e).symm;have hB:∀i,B3 H D.files.length i->¬i=g:=fun i q e=>h.offT hb h1 h2 h3 h4 (e▸q);obtain⟨vs,hv⟩:=h.acts;exact⟨(hc.blk _ (bl h.blk) (hB _ (.inl rfl))).trans h.blk,h.now.chg hc (hB _ (.inr (.inl rfl))),h.kept.chg hc (hB _ (.inr (.inr (.inl rfl)))),h.ne,
  ⟨vs,Du hc hv.row (fun i hi=>hB i (.inr (.inr (.inr (.inl hi))))),hv.len,fun i hi=>(hv.at_ i hi).setT hc hb h5 h6⟩,
  h.files.chg hc (fun k hk=>⟨hB _ (.inr (.inr (.inr (.inr ⟨k,hk, .inl rfl⟩)))),fun i hi=>hB i (.inr (.inr (.inr (.inr ⟨k,hk, .inr hi⟩))))⟩),h.ok,h.lo⟩
theorem DkG.setT(h:DkG wb w g H D){b:Nat}{cs:Array AbI}{t:AbQ}{fr:Nat × Nat}(hg:w.grownBy w' (some b))(hb:w.heap[b]? =some (.cells cs t fr))(hw:wb.heap.size<=b)(h1:t≠107)(h2:t≠133)(h3:t≠5)(h4:t≠131)(h5:t≠113)(h6:t≠9):DkG wb w' g H D:=
 ⟨(show Chg (fun i=>i=b) w w' from Yj hg fun i e=> .inl (Acu e).symm).ext h.ext (fun i q=>by have q:i=b:=q;omega),h.st.setT hg hb h1 h2 h3 h4 h5 h6,h.hg⟩
end
def BAt(w w0:AbJ)(b:Nat)(l:Ah5):Prop:=w0.heap.size<=b/\∃p v,(p = .pointer none\/p = .pointer (some ⟨b,0,none⟩))/\w.heap[b]? =some (.cells ([p,v]:List AbI).toArray 219 (0,0))/\w.ownsRow w0.heap.size 5 1 v l.length (AbK l)/\v.ownBlock≠some b
theorem BAt.fresh{w w0:AbJ}{b:Nat}(h0:w0.heap.size<=b)(h:w.heap[b]? =some (.cells ([.pointer none,(.slice none 0 0)]:List AbI).toArray 219 (0,0))):BAt w w0 b []:=
 ⟨h0,_,_, .inl rfl,h,AcH w _ _ 1,by simp[AbS]⟩
theorem AaR{w w0:AbJ}{b:Nat}{l:Ah5}(h:BAt w w0 b l):Lib.IsBuilder 219 5 w0.heap.size b (AbK l) w:=by
 obtain⟨h0,p,v,h1,h2,h3,h4⟩:=h;have h3' :w.ownsRow w0.heap.size 5 1 v (AbK l).length (AbK l):=by rw[AbZ];exact h3
 rcases h1 with rfl | rfl
 ·exact .inl ⟨h0,v,h2,h3',h4⟩
 ·exact .inr ⟨h0,v,h2,h3',h4⟩
section
variable {P : Acg} {K : AbI -> AbJ -> Prop} {ρ : Ac} {w : AbJ} {d : Option Tmp} {ty : AbQ} {pos : String} {af : Array Edge} {gd : Option (Nat × Bool)}
theorem Ln{t n:Nat}(hi:(P.info? t).map (·.size)=some n):∃j,P.info? t=some j/\j.size=n:=by
 cases h:P.info? t with
 | none=>simp[h]at hi
 | some j=>exact⟨j,rfl,by simpa [h] using hi⟩
theorem ZU{src dst t e:AbQ}{n:Nat}(hs:P.underlying src=some (.pointer t))(hd:P.underlying dst=some .unsafePointer)(hi:(P.info? t).map (·.size)=some n)(hn:n≠0){x:AbV}{b o:Nat}{cs:Array AbI}{fr:Nat × Nat}(hx:Aa ρ x = .pointer (some ⟨b,o,none⟩))(hb:w.heap[b]? =some (.cells cs e fr))(ho:o<cs.size) 
  (hk:K (.pointer (some ⟨b,o,none⟩)) w):Yk P K ((execOp (Aa ρ) ⟨d, .convert src dst x,ty,pos,af,gd⟩).run P w):=by
 obtain⟨j,h1,h2⟩:=Ln hi;have hr:=Lib.run_to_unsafe (P:=P) w (⟨b,o,none⟩:Addr) hs hd h1 (by omega) (by show w.shape? b=_;unfold AhP;rw[hb]) ho;refine Aa4 (v:= .pointer (some ⟨b,o,none⟩)) (w' :=w) ?_ hk;unfold execOp;simp only[hx,hr,AbY,Ab1,AbU]
theorem ZB{src dst u e:AbQ}{n m:Nat}(hs:P.underlying src=some .unsafePointer)(hd:P.underlying dst=some (.pointer u))(hi:(P.info? u).map (·.size)=some n){x:AbV}{b o:Nat}{cs:Array AbI}{fr:Nat × Nat}(hx:Aa ρ x = .pointer (some ⟨b,o,none⟩))(hb:w.heap[b]? =some (.cells cs e fr))(hm:cs.size=m)(hl:liesAt P P.depth e (m/P.cellsOf e) o u 1=true) 
  (hk:K (.pointer (some ⟨b,o,none⟩)) w):Yk P K ((execOp (Aa ρ) ⟨d, .convert src dst x,ty,pos,af,gd⟩).run P w):=by
 obtain⟨j,h1,h2⟩:=Ln hi;have hr:=Lib.run_from_unsafe (P:=P) w (cells:=m) (⟨b,o,none⟩:Addr) hs hd h1 (by show w.shape? b=_;unfold AhP;rw[hb];simp[hm]) hl;refine Aa4 (v:= .pointer (some ⟨b,o,none⟩)) (w' :=w) ?_ hk;unfold execOp;simp only[hx,hr,AbY,Ab1,AbU]
theorem Aac{t e ty2:AbQ}{n:Nat}(ht:P.underlying t=some (.pointer e))(hi:(P.info? e).map (·.size)=some n){x y:AbV}{a:Addr}(hx:Aa ρ x = .pointer (some a))(hy:Aa ρ y = .pointer (some a))(hk:K (.bool false) w):Yk P K ((execOp (Aa ρ) ⟨d, .binOp .neq t x y ty2,ty,pos,af,gd⟩).run P w):=by
 obtain⟨j,h1,h2⟩:=Ln hi;have hr:=Lib.run_neq_ptr_same (P:=P) w a ht h1;refine Aa4 (v:= .bool false) (w' :=w) ?_ hk;unfold execOp;simp only[hx,hy];simp[eqGuard,hr]
end
theorem leb6_tyU305:Tryz.prog.underlying 305=some .unsafePointer:=by kernel_rfl
theorem leb6_ne(a:Option Addr)(w:AbJ):(callFunc 213 #[.pointer a]).run AbL w = .ok (.value (.pointer a)) w:=by kernel_rfl
theorem VR:liesAt AbL Tryz.prog.depth 219 (2/Tryz.prog.cellsOf 219) 0 219 1=true:=by kernel_rfl
theorem leb6_fo219_0:A4 AbL 219 0 0:=fun b o w=>by simp[go_sem]
theorem leb6_ty217:Tryz.prog.underlying 217=some (.pointer 219):=by kernel_rfl
theorem leb6_isz219:(Tryz.prog.info? 219).map (·.size)=some 2:=by kernel_rfl
theorem OR:(Tryz.prog.info? 217).map (·.size)=some 1:=by kernel_rfl
theorem leb6_pl174:Plain AbL 174:=fun _ _=>by kernel_rfl
theorem IH:A4 AbL 219 1 1:=fun b o w=>by simp[go_sem]
theorem Lo(w:AbJ)(b:Nat)(v:AbI)(hb:w.heap[b]? =some (.cells ([.pointer none,v]:List AbI).toArray 219 (0,0))):
  Calls AbL 174 #[PQ b 0] w fun e w' =>e = .returned (.tuple #[])/\w'.heap[b]? =some (.cells ([PQ b 0,v]:List AbI).toArray 219 (0,0))/\w.grownBy w' (some b):=by
 have hgr:w.grownBy w (some b):=Ac7 _ _;refine gG (args:= [PQ b 0]) Tryz.func174 rfl 20 rfl rfl (gS (Aa1 rfl (gS (Aa0 leb6_fo219_0 rfl (gS (XP leb6_ty217 rfl rfl (cellAt hb rfl) (gS (Ye leb6_ty217 rfl (cT rfl (gS (ZU leb6_ty217 leb6_tyU305 leb6_isz219 (by decide) rfl hb (Ab2 rfl) (gS (Z2 rfl (leb6_ne _ _) (gS (ZB leb6_tyU305 leb6_ty217 leb6_isz219 rfl hb (m:=2) rfl VR (gS (Aa1 rfl (gS (Aa0 leb6_fo219_0 rfl (gS (X5 (i:=0) (v:=PQ b 0) rfl rfl hb (Ab2 rfl) OR rfl rfl fun w2 a c f=> ?_)))))))))))))))))))));have hgr:w.grownBy w2 (some b):=Ak hgr c (fun _ e=> .inl e);clear hb;have hb:=a;clear a;have g:=bl hb;refine rt0 rfl ?_;exact⟨rfl,hb,hgr⟩
theorem Lp(w:AbJ)(b:Nat)(v:AbI)(hb:w.heap[b]? =some (.cells ([PQ b 0,v]:List AbI).toArray 219 (0,0))):
  Calls AbL 174 #[PQ b 0] w fun e w' =>e = .returned (.tuple #[])/\w'.heap[b]? =some (.cells ([PQ b 0,v]:List AbI).toArray 219 (0,0))/\w.grownBy w' (some b):=by
 have hgr:w.grownBy w (some b):=Ac7 _ _;refine gG (args:= [PQ b 0]) Tryz.func174 rfl 20 rfl rfl (gS (Aa1 rfl (gS (Aa0 leb6_fo219_0 rfl (gS (XP leb6_ty217 rfl rfl (cellAt hb rfl) (gS (Ye leb6_ty217 rfl (cF rfl (gS (Aa1 rfl (gS (Aa0 leb6_fo219_0 rfl (gS (XP leb6_ty217 rfl rfl (cellAt hb rfl) (gS (Aac leb6_ty217 leb6_isz219 rfl rfl (cF rfl (rt0 rfl ?_)))))))))))))))))));exact⟨rfl,hb,hgr⟩
theorem copyCheck_any(w:AbJ)(b:Nat)(p v:AbI)(hp:p = .pointer none\/p=PQ b 0)(hb:w.heap[b]? =some (.cells ([p,v]:List AbI).toArray 219 (0,0))):
  Calls AbL 174 #[PQ b 0] w fun e w' =>e = .returned (.tuple #[])/\w'.heap[b]? =some (.cells ([PQ b 0,v]:List AbI).toArray 219 (0,0))/\w.grownBy w' (some b):=by
 rcases hp with rfl | rfl
 ·exact Lo w b v hb
 ·exact Lp w b v hb
theorem H4(w0 w:AbJ)(h0:Ext w0 w)(b:Nat)(l:Ah5)(hB:BAt w w0 b l)(c:UInt8)(hl:l.length<140737488355328):
  Calls AbL 135 #[PQ b 0,B8 c] w fun e w' =>e = .returned .nilIface/\BAt w' w0 b (l++ [c])/\Ext w0 w' :=by
 obtain⟨k,p,v,hp,hb,ho,hne⟩:=hB;refine gG (args:= [PQ b 0,B8 (c)]) Tryz.func135 rfl 17 rfl rfl (gS (XX leb6_pl174 rfl ((copyCheck_any _ b p v hp hb).mono ?_)));rintro e y ⟨rfl,m,n⟩;refine⟨_,rfl,?_⟩;clear hb;have hb:=m;clear m;refine gS (Aa1 rfl (gS (Aa0 IH rfl (gS (XP F7 rfl rfl (cellAt hb rfl) (gS (YW (b:=c) Ru (vr (B8 (c)) rfl) fun o t f=> ?_)))))));have h0:=Ab h0 n (AbM (AbO _) k);have z:=h0.size;have ho:=BK ho n hne;have u:Ae v o:=DF ho f.own;have h:=f.own;have h0:=h0.trans f.ext;have ho:=Aa5 _ _ _ _ _ _ _ _ ho f.ext;refine gS (Yh _ _ w0.heap.size (.int .u8 0) F7 MM rfl F7 (l) ([(c:UInt8)]) (CV ho (vr v rfl)) (XV (Ya h) (vr o rfl)) (by simp;omega) h0.size fun j x g a=> ?_);have a:Grew t x v j:=a;have hb:=eb f.ext hb;have q:OB j b:=Ap a hne (bl hb);have h0:=Ao h0 a ho (AbO _);have hb:=Ar hb a hne;have h:=Dr h a u;clear ho;refine gS (Aa1 rfl (gS (Aa0 IH rfl (gS (X5 (i:=1) (v:=j) rfl rfl hb (Ab2 rfl) Kn (B7 g).1 (B7 g).2 fun aa r s ab=> ?_)))));clear hb;have hb:=r;clear r;have ac:=bl hb;refine Bp rfl (vr (Value.nilIface) rfl) ?_;have h0:=Ab h0 s (AbM (AbO _) (by omega));have g:=BK g s q;exact⟨rfl,⟨k,_,_, .inr rfl,hb,g,q⟩,h0⟩
def digs:Ah5:= [48,49,50,51,52,53,54,55,56,57,97,98,99,100,101,102]
def QI(b:UInt8):Ah5:= [digs.getD (b.toNat/16) 0,digs.getD (b.toNat%16) 0]
def hexOf(id:Ah5):Ah5:=id.flatMap QI
theorem QJ(id:Ah5)(i:Nat)(hi:i<id.length):hexOf (id.take (i+1))=hexOf (id.take i)++QI (id.getD i 0):=by
 rw[Acn hi,hexOf,AeC];simp[hexOf,hi]
theorem CN:∀id:Ah5,(hexOf id).length=2*id.length
 | []=>rfl
 | b :: id=>by
  have:=CN id;simp only[hexOf,AcJ,AbP,Ach]at *;simp only[QI,Ach,Acl];omega
def dg(c:UInt8):Option Nat:=if 48<=c.toNat/\c.toNat<=57 then some (c.toNat-48)else if 97<=c.toNat/\c.toNat<=102 then some (c.toNat-87)else none
def E6(c:UInt8):Int:=match dg c with | some n=>(n:Int) | none=> -1
theorem Vc{c:UInt8}{n:Nat}(h:dg c=some n):n<16:=by
 unfold dg at h;split at h
 ·cases h;omega
 ·split at h
  ·cases h;omega
  ·cases h
theorem SB:∀n:Fin 256,Agt digs (UInt8.ofNat n.val)=E6 (UInt8.ofNat n.val):=by decide+kernel
theorem TX(c:UInt8):Agt digs c=E6 c:=by
 have:=SB ⟨c.toNat,c.toNat_lt⟩
 simpa using this
def FF(s:Ah5)(j:Nat):Bool:=(dg (s.getD (2*j) 0)).isSome&&(dg (s.getD (2*j+1) 0)).isSome
def E2(s:Ah5)(j:Nat):UInt8:=UInt8.ofNat (16*(dg (s.getD (2*j) 0)).getD 0+(dg (s.getD (2*j+1) 0)).getD 0)
def DJ(s:Ah5):Ah5 × Bool:=if s.length=64/\(AcZ 32).all (FF s)=true then((AcZ 32).map (E2 s),true)else(AbX 32 0,false)
theorem II(s:Ah5):(DJ s).1.length=32:=by
 unfold DJ;split <;> simp
theorem JV{s:Ah5}(h:¬(s.length=64/\(AcZ 32).all (FF s)=true)):DJ s=(AbX 32 0,false):=if_neg h
theorem L2{s:Ah5}(h1:s.length=64)(h2:∀j,j<32->FF s j=true):DJ s=((AcZ 32).map (E2 s),true):=if_pos ⟨h1,by
 rw[Acx];intro j hj;exact h2 j (by simpa using hj)⟩
def pre(s:Ah5)(i:Nat):Ah5:=(AcZ i).map (E2 s)++AbX (32-i) 0
theorem Dp(s:Ah5)(i:Nat)(hi:i<=32):(pre s i).length=32:=by
 unfold pre;simp;omega
theorem TY(s:Ah5)(i:Nat)(hi:i<32):(pre s i).set i (E2 s i)=pre s (i+1):=by
 unfold pre;rw[Ac9 _ _ (by simp),List.range_succ,List.map_append];simp only[Ab9,List.length_range,Ady,Aco,Acz,Acj]
 congr 1
 obtain⟨k,hk⟩:∃k,32-i=k+1:=⟨32-i-1,by omega⟩;rw[hk,List.replicate_succ,List.set_cons_zero,show 32-(i+1)=k by omega];rfl
theorem VS(s:Ah5):pre s 32=(AcZ 32).map (E2 s):=by simp[pre]
/-! ### There and back -/
theorem WM:∀n:Fin 16,dg (digs.getD n.val 0)=some n.val:=by decide+kernel
theorem Pm(n:Nat)(h:n<16):dg (digs.getD n 0)=some n:=WM ⟨n,h⟩
theorem L3:∀(id:Ah5) (j:Nat),j<id.length->(hexOf id).getD (2*j) 0=digs.getD ((id.getD j 0).toNat/16) 0/\(hexOf id).getD (2*j+1) 0=digs.getD ((id.getD j 0).toNat%16) 0
 | [],j,h=>by simp at h
 | b :: id,0,_=>⟨rfl,rfl⟩
 | b :: id,j+1,h=>by
  have:=L3 id j (by simpa using h);have e:hexOf (b :: id)=digs.getD (b.toNat/16) 0 :: digs.getD (b.toNat%16) 0 :: hexOf id:=rfl;rw[e,show 2*(j+1)=2*j+1+1 by omega];exact this
theorem Fo(id:Ah5)(h:id.length=32):DJ (hexOf id)=(id,true):=by
 have hg:=fun j (hj:j<32)=>L3 id j (by omega);have hlt:=fun j=>(id.getD j 0).toNat_lt;have hd:∀j,j<32->dg ((hexOf id).getD (2*j) 0)=some ((id.getD j 0).toNat/16)/\dg ((hexOf id).getD (2*j+1) 0)=some ((id.getD j 0).toNat%16):=fun j hj=>by
  rw[(hg j hj).1,(hg j hj).2];exact⟨Pm _ (by have:=hlt j;omega),Pm _ (by omega)⟩
 rw[L2 (by rw[CN,h]) (fun j hj=>by unfold FF;rw[(hd j hj).1,(hd j hj).2];rfl)]
 congr 1
 apply List.ext_getElem (by simp[h])
 intro j h1 h2;have hj:j<32:=by simpa using h1
 simp only[List.getElem_map,List.getElem_range,E2];rw[(hd j hj).1,(hd j hj).2];simp only[Option.getD_some];rw[Nat.div_add_mod];simp[h2]
def L4:Ae1:=⟨fun | 169=>136 | n=>n,fun | 70=>217 | 9=>9 | 0=>0 | 72=>219 | 37=>27 | 127=>265 | 3=>3 | 5=>5 | n=>n,fun | n=>n⟩
theorem Xm:Go.Proofs.Lays.n169 AbL L4:= {
  mixed:=by kernel_rfl
  f169:=Tryz.func136.trans (congrArg some (by kernel_rfl))
  t0:=Afc
  a0:=Agi
  z0:=Af1
  v0:=Afl
  t3:=AgW
  a3:=Ah3
  z3:=AhW
  v3:=Ag7
  t9:=Aed
  a9:=Afi
  z9:=Ae2
  v9:=Aem
  t37:=Tryz.underlying27
  a37:=Tryz.isAgg27
  z37:=Tryz.sizeOf27
  v37:=Tryz.zeroValue27
  t70:=Tryz.underlying217
  a70:=Tryz.isAgg217
  z70:=Tryz.sizeOf217
  v70:=Tryz.zeroValue217
  t72:=Tryz.underlying219
  a72:=Tryz.isAgg219
  z72:=Tryz.sizeOf219
  v72:=Tryz.zeroValue219
  t127:=Tryz.underlying265
  a127:=Tryz.isAgg265
  z127:=Tryz.sizeOf265
  v127:=Tryz.zeroValue265 }
theorem OS:Builder.Extra AbL L4:= {
  sizeBuilder:=by kernel_rfl
  liesBuilder:=by kernel_rfl
  t5:=Afa
  a5:=Ah4
  z5:=AhX
  v5:=Ag8
  infoByte:=by kernel_rfl
  cellsByte:=by kernel_rfl
  sizeByte:=by kernel_rfl
  neB5:=by decide }
theorem HH(B b:Nat)(l:Ah5)(w:AbJ)(h:Lib.IsBuilder 219 5 B b (AbK l) w)(hBw:B<=w.heap.size):
 Calls AbL 136 #[.pointer (some ⟨b,0,none⟩)] w fun e w' =>e = .returned (.string ⟨l.toArray⟩)/\Below B w w' :=Any.Builder_String_any Xm OS B b l w h hBw
theorem TZ(t:AbQ)(c:UInt8):Acm .and t (.int .u8 ((c.toNat:Nat):Int)) (.int .u8 ((15:Nat):Int))=pure (.int .u8 ((c.toNat%16:Nat):Int)):=by
 rw[Wy t _ _ c.toNat_lt (by decide),Nat.and_two_pow_sub_one_eq_mod _ 4]
theorem Ua(l:Ah5)(b:UInt8):(l++ [([48,49,50,51,52,53,54,55,56,57,97,98,99,100,101,102]:Ah5).getD (b.toNat/2^4) 0])++ [([48,49,50,51,52,53,54,55,56,57,97,98,99,100,101,102]:Ah5).getD (b.toNat%16) 0]=l++QI b:=by
 rw[Acj];rfl
theorem QK{d:Option Tmp}{ty:AbQ}{pos:String}{af:Array Edge}{gd:Option (Nat × Bool)}(σ:AbV->AbI)(w:AbJ):(execOp σ ⟨d, .alloc 219,ty,pos,af,gd⟩).run AbL w = .ok (.value (PQ w.heap.size 0)) (w.alloc (.cells ([.pointer none,(AbR none 0 0)]).toArray 219)):=by kernel_rfl
theorem KP:Plain AbL 135:=fun _ _=>by kernel_rfl
theorem QL:Plain AbL 136:=fun _ _=>by kernel_rfl
theorem Pn(w:AbJ)(id:Ah5)(hid:id.length=32):
  Calls AbL 80 #[AB id] w fun e w' =>e = .returned (St (hexOf id))/\Ext w w' :=by
 refine gG (args:= [AB id]) Tryz.func80 rfl 20 rfl rfl ?_;have hE:=AaY w;refine gS (Abh (vr (AB id) rfl) fun o f ag p v ah=> ?_);have h:=p;clear p;have ai:o<f.heap.size:=by omega
 refine gS (Aa3 QK fun g q x r m aj=> ?_);have c:=AaY f;have hE:=hE.trans v;have n:=hE;have ak:=hE.size;have y:=r;clear r;have al:g<q.heap.size:=by omega
 have s:BAt q f g []:=BAt.fresh (by omega) y;have am:=As (bl h) x;have h:=eb m h;have hE:=hE.trans m;have c:=c.trans m;refine gS (XU rfl h U7 rfl (by rw[Ab4,AbZ,hid];exact Rl) (gL (fun(ρ:Ac) (wz:AbJ)=>∃i:Nat,ρ 0=(AB id:AbI)/\ρ 1=(PQ o 0:AbI)/\ρ 2=(St (([]:Ah5)):AbI)/\ρ 3=(PQ g 0:AbI)/\ρ 6=(AB id:AbI)/\ρ 7=(NI i:AbI)/\Ext w wz/\Ext f wz/\BAt wz f g (hexOf (id.take i))/\(i<=32)/\True) (fun ρ _=>32-(intOf (ρ 7)).toNat) ⟨0,rfl,rfl,rfl,rfl,rfl,rfl,hE,c,s,Ack _,trivial⟩ ?_));clear h;clear s;clear hE;rintro z an ⟨i,T0,T1,T2,j,t,k,hE,c,hBi,hi,-⟩;have q7:=k;have hlt:=(id.getD i 0).toNat_lt;refine gS (XQ (a:=(i:Nat)) (b:=(32:Nat)) k rfl (AK _ _ _ _) ?_);refine cD rfl (fun ad=> ?_) fun ad=> ?_
 ·refine gS (AaM (l:=id) (i:=i) U7 u5 rfl PO t k (by omega) (hid) (gS (XR (xv:= .int .u8 (((id.getD (i) 0).toNat:Nat):Int)) (yv:= .int .u64 ((4:Nat):Int)) rfl rfl rfl (Wx _ _ _ _ (by omega)) (gS (Zi (l:=([48,49,50,51,52,53,54,55,56,57,97,98,99,100,101,102]:Ah5)) (i:=((id.getD (i) 0).toNat)/2^(4)) Pi rfl rfl (by show _<16;omega) (gS (XS KP j rfl ((H4 f _ c g (hexOf (id.take i)) hBi ((([48,49,50,51,52,53,54,55,56,57,97,98,99,100,101,102]:Ah5):Ah5).getD (((id.getD (i) 0).toNat)/2^(4)) 0) (by have:=CN (id.take i);simp at this ⊢;omega)).mono ?_))))))));rintro e ao ⟨rfl,u,hv33⟩;refine⟨_,rfl,?_⟩;have hE:=n.trans hv33;have c:=hv33;clear hBi;refine gS (XR (xv:= .int .u8 (((id.getD (i) 0).toNat:Nat):Int)) (yv:= .int .u8 ((15:Nat):Int)) rfl rfl rfl (TZ _ (id.getD (i) 0)) (gS (Zi (l:=([48,49,50,51,52,53,54,55,56,57,97,98,99,100,101,102]:Ah5)) (i:=(id.getD (i) 0).toNat%16) Pi rfl rfl (by show _<16;omega) (gS (XS KP j rfl ((H4 f _ c g ((hexOf (id.take i):Ah5)++ [(([48,49,50,51,52,53,54,55,56,57,97,98,99,100,101,102]:Ah5):Ah5).getD (((id.getD (i) 0).toNat)/2^(4)) 0]) u ((([48,49,50,51,52,53,54,55,56,57,97,98,99,100,101,102]:Ah5):Ah5).getD ((id.getD (i) 0).toNat%16) 0) (by have:=CN (id.take i);simp at this ⊢;omega)).mono ?_))))));rintro e ap ⟨rfl,ae,hv36⟩;refine⟨_,rfl,?_⟩;have hE:=n.trans hv36;have c:=hv36;clear u;refine gS (XR (xv:=NI i) (yv:=NI 1) k rfl rfl (Ah _ _ _ (by omega)) (gK (And.intro ⟨i+1,T0,T1,T2,j,t,rfl,hE,c,(show BAt _ _ _ _ from by rw[QJ id i (by omega),<-Ua];exact ae),by omega,trivial⟩ ?_)));show 32-(intOf (NI ((i)+(1)))).toNat<32-(intOf (z 7)).toNat;rw[q7];simp only[intOf,Int.toNat_natCast];omega
 have af:id.take i=id:=AcD (by omega);refine gS (XX QL j ((HH _ g (hexOf (id.take i)) _ (AaR hBi) c.size).mono ?_));rintro e aq ⟨rfl,hv39⟩;refine⟨_,rfl,?_⟩;have hv39t:=Below.trans c hv39;have hE:=n.trans hv39t;have c:=hv39t;clear hBi;refine Bp rfl (vr (St (hexOf (id.take i))) rfl) ?_;exact⟨by rw[af],hE⟩
def Bm(p s:Ah5):Ah5 × Bool:=if p.length<=s.length/\s.take p.length=p then(s.drop p.length,true)else(s,false)
theorem WN{p s:Ah5}(h:¬(p.length<=s.length/\s.take p.length=p)):(Bm p s).2=false:=by unfold Bm;rw[if_neg h]
theorem VT{p s:Ah5}(h:p.length<=s.length):(Bm p s).2=decide ((s.drop 0).take (p.length-0)=p):=by
 unfold Bm;rw[List.drop_zero,Nat.sub_zero];by_cases q:s.take p.length=p
 ·rw[if_pos ⟨h,q⟩,decide_eq_true q]
 ·rw[if_neg (fun x=>q x.2),decide_eq_false q]
theorem Xn{p s:Ah5}(h:(Bm p s).2=false):Bm p s=(s,false):=by
 unfold Bm at h ⊢;split
 ·rename_i q;rw[if_pos q]at h;cases h
 ·rfl
theorem Xo{p s:Ah5}(h:(Bm p s).2=true):Bm p s=((s.drop p.length).take (s.length-p.length),true):=by
 unfold Bm at h ⊢;split
 ·rw[AcD (by rw[List.length_drop];exact AbO _)]
 ·rename_i q;rw[if_neg q]at h;cases h
theorem VU{p s:Ah5}(h:(Bm p s).2=true):p.length<=s.length:=by
 unfold Bm at h;split at h
 ·rename_i q;exact q.1
 ·cases h
def nmO(id:Ah5):Ah5:= [111,45]++hexOf id
theorem VV{id:Ah5}(h:id.length=32):(nmO id).length=66:=by unfold nmO;rw[AbP,CN,h];rfl
theorem SC:Plain AbL 169:=fun _ _=>by kernel_rfl
theorem SD:Plain AbL 124:=fun _ _=>by kernel_rfl
theorem Ub:Plain AbL 80:=fun _ _=>by kernel_rfl
theorem MD(w:AbJ)(s p:Ah5)(hs:s.length<=9223372036854775807):
  Calls AbL 169 #[St s,St p] w fun e w' =>e = .returned (.bool (Bm p s).2)/\Ext w w' :=by
 refine gG (args:= [St (s),St (p)]) Tryz.func169 rfl 18 rfl rfl ?_;have hE:=AaY w;by_cases hl:p.length<=s.length
 ·refine gS (YI (l:=s) Pi rfl (gS (YI (l:=p) Pi rfl (gS (XQ (a:=(s.length:Nat)) (b:=(p.length:Nat)) rfl rfl (Ek _ _ _ _) (kT (hl) (gS (YI (l:=p) Pi rfl (gS (Zm (l:=s) Pi (0) (p.length) rfl (.inl ⟨rfl,rfl⟩) (.inr ⟨.i64,congrArg some rfl⟩) (by omega) (by omega) (gS (YK (l:=(s.drop (0)).take ((p.length)-(0))) (m:=p) (.inl rfl) rfl rfl (decide ((s.drop (0)).take ((p.length)-(0))=p)) rfl (gS (XY rfl rfl (Bp rfl (vr (.bool (decide ((s.drop (0)).take ((p.length)-(0))=p))) rfl) ?_)))))))))))))));exact⟨by rw[VT hl],hE⟩
 refine gS (YI (l:=s) Pi rfl (gS (YI (l:=p) Pi rfl (gS (XQ (a:=(s.length:Nat)) (b:=(p.length:Nat)) rfl rfl (Ek _ _ _ _) (kF (hl) (gS (X2 rfl rfl (Bp rfl (vr (.bool (false)) rfl) ?_)))))))));exact⟨by rw[show(Bm p s).2=false from WN (fun q=>hl q.1)],hE⟩
theorem Lq(w:AbJ)(s p:Ah5)(hs:s.length<=9223372036854775807):
  Calls AbL 124 #[St s,St p] w fun e w' =>e = .returned (.tuple #[St (Bm p s).1, .bool (Bm p s).2])/\Ext w w' :=by
 refine gG (args:= [St (s),St (p)]) Tryz.func124 rfl 15 rfl rfl ?_;have hE:=AaY w;refine gS (XS SC rfl rfl ((MD _ s p hs).mono ?_));rintro e c ⟨rfl,b⟩;refine⟨_,rfl,?_⟩;refine gS (Yz rfl ?_);refine cB (!((Bm p s).2)) rfl (fun a=> ?_) fun a=> ?_
 ·have hc:(Bm p s).2=false:=by simpa using a
  refine BA rfl (vr (St (s)) rfl) (vr (.bool (false)) rfl) ?_;have hE:=hE.trans b;exact⟨by rw[Xn hc],hE⟩
 have hc:(Bm p s).2=true:=by simpa using a
 have hpl:=VU hc;refine gS (YI (l:=p) Pi rfl (gS (Zm (l:=s) Pi (p.length) (s.length) rfl (.inr ⟨.i64,congrArg some rfl⟩) (.inl ⟨rfl,rfl⟩) (by omega) (by omega) (BA rfl (vr (St ((s.drop (p.length)).take ((s.length)-(p.length)))) rfl) (vr (.bool (true)) rfl) ?_))));have hE:=hE.trans b;exact⟨by rw[Xo hc],hE⟩
theorem ME(w:AbJ)(s p:Ah5)(hs:s.length<=9223372036854775807):
  Calls AbL 75 #[St s,St p] w fun e w' =>e = .returned (.tuple #[St (Bm p s).1, .bool (Bm p s).2])/\Ext w w' :=by
 refine gG (args:= [St (s),St (p)]) Tryz.func75 rfl 11 rfl rfl ?_;have hE:=AaY w;refine gS (XS SD rfl rfl ((Lq _ s p hs).mono ?_));rintro e b ⟨rfl,a⟩;refine⟨_,rfl,?_⟩;refine gS (AaZ (vs:= [St ((Bm p s).1), .bool ((Bm p s).2)]) rfl rfl (gS (AaZ (vs:= [St ((Bm p s).1), .bool ((Bm p s).2)]) rfl rfl (BA rfl (vr (St ((Bm p s).1)) rfl) (vr (.bool ((Bm p s).2)) rfl) ?_))));have hE:=hE.trans a;exact⟨rfl,hE⟩
theorem NS(w:AbJ)(id:Ah5)(hid:id.length=32):
  Calls AbL 86 #[AB id] w fun e w' =>e = .returned (St (nmO id))/\Ext w w' :=by
 refine gG (args:= [AB id]) Tryz.func86 rfl 6 rfl rfl ?_;have hE:=AaY w;refine gS (Abh (vr (AB id) rfl) fun b c i a f j=> ?_);have g:=a;clear a;have k:b<c.heap.size:=by omega
 refine gS (XU rfl g U7 rfl (by exact Ad hid) (gS (XX Ub rfl ((Pn _ id hid).mono ?_))));rintro e n ⟨rfl,h⟩;refine⟨_,rfl,?_⟩;refine gS (ZF (l:=([111,45]:Ah5)) (m:=hexOf id) rfl rfl (by rw[CN,hid];simp) (Bp rfl (vr (St ((([111,45]:Ah5):Ah5)++(hexOf id:Ah5))) rfl) ?_));have hE:=hE.trans (f.trans h);exact⟨rfl,hE⟩
end Go.Proofs.YtfpekahfdalfkaaGreatDoor
