/- Part 5 of what stands behind these statements: laws and walks of the functions that are reached. Conditions: those that each theorem names. -/
import Derived.Test.YtfpekahfdalfkaaGreatDoorB4
set_option linter.unusedVariables false
set_option linter.unusedSimpArgs false
namespace Go.Proofs.YtfpekahfdalfkaaGreatDoor
open _root_.Go renaming World → AcK, Value → AcJ, TypeId → AcR, Edge → AdL, Operand → AcW, Program → Adg, binOp → Adq, MapEntry → Aev, FuncId → AeB
open _root_.Prod renaming fst → Adk
open _root_.Go.Lib renaming byteCells → AcL, byteCells_length → AcZ, indexByte → Ahx
open _root_.Option.some renaming inj → Adu, injEq → Aey
open _root_.Go.Proofs.Tryz renaming prog → AcM, underlying4 → Agj, isAgg4 → Aif, sizeOf4 → AhV, zeroValue4 → Ag5, underlying0 → Agk, isAgg0 → Aho, sizeOf0 → Ag6, zeroValue0 → Agt, underlying9 → Afh, isAgg9 → Agp, sizeOf9 → Af8, zeroValue9 → Afp, underlying111 → Ahp, isAgg111 → AiB, sizeOf111 → Ail, zeroValue111 → AhC, underlying56 → AhD, isAgg56 → Ai0, sizeOf56 → AiC, zeroValue56 → AhW, underlying3 → AhX, isAgg3 → Ai6, sizeOf3 → Ai1, zeroValue3 → Ah6, underlying5 → Agi, isAgg5 → Ai7, sizeOf5 → Ai2, zeroValue5 → Ah7, underlying181 → Ahq
open _root_.Nat renaming le_of_ble_eq_true → Ac2, le_trans → AcN, le_refl → AcP, mod_lt → Aiv, lt_of_lt_of_le → AdE, le_add_right → Ae6, zero_le → Adm, sub_self → Aez, zero_add → Ad4, add_assoc → Ae2, add_mul → AeV, add_comm → AgB, not_lt_zero → Aet, lt_succ_self → AgV, mul_le_mul_right → Agc, mul_le_mul → Ahg, mul_le_mul_left → AfH, le_succ_of_le → AeZ, le_succ → AgS
open _root_.Go.Value renaming bool → Adl, slice → AcU, ownBlock → AcT, int → AeJ
open _root_.List renaming length_take → Ac8, replicate → AcX, length_replicate → Ac7, map_toArray → Ads, map_cons → Ado, map_nil → AdA, toArray → Aec, length_nil → Adp, eq_nil_of_length_eq_zero → Adw, mem_cons_self → AdM, mem_cons_of_mem → AdO, pairwise_cons → AdZ, mem_cons → Adz, cons_append → AdP, filter_cons_of_neg → AgK, filter_cons_of_pos → AgL, takeWhile_append_dropWhile → AfM, filter_sublist → AiJ, dropWhile_cons → AiK, takeWhile_cons → AiL, pairwise_append → Aee, takeWhile_sublist → Af1, dropWhile_sublist → Af2, length_filter_le → AeE, length_append → AcQ, length_cons → Adh, mem_filter → Aes, mem_append → Adf, mem_map_of_mem → AfK, mem_map → Adx, perm_ext_iff_of_nodup → Ae3, length → AgQ, length_map → Ada, size_toArray → Ac6, map_map → AfD, map_congr_left → AiM, nodup_cons → AeQ, filter_eq_self → Agq, append_of_mem → Afm, getD_eq_getElem?_getD → AcO, getElem?_eq_getElem → AcS, getElem_mem → Ad9, getElem?_eq_none → AdY, mem_singleton → AcY, length_set → Aer, mem_or_eq_of_mem_set → Afy, length_singleton → Ac9, getElem?_append_right → AdB, getElem?_append_left → AdF, getElem?_set_self → Af0, getElem?_set_ne → Air, flatMap_cons → AdJ, all_eq_true → Adv, take_succ_eq_append_getElem → Adi, all_append → Ah5, take_of_length_le → AdD, take_left → Ae8, mem_flatMap → AhP, flatMap_append → AfG, all_cons → Ahs, all_nil → AiZ, mergeSort_of_pairwise → Ahw, length_pos_iff → AiN, set_append_right → Aeg, nil_append → AdS, mem_append_left → Afv, range → AdN, map_append → Aei, append_assoc → Adn, replicate_succ → AiG, set_cons_zero → AgC, ext_getElem → AgT, getElem_map → Agg
open _root_.Go.Op renaming equal → Agy, maxDepth → Aie, equalIn → Aip, bytesLess → Ad2
open _root_.Go.Sem renaming run_bind → Ac1, run_pure → Ac3, run → Ag1
open _root_.Go.Instr renaming buildSlice → Adt, next → Aiu, build → AeH
open _root_.Go.World renaming ownsRow_nil → AdK, ownsRow → Ahv, block_lt_of_cell? → Ad7, cell? → Afc, cell?_of_block → Ain, shape? → AiS
open _root_.Classical renaming byContradiction → AdW, not_not → AgN
open _root_.List.Pairwise renaming sublist → Aik, of_map → Afx, map → AgM, nil → AeN
open _root_.Bool renaming eq_false_iff → AhB, eq_iff_iff → AfV, false_eq_true → Afk, and_eq_true → AdT
open _root_.Option renaming isSome_iff_exists → AgF, map_some → Aeb, map_eq_some_iff → Afi, getD_some → AdI
open _root_.Go.DataW renaming insert → AiX
open _root_.Go.MapKept renaming Stamped → Ag4, IsKey → Agm
open _root_.Array renaming getElem?_eq_some_iff → Ade, toList_filter → Ahc, filter → AiY, getElem?_eq_getElem → Afw, getElem?_setIfInBounds → Aep, getElem?_eq_none → AfZ, toList_append → AiE
open _root_.Go.Result renaming andThen_ok → AcV, andThen → AdH
open _root_.Go.RowKit.Below renaming refl → AdC, trans → Aic
open _root_.Go.Question renaming forced → Ah4
open _root_.Go.World.grownBy renaming refl → Aef
open _root_.Nat.succ renaming inj → AhU
open _root_.Go.Addr renaming add_lit → Aek, add → AeO
open _root_.And renaming intro → Adr
open _root_.Int renaming toNat_natCast → Ac0, tmod → Ae7
open _root_.Go.Builtin renaming append_ → AfO
open _root_.Go.Src renaming ofSlice → Ahl
open _root_.Go.Shelf renaming Ren → Af7
open _root_.Go.Proofs.SlLaysZ renaming n7 → Aiw
open _root_.Go.Fence renaming wide → AfY
open _root_.Ne renaming symm → AgY
open _root_.UInt8 renaming ofNat → AdQ
open Go.RowKit
set_option maxRecDepth 100000
def B4(b:Bs):Except Nat AU:=if 1048576<b.length then .error 2 else if b.length<36 then .error 6 else if Sha.sum (b.take (b.length-32))=b.drop (b.length-32)then CB b else .error 18
def PackAt(w:AcK)(v:AcJ)(p:AU):Prop:=∃g vi bo O,v=PQ g 0∧p.2=(fun k=>(O k).map Adk)∧w.heap[g]? =some (.cells ([vi, .map (some bo)]).toArray 163 (0,0))∧RG 32 AcL w vi p.1∧MapF rk Ck (fun id:List UInt8=>id.length=32) w bo O∧OOk w O
def Zn(w:AcK)(v:AcJ):Except Nat AU→Nat→Prop
 | .ok p,c=>c=0∧PackAt w v p
 | .error e,c=>c=e∧v = .pointer none
theorem PackAt.keep{w w' :AcK}{v:AcJ}{p:AU}(h:PackAt w v p)(k:Ext w w'):PackAt w' v p:=by
 obtain⟨g,vi,bo,O,h1,h2,h3,h4,h5,h6⟩:=h;exact⟨g,vi,bo,O,h1,h2,eb k h3,h4.keep k,h5.keep k,h6.keep k⟩
def PackNew(n:Nat)(w:AcK)(v:AcJ)(p:AU):Prop:=∃g vi bo O,v=PQ g 0∧p.2=(fun k=>(O k).map Adk)∧w.heap[g]? =some (.cells ([vi, .map (some bo)]).toArray 163 (0,0))∧RG 32 AcL w vi p.1∧MapF rk Ck (fun id:List UInt8=>id.length=32) w bo O∧OOk w O∧n≤g∧n≤bo∧NewV n vi∧NewM n O
theorem PackNew.keep{n:Nat}{w w' :AcK}{v:AcJ}{p:AU}(h:PackNew n w v p)(k:Ext w w'):PackNew n w' v p:=by
 obtain⟨g,vi,bo,O,h1,h2,h3,h4,h5,h6,h7⟩:=h;exact⟨g,vi,bo,O,h1,h2,eb k h3,h4.keep k,h5.keep k,h6.keep k,h7⟩
def OpenNew(n:Nat)(w:AcK)(v:AcJ):Except Nat AU→Nat→Prop
 | .ok p,c=>c=0∧PackNew n w v p
 | .error e,c=>c=e∧v = .pointer none
theorem PackNew.keepN{n:Nat}{w w' :AcK}{v c:AcJ}{p:AU}{b:Nat}{T:AcR}{fr:Nat × Nat}(h:PackNew n w v p)(hb:w.heap[b]? =some (.cells ([c]).toArray T fr))(hc:∀x,c≠B8 x)(hg:w.grownBy w' (some b)):PackNew n w' v p:=by
 obtain⟨g,vi,bo,O,h1,h2,h3,h4,h5,h6,h7⟩:=h;have hm:=UC hb hc;have a:g≠b:=fun e=>by rw[e,hb]at h3;simp at h3
 have f:bo≠b:=fun e=>by obtain⟨es,cl,h,-⟩:=h5;rw[e,hb]at h;cases h
 exact⟨g,vi,bo,O,h1,h2,(hg.block g (bl h3) (fun e=>a (Adu e))).trans h3,h4.keepN hm hg,h5.other hg (fun e=>f (Adu e).symm),fun id x hx=>(h6 id x hx).keepN hm hg,h7⟩
theorem SW{d:Option Tmp}{ty:AcR}{pos:String}{af:Array AdL}{gd:Option (Nat × Bool)}(σ:AcW→AcJ)(w:AcK):(execOp σ ⟨d, .alloc 89,ty,pos,af,gd⟩).run AcM w = .ok (.value (PQ w.heap.size 0)) (w.alloc (.cells ([.pointer none]).toArray 89)):=by kernel_rfl
theorem SX{d:Option Tmp}{ty:AcR}{pos:String}{af:Array AdL}{gd:Option (Nat × Bool)}(σ:AcW→AcJ)(w:AcK):(execOp σ ⟨d, .alloc 29,ty,pos,af,gd⟩).run AcM w = .ok (.value (PQ w.heap.size 0)) (w.alloc (.cells ([NI 0]).toArray 29)):=by kernel_rfl
theorem FI:Tryz.prog.underlying 89=some (.pointer 163):=by kernel_rfl
theorem SY:Plain AcM 79:=fun _ _=>by kernel_rfl
set_option maxHeartbeats 1600000
theorem N3(w:AcK)(hG:Laid w)(v:AcJ)(b:Bs)(hr:RB w v b):
  Calls AcM 43 #[v] w fun e w' =>∃x,e = .returned x∧∃p c,x = .tuple #[p,NI c]∧OpenNew w.heap.size w' p (B4 b) c∧Ext w w' :=by
 refine N0 (args:= [v]) Tryz.func43 rfl 30 rfl (Ac2 rfl) ?_;intro b6 hb;have o:b6 0=(v:AcJ):=hb.get 0;clear hb;have hE:=Ext.refl w;refine CE _ B7 fun K1 ay=>(wt (oS rfl (Yk.alloc (cs:=([.pointer none]).toArray) SW fun u w3 di bh b7 dj=> ?_)));have hE:=hE.trans b7;have g:=bh;clear bh;have dk:u<w3.heap.size:=by omega
 refine oS rfl (Yk.alloc (cs:=([NI 0]).toArray) SX fun y b8 b9 bi a3 dl=> ?_);have s:=Ext.refl w3;have dm:=hE;have a0:=hE.size;have dn:=As (bl g) b9;have hE:=hE.trans a3;have g:=eb a3 g;have s:=s.trans a3;have j:=bi;clear bi;have dp:y<b8.heap.size:=by omega
 refine Ha [(0,v),(2,PQ u 0),(3,PQ y 0)] ⟨o,rfl,rfl,trivial⟩ fun dq ⟨o,q,r,_⟩=> ?_;by_cases q1:1048576<b.length
 ·have hP:B4 b = .error 2:=if_pos q1;refine tN (ay _ _ (CE _ B7 fun dr ds=>(sk fun dt ca=>(wt (oM rfl (oS rfl (ZF Gj (ZB (hr.keep hE) o) (oS rfl (Zv (a:=(b.length:Nat)) (b:=(1048576:Nat)) rfl rfl (Bh _ _ _ _) (Ha [(0,v),(2,PQ u 0),(3,PQ y 0),(7, .bool (true))] ⟨o,q,r,(congrArg Adl (decide_eq_true (q1))),trivial⟩ fun du ⟨o,q,r,t,_⟩=>(tN (ca _ _ (EU t (sk fun dv cb=>(wt (oS rfl (ZK (i:=0) (v:= .pointer none) q (vr (.pointer none) rfl) g (Ac2 rfl) Q3 rfl rfl fun dw bj bk dx=> ?_)))))))))))))))));have hE:=Ab hE bk (AcN (AcP _) (by omega));clear s;have j:=kb bk j (by omega);clear g;have g:=bj;clear bj;have dy:=bl g;refine oS rfl (ZK (i:=0) (v:=NI 2) r (vr (NI 2) rfl) j (Ac2 rfl) Q4 rfl rfl fun dz bm bn d0=> ?_);have hE:=Ab hE bn (AcN a0 (by omega));have g:=kb bn g (by omega);clear j;have j:=bm;clear bm;have d1:=bl j;refine Ha [(0,v),(2,PQ u 0),(3,PQ y 0),(7, .bool (true))] ⟨o,q,r,t,trivial⟩ fun d2 ⟨o,q,r,t,_⟩=>(tN (cb _ _ (Jg (Iu (CQ (fn:=Tryz.f43) _ rfl [.pointer none,NI 2] (.tuple #[.pointer none,NI 2]) rfl ⟨Z7 q g FI rfl,Z7 r j SV rfl,trivial⟩ ?_)))));exact⟨_,rfl,_,_,rfl,by rw[hP];exact⟨rfl,rfl⟩,hE⟩
 by_cases q2:b.length<36
 ·have hP:B4 b = .error 6:=(if_neg q1).trans (if_pos q2);refine tN (ay _ _ (CE _ B7 fun d3 cc=>(sk fun d4 cd=>(wt (oM rfl (oS rfl (ZF Gj (ZB (hr.keep hE) o) (oS rfl (Zv (a:=(b.length:Nat)) (b:=(1048576:Nat)) rfl rfl (Bh _ _ _ _) (Ha [(0,v),(2,PQ u 0),(3,PQ y 0),(7, .bool (false))] ⟨o,q,r,(congrArg Adl (decide_eq_false (q1))),trivial⟩ fun d5 ⟨o,q,r,t,_⟩=>(tN (cd _ _ (CP t (DL (tN (cc _ _ (CE _ B7 fun d6 d7=>(sk fun d8 ce=>(wt (oM rfl ?_))))))))))))))))))));refine oS rfl (ZF Gj (ZB (hr.keep hE) o) (oS rfl (Zv (a:=(b.length:Nat)) (b:=(36:Nat)) rfl rfl (AI _ _ _ _) (Ha [(0,v),(2,PQ u 0),(3,PQ y 0),(7, .bool (false)),(10, .bool (true))] ⟨o,q,r,t,(congrArg Adl (decide_eq_true (q2))),trivial⟩ fun d9 ⟨o,q,r,t,z,_⟩=>(tN (ce _ _ (EU z (sk fun ea cf=>(wt (oS rfl (ZK (i:=0) (v:= .pointer none) q (vr (.pointer none) rfl) g (Ac2 rfl) Q3 rfl rfl fun ec bp bq ed=> ?_)))))))))));have hE:=Ab hE bq (AcN (AcP _) (by omega));clear s;have j:=kb bq j (by omega);clear g;have g:=bp;clear bp;have ee:=bl g;refine oS rfl (ZK (i:=0) (v:=NI 6) r (vr (NI 6) rfl) j (Ac2 rfl) Q4 rfl rfl fun ef br bs eg=> ?_);have hE:=Ab hE bs (AcN a0 (by omega));have g:=kb bs g (by omega);clear j;have j:=br;clear br;have eh:=bl j;refine Ha [(0,v),(2,PQ u 0),(3,PQ y 0),(7, .bool (false)),(10, .bool (true))] ⟨o,q,r,t,z,trivial⟩ fun ei ⟨o,q,r,t,z,_⟩=>(tN (cf _ _ (Jg (Iu (CQ (fn:=Tryz.f43) _ rfl [.pointer none,NI 6] (.tuple #[.pointer none,NI 6]) rfl ⟨Z7 q g FI rfl,Z7 r j SV rfl,trivial⟩ ?_)))));exact⟨_,rfl,_,_,rfl,by rw[hP];exact⟨rfl,rfl⟩,hE⟩
 by_cases q3:Sha.sum (b.take (b.length-32))=b.drop (b.length-32)
 ·have hP:B4 b=CB b:=(if_neg q1).trans ((if_neg q2).trans (if_pos q3));refine tN (ay _ _ (CE _ B7 fun ej cg=>(sk fun el ci=>(wt (oM rfl (oS rfl (ZF Gj (ZB (hr.keep hE) o) (oS rfl (Zv (a:=(b.length:Nat)) (b:=(1048576:Nat)) rfl rfl (Bh _ _ _ _) (Ha [(0,v),(2,PQ u 0),(3,PQ y 0),(7, .bool (false))] ⟨o,q,r,(congrArg Adl (decide_eq_false (q1))),trivial⟩ fun em ⟨o,q,r,t,_⟩=>(tN (ci _ _ (CP t (DL (tN (cg _ _ (CE _ B7 fun en cj=>(sk fun eo ck=>(wt (oM rfl ?_))))))))))))))))))));refine oS rfl (ZF Gj (ZB (hr.keep hE) o) (oS rfl (Zv (a:=(b.length:Nat)) (b:=(36:Nat)) rfl rfl (AI _ _ _ _) (Ha [(0,v),(2,PQ u 0),(3,PQ y 0),(7, .bool (false)),(10, .bool (false))] ⟨o,q,r,t,(congrArg Adl (decide_eq_false (q2))),trivial⟩ fun ep ⟨o,q,r,t,z,_⟩=>(tN (ck _ _ (CP z (DL (tN (cj _ _ (CE _ B7 fun eq cl=>(wt (oM rfl (oM rfl (oS rfl (ZF Gj (ZB (hr.keep hE) o) (oS rfl (Zw (xv:=NI b.length) (yv:=NI 32) rfl rfl rfl (BN _ _ _ (by omega) (by omega)) (oS rfl (Aag (xs:=b) (n:=(b.length)-(32)) Gj Qq o (hr.keep hE) (vr (NI ((b.length)-(32))) rfl) (by omega) fun cm an ha65=>(oS rfl (Aae Gm (ZB an (vr cm rfl)) fun bt er a4 ao=> ?_))))))))))))))))))))));have hE:=hE.trans ao;have g:=eb ao g;have s:=s.trans ao;have j:=eb ao j;have an:=an.keep ao;refine oS rfl (ZA J8 (vr bt rfl) ((Gc _ (hG.keep hE) bt (b.take ((b.length)-(32))) a4 (by simp only[Ac8];omega)).mono ?_));rintro e cn ⟨rfl,ah⟩;refine⟨_,rfl,?_⟩;have hE:=hE.trans ah;have g:=eb ah g;have s:=s.trans ah;have j:=eb ah j;have an:=an.keep ah;have a4:=a4.keep ah;refine oS rfl (Yk.alloc (cs:=(AcL (AcX 32 0)).toArray) Ur fun ai co bu bv ap es=> ?_);have ad:=Ext.refl cn;have et:=hE;have eu:=s;have cp:=hE.size;have cq:=s.size;have ew:=As (bl g) bu;have ex:=As (bl j) bu;have hE:=hE.trans ap;have g:=eb ap g;have s:=s.trans ap;have j:=eb ap j;have ad:=ad.trans ap;have aa:=bv;clear bv;have ey:ai<co.heap.size:=by omega
  refine oS rfl (Zy (vr (PQ ai 0) rfl) (vr (AB (Sha.sum (b.take ((b.length)-(32))))) rfl) aa (by exact Bn (Sha.sum_length _) Ac7) (by exact Ac (Sha.sum_length _)) (Af _) fun ez bw aq e1=> ?_);have hE:=Ab hE aq (AcN cp (by omega));have g:=kb aq g (by omega);have s:=Ab s aq (AcN cq (by omega));have j:=kb aq j (by omega);have ad:=Ab ad aq (AcN (AcP _) (by omega));clear aa;have aa:=bw;clear bw;have e2:=bl aa;refine Ha [(0,v),(2,PQ u 0),(3,PQ y 0),(4,PQ ai 0),(7, .bool (false)),(10, .bool (false))] ⟨o,q,r,rfl,t,z,trivial⟩ fun e3 ⟨o,q,r,T4,t,z,_⟩=>(tN (cl _ _ (CE _ B7 fun e5 cr=>(sk fun e6 ct=> ?_))));refine Hu [Is (.slice (some ⟨ai,0,none⟩) 32 32),Is (St ((Sha.sum (b.take ((b.length)-(32)))))),Is (v),Is (v),Is (NI b.length),Is (NI ((b.length)-(32))),fun x w' =>RB w' x (b.drop ((b.length)-(32))),Is (St (b.drop ((b.length)-(32)))),Is (.bool (false))] (by kernel_rfl) [18,19,20,21,22,23,24,25,26] (by kernel_rfl) (by kernel_rfl) (Y7 ⟨(fun _ _ _ h k=>RB.keep h k),(L0 trivial)⟩) ?cu ?hQ1006
  case cu=>
   refine⟨?_,?_,?_,?_,?_,?_,?_,?_,?_,trivial⟩
   ·refine Ah rfl fun σ w1 hC h=> ?_;have e4:=(Az (h 4 (by decide))).trans T4;exact Aac Wq Qq e4 ⟨Ext.refl _,rfl⟩
   ·refine Ah rfl fun σ w1 hC h=> ?_;have a6:=Az (h 18 (by decide));exact Z3 Gj u5 PO (ZB (Aap (eb hC aa) (Sha.sum_length _) (by decide)) a6) ⟨Ext.refl _,rfl⟩
   ·refine Ah rfl fun σ w1 hC h=> ?_;have e0:=(Az (h 0 (by decide))).trans o;exact Yk.move e0 ⟨Ext.refl _,rfl⟩
   ·refine Ah rfl fun σ w1 hC h=> ?_;have e0:=(Az (h 0 (by decide))).trans o;exact Yk.move e0 ⟨Ext.refl _,rfl⟩
   ·refine Ah rfl fun σ w1 hC h=> ?_;have a7:=Az (h 21 (by decide));exact ZF Gj (ZB (hr.keep (hE.trans hC)) a7) ⟨Ext.refl _,rfl⟩
   ·refine Ah rfl fun σ w1 hC h=> ?_;have a8:=Az (h 22 (by decide));exact Zw (xv:=NI b.length) (yv:=NI 32) a8 rfl rfl (BN _ _ _ (by omega) (by omega)) ⟨Ext.refl _,rfl⟩
   ·refine Ah rfl fun σ w1 hC h=> ?_;have a9:=Az (h 20 (by decide));have ba:=Az (h 23 (by decide));exact Z1 (xs:=b) (l:=(b.length)-(32)) Gj Qq rfl (ZB (hr.keep (hE.trans hC)) a9) ba (by omega) fun v hr _=>⟨Ext.refl _,hr⟩
   ·refine Ah rfl fun σ w1 hC h=> ?_;have bb:(fun x w' =>RB w' x (b.drop ((b.length)-(32)))) (σ 24) w1:=h 24 (by decide);exact Z3 Gj u5 PO bb ⟨Ext.refl _,rfl⟩
   ·refine Ah rfl fun σ w1 hC h=> ?_;have bc:=Az (h 19 (by decide));have bd:=Az (h 25 (by decide));exact Aao (l:=(Sha.sum (b.take ((b.length)-(32))))) (m:=b.drop ((b.length)-(32))) (.inr rfl) bc bd (decide ((Sha.sum (b.take ((b.length)-(32))))≠(b.drop ((b.length)-(32)):List UInt8))) rfl ⟨Ext.refl _,(congrArg Adl (decide_eq_false (fun h=>h q3)))⟩
  intro cv e7 aj he hf;obtain⟨-,-,-,-,-,-,-,-,k26,-⟩:=hf;obtain⟨o,q,r,T4,t,z,-⟩:=he.hold [(0,_),(2,_),(3,_),(4,_),(7,_),(10,_)] ⟨o,q,r,T4,t,z,trivial⟩ rfl;clear he;have hE:=hE.trans aj;have g:=eb aj g;have s:=s.trans aj;have j:=eb aj j;have ad:=ad.trans aj;have aa:=eb aj aa;have ae:cv 26 = .bool (false):=k26;clear k26;refine tN (ct _ _ (CP ae (DL (tN (cr _ _ (IT (GP rfl (Z8 (vs:= #[PQ u 0,PQ y 0]) (by simp only[Ads,Ado,AdA];exact congrArg Aec (FA q r)) (Q1 (vr (.func (.func 78) #[] #[PQ u 0,PQ y 0]) rfl) (WS (vr (.func (.func 78) #[] #[PQ u 0,PQ y 0]) rfl)) (NZ (fun ρ=>ρ 0=(v:AcJ)∧ρ 2=(PQ u 0:AcJ)∧ρ 3=(PQ y 0:AcJ)∧ρ 4=(PQ ai 0:AcJ)∧ρ 7=(.bool (false):AcJ)∧ρ 10=(.bool (false):AcJ)∧ρ 26=(.bool (false):AcJ)∧True) ⟨o,q,r,T4,t,z,ae,trivial⟩ fun e8 ⟨o,q,r,T4,t,z,ae,_⟩=>(IT (GP rfl (Yk.move o (Lb rfl (Ab4 SY (vr v rfl) ?_)))))))))))))));refine Ar (UB _ (hG.keep hE) v b (hr.keep hE) (by omega) (by omega)) ?_ ?_;rotate_left
  ·
   rintro ch e9 ⟨c,hce,rfl,hx⟩;intro a_ ha_;show Leaves _ _ a_.tmps _ a_.defers (.panicking _) _;rw[ha_.defers];refine leaves_cons (f:=78) (args:= #[PQ u 0,PQ y 0]) (by simp) (by simp[go_sem]) ((Q6 w u y c _ _ _ (hE.trans hx) (by omega) (by omega) (by omega) (eb hx g) (eb hx j)).mono ?_);rintro e u' w3 ⟨rfl,rfl,cw,cx,cy⟩;exact Lc (ρ:=_) _ rfl [.pointer none,NI c] (.tuple #[.pointer none,NI c]) rfl ha_.get ⟨Z7 (q) cw FI rfl,Z7 (r) cx SV rfl,trivial⟩ ⟨_,rfl,_,_,rfl,by rw[hP,hce];exact⟨rfl,rfl⟩,cy⟩
  rintro v_ cz ⟨gp,vi,bo,ids,O,rfl,hrd,hgb,hgi,hmo,hoo,hlg,hlo,hlv,hlO,ak⟩;have hsz_:=(hE).size;have hE:=hE.trans ak;have g:=eb ak g;have s:=s.trans ak;have j:=eb ak j;have ad:=ad.trans ak;have aa:=eb ak aa;have hPk:PackNew w.heap.size cz (PQ gp 0) (ids,fun k=>(O k).map Adk):=⟨gp,vi,bo,O,rfl,rfl,hgb,hgi,hmo,hoo,AcN hsz_ hlg,AcN hsz_ hlo,(fun k hk=>AcN hsz_ (hlv k hk)),fun id x h k hk=>AcN hsz_ (hlO id x h k hk)⟩;have hob_n2:=g;refine GP rfl (ZK (i:=0) (v:=PQ gp 0) q (vr (PQ gp 0) rfl) g (Ac2 rfl) Q3 rfl rfl fun c0 bx a1 fa=> ?_);have hE:=Ab hE a1 (AcN (AcP _) (by omega));clear s;have j:=kb a1 j (by omega);clear ad;have aa:=kb a1 aa (by omega);have hPk:PackNew w.heap.size c0 (PQ gp 0) (ids,fun k=>(O k).map Adk):=PackNew.keepN hPk hob_n2 (fun _ h=>by cases h) a1;clear g;have g:=bx;clear bx;have fb:=bl g;have hob_n10:=j;refine GP rfl (ZK (i:=0) (v:=NI 0) r (vr (NI 0) rfl) j (Ac2 rfl) Q4 rfl rfl fun c1 bz a2 fc=> ?_);have hE:=Ab hE a2 (AcN a0 (by omega));have aa:=kb a2 aa (by omega);have hPk:PackNew w.heap.size c1 (PQ gp 0) (ids,fun k=>(O k).map Adk):=PackNew.keepN hPk hob_n10 (fun _ h=>by cases h) a2;have g:=kb a2 g (by omega);clear j;have j:=bz;clear bz;have fd:=bl j;refine NZ (fun ρ=>ρ 0=(v:AcJ)∧ρ 2=(PQ u 0:AcJ)∧ρ 3=(PQ y 0:AcJ)∧ρ 4=(PQ ai 0:AcJ)∧ρ 7=(.bool (false):AcJ)∧ρ 10=(.bool (false):AcJ)∧ρ 26=(.bool (false):AcJ)∧True) ⟨o,q,r,T4,t,z,ae,trivial⟩ fun fe ⟨o,q,r,T4,t,z,ae,_⟩=>(WR fun a_ ha_=> ?_);show Leaves _ _ a_.tmps _ a_.defers .returning _;rw[ha_.defers];refine leaves_cons (f:=78) (args:= #[PQ u 0,PQ y 0]) (by simp) (by simp[go_sem]) ((Q5 u y _).mono ?_);rintro e u' w3 ⟨rfl,rfl,hxi⟩;exact Lc (ρ:=_) _ rfl [PQ gp 0,NI 0] (.tuple #[PQ gp 0,NI 0]) rfl ha_.get ⟨Z7 (q) (eb hxi g) FI rfl,Z7 (r) (eb hxi j) SV rfl,trivial⟩ ⟨_,rfl,_,_,rfl,by rw[hP,hrd];exact⟨rfl,(hPk).keep hxi⟩,hE.trans hxi⟩
 have hP:B4 b = .error 18:=(if_neg q1).trans ((if_neg q2).trans (if_neg q3));refine tN (ay _ _ (CE _ B7 fun ff c2=>(sk fun fg c3=>(wt (oM rfl (oS rfl (ZF Gj (ZB (hr.keep hE) o) (oS rfl (Zv (a:=(b.length:Nat)) (b:=(1048576:Nat)) rfl rfl (Bh _ _ _ _) (Ha [(0,v),(2,PQ u 0),(3,PQ y 0),(7, .bool (false))] ⟨o,q,r,(congrArg Adl (decide_eq_false (q1))),trivial⟩ fun fh ⟨o,q,r,t,_⟩=>(tN (c3 _ _ (CP t (DL (tN (c2 _ _ (CE _ B7 fun fi c4=>(sk fun fj c5=>(wt (oM rfl ?_))))))))))))))))))));refine oS rfl (ZF Gj (ZB (hr.keep hE) o) (oS rfl (Zv (a:=(b.length:Nat)) (b:=(36:Nat)) rfl rfl (AI _ _ _ _) (Ha [(0,v),(2,PQ u 0),(3,PQ y 0),(7, .bool (false)),(10, .bool (false))] ⟨o,q,r,t,(congrArg Adl (decide_eq_false (q2))),trivial⟩ fun fk ⟨o,q,r,t,z,_⟩=>(tN (c5 _ _ (CP z (DL (tN (c4 _ _ (CE _ B7 fun fl c6=>(wt (oM rfl (oM rfl (oS rfl (ZF Gj (ZB (hr.keep hE) o) (oS rfl (Zw (xv:=NI b.length) (yv:=NI 32) rfl rfl rfl (BN _ _ _ (by omega) (by omega)) (oS rfl (Aag (xs:=b) (n:=(b.length)-(32)) Gj Qq o (hr.keep hE) (vr (NI ((b.length)-(32))) rfl) (by omega) fun c7 ar ha123=>(oS rfl (Aae Gm (ZB ar (vr c7 rfl)) fun b0 fm be au=> ?_))))))))))))))))))))));have hE:=hE.trans au;have g:=eb au g;have s:=s.trans au;have j:=eb au j;have ar:=ar.keep au;refine oS rfl (ZA J8 (vr b0 rfl) ((Gc _ (hG.keep hE) b0 (b.take ((b.length)-(32))) be (by simp only[Ac8];omega)).mono ?_));rintro e c8 ⟨rfl,al⟩;refine⟨_,rfl,?_⟩;have hE:=hE.trans al;have g:=eb al g;have s:=s.trans al;have j:=eb al j;have ar:=ar.keep al;have be:=be.keep al;refine oS rfl (Yk.alloc (cs:=(AcL (AcX 32 0)).toArray) Ur fun av c9 b1 b2 aw fo=> ?_);have ag:=Ext.refl c8;have fp:=hE;have fq:=s;have da:=hE.size;have db:=s.size;have fr:=As (bl g) b1;have fs:=As (bl j) b1;have hE:=hE.trans aw;have g:=eb aw g;have s:=s.trans aw;have j:=eb aw j;have ag:=ag.trans aw;have ac:=b2;clear b2;have ft:av<c9.heap.size:=by omega
 refine oS rfl (Zy (vr (PQ av 0) rfl) (vr (AB (Sha.sum (b.take ((b.length)-(32))))) rfl) ac (by exact Bn (Sha.sum_length _) Ac7) (by exact Ac (Sha.sum_length _)) (Af _) fun fu b3 ax fv=> ?_);have hE:=Ab hE ax (AcN da (by omega));have g:=kb ax g (by omega);have s:=Ab s ax (AcN db (by omega));have j:=kb ax j (by omega);have ag:=Ab ag ax (AcN (AcP _) (by omega));clear ac;have ac:=b3;clear b3;have fw:=bl ac;refine Ha [(0,v),(2,PQ u 0),(3,PQ y 0),(4,PQ av 0),(7, .bool (false)),(10, .bool (false))] ⟨o,q,r,rfl,t,z,trivial⟩ fun fx ⟨o,q,r,T4,t,z,_⟩=>(tN (c6 _ _ (CE _ B7 fun fy fz=>(sk fun f0 dc=> ?_))));refine Hu [Is (.slice (some ⟨av,0,none⟩) 32 32),Is (St ((Sha.sum (b.take ((b.length)-(32)))))),Is (v),Is (v),Is (NI b.length),Is (NI ((b.length)-(32))),fun x w' =>RB w' x (b.drop ((b.length)-(32))),Is (St (b.drop ((b.length)-(32)))),Is (.bool (true))] (by kernel_rfl) [18,19,20,21,22,23,24,25,26] (by kernel_rfl) (by kernel_rfl) (Y7 ⟨(fun _ _ _ h k=>RB.keep h k),(L0 trivial)⟩) ?dd ?hQ2006
 case dd=>
  refine⟨?_,?_,?_,?_,?_,?_,?_,?_,?_,trivial⟩
  ·refine Ah rfl fun σ w1 hC h=> ?_;have e4:=(Az (h 4 (by decide))).trans T4;exact Aac Wq Qq e4 ⟨Ext.refl _,rfl⟩
  ·refine Ah rfl fun σ w1 hC h=> ?_;have a6:=Az (h 18 (by decide));exact Z3 Gj u5 PO (ZB (Aap (eb hC ac) (Sha.sum_length _) (by decide)) a6) ⟨Ext.refl _,rfl⟩
  ·refine Ah rfl fun σ w1 hC h=> ?_;have e0:=(Az (h 0 (by decide))).trans o;exact Yk.move e0 ⟨Ext.refl _,rfl⟩
  ·refine Ah rfl fun σ w1 hC h=> ?_;have e0:=(Az (h 0 (by decide))).trans o;exact Yk.move e0 ⟨Ext.refl _,rfl⟩
  ·refine Ah rfl fun σ w1 hC h=> ?_;have a7:=Az (h 21 (by decide));exact ZF Gj (ZB (hr.keep (hE.trans hC)) a7) ⟨Ext.refl _,rfl⟩
  ·refine Ah rfl fun σ w1 hC h=> ?_;have a8:=Az (h 22 (by decide));exact Zw (xv:=NI b.length) (yv:=NI 32) a8 rfl rfl (BN _ _ _ (by omega) (by omega)) ⟨Ext.refl _,rfl⟩
  ·refine Ah rfl fun σ w1 hC h=> ?_;have a9:=Az (h 20 (by decide));have ba:=Az (h 23 (by decide));exact Z1 (xs:=b) (l:=(b.length)-(32)) Gj Qq rfl (ZB (hr.keep (hE.trans hC)) a9) ba (by omega) fun v hr _=>⟨Ext.refl _,hr⟩
  ·refine Ah rfl fun σ w1 hC h=> ?_;have bb:(fun x w' =>RB w' x (b.drop ((b.length)-(32)))) (σ 24) w1:=h 24 (by decide);exact Z3 Gj u5 PO bb ⟨Ext.refl _,rfl⟩
  ·refine Ah rfl fun σ w1 hC h=> ?_;have bc:=Az (h 19 (by decide));have bd:=Az (h 25 (by decide));exact Aao (l:=(Sha.sum (b.take ((b.length)-(32))))) (m:=b.drop ((b.length)-(32))) (.inr rfl) bc bd (decide ((Sha.sum (b.take ((b.length)-(32))))≠(b.drop ((b.length)-(32)):List UInt8))) rfl ⟨Ext.refl _,(congrArg Adl (decide_eq_true (q3)))⟩
 intro de f1 am he hf;obtain⟨-,-,-,-,-,-,-,-,k26,-⟩:=hf;obtain⟨o,q,r,T4,t,z,-⟩:=he.hold [(0,_),(2,_),(3,_),(4,_),(7,_),(10,_)] ⟨o,q,r,T4,t,z,trivial⟩ rfl;clear he;have hE:=hE.trans am;have g:=eb am g;have s:=s.trans am;have j:=eb am j;have ag:=ag.trans am;have ac:=eb am ac;have ae:de 26 = .bool (true):=k26;clear k26;refine tN (dc _ _ (EU ae (sk fun f2 df=>(wt (oS rfl (ZK (i:=0) (v:= .pointer none) q (vr (.pointer none) rfl) g (Ac2 rfl) Q3 rfl rfl fun f3 b4 bf f4=> ?_))))));have hE:=Ab hE bf (AcN (AcP _) (by omega));clear s;have j:=kb bf j (by omega);clear ag;have ac:=kb bf ac (by omega);clear g;have g:=b4;clear b4;have f5:=bl g;refine oS rfl (ZK (i:=0) (v:=NI 18) r (vr (NI 18) rfl) j (Ac2 rfl) Q4 rfl rfl fun f6 b5 bg f7=> ?_);have hE:=Ab hE bg (AcN a0 (by omega));have ac:=kb bg ac (by omega);have g:=kb bg g (by omega);clear j;have j:=b5;clear b5;have f8:=bl j;refine Ha [(0,v),(2,PQ u 0),(3,PQ y 0),(4,PQ av 0),(7, .bool (false)),(10, .bool (false)),(26, .bool (true))] ⟨o,q,r,T4,t,z,ae,trivial⟩ fun f9 ⟨o,q,r,T4,t,z,ae,_⟩=>(tN (df _ _ (Jg (Iu (CQ (fn:=Tryz.f43) _ rfl [.pointer none,NI 18] (.tuple #[.pointer none,NI 18]) rfl ⟨Z7 q g FI rfl,Z7 r j SV rfl,trivial⟩ ?_)))));exact⟨_,rfl,_,_,rfl,by rw[hP];exact⟨rfl,rfl⟩,hE⟩

section
variable {P : Adg} {K : AcJ → AcK → Prop} {ρ : Ad} {w : AcK} {d : Option Tmp} {ty : AcR} {pos : String} {af : Array AdL} {gd : Option (Nat × Bool)}
theorem SZ{t e:AcR}(ht:P.underlying t=some (.slice e))(a:Option Addr)(n c:Nat)(w:AcK):(Agy t (.slice a n c) (.slice none 0 0)).run P w = .ok a.isNone w:=by
  unfold Agy;rw[show Aie=(Aie-1)+1 from rfl];cases a <;> simp[Aip,run_underlying ht,Ac1,Ac3]
theorem Aay{t e ty2:AcR}(ht:P.underlying t=some (.slice e)){x:AcW}{a:Option Addr}{n c:Nat}(hx:Aa ρ x = .slice a n c)(hk:K (.bool a.isNone) w):Yk P K ((execOp (Aa ρ) ⟨d, .binOp .eql t x (.const (.slice none 0 0)) ty2,ty,pos,af,gd⟩).run P w):=by
  have hy:Aa ρ (.const (.slice none 0 0)) = .slice none 0 0:=rfl;refine Yk.value (v:= .bool a.isNone) (w' :=w) ?_ hk;have hr:=SZ ht a n c w;unfold execOp;simp only[hx,hy];cases a <;> simp[eqGuard,Adq,hr]
end
def PackO(w:AcK)(v:AcJ):Option AU→Prop
 | none=>v = .pointer none
 | some p=>PackAt w v p
theorem PackO.keep{w w' :AcK}{v:AcJ}:∀ {q:Option AU},PackO w v q→Ext w w' →PackO w' v q
 | none,h,_=>h
 | some _,h,k=>PackAt.keep h k
def Q7(q:Option AU):List Bs:=match q with | none=> [] | some p=>p.1
def Zf(q:Option AU):Nat:=(Q7 q).length
def Cx(q:Option AU)(id:Bs):(Bs × Nat)× Nat:=
 match q with
 | none=>(([],0),1)
 | some p=>match p.2 id with
  | none=>(([],0),12)
  | some x=>(x,0)
theorem Q8(w:AcK):(Adt 27 0 #[]).run AcM w = .ok (.slice (some ⟨w.heap.size,0,none⟩) 0 0) (w.alloc (.cells #[] 5)):=by kernel_rfl
theorem Q9(w:AcK):(Adt 42 0 #[]).run AcM w = .ok (.slice (some ⟨w.heap.size,0,none⟩) 0 0) (w.alloc (.cells #[] 33)):=by kernel_rfl
theorem N4:AV AcM 163 0 0:=fun b o w=>by simp[go_sem]
theorem S0:Plain AcM 98:=fun _ _=>by kernel_rfl
theorem Ra:Plain AcM 139:=fun _ _=>by kernel_rfl
theorem S1:Plain AcM 72:=fun _ _=>by kernel_rfl
theorem Yc(w:AcK):
  Calls AcM 72 #[(.slice none 0 0)] w fun e w' =>∃v',e = .returned v' ∧NewB 5 w w' v' []:=by
 refine gG (args:= [(.slice none 0 0)]) Tryz.func72 rfl 8 rfl rfl ?_;have hE:=Ext.refl w;refine gS (Aay Gj rfl (cT rfl (Bb rfl (vr (AcU none 0 0) rfl) ?_)));exact⟨_,rfl,⟨AdK _ _ _ 1,hE.grown⟩⟩

theorem Yd(w:AcK)(a:Addr)(c:Nat)(l:Bs)(hr:RB w (.slice (some a) l.length c) l)(hl:l.length<1099511627776):
  Calls AcM 72 #[(.slice (some a) l.length c)] w fun e w' =>∃v',e = .returned v' ∧NewB 5 w w' v' l:=by
 refine gG (args:= [(.slice (some a) l.length c)]) Tryz.func72 rfl 8 rfl rfl ?_;have hE:=Ext.refl w;refine gS (Aay Gj rfl (cF rfl (gS (Acv Q8 fun g j h=> ?_))));have b:=h.own;have hE:=hE.trans h.ext;refine gS (ZW _ _ w.heap.size (.int .u8 0) Gj Nc rfl Gj (([]:List UInt8)) (l) (C3 b (vr g rfl)) (ZB (hr.keep hE) (vr (.slice (some a) l.length c) rfl)) (by simp only[Adp];omega) hE.size fun i k m f=> ?_);have f:Grew j k g i:=f;have hE:=Aq hE f b (AcP _);clear b;refine Bb rfl (vr i rfl) ?_;exact⟨_,rfl,⟨(show Ahv _ _ _ _ _ _ _ from by simpa using m),hE.grown⟩⟩

theorem Ml(w:AcK)(v:AcJ)(l:Bs)(h:RB w v l)(hl:l.length<1099511627776):
  Calls AcM 72 #[v] w fun e w' =>∃v',e = .returned v' ∧NewB 5 w w' v' l:=by
 obtain⟨h1,ao,cap,rfl,h2,h3,h4,h5⟩:=id h;cases ao with
 | none=>
  have hl:=h4 rfl;have:l= []:=Adw hl.1;subst this;rw[show cap=0 from hl.2];exact Yc w
 | some a=>exact Yd w a cap l h hl

theorem UD(w:AcK):
  Calls AcM 98 #[(.slice none 0 0)] w fun e w' =>∃v',e = .returned v' ∧OG w.heap.size 33 32 AcL w' v' []∧Ext w w' :=by
 refine gG (args:= [(.slice none 0 0)]) Tryz.func98 rfl 8 rfl rfl ?_;have hE:=Ext.refl w;refine gS (Aay NB rfl (cT rfl (Bb rfl (vr (AcU none 0 0) rfl) ?_)));exact⟨_,rfl,OG.nil _ _ _ _ _,hE⟩

theorem UE(w:AcK)(a:Addr)(c:Nat)(l:List Bs)(hr:RG 32 AcL w (.slice (some a) l.length c) l)(hl:l.length<1099511627776):
  Calls AcM 98 #[(.slice (some a) l.length c)] w fun e w' =>∃v',e = .returned v' ∧OG w.heap.size 33 32 AcL w' v' l∧Ext w w' :=by
 refine gG (args:= [(.slice (some a) l.length c)]) Tryz.func98 rfl 8 rfl rfl ?_;have hE:=Ext.refl w;refine gS (Aay NB rfl (cF rfl (gS (Acg (k:=32) (enc:=AcL) Q9 fun g i b j=> ?_))));have hE:=hE.trans j;refine gS (ZM _ _ w.heap.size _ 32 NB pk6_ig33.choose_spec.1 pk6_ig33.choose_spec.2 NB ([]) (l) (OG.of b (vr g rfl)) (ZC (hr.keep hE) (vr (.slice (some a) l.length c) rfl)) (fun _ _=>Af _) (by simp only[Adp];omega) (by simp only[Adp];omega) hE.size fun h m n f=> ?_);have f:Grew i m g h:=f;have hE:=Aq hE f b.2 (AcP _);clear b;refine Bb rfl (vr h rfl) ?_;exact⟨_,rfl,(show OG _ _ _ _ _ _ _ from by simpa using n),hE⟩

theorem Pb(w:AcK)(v:AcJ)(l:List Bs)(h:RG 32 AcL w v l)(hl:l.length<1099511627776):
  Calls AcM 98 #[v] w fun e w' =>∃v',e = .returned v' ∧OG w.heap.size 33 32 AcL w' v' l∧Ext w w' :=by
 obtain⟨h0,h1,ao,cap,rfl,h2,h3,h4,h5⟩:=id h;cases ao with
 | none=>
  have hl:=h4 rfl;have:l= []:=Adw hl.1;subst this;rw[show cap=0 from hl.2];exact UD w
 | some a=>exact UE w a cap l h hl

theorem UF(w:AcK):
  Calls AcM 54 #[.pointer none] w fun e w' =>∃v',e = .returned v' ∧OG w.heap.size 33 32 AcL w' v' (Q7 (none:Option AU))∧Ext w w' :=by
 refine gG (args:= [.pointer none]) Tryz.func54 rfl 10 rfl rfl ?_;have hE:=Ext.refl w;refine gS (ZR FI rfl (cT rfl (Bb rfl (vr (AcU none 0 0) rfl) ?_)));exact⟨_,rfl,OG.nil _ _ _ _ _,hE⟩

theorem WV(w:AcK)(g bo:Nat)(vi:AcJ)(ids:List Bs)(O:Bs→Option Co)(hg:w.heap[g]? =some (.cells ([vi, .map (some bo)]).toArray 163 (0,0)))(hrg:RG 32 AcL w vi ids)(hmo:MapF rk Ck (fun id:List UInt8=>id.length=32) w bo O)(hoo:OOk w O)(hi:ids.length<1099511627776):
  Calls AcM 54 #[PQ g 0] w fun e w' =>∃v',e = .returned v' ∧OG w.heap.size 33 32 AcL w' v' (Q7 (some (ids,fun k=>(O k).map Adk)))∧Ext w w' :=by
 refine gG (args:= [PQ g 0]) Tryz.func54 rfl 10 rfl rfl ?_;have hE:=Ext.refl w;refine gS (ZR FI rfl (cF rfl (gS (Yk.nilCheck rfl (gS (Yk.fieldAt N4 rfl (gS (Zu NB rfl rfl (cellAt hg rfl) (gS (ZA S0 rfl ((Pb _ vi ids hrg (by omega)).mono ?_)))))))))));rintro e f ⟨a,rfl,b,c⟩;refine⟨_,rfl,?_⟩;refine Bb rfl (vr a rfl) ?_;have hE:=hE.trans c;exact⟨_,rfl,b,hE⟩

theorem UG(w:AcK)(v:AcJ)(q:Option AU)(h:PackO w v q)(hi:Zf q<1099511627776):
  Calls AcM 54 #[v] w fun e w' =>∃v',e = .returned v' ∧OG w.heap.size 33 32 AcL w' v' (Q7 q)∧Ext w w' :=by
 match q,h with
 | none,h=>rw[show v = .pointer none from h];exact UF w
 | some p,h=>
  obtain⟨g,vi,bo,O,rfl,h2,hg,hrg,hmo,hoo⟩:=h;obtain⟨ids,P⟩:=p;subst h2;exact WV w g bo vi ids O hg hrg hmo hoo hi

theorem S2(w:AcK)(id:Bs)(hid:id.length=32):
  Calls AcM 139 #[.pointer none,AB id] w fun e w' =>∃x,e = .returned x∧∃(o:Bs × Nat) (s:AcJ),x = .tuple #[.agg ([s,NI o.2]).toArray,NI (Cx (none:Option AU) id).2]∧o=(Cx (none:Option AU) id).1∧RB w' s o.1∧Ext w w' :=by
 refine gG (args:= [.pointer none,AB id]) Tryz.func139 rfl 24 rfl rfl ?_;have hE:=Ext.refl w;refine gS (Yk.box (vr (AB id) rfl) fun h i p b j q=> ?_);have r:=b;clear b;have t:h<i.heap.size:=by omega
 refine gS (Yk.alloc DQ fun c k u f l y=> ?_);have hE:=hE.trans j;have m:=hE.size;have a:=f;clear f;have z:c<k.heap.size:=by omega
 refine gS (ZR FI rfl (cT rfl (gS (Yk.run (v:= .agg ([(AcU none 0 0),NI 0]).toArray) (by kernel_rfl) (gS (Zy (vr (PQ c 0) rfl) (vr (.agg ([(AcU none 0 0),NI 0]).toArray) rfl) a rfl (show(Tryz.prog.info? 215).map (·.size)=some 2 from Bo) (Cv rfl) fun aa g n ab=> ?_))))));clear a;have a:=g;clear g;have ac:=bl a;refine JE rfl (ResF.row rfl a (Dt).choose_spec rfl ((show(Tryz.prog.info? 215).map (·.size)=some 2 from Bo))) (vr (NI 1) rfl) ?_;have hE:=hE.trans l;have hE:=Ab hE n (AcN m (by omega));exact⟨_,rfl,([],0),_,rfl,rfl,RB.nil _,hE⟩

theorem UH(w:AcK)(g bo:Nat)(vi:AcJ)(ids:List Bs)(O:Bs→Option Co)(hg:w.heap[g]? =some (.cells ([vi, .map (some bo)]).toArray 163 (0,0)))(hrg:RG 32 AcL w vi ids)(hmo:MapF rk Ck (fun id:List UInt8=>id.length=32) w bo O)(hoo:OOk w O)(id:Bs)(hid:id.length=32):
  Calls AcM 139 #[PQ g 0,AB id] w fun e w' =>∃x,e = .returned x∧∃(o:Bs × Nat) (s:AcJ),x = .tuple #[.agg ([s,NI o.2]).toArray,NI (Cx (some (ids,fun k=>(O k).map Adk)) id).2]∧o=(Cx (some (ids,fun k=>(O k).map Adk)) id).1∧RB w' s o.1∧Ext w w' :=by
 refine gG (args:= [PQ g 0,AB id]) Tryz.func139 rfl 24 rfl rfl ?_;have hE:=Ext.refl w;refine gS (Yk.box (vr (AB id) rfl) fun n2 w3 r aa j a6=> ?_);have a7:=As hmo.lt r;have b:=aa;clear aa;have a8:n2<w3.heap.size:=by omega
 refine gS (Yk.alloc DQ fun t aw c ab ac a9=> ?_);have hE:=hE.trans j;have ad:=hE.size;have hmo:=hmo.keep j;have ba:=As hmo.lt c;have a:=ab;clear ab;have bb:t<aw.heap.size:=by omega
 refine gS (ZR FI rfl ?_);rcases hO:O id with _ | x
 ·have hQ:Cx (some (ids,fun k=>(O k).map Adk)) id=(([],0),12):=by show(match (O id).map Adk with | none=>_ | some x=>_)=_;rw[hO];rfl
  refine cF rfl (D6 [0,1,2,3,4,5,6,7,8,9,10,11] [9,10] [1,2,7,8] [3,4,5] fun ae af=> ?_);have f:=Ext.refl ae;have hZ1:=ac.trans af;have hE:=hE.trans hZ1;have ax:=hE.size;have l:=Ext.refl ae;have ay:=As (bl hg) r;have hg:=eb j hg;have az:=As (bl hg) c;have hg:=eb hZ1 hg;have a0:=As (bl b) c;have b:=eb hZ1 b;have hmo:=hmo.keep hZ1;refine DM l ?_;refine yp (Yk.nilCheck rfl zz) (yp (Yk.fieldAt NX rfl zz) (yf (fun _ ⟨hZ,_⟩=>Zu CN rfl rfl (cellAt (eb hZ hg) rfl) zz) (yf (fun _ ⟨hZ,_⟩=>Zz rfl (eb hZ b) Wq rfl (by exact Ac hid) zz) (yf (fun _ ⟨hZ,_⟩=>Aah (ek:=rk) (ev:=Ck) (D:=(fun id:List UInt8=>id.length=32)) Cm Cn (fun _ _=>Cg) CN (z:=Ck LD) Hk rfl rfl (hmo.keep hZ) hid hO zz) (yp (Yk.extract (vs:= [.agg ([(AcU none 0 0),NI 0]).toArray, .bool (false)]) rfl rfl zz) (yp (Yk.extract (vs:= [.agg ([(AcU none 0 0),NI 0]).toArray, .bool (false)]) rfl rfl zz) (yE (Yk.alloc DQ fun ag a1 a2 ah m bc=> ?_))))))));have bd:=As hmo.lt a2;have n:=ah;clear ah;have be:ag<a1.heap.size:=by omega
  have l:=l.trans m;refine⟨l,?_⟩;refine yD rfl (Zy (vr (PQ ag 0) rfl) (vr (.agg ([(AcU none 0 0),NI 0]).toArray) rfl) n rfl (show(Tryz.prog.info? 215).map (·.size)=some 2 from Bo) (Cv rfl) fun bf ai u bg=> ?_);have hmo:=hmo.keep m;have hmo:=MapF.other hmo u (Ak (by omega));clear n;have n:=ai;clear ai;have bh:=bl n;have f:=f.trans m;have f:=Ab f u (AcN (AcP _) (by omega));have a:=eb (af.trans f) a;refine gS (Z9 rfl (cT rfl (gS (Yk.run (v:= .agg ([(AcU none 0 0),NI 0]).toArray) (by kernel_rfl) (gS (Zy (vr (PQ t 0) rfl) (vr (.agg ([(AcU none 0 0),NI 0]).toArray) rfl) a rfl (show(Tryz.prog.info? 215).map (·.size)=some 2 from Bo) (Cv rfl) fun bi aj ak bj=> ?_))))));have hmo:=MapF.other hmo ak (Ak (by omega));clear a;have a:=aj;clear aj;have bk:=bl a;refine JE rfl (ResF.row rfl a (Dt).choose_spec rfl ((show(Tryz.prog.info? 215).map (·.size)=some 2 from Bo))) (vr (NI 12) rfl) ?_;have hE:=hE.trans m;have hE:=Ab hE u (AcN ax (by omega));have hE:=Ab hE ak (AcN ad (by omega));exact⟨_,rfl,([],0),_,by rw[hQ],by rw[hQ],RB.nil _,hE⟩
 have hQ:Cx (some (ids,fun k=>(O k).map Adk)) id=(x.1,0):=by show(match (O id).map Adk with | none=>_ | some x=>_)=_;rw[hO];rfl
 have hxr:=hoo id x hO;refine cF rfl (D6 [0,1,2,3,4,5,6,7,8,9,10,11] [9,10] [1,2,7,8] [3,4,5] fun al am=> ?_);have h:=Ext.refl al;have hZ2:=ac.trans am;have hE:=hE.trans hZ2;have a3:=hE.size;have p:=Ext.refl al;have ay:=As (bl hg) r;have hg:=eb j hg;have az:=As (bl hg) c;have hg:=eb hZ2 hg;have a0:=As (bl b) c;have b:=eb hZ2 b;have hmo:=hmo.keep hZ2;refine DM p ?_;refine yp (Yk.nilCheck rfl zz) (yp (Yk.fieldAt NX rfl zz) (yf (fun _ ⟨hZ,_⟩=>Zu CN rfl rfl (cellAt (eb hZ hg) rfl) zz) (yf (fun _ ⟨hZ,_⟩=>Zz rfl (eb hZ b) Wq rfl (by exact Ac hid) zz) (yf (fun _ ⟨hZ,_⟩=>Aab (ek:=rk) (ev:=Ck) (D:=(fun id:List UInt8=>id.length=32)) Cm Cn (fun _ _=>Cg) CN (z:=Ck LD) Hk rfl rfl (hmo.keep hZ) hid hO zz) (yp (Yk.extract (vs:= [.agg ([x.2,NI x.1.2]).toArray, .bool (true)]) rfl rfl zz) (yp (Yk.extract (vs:= [.agg ([x.2,NI x.1.2]).toArray, .bool (true)]) rfl rfl zz) (yE (Yk.alloc DQ fun an a4 a5 ao q bm=> ?_))))))));have bn:=As hmo.lt a5;have i:=ao;clear ao;have bp:an<a4.heap.size:=by omega
 have p:=p.trans q;refine⟨p,?_⟩;have hE:=hE.trans q;refine yD rfl (Zy (vr (PQ an 0) rfl) (vr (.agg ([x.2,NI x.1.2]).toArray) rfl) i rfl (show(Tryz.prog.info? 215).map (·.size)=some 2 from Bo) (Cv (RB.one (hxr.keep hE)).2) fun bq ap y br=> ?_);have hmo:=hmo.keep q;have hmo:=MapF.other hmo y (Ak (by omega));clear i;have i:=ap;clear ap;have bs:=bl i;have h:=h.trans q;have h:=Ab h y (AcN (AcP _) (by omega));have a:=eb (am.trans h) a;have hE:=Ab hE y (AcN a3 (by omega));refine gS (Z9 rfl (cF rfl (gS (Zz rfl i (Dt).choose_spec rfl (show(Tryz.prog.info? 215).map (·.size)=some 2 from Bo) (gS (Zy (vr (PQ t 0) rfl) (vr (.agg ([x.2,NI x.1.2]).toArray) rfl) a rfl (show(Tryz.prog.info? 215).map (·.size)=some 2 from Bo) (Cv (RB.one (hxr.keep hE)).2) fun bt aq ar bu=> ?_))))));have hmo:=MapF.other hmo ar (Ak (by omega));clear a;have a:=aq;clear aq;have bv:=bl a;refine JE rfl (ResF.row rfl a (Dt).choose_spec rfl ((show(Tryz.prog.info? 215).map (·.size)=some 2 from Bo))) (vr (NI 0) rfl) ?_;have hE:=Ab hE ar (AcN ad (by omega));exact⟨_,rfl,x.1,x.2,by rw[hQ],by rw[hQ],(hxr.keep hE),hE⟩

theorem S3(w:AcK)(v:AcJ)(q:Option AU)(h:PackO w v q)(id:Bs)(hid:id.length=32):
  Calls AcM 139 #[v,AB id] w fun e w' =>∃x,e = .returned x∧∃(o:Bs × Nat) (s:AcJ),x = .tuple #[.agg ([s,NI o.2]).toArray,NI (Cx q id).2]∧o=(Cx q id).1∧RB w' s o.1∧Ext w w' :=by
 match q,h with
 | none,h=>rw[show v = .pointer none from h];exact S2 w id hid
 | some p,h=>
  obtain⟨g,vi,bo,O,rfl,h2,hg,hrg,hmo,hoo⟩:=h;obtain⟨ids,P⟩:=p;subst h2;exact UH w g bo vi ids O hg hrg hmo hoo id hid

theorem UI(w:AcK)(v:AcJ)(q:Option AU)(hq:PackO w v q)(id:Bs)(hid:id.length=32)(hb:(Cx q id).1.1.length<1099511627776):
  Calls AcM 85 #[v,AB id] w fun e w' =>∃v',e = .returned (.tuple #[v',NI (Cx q id).2])∧w'.ownsRow w.heap.size 5 1 v' (Cx q id).1.1.length (AcL (Cx q id).1.1)∧Ext w w' :=by
 refine gG (args:= [v,AB id]) Tryz.func85 rfl 18 rfl rfl ?_;have hE:=Ext.refl w;refine gS (Yk.box (vr (AB id) rfl) fun r s ab g t ac=> ?_);have f:=g;clear g;have ad:r<s.heap.size:=by omega
 have hE:=hE.trans t;refine gS (Zz rfl f Wq rfl (by exact Ac hid) (gS (Zx Ra rfl rfl ((S3 _ v q (hq.keep hE) id hid).mono ?_))));rintro e u ⟨_,rfl,o,c,rfl,ho,h,i⟩;refine⟨_,rfl,?_⟩;subst ho;refine gS (Yk.extract (vs:= [.agg ([c,NI ((Cx q id).1.2)]).toArray,NI ((Cx q id).2)]) rfl rfl (gS (Yk.extract (vs:= [.agg ([c,NI ((Cx q id).1.2)]).toArray,NI ((Cx q id).2)]) rfl rfl (gS (Yk.alloc DQ fun j x ae k l af=> ?_)))));have a:=Ext.refl u;have hE:=hE.trans i;have y:=hE.size;have b:=k;clear k;have ag:j<x.heap.size:=by omega
 have a:=a.trans l;refine gS (Zy (vr (PQ j 0) rfl) (vr (.agg ([c,NI ((Cx q id).1.2)]).toArray) rfl) b rfl (show(Tryz.prog.info? 215).map (·.size)=some 2 from Bo) (Cv (RB.one (h.keep a)).2) fun ah m n ai=> ?_);clear b;have b:=m;clear m;have aj:=bl b;have a:=Ab a n (AcN (AcP _) (by omega));refine gS (Yk.fieldAt Gu rfl (gS (Zu Gj rfl rfl (cellAt b rfl) (gS (ZA S1 rfl ((Ml _ c (Cx q id).1.1 (h.keep a) (by omega)).mono ?_))))));rintro e ak ⟨z,rfl,p⟩;refine⟨_,rfl,?_⟩;have hE:=hE.trans l;have hE:=Ab hE n (AcN y (by omega));have al:=hE.size;have am:=a.size;have f:=eb (i.trans a) f;have aa:=p.own;refine BF rfl (vr z rfl) (vr (NI ((Cx q id).2)) rfl) ?_;have hE:=hE.trans p.ext;exact⟨_,rfl,BL aa (by omega),hE⟩
abbrev B5:=List (List UInt8 × Nat)
def Aw:B5→List UInt8→Option Nat
  | [],_=>none
  | e :: r,s=>if e.1=s then some e.2 else Aw r s
theorem Du(e:List UInt8 × Nat)(r:B5)(s:List UInt8):Aw (e :: r) s=if e.1=s then some e.2 else Aw r s:=rfl
def Hn(l:B5)(s:List UInt8):B5:=l.filter fun e=> !decide (e.1=s)
def Gv(l:B5)(s:List UInt8)(k:Nat):B5:=l.takeWhile (fun e=>Ad2 e.1 s)++(s,k) :: l.dropWhile (fun e=>Ad2 e.1 s)
structure C0 where
  frm:List UInt8
  to:List UInt8
  file:Nat
def turnD(l:B5)(a:C0):B5:=if a.to.length=0 then Hn l a.frm else Gv (Hn (Hn l a.frm) a.to) a.to a.file
def FC(l:B5):Prop:=l.Pairwise fun a b=>Ad2 a.1 b.1=true
theorem N5{a b c:List UInt8}(h:Ad2 a b=true)(k:Ad2 b c=true):Ad2 a c=true:=by
  rw[bytesLess_eq,decide_eq_true_eq]at *;exact List.lt_trans h k
theorem FJ(a:List UInt8):Ad2 a a=false:=by
  rw[bytesLess_eq];exact decide_eq_false (List.lt_irrefl a)
theorem UJ{a b:List UInt8}(h:Ad2 a b=false)(hne:b≠a):Ad2 b a=true:=by
  rw[bytesLess_eq,decide_eq_false_iff_not]at h;rw[bytesLess_eq,decide_eq_true_eq];have h:b≤a:=h;rcases List.le_total a b with h2 | h2
  · exact absurd (List.le_antisymm h h2) hne
  · exact AdW fun hn=>hne (List.le_antisymm h hn)
theorem IU{l:B5}{s:List UInt8}:Aw l s=none↔∀e∈l,e.1≠s:=by
  induction l with
  | nil=>simp[Aw]
  | cons e r ih=>
    rw[Du];by_cases h:e.1=s
    · simp[h]
    · simp[h,ih]
theorem Ej{l:B5}{s:List UInt8}{k:Nat}(h:Aw l s=some k):(s,k)∈l:=by
  induction l with
  | nil=>cases h
  | cons e r ih=>
    rw[Du]at h;split at h
    · rename_i he
      cases h;rw[←he];exact AdM
    · exact AdO _ (ih h)
theorem Jq{l:B5}(hs:FC l){e:List UInt8 × Nat}(h:e∈l):Aw l e.1=some e.2:=by
  induction l with
  | nil=>cases h
  | cons x r ih=>
    obtain⟨h1,h2⟩:=AdZ.1 hs;rw[Du];rcases Adz.1 h with rfl | h
    · exact if_pos rfl
    · have:=h1 e h;rw[if_neg (fun he=>by rw[he,FJ]at this;cases this)];exact ih h2 h
theorem Kc{l r:B5}{s:List UInt8}:Aw (l++r) s=(Aw l s).or (Aw r s):=by
  induction l with
  | nil=>rfl
  | cons e l ih=>
    rw[AdP,Du,Du];by_cases h:e.1=s
    · rw[if_pos h,if_pos h];rfl
    · rw[if_neg h,if_neg h];exact ih
theorem Jr(l:B5)(s t:List UInt8):Aw (Hn l s) t=if t=s then none else Aw l t:=by
  induction l with
  | nil=>simp[Hn,Aw]
  | cons e r ih=>
    unfold Hn at ih ⊢;by_cases h:e.1=s
    · rw[AgK (by simp[h]),ih];split
      · rfl
      · rename_i ht
        rw[Du,if_neg (fun he=>ht (he.symm.trans h))]
    · rw[AgL (by simp[h])];rw[Du,Du];by_cases he:e.1=t
      · rw[if_pos he,if_pos he,if_neg (fun ht=>h (he.trans ht))]
      · rw[if_neg he,if_neg he];exact ih
theorem UK{l:B5}{s:List UInt8}(k:Nat)(h:Aw l s=none)(t:List UInt8):Aw (Gv l s k) t=if t=s then some k else Aw l t:=by
  have hl:l=l.takeWhile (fun e=>Ad2 e.1 s)++l.dropWhile (fun e=>Ad2 e.1 s):=(AfM).symm;have hn:=h;rw[hl,Kc]at hn;unfold Gv;rw[Kc];rw[Du];simp only;by_cases ht:t=s
  · subst ht;rw[if_pos rfl,if_pos rfl];cases h2:Aw (l.takeWhile fun e=>Ad2 e.1 t) t with
    | none=>rfl
    | some x=>rw[h2]at hn;cases hn
  · rw[if_neg (fun e=>ht e.symm),if_neg ht]
    conv=>rhs;rw[hl,Kc]
theorem LE{l:B5}(h:FC l)(s:List UInt8):FC (Hn l s):=Aik (AiJ) h
theorem WW{l:B5}{s:List UInt8}(hs:FC l)(h:Aw l s=none):∀e∈l.dropWhile (fun e=>Ad2 e.1 s),Ad2 s e.1=true:=by
  induction l with
  | nil=>intro e he;cases he
  | cons x r ih=>
    obtain⟨h1,h2⟩:=AdZ.1 hs;have h3:=IU.1 h;intro e he;by_cases hx:Ad2 x.1 s=true
    · rw[AiK,if_pos hx]at he;exact ih h2 (IU.2 fun y hy=>h3 y (AdO _ hy)) e he
    · rw[AiK,if_neg hx]at he;have hxs:=UJ (AhB.2 hx) (fun q=>h3 x AdM q.symm);rcases Adz.1 he with rfl | he
      · exact hxs
      · exact N5 hxs (h1 e he)
theorem WX{l:B5}{s:List UInt8}:∀e∈l.takeWhile (fun e=>Ad2 e.1 s),Ad2 e.1 s=true:=by
  induction l with
  | nil=>intro e he;cases he
  | cons x r ih=>
    intro e he;by_cases hx:Ad2 x.1 s=true
    · rw[AiL,if_pos hx]at he;rcases Adz.1 he with rfl | he
      · exact hx
      · exact ih e he
    · rw[AiL,if_neg hx]at he;cases he
theorem UL{l:B5}{s:List UInt8}(k:Nat)(hs:FC l)(h:Aw l s=none):FC (Gv l s k):=by
  unfold Gv FC;have h1:=WW hs h;have h2:=WX (l:=l) (s:=s);rw[Aee];refine⟨hs.sublist (Af1 _),AdZ.2 ⟨fun e he=>h1 e he,hs.sublist (Af2 _)⟩,fun a ha b hb=> ?_⟩;rcases Adz.1 hb with rfl | hb
  · exact h2 a ha
  · exact N5 (h2 a ha) (h1 b hb)
theorem N6(l:B5)(a b:List UInt8):Aw (Hn (Hn l a) b) b=none:=by rw[Jr,if_pos rfl]
theorem look_turn(l:B5)(a:C0)(t:List UInt8):Aw (turnD l a) t=if a.to.length=0 then(if t=a.frm then none else Aw l t)else if t=a.to then some a.file else if t=a.frm then none else Aw l t:=by
  unfold turnD;by_cases h:a.to.length=0
  · rw[if_pos h,if_pos h,Jr]
  · rw[if_neg h,if_neg h,UK _ (N6 _ _ _)];by_cases ht:t=a.to
    · rw[if_pos ht,if_pos ht]
    · rw[if_neg ht,if_neg ht,Jr,if_neg ht,Jr]
theorem S4{l:B5}(h:FC l)(a:C0):FC (turnD l a):=by
  unfold turnD;split
  · exact LE h _
  · exact UL _ (LE (LE h _) _) (N6 _ _ _)
theorem S5(l:B5)(s:List UInt8):(Hn l s).length≤l.length:=AeE _ _
theorem WY(l:B5)(s:List UInt8)(k:Nat):(Gv l s k).length=l.length+1:=by
  unfold Gv;have h:(l.takeWhile (fun e=>Ad2 e.1 s)++l.dropWhile (fun e=>Ad2 e.1 s)).length=l.length:=by rw[AfM]
  rw[AcQ]at h;rw[AcQ,Adh];omega
theorem UM(l:B5)(a:C0):(turnD l a).length≤l.length+1:=by
  have h1:=S5 l a.frm;have h2:=S5 (Hn l a.frm) a.to;unfold turnD;split
  · omega
  · rw[WY];omega
theorem IV{l:B5}{s:List UInt8}{e:List UInt8 × Nat}(h:e∈Hn l s):e∈l:=(Aes.1 h).1
theorem WZ{l:B5}{s:List UInt8}{k:Nat}{e:List UInt8 × Nat}(h:e∈Gv l s k):e∈l∨e=(s,k):=by
  unfold Gv at h;rcases Adf.1 h with h | h
  · exact .inl ((Af1 _).subset h)
  · rcases Adz.1 h with h | h
    · exact .inr h
    · exact .inl ((Af2 _).subset h)
theorem Kd{l:B5}{a:C0}{e:List UInt8 × Nat}(h:e∈turnD l a):e∈l∨(a.to.length≠0∧e=(a.to,a.file)):=by
  unfold turnD at h;split at h
  · exact .inl (IV h)
  · rename_i hn
    rcases WZ h with h | h
    · exact .inl (IV (IV h))
    · exact .inr ⟨hn,h⟩
structure Ae where
  quota:Nat
  files:List (List UInt8 × Nat)
  now:B5
  kept:B5
  acts:List C0
  refused:Nat
  arm:Nat
  down:Bool
def Br(s:List UInt8):Bool:=decide (1≤s.length)&&decide (s.length≤80)
def CH(d:Ae)(a b:List UInt8):Nat:=if d.down=true then 9 else if Br a=true∧Br b=true then 0 else 10
def A0(d:Ae)(k:Nat):List UInt8 × Nat:=d.files.getD k ([],0)
def usedD(d:Ae):Nat:=(d.now.map fun e=>(A0 d e.2).1.length).sum
def C1(d:Ae):Ae × Bool:=if d.arm=0 then(d,false)else({ d with arm:=d.arm-1,down:=decide (d.arm-1=0) },decide (d.arm-1=0))
def turnedD(d:Ae)(a:C0):Ae:= { d with now:=turnD d.now a,acts:=d.acts++ [a] }
def Cl(d:Ae)(s b:List UInt8):Ae:=
  match Aw d.now s with
  | some k=> { d with files:=d.files.set k ((A0 d k).1++b,(A0 d k).2) }
  | none=> { turnedD d ⟨[],s,d.files.length⟩with files:=d.files++ [(b,0)] }
def A5(d:Ae)(s b:List UInt8):Ae × Nat:=
  if CH d s s≠0 then(d,CH d s s)
  else if d.quota<usedD d+b.length then({ d with refused:=d.refused+1 },8)
  else if(C1 d).2=true then((C1 d).1,9)else(Cl (C1 d).1 s b,0)
def FO(d:Ae)(a b:List UInt8):Except Nat Nat:=if CH d a b≠0 then .error (CH d a b)else match Aw d.now a with | some k=> .ok k | none=> .error 4
def D8(d:Ae)(f:Ae→Ae):Ae × Nat:=if(C1 d).2=true then((C1 d).1,9)else(f (C1 d).1,0)
def BG(d:Ae)(s:List UInt8):Ae × Nat:=
  match FO d s s with
  | .error e=>(d,e)
  | .ok k=>D8 d fun d=> { d with files:=d.files.set k ((A0 d k).1,(A0 d k).1.length),kept:=d.now,acts:= [] }
def BA(d:Ae)(s:List UInt8):Ae × Nat:=
  match FO d s s with
  | .error e=>(d,e)
  | .ok k=>D8 d fun d=>turnedD d ⟨s,[],k⟩
def Ap(d:Ae)(s:List UInt8):List UInt8 × Nat:=
  match FO d s s with
  | .error e=>([],e)
  | .ok k=>((A0 d k).1,0)
def AE(d:Ae):List (List UInt8):=if d.down=true then []else d.now.map Adk
open Go.WideElems (Fit rd rg rg_of)
open Go.WideShapes (sorted_perm)
open Go.MapKept Go.WideShapes
theorem YQ{es:List Aev}:(∀e∈es,∃a,e.key=St a)→∃ks:List (List UInt8),es.map (·.key)=ks.map St:=by
  induction es with
  | nil=>intro _;exact⟨[],rfl⟩
  | cons e r ih=>
    intro h;obtain⟨a,ha⟩:=h e AdM;obtain⟨ks,hk⟩:=ih fun x hx=>h x (AdO _ hx);exact⟨a :: ks,by rw[Ado,Ado,ha,hk]⟩
theorem C5{a b:List UInt8}(h:St a=St b):a=b:=by simpa using h
theorem UN{P:Adg}{k:AcR}(hk:P.underlying k=some .string){a:List UInt8}(ha:a.length≤maxLen):keyOf P k (St a)=some (.string a):=by
  simp[keyOf,hk,mapKey];exact ha
abbrev HX(_:AcJ):Option (DataW Unit × List MemPlace):=some (.nil,[])
theorem MapF.owns{β:Type}{P:Adg}{k:AcR}(hk:P.underlying k=some .string){ev:β→AcJ}{D:List UInt8→Prop}(hD:∀a,D a→a.length≤maxLen){w:AcK}{b:Nat}{G:List UInt8→Option β}(h:MapF St ev D w b G){keys:List (List UInt8)}(hn:keys.Nodup)(hG:∀s,(G s).isSome=true↔s∈keys)(hmax:keys.length≤maxLen):
    ∃D0:DataW Unit,w.ownsMap P k HX b keys.length D0∧(strKeys D0).Perm keys∧Maps.size D0=keys.length:=by
  obtain⟨es,c,hb,H,hS⟩:=h;obtain⟨ks,hks⟩:=YQ (es:=es) fun e he=>by obtain⟨a,y,-,h2,-,-⟩:=H.ent e he;exact⟨a,h2⟩
  have hnd:ks.Nodup:=by
    have h:=H.keys;rw[hks]at h;exact Afx St (fun a b hne e=>hne (by rw[e])) h
  have hmem:∀s,s∈ks↔(G s).isSome=true:=fun s=>by
    constructor
    · intro hs;have h1:St s∈es.map (·.key):=by rw[hks];exact AfK hs
      obtain⟨e,he,f⟩:=Adx.1 h1;obtain⟨a,y,-,h2,-,h4⟩:=H.ent e he;obtain rfl:a=s:=C5 (h2.symm.trans f);rw[h4];rfl
    · intro hs;obtain⟨y,hy⟩:=AgF.1 hs;obtain⟨-,e,he,f⟩:=H.all s y hy;have h1:St s∈es.map (·.key):=Adx.2 ⟨e,he,f⟩;rw[hks]at h1;obtain⟨a,ha,g⟩:=Adx.1 h1
      rwa [←C5 g]
  have hperm:ks.Perm keys:=(Ae3 hnd hn).2 fun s=>(hmem s).trans (hG s);have hlen:es.length=keys.length:=by
    have h1:=congrArg AgQ hks;rw[Ada,Ada]at h1;rw[h1,hperm.length_eq]
  have hrd:∀x∈es,∃a,x.key=St a∧rd P k HX x=some (.string a, .nil):=fun x hx=>by
    obtain⟨a,y,ha,h2,-,-⟩:=H.ent x hx;exact⟨a,h2,by unfold Go.WideElems.rd;rw[h2,UN hk (hD a ha)];rfl⟩
  have hF:Fit P k HX es.toArray c:=⟨by rw[Ac6,hlen];exact hmax,hS,fun x hx=>by
    obtain⟨a,-,h2⟩:=hrd x (by simpa using hx);exact⟨_,h2⟩⟩
  refine⟨.map ((es.toArray.toList.map (rg P k HX)).foldr AiX []),⟨es.toArray,c,hb,hF,by rw[Ac6,hlen];exact AcP _,rfl⟩,?_,?_⟩
  · have h1:(strKeys (.map ((es.toArray.toList.map (rg P k HX)).foldr AiX []))).Perm ((es.map (rg P k HX)).map fun p=>strOf p.1):=(sorted_perm _).map _;refine h1.trans ?_;have h2:(es.map (rg P k HX)).map (fun p=>strOf p.1)=(es.map (·.key)).map fun v=>match v with | .string s=>s.data.toList | _=> []:=by
      rw[AfD,AfD];refine AiM fun x hx=> ?_;obtain⟨a,h3,h4⟩:=hrd x hx;show strOf (rg P k HX x).1=_;rw[rg_of h4];simp only[Function.comp,h3,strOf]
    rw[h2,hks,AfD];have h5:ks.map ((fun v:AcJ=>match v with | .string s=>s.data.toList | _=> [])∘St)=ks:=by
      conv=>rhs;rw[←List.map_id ks]
      exact AiM fun a _=>rfl
    rw[h5];exact hperm
  · show((es.toArray.toList.map (rg P k HX)).foldr AiX []).length=_;rw[(sorted_perm _).length_eq,Ada,hlen]
section
variable {α β : Type} (ek : α → AcJ) (ev : β → AcJ)
def MIt(w:AcK)(g bm:Nat)(left:List (α × β)):Prop:=
  ∃es clock since seen c0,w.heap[g]? =some (.mapIter (some bm) since seen c0)∧w.heap[bm]? =some (.map es clock)∧Ag4 es clock∧(∀x∈es.toList,x.born<since)∧since≤c0∧since≤clock∧((leftOf es seen).toList.map fun e=>(e.key,e.val)).Perm (left.map fun p=>(ek p.1,ev p.2))
def Ye(w:AcK)(g bm:Nat)(a:α)(y:β):Prop:=
  ∃(es:Array Aev) (clock since:Nat) (seen:Array Nat) (e:Aev),w.heap[g]? =some (.mapIter (some bm) since (seen.push e.born) clock)∧w.heap[bm]? =some (.map es clock)∧(es.toList.map (·.born)).Nodup∧e∈es.toList∧e.key=ek a∧e.val=ev y
end
def Aad(w:AcK)(g:Nat):Nat:=match w.heap[g]? with
  | some (.mapIter (some bm) _ seen _)=>(match w.heap[bm]? with | some (.map es _)=>(leftOf es seen).size | _=>0)
  | _=>0
theorem AaH{α β:Type}{ek:α→AcJ}{ev:β→AcJ}{w:AcK}{g bm:Nat}{left:List (α × β)}(h:MIt ek ev w g bm left):Aad w g=left.length:=by
  obtain⟨es,clock,since,seen,c0,hg,hb,-,-,-,-,hp⟩:=h;have:=hp.length_eq;rw[Ada,Ada]at this;unfold Aad;rw[hg];simp only[hb];rw[←this];simp
theorem MIt.lt{α β:Type}{ek:α→AcJ}{ev:β→AcJ}{w:AcK}{g bm:Nat}{left:List (α × β)}(h:MIt ek ev w g bm left):g<w.heap.size:=by
  obtain⟨es,clock,since,seen,c0,hg,-⟩:=h;exact(Ade.1 hg).1
theorem Mm{e:Aev}:∀ {l:List Aev},(l.map (·.born)).Nodup→e∈l→l.Perm (e :: l.filter fun x=> !(x.born==e.born))
  | [],_,h=>by cases h
  | x :: l,hn,h=>by
    have hn' :=AeQ.1 hn;rcases Adz.1 h with rfl | h
    · have hf:l.filter (fun x=> !(x.born==e.born))=l:=Agq.2 fun y hy=>by
        have:y.born≠e.born:=fun q=>hn'.1 (Adx.2 ⟨y,hy,q⟩)
        simpa using this
      rw[AgK (by simp),hf]
    · have hx:x.born≠e.born:=fun q=>hn'.1 (Adx.2 ⟨e,h,q.symm⟩);rw[AgL (by simpa using hx)];exact((Mm hn'.2 h).cons x).trans (List.Perm.swap _ _ _)
theorem S6(es:Array Aev)(seen:Array Nat)(b:Nat):(leftOf es (seen.push b)).toList=(leftOf es seen).toList.filter fun x=> !(x.born==b):=by
  unfold leftOf;simp only[Ahc,List.filter_filter];refine List.filter_congr fun x _=> ?_;rw[AfV];simp[and_comm]
theorem Rb{es:Array Aev}{seen:Array Nat}(h:(es.toList.map (·.born)).Nodup):((leftOf es seen).toList.map (·.born)).Nodup:=by
  unfold leftOf;rw[Ahc];exact(List.filter_sublist.map _).nodup h
section
variable {P : Adg} {K : AcJ → AcK → Prop} {ρ : Ad} {w : AcK} {d : Option Tmp} {ty : AcR} {pos : String} {af : Array AdL} {gd : Option (Nat × Bool)}
variable {α β : Type} {ek : α → AcJ} {ev : β → AcJ} {D : α → Prop} {b : Nat} {G : α → Option β} {t Kt E : AcR}
theorem Abg(hi:∀a c,ek a=ek c→a=c)(ht:P.underlying t=some (.map Kt E)){x:AcW}(hx:Aa ρ x = .map (some b))(h:MapF ek ev D w b G){ps:List (α × β)}(hn:(ps.map Adk).Nodup)(hG:∀a y,G a=some y↔(a,y)∈ps) 
    (hk:∀n w',w.heap.size=n→MIt ek ev w' n b ps→Ext w w' →w'.heap.size=n+1→K (.pointer (some ⟨n,0,none⟩)) w'):Yk P K ((execOp (Aa ρ) ⟨d, .range t x,ty,pos,af,gd⟩).run P w):=by
  have hlt:=h.lt;obtain⟨es,c,hb,H,hS⟩:=h;have hr:(execOp (Aa ρ) ⟨d, .range t x,ty,pos,af,gd⟩).run P w = .ok (.value (.pointer (some ⟨w.heap.size,0,none⟩))) (w.alloc (.mapIter (some b) c #[] c)):=by
    unfold execOp;simp only[hx,Ac1,run_range_map w t Kt E b _ c ht hb,AcV,Ac3]
  rw[hr];refine hk _ _ rfl ⟨es.toArray,c,c,#[],c,heap_alloc_new _ _,(heap_alloc_old _ _ hlt).trans hb,hS,hS.1,AcP _,AcP _,?_⟩ ((AdC _ _).alloc (AcP _) _) (by simp);have h0:(leftOf es.toArray #[]).toList=es:=by
    unfold leftOf;rw[Ahc];exact Agq.2 fun _ _=>by simp
  rw[h0];refine(Ae3 ?_ ?_).2 fun q=> ?_
  · exact Afx (S:=(· ≠ ·)) Adk (fun a c hne e=>hne (by rw[e])) (by rw[AfD];exact H.keys)
  · refine AgM _ (fun p q hne e=>hne ?_) (Afx (S:=(· ≠ ·)) (R:=fun p q:α × β=>p.1≠q.1) Adk (fun _ _ h=>h) hn);exact hi _ _ (congrArg Adk e)
  · constructor
    · intro hq;obtain⟨e,he,rfl⟩:=Adx.1 hq;obtain⟨a,y,-,h2,h3,h4⟩:=H.ent e he;exact Adx.2 ⟨(a,y),(hG a y).1 h4,by rw[h2,h3]⟩
    · intro hq;obtain⟨p,hp,rfl⟩:=Adx.1 hq;have hg:=(hG p.1 p.2).2 hp;obtain⟨-,e,he,hek⟩:=H.all p.1 p.2 hg;obtain⟨a,y,-,h2,h3,h4⟩:=H.ent e he;have ha:a=p.1:=hi _ _ (h2.symm.trans hek);rw[ha,hg]at h4;cases h4;exact Adx.2 ⟨e,he,by rw[hek,h3]⟩
theorem Abs{x:AcW}{g bm:Nat}{left:List (α × β)}(hx:Aa ρ x = .pointer (some ⟨g,0,none⟩))(h:MIt ek ev w g bm left) 
    (h0:left= []→K (.tuple #[.bool false]) w) (h1:∀a y rest w',left.Perm ((a,y) :: rest)→MIt ek ev w' g bm rest→Ye ek ev w' g bm a y→w.grownBy w' (some g)→w'.heap.size=w.heap.size→K (.tuple #[.bool true,ek a,ev y]) w'):
    Yk P K ((execOp (Aa ρ) ⟨d, .next x false,ty,pos,af,gd⟩).run P w):=by
  obtain⟨es,clock,since,seen,c0,hg,hb,hS,hold,hsc,hck,hp⟩:=h;have hgl:=(Ade.1 hg).1;have hne:bm≠g:=fun e=>by rw[e,hg]at hb;cases hb
  have hlp:=hp.length_eq;rw[Ada,Ada]at hlp;have hL:(leftOf es seen).toList.length=(leftOf es seen).size:=by simp
  by_cases hz:(leftOf es seen).size=0
  · have hr:(Aiu (.pointer (some ⟨g,0,none⟩)) false ty).run P w = .ok (.tuple #[.bool false]) w:=by
      simp only[Aiu,getObj,Ac1,Ag1,hg,hb,AdH,next_test_false seen es since c0 hold hsc,Afk,if_false];unfold leftOf at hz;have hz' :AiY (fun e=> !seen.contains e.born) es = #[]:=Array.eq_empty_of_size_eq_zero hz;rw[hz'];simp[choose,Ag1,Ah4]
    unfold execOp;simp only[hx,hr,Ac1,AcV,Ac3];exact h0 (Adw (by omega))
  · obtain⟨e,he,w1,hw1,hsz1,hr⟩:∃e∈(leftOf es seen).toList,∃w1:AcK,w.grownBy w1 none∧w1.heap=w.heap∧(Aiu (.pointer (some ⟨g,0,none⟩)) false ty).run P w = .ok (.tuple #[.bool true,e.key,e.val]) { w1 with heap:=w1.heap.setIfInBounds g (.mapIter (some bm) since (seen.push e.born) clock) } :=by
      simp only[Aiu,getObj,Ac1,Ag1,hg,hb,AdH,next_test_false seen es since c0 hold hsc,Afk,if_false];unfold leftOf at hz ⊢;have hmem:∀x∈(AiY (fun e=> !seen.contains e.born) es).toList,x.born<since:=fun x hx=>hold x (by simp at hx ⊢;exact hx.1)
      generalize AiY (fun e=> !seen.contains e.born) es=L at hmem hz ⊢
      have l:L.filter (fun x=>decide (x.born<since))=L:=Array.filter_eq_self.2 (fun x hx=>by simpa using hmem x (by simpa using hx));have m:L.filter (fun x=>decide (x.born≥since)) = #[]:=by
        rw[Array.filter_eq_empty_iff];intro x hx;have:=hmem x (by simpa using hx);simp;omega
      simp only[l,m,Array.append_empty];have hne' :L.isEmpty=false:=by simp[Array.isEmpty,hz]
      simp only[hne',Afk,if_false,Array.empty_append,Array.size_map];have hch:∃(j:Nat) (w1:AcK),j<L.size∧w.grownBy w1 none∧w1.heap=w.heap∧(choose (Question.mapNext L.size)).run P w = .ok j w1:=by
        by_cases hf:L.size≤1
        · exact⟨0,w,by omega,Aef _ _,rfl,by simp[choose,Ag1,Ah4,hf]⟩
        · exact⟨_,w.drew,Aiv _ (by omega),(Grew.refl w undef).drew.by_,rfl,by
            simp only[choose,Ag1,Ah4,decide_eq_true_eq,hf,if_false,Question.cut];rfl⟩
      obtain⟨j,w1,hj,hal,hwh,hrun⟩:=hch;refine⟨L[j],by simp,w1,hal,hwh,?_⟩;simp only[hrun,Array.getElem?_map,Afw hj,Aeb,Ac1,AdH,setObj,Ag1,hwh,hg];rfl
    have hmk:(e.key,e.val)∈left.map fun p=>(ek p.1,ev p.2):=hp.mem_iff.1 (AfK (f:=fun e:Aev=>(e.key,e.val)) he);obtain⟨p,hpm,hpe⟩:=Adx.1 hmk;obtain⟨rest,hrest⟩:∃rest,left.Perm (p :: rest):=by
      obtain⟨s,t,hst⟩:=Afm hpm;exact⟨s++t,by rw[hst];exact List.perm_middle⟩
    have b:ek p.1=e.key:=congrArg Adk hpe;have c:ev p.2=e.val:=congrArg Prod.snd hpe;unfold execOp;simp only[hx,hr,Ac1,AcV,Ac3];rw[←b,←c];have hgr:w.grownBy { w1 with heap:=w1.heap.setIfInBounds g (.mapIter (some bm) since (seen.push e.born) clock) } (some g):=
      ⟨hw1.os,hw1.tape,hw1.output,by simp[hsz1],fun i _ hi=>by rw[hsz1];simp only[Aep];rw[if_neg (fun q=>hi (by rw[q]))]⟩
    have k:({ w1 with heap:=w1.heap.setIfInBounds g (.mapIter (some bm) since (seen.push e.born) clock) } :AcK).heap[bm]? =some (.map es clock):=by
      simp only[hsz1,Aep];rw[if_neg (fun q=>hne q.symm)];exact hb
    have hes:e∈es.toList:=by have:=he;unfold leftOf at this;simp at this ⊢;exact this.1
    refine h1 p.1 p.2 rest _ hrest ⟨es,clock,since,seen.push e.born,clock,by simp[hsz1,hgl],k,hS,hold,hck,hck,?_⟩ ⟨es,clock,since,seen,e,by simp[hsz1,hgl],k,hS.2.1,hes,b.symm,c.symm⟩ hgr (by simp[hsz1])
    · have h2:=(Mm (Rb (seen:=seen) hS.2.1) he).map fun e:Aev=>(e.key,e.val);rw[←S6]at h2;have h3:=(h2.symm.trans hp).trans (hrest.map fun p=>(ek p.1,ev p.2));rw[Ado,Ado,←hpe]at h3;exact h3.cons_inv
theorem AaY{x:AcW}{g bm:Nat}{left:List (α × β)}(hx:Aa ρ x = .pointer (some ⟨g,0,none⟩))(h:MIt ek ev w g bm left)(h0:left= [])(hk:K (.tuple #[.bool false]) w):
    Yk P K ((execOp (Aa ρ) ⟨d, .next x false,ty,pos,af,gd⟩).run P w):=
  Abs hx h (fun _=>hk) fun a y rest w' hp _ _ _ _=>by rw[h0]at hp;exact absurd hp.length_eq (by simp)
theorem Aa6{x:AcW}{g bm:Nat}{left:List (α × β)}(hx:Aa ρ x = .pointer (some ⟨g,0,none⟩))(h:MIt ek ev w g bm left)(h0:left≠ []) 
    (hk:∀a y rest w',left.Perm ((a,y) :: rest)→MIt ek ev w' g bm rest→Ye ek ev w' g bm a y→w.grownBy w' (some g)→w'.heap.size=w.heap.size→K (.tuple #[.bool true,ek a,ev y]) w'):
    Yk P K ((execOp (Aa ρ) ⟨d, .next x false,ty,pos,af,gd⟩).run P w):=Abs hx h (fun e=>absurd e h0) hk
theorem Abh{x:AcW}{g bm:Nat}{a:α}{y:β}(hx:Aa ρ x = .pointer (some ⟨g,0,none⟩))(h:Ye ek ev w g bm a y)(hk:K (.tuple #[ek a,ev y]) w):
    Yk P K ((execOp (Aa ρ) ⟨d, .entry x,ty,pos,af,gd⟩).run P w):=by
  obtain⟨es,clock,since,seen,e,hg,hb,hn,he,h1,h2⟩:=h;have hf:es.find? (·.born==e.born)=some e:=by rw[←Array.find?_toList];exact find_born e es.toList hn he
  have hr:(Instr.entry (.pointer (some ⟨g,0,none⟩))).run P w = .ok (.tuple #[e.key,e.val]) w:=by
    simp only[Instr.entry,getObj,Ac1,Ag1,hg,hb,AdH,Array.back?_push,bne_self_eq_false,Afk,if_false,hf];rfl
  unfold execOp;simp only[hx,hr,Ac1,AcV,Ac3];rw[h1,h2];exact hk
end
structure DirOk (n : Nat) (l : B5) : Prop where
  sort:FC l
  num:∀e∈l,e.2<n
  may:∀e∈l,Br e.1=true
structure ActOk (n : Nat) (a : C0) : Prop where
  num:a.file<n
  may:a.to.length≠0→Br a.to=true
  frm:a.frm.length≤80
structure DOk (d : Ae) : Prop where
  now:DirOk d.files.length d.now
  kept:DirOk d.files.length d.kept
  acts:∀a∈d.acts,ActOk d.files.length a
  syn:∀x∈d.files,x.2≤x.1.length
theorem DirOk.nil(n:Nat):DirOk n []:=⟨AeN,fun _ h=>(by cases h),fun _ h=>(by cases h)⟩
theorem DirOk.mono{n m:Nat}{l:B5}(h:DirOk n l)(hn:n≤m):DirOk m l:=⟨h.sort,fun e he=>AdE (h.num e he) hn,h.may⟩
theorem ActOk.mono{n m:Nat}{a:C0}(h:ActOk n a)(hn:n≤m):ActOk m a:=⟨AdE h.num hn,h.may,h.frm⟩
theorem DirOk.turn{n:Nat}{l:B5}{a:C0}(h:DirOk n l)(ha:ActOk n a):DirOk n (turnD l a):=
  ⟨S4 h.sort a,fun e he=>(Kd he).elim (h.num e) fun⟨_,q⟩=>q▸ha.num,fun e he=>(Kd he).elim (h.may e) fun⟨q,r⟩=>r▸ha.may q⟩
theorem DirOk.look{n:Nat}{l:B5}(h:DirOk n l){s:List UInt8}{k:Nat}(hk:Aw l s=some k):k<n∧Br s=true:=⟨h.num _ (Ej hk),h.may _ (Ej hk)⟩
theorem Cp{s:List UInt8}(h:Br s=true):1≤s.length∧s.length≤80:=by
  unfold Br at h
  simpa using h
theorem DirOk.noEmpty{n:Nat}{l:B5}(h:DirOk n l):Aw l []=none:=IU.2 fun e he q=>by
  have:=Cp (h.may e he);rw[q]at this;simp at this
theorem IW{d:Ae}{k:Nat}(h:k<d.files.length):A0 d k∈d.files:=by
  unfold A0;rw[AcO,AcS h];exact Ad9 h
theorem DOk.sync_le{d:Ae}(h:DOk d)(k:Nat):(A0 d k).2≤(A0 d k).1.length:=by
  by_cases hk:k<d.files.length
  · exact h.syn _ (IW hk)
  · unfold A0;rw[AcO,AdY (by omega)];exact AcP 0
theorem DOk.turned{d:Ae}(h:DOk d){a:C0}(ha:ActOk d.files.length a):DOk (turnedD d a):=
  ⟨h.now.turn ha,h.kept,fun b hb=>(Adf.1 hb).elim (h.acts b) fun q=>AcY.1 q▸ha,h.syn⟩
theorem DOk.files{d:Ae}(h:DOk d)(fs:List (List UInt8 × Nat))(hl:d.files.length≤fs.length)(hs:∀x∈fs,x.2≤x.1.length):DOk { d with files:=fs } :=
  ⟨h.now.mono hl,h.kept.mono hl,fun a ha=>(h.acts a ha).mono hl,hs⟩
theorem DOk.setFile{d:Ae}(h:DOk d)(k:Nat)(x:List UInt8 × Nat)(hx:x.2≤x.1.length):DOk { d with files:=d.files.set k x } :=
  h.files _ (by rw[Aer];exact AcP _) fun y hy=>(Afy hy).elim (h.syn y) fun q=>q▸hx
theorem DOk.newFile{d:Ae}(h:DOk d)(x:List UInt8 × Nat)(hx:x.2≤x.1.length):DOk { d with files:=d.files++ [x] } :=
  h.files _ (by rw[AcQ];exact Ae6 _ _) fun y hy=>(Adf.1 hy).elim (h.syn y) fun q=>AcY.1 q▸hx
theorem DOk.add{d:Ae}(h:DOk d){s:List UInt8}(b:List UInt8)(hs:Br s=true):DOk (Cl d s b):=by
  unfold Cl;split
  · rename_i k hk
    refine h.setFile k _ ?_;have:=h.sync_le k;simp only[AcQ];omega
  · have h1:=h.newFile (b,0) (Adm _);have h2:=h1.turned (a:=⟨[],s,d.files.length⟩) ⟨by simp,fun _=>hs,Adm _⟩;exact h2
theorem HY(d:Ae):(C1 d).1.files=d.files∧(C1 d).1.now=d.now∧(C1 d).1.kept=d.kept∧(C1 d).1.acts=d.acts∧(C1 d).1.quota=d.quota∧(C1 d).1.refused=d.refused:=by
  unfold C1;split <;> exact⟨rfl,rfl,rfl,rfl,rfl,rfl⟩
theorem DOk.synced{d:Ae}(h:DOk d)(k:Nat):DOk { d with files:=d.files.set k ((A0 d k).1,(A0 d k).1.length),kept:=d.now,acts:= [] } :=by
  have h1:=h.setFile k ((A0 d k).1,(A0 d k).1.length) (AcP _);exact⟨h1.now,h1.now,fun a ha=>(by cases ha),h1.syn⟩
theorem UO{d:Ae}{s t:List UInt8}(h:CH d s t=0):d.down=false∧Br s=true∧Br t=true:=by
  unfold CH at h;split at h
  · cases h
  · rename_i hd
    split at h
    · rename_i hm
      exact⟨AhB.2 hd,hm⟩
    · cases h
structure Chg (B : Nat → Prop) (w w' : AcK) : Prop where
  os:w'.os=w.os
  tape:w'.tape=w.tape
  output:w'.output=w.output
  size:w.heap.size≤w'.heap.size
  blk:∀i,i<w.heap.size→¬B i→w'.heap[i]? =w.heap[i]?
theorem Chg.refl(B:Nat→Prop)(w:AcK):Chg B w w:=⟨rfl,rfl,rfl,AcP _,fun _ _ _=>rfl⟩
theorem Chg.trans{B B' :Nat→Prop}{w w1 w2:AcK}(h:Chg B w w1)(k:Chg B' w1 w2)(hB:∀i,B' i→B i∨w.heap.size≤i):Chg B w w2:=
  ⟨k.os.trans h.os,k.tape.trans h.tape,k.output.trans h.output,AcN h.size k.size,fun i hi hn=>by
    have hs:=h.size;rw[k.blk i (by omega) (fun hb=>(hB i hb).elim hn (by omega)),h.blk i hi hn]⟩
theorem Chg.mono{B B' :Nat→Prop}{w w' :AcK}(h:Chg B w w')(hB:∀i,i<w.heap.size→B i→B' i):Chg B' w w' :=
  ⟨h.os,h.tape,h.output,h.size,fun i hi hn=>h.blk i hi fun hb=>hn (hB i hi hb)⟩
theorem ZX{w w' :AcK}{r:Option Nat}{B:Nat→Prop}(h:w.grownBy w' r)(hr:∀i,r=some i→B i∨w.heap.size≤i):Chg B w w' :=
  ⟨h.os,h.tape,h.output,h.size,fun i hi hn=>h.block i hi fun e=>(hr i e.symm).elim hn (by omega)⟩
theorem Aaz{w w' :AcK}{B:Nat→Prop}(h:Ext w w'):Chg B w w' :=ZX h.grown fun i e=>by cases e
theorem Chg.ext{w0 w w' :AcK}{B:Nat→Prop}(hE:Ext w0 w)(h:Chg B w w')(hB:∀i,B i→w0.heap.size≤i):Ext w0 w' :=by
  have h1:=hE.grown;have hs:=hE.size;exact(AdC _ _).grown (⟨h.os.trans h1.os,h.tape.trans h1.tape,h.output.trans h1.output,AcN hs h.size,fun i hi hn=>by
    rw[h.blk i (by omega) (fun hb=>by have:=hB i hb;omega),h1.block i hi hn]⟩:w0.grownBy w' none) (AcP _) (fun _ e=>by cases e)
theorem C9{base:Nat}{e:AcR}{size:Nat}{v:AcJ}{n:Nat}{xs:List AcJ}{B:Nat→Prop}{w w' :AcK}(hc:Chg B w w')(h:w.ownsRow base e size v n xs)(hB:∀i,v.ownBlock=some i→¬B i):w'.ownsRow base e size v n xs:=by
  refine⟨h.1,h.2.imp (fun x=>x) fun⟨g,cap,cur,a,c,b,r⟩=>⟨g,cap,cur,a,c,(hc.blk g (bl b) (hB g (by rw[a];rfl))).trans b,r⟩⟩
structure Dk where
  g:Nat
  mn:Nat
  ml:Nat
  va:AcJ
  F:Nat→Nat
  V:Nat→AcJ
def BZ(H:Dk)(n:Nat)(i:Nat):Prop:=i=H.g∨i=H.mn∨i=H.ml∨H.va.ownBlock=some i∨∃k,k<n∧(i=H.F k∨(H.V k).ownBlock=some i)
structure FileAt (base : Nat) (w : AcK) (f : Nat) (v : AcJ) (x : List UInt8 × Nat) : Prop where
  blk:w.heap[f]? =some (.cells ([v,NI x.2]).toArray 133 (0,0))
  row:w.ownsRow base 5 1 v x.1.length (AcL x.1)
  lo:base≤f
structure FilesAt (base : Nat) (w : AcK) (F : Nat → Nat) (V : Nat → AcJ) (fs : List (List UInt8 × Nat)) : Prop where
  at_:∀k,k<fs.length→FileAt base w (F k) (V k) (fs.getD k ([],0))
  inj:∀i j,i<fs.length→j<fs.length→F i=F j→i=j
  apart:∀i j,i<fs.length→j<fs.length→i≠j→∀x,(V i).ownBlock=some x→(V j).ownBlock≠some x
theorem FileAt.keep{base:Nat}{w w' :AcK}{f:Nat}{v:AcJ}{x:List UInt8 × Nat}(h:FileAt base w f v x){B:Nat→Prop}(hc:Chg B w w')(h1:¬B f)(h2:∀i,v.ownBlock=some i→¬B i):FileAt base w' f v x:=
  ⟨(hc.blk f (bl h.blk) h1).trans h.blk,C9 hc h.row h2,h.lo⟩
theorem FilesAt.chg{base:Nat}{w w' :AcK}{F:Nat→Nat}{V:Nat→AcJ}{fs:List (List UInt8 × Nat)}(h:FilesAt base w F V fs){B:Nat→Prop}(hc:Chg B w w')(hB:∀k,k<fs.length→¬B (F k)∧∀i,(V k).ownBlock=some i→¬B i):FilesAt base w' F V fs:=
  ⟨fun k hk=>(h.at_ k hk).keep hc (hB k hk).1 (hB k hk).2,h.inj,h.apart⟩
def YR:Prop:=False
def ActAt(w:AcK)(F:Nat→Nat)(v:AcJ)(a:C0):Prop:=
  (∃bf bn,v = .func (.func 141) #[] #[PQ bf 0,PQ bn 0]∧w.heap[bf]? =some (.cells ([PQ (F a.file) 0]).toArray 113 (0,0))∧w.heap[bn]? =some (.cells ([St a.to]).toArray 9 (0,0))∧a.frm= []∧a.to.length≠0) ∨
  (YR∧∃bs bf bn,v = .func (.func 0) #[] #[PQ bs 0,PQ bf 0,PQ bn 0]∧w.heap[bs]? =some (.cells ([St a.frm]).toArray 9 (0,0))∧w.heap[bf]? =some (.cells ([PQ (F a.file) 0]).toArray 113 (0,0))∧w.heap[bn]? =some (.cells ([St a.to]).toArray 9 (0,0))∧a.to.length≠0) ∨
  (∃bn,v = .func (.func 95) #[] #[PQ bn 0]∧w.heap[bn]? =some (.cells ([St a.frm]).toArray 9 (0,0))∧a.to= [])
def TyB(w:AcK)(i:Nat):Prop:=(∃es c,w.heap[i]? =some (.map es c))∨∃cs t fr,w.heap[i]? =some (.cells cs t fr)∧(t=107∨t=133∨t=5∨t=131)
theorem TyB.off{w:AcK}{i:Nat}{cs:Array AcJ}{t:AcR}{fr:Nat × Nat}(h:w.heap[i]? =some (.cells cs t fr))(h1:t≠107)(h2:t≠133)(h3:t≠5)(h4:t≠131):¬TyB w i:=by
  rintro(⟨es,c,e⟩ | ⟨cs',t',fr',e,k⟩)
  · rw[h]at e;cases e
  · rw[h]at e;cases e;rcases k with k | k | k | k
    · exact h1 k
    · exact h2 k
    · exact h3 k
    · exact h4 k
theorem ActAt.chg{w w' :AcK}{F F' :Nat→Nat}{v:AcJ}{a:C0}{B:Nat→Prop}(h:ActAt w F v a)(hc:Chg B w w')(hB:∀i,i<w.heap.size→B i→TyB w i)(hF:F' a.file=F a.file):ActAt w' F' v a:=by
  have k:∀ {b:Nat} {cs:Array AcJ} {t:AcR} {fr:Nat × Nat},w.heap[b]? =some (.cells cs t fr)→t≠107→t≠133→t≠5→t≠131→w'.heap[b]? =some (.cells cs t fr):=fun e h1 h2 h3 h4=>(hc.blk _ (bl e) fun q=>TyB.off e h1 h2 h3 h4 (hB _ (bl e) q)).trans e;rcases h with ⟨bf,bn,e,h1,h2,h3,h4⟩ | ⟨hm,bs,bf,bn,e,h1,h2,h3,h4⟩ | ⟨bn,e,h1,h2⟩
  · exact .inl ⟨bf,bn,e,by rw[hF];exact k h1 (by decide) (by decide) (by decide) (by decide),k h2 (by decide) (by decide) (by decide) (by decide),h3,h4⟩
  · exact .inr (.inl ⟨hm,bs,bf,bn,e,k h1 (by decide) (by decide) (by decide) (by decide),by rw[hF];exact k h2 (by decide) (by decide) (by decide) (by decide),k h3 (by decide) (by decide) (by decide) (by decide),h4⟩)
  · exact .inr (.inr ⟨bn,e,k h1 (by decide) (by decide) (by decide) (by decide),h2⟩)
abbrev pF(F:Nat→Nat)(k:Nat):AcJ:=PQ (F k) 0
abbrev Nm(s:List UInt8):Prop:=s.length≤80
abbrev JN(q mn ml:Nat)(va:AcJ)(rf ar:Nat)(dn:Bool):List AcJ:= [NI q, .map (some mn), .map (some ml),va,NI rf,NI ar, .bool dn]
structure N7 (base : Nat) (w : AcK) (va : AcJ) (F : Nat → Nat) (acs : List C0) (vs : List AcJ) : Prop where
  row:w.ownsRow base 131 1 va vs.length vs
  len:vs.length=acs.length
  at_:∀i,i<acs.length→ActAt w F (vs.getD i undef) (acs.getD i ⟨[],[],0⟩)
structure DkS (base : Nat) (w : AcK) (H : Dk) (D : Ae) : Prop where
  blk:w.heap[H.g]? =some (.cells (JN D.quota H.mn H.ml H.va D.refused D.arm D.down).toArray 107 (0,0))
  now:MapF St (pF H.F) Nm w H.mn (Aw D.now)
  kept:MapF St (pF H.F) Nm w H.ml (Aw D.kept)
  ne:H.mn≠H.ml
  acts:∃vs,N7 base w H.va H.F D.acts vs
  files:FilesAt base w H.F H.V D.files
  ok:DOk D
  lo:base≤H.g∧base≤H.mn∧base≤H.ml
def CT(w:AcK)(i:Nat):Option Nat:=match w.heap[i]? with | some (.map _ _)=>some 0 | some (.cells _ t _)=>some (t+1) | _=>none
theorem B6{w:AcK}{i:Nat}{cs:Array AcJ}{t:AcR}{fr:Nat × Nat}(h:w.heap[i]? =some (.cells cs t fr)):CT w i=some (t+1):=by unfold CT;rw[h]
theorem Ho{base:Nat}{e:AcR}{size:Nat}{v:AcJ}{n:Nat}{xs:List AcJ}{w:AcK}(h:w.ownsRow base e size v n xs){i:Nat}(hi:v.ownBlock=some i):CT w i=some (e+1):=by
  rcases h.2 with ⟨rfl,-⟩ | ⟨g,cap,cur,rfl,b,a,-⟩
  · cases hi
  · obtain rfl:g=i:=Adu hi;exact B6 a
theorem MapF.tag{α β:Type}{ek:α→AcJ}{ev:β→AcJ}{D:α→Prop}{w:AcK}{b:Nat}{G:α→Option β}(h:MapF ek ev D w b G):CT w b=some 0:=by
  obtain⟨es,c,h,-⟩:=h;unfold CT;rw[h]
theorem MapF.congr{α β:Type}{ek:α→AcJ}{ev ev' :β→AcJ}{D:α→Prop}{w:AcK}{b:Nat}{G:α→Option β}(h:MapF ek ev D w b G)(he:∀a y,G a=some y→ev' y=ev y):MapF ek ev' D w b G:=by
  obtain⟨es,c,h1,h2,h3⟩:=h;exact⟨es,c,h1,⟨h2.keys,fun e he' =>by
    obtain⟨a,y,k1,k2,k3,k4⟩:=h2.ent e he';exact⟨a,y,k1,k2,k3.trans (he a y k4).symm,k4⟩,h2.all⟩,h3⟩
theorem MapF.chg{α β:Type}{ek:α→AcJ}{ev:β→AcJ}{D:α→Prop}{w w' :AcK}{b:Nat}{G:α→Option β}{B:Nat→Prop}(h:MapF ek ev D w b G)(hc:Chg B w w')(hB:¬B b):MapF ek ev D w' b G:=by
  obtain⟨es,c,h1,h2⟩:=h;exact⟨es,c,(hc.blk b (bl h1) hB).trans h1,h2⟩
theorem Chg.keep{B:Nat→Prop}{w w1 w2:AcK}(h:Chg B w w1)(k:Ext w1 w2):Chg B w w2:=h.trans (B' :=fun _=>False) (Aaz k) fun _ h=>h.elim
theorem Chg.set{B:Nat→Prop}{w w1 w2:AcK}{g:Nat}(h:Chg B w w1)(k:w1.grownBy w2 (some g))(hg:B g∨w.heap.size≤g):Chg B w w2:=h.trans (B' :=fun i=>i=g) (ZX k fun i e=> .inl (Adu e).symm) fun i e=>e▸hg
theorem Chg.grew{B:Nat→Prop}{w w1 w2:AcK}{v v' :AcJ}(h:Chg B w w1)(k:Grew w1 w2 v v')(hv:∀i,v.ownBlock=some i→B i∨w.heap.size≤i):Chg B w w2:=h.trans (B' :=fun i=>v.ownBlock=some i) (ZX k.by_ fun i e=> .inl e) hv
section
variable {base : Nat} {w w' : AcK} {H : Dk} {D : Ae}
theorem DkS.tg(h:DkS base w H D):CT w H.g=some (107+1):=B6 h.blk
theorem DkS.tF(h:DkS base w H D){k:Nat}(hk:k<D.files.length):CT w (H.F k)=some (133+1):=B6 (h.files.at_ k hk).blk
theorem DkS.tV(h:DkS base w H D){k:Nat}(hk:k<D.files.length){i:Nat}(hi:(H.V k).ownBlock=some i):CT w i=some (5+1):=Ho (h.files.at_ k hk).row hi
theorem DkS.tA(h:DkS base w H D){i:Nat}(hi:H.va.ownBlock=some i):CT w i=some (131+1):=by
  obtain⟨vs,hv⟩:=h.acts;exact Ho hv.row hi
theorem Dl{i:Nat}(h:CT w i=some 0∨CT w i=some (107+1)∨CT w i=some (133+1)∨CT w i=some (5+1)∨CT w i=some (131+1)):TyB w i:=by
  unfold CT at h;cases hb:w.heap[i]? with
  | none=>rw[hb]at h;simp at h
  | some o=>
    rw[hb]at h;cases o with
    | map es c=>exact .inl ⟨es,c,hb⟩
    | cells cs t fr=>
      refine .inr ⟨cs,t,fr,hb,?_⟩;simp only[Aey]at h;rcases h with h | h | h | h | h
      · omega
      · exact .inl (AhU h)
      · exact .inr (.inl (AhU h))
      · exact .inr (.inr (.inl (AhU h)))
      · exact .inr (.inr (.inr (AhU h)))
    | _=>simp at h
theorem DkS.foot(h:DkS base w H D){i:Nat}(hi:BZ H D.files.length i):TyB w i∧i<w.heap.size∧base≤i:=by
  have lt:∀ {j:Nat} {x:Nat},CT w j=some x→j<w.heap.size:=fun {j x} e=>by
    rcases Nat.lt_or_ge j w.heap.size with q | q
    · exact q
    · unfold CT at e;rw[AfZ q]at e;cases e
  rcases hi with rfl | rfl | rfl | hi | ⟨k,hk,rfl | hi⟩
  · exact⟨Dl (.inr (.inl h.tg)),lt h.tg,h.lo.1⟩
  · exact⟨Dl (.inl h.now.tag),lt h.now.tag,h.lo.2.1⟩
  · exact⟨Dl (.inl h.kept.tag),lt h.kept.tag,h.lo.2.2⟩
  · obtain⟨vs,hv⟩:=h.acts;exact⟨Dl (.inr (.inr (.inr (.inr (h.tA hi))))),lt (h.tA hi),(hv.row.lt i hi).1⟩
  · exact⟨Dl (.inr (.inr (.inl (h.tF hk)))),lt (h.tF hk),(h.files.at_ k hk).lo⟩
  · exact⟨Dl (.inr (.inr (.inr (.inl (h.tV hk hi))))),lt (h.tV hk hi),((h.files.at_ k hk).row.lt i hi).1⟩
theorem DkS.keepB{B:Nat→Prop}(h:DkS base w H D)(hc:Chg B w w')(hB:∀i,BZ H D.files.length i→¬B i)(hT:∀i,i<w.heap.size→B i→TyB w i):DkS base w' H D:=by
  obtain⟨vs,hv⟩:=h.acts;exact⟨(hc.blk _ (bl h.blk) (hB _ (.inl rfl))).trans h.blk,h.now.chg hc (hB _ (.inr (.inl rfl))),h.kept.chg hc (hB _ (.inr (.inr (.inl rfl)))),h.ne,
    ⟨vs,C9 hc hv.row (fun i hi=>hB i (.inr (.inr (.inr (.inl hi))))),hv.len,fun i hi=>(hv.at_ i hi).chg hc hT rfl⟩,
    h.files.chg hc (fun k hk=>⟨hB _ (.inr (.inr (.inr (.inr ⟨k,hk, .inl rfl⟩)))),fun i hi=>hB i (.inr (.inr (.inr (.inr ⟨k,hk, .inr hi⟩))))⟩),h.ok,h.lo⟩
theorem DkS.keep(h:DkS base w H D)(k:Ext w w'):DkS base w' H D:=h.keepB (B:=fun _=>False) (Aaz k) (fun _ _ q=>q) (fun _ _ q=>q.elim)
theorem DkS.setBlk(h:DkS base w H D)(hg:w.grownBy w' (some H.g)){q rf ar:Nat}{dn:Bool}(hb:w'.heap[H.g]? =some (.cells (JN q H.mn H.ml H.va rf ar dn).toArray 107 (0,0))):DkS base w' H { D with quota:=q,refused:=rf,arm:=ar,down:=dn } :=by
  have hc:Chg (fun i=>i=H.g) w w' :=ZX hg fun i e=> .inl (Adu e).symm;have hT:∀i,i<w.heap.size→i=H.g→TyB w i:=fun i _ e=>e▸Dl (.inr (.inl h.tg));obtain⟨vs,hv⟩:=h.acts;have ne0:∀ {i x:Nat},CT w i=some x→x≠107+1→i≠H.g:=fun e hx q=>by rw[q,h.tg]at e;exact hx (Adu e).symm
  exact⟨hb,h.now.chg hc (ne0 h.now.tag (by decide)),h.kept.chg hc (ne0 h.kept.tag (by decide)),h.ne,
    ⟨vs,C9 hc hv.row (fun i hi=>ne0 (h.tA hi) (by decide)),hv.len,fun i hi=>(hv.at_ i hi).chg hc hT rfl⟩,
    h.files.chg hc (fun k hk=>⟨ne0 (h.tF hk) (by decide),fun i hi=>ne0 (h.tV hk hi) (by decide)⟩),⟨h.ok.now,h.ok.kept,h.ok.acts,h.ok.syn⟩,h.lo⟩
def B0{α:Type}(F:Nat→α)(n:Nat)(x:α)(k:Nat):α:=if k=n then x else F k
theorem Da{α:Type}(F:Nat→α){n k:Nat}(x:α)(h:k<n):B0 F n x k=F k:=if_neg (by omega)
theorem Db{α:Type}(F:Nat→α)(n:Nat)(x:α):B0 F n x n=x:=if_pos rfl
theorem Hp{α:Type}(F:Nat→α){n k:Nat}(x:α)(h:k≠n):B0 F n x k=F k:=if_neg h
theorem DkS.newFile(h:DkS base w H D)(hE:Ext w w'){f:Nat}(hf:w.heap.size≤f)(hb:w'.heap[f]? =some (.cells ([.slice none 0 0,NI 0]).toArray 133 (0,0)))(h0:base≤w.heap.size):
    DkS base w' { H with F:=B0 H.F D.files.length f,V:=B0 H.V D.files.length (.slice none 0 0) } { D with files:=D.files++ [([],0)] } :=by
  have h1:=h.keep hE;obtain⟨vs,hv⟩:=h1.acts;refine⟨h1.blk,h1.now.congr fun a y hy=> ?_,h1.kept.congr fun a y hy=> ?_,h1.ne,⟨vs,hv.row,hv.len,fun i hi=> ?_⟩,⟨fun k hk=> ?_,fun i j hi hj e=> ?_,fun i j hi hj hne x hx=> ?_⟩,h.ok.newFile _ (AcP 0),h1.lo⟩
  · show PQ (B0 _ _ _ _) 0=_;rw[Da _ _ (h.ok.now.look hy).1]
  · show PQ (B0 _ _ _ _) 0=_;rw[Da _ _ (h.ok.kept.look hy).1]
  · refine(hv.at_ i hi).chg (B:=fun _=>False) (Chg.refl _ _) (fun _ _ q=>q.elim) (Da _ _ ?_);exact(h.ok.acts _ (by rw[AcO,AcS hi];exact Ad9 hi)).num
  · rw[AcQ,Ac9]at hk;by_cases e:k=D.files.length
    · subst e;show FileAt base w' (B0 _ _ _ _) (B0 _ _ _ _) _;rw[Db,Db,AcO,AdB (AcP _),Aez];exact⟨hb,AdK _ _ _ 1,by omega⟩
    · have hk' :k<D.files.length:=by omega
      show FileAt base w' (B0 _ _ _ _) (B0 _ _ _ _) _;rw[Da _ _ hk',Da _ _ hk',AcO,AdF hk',←AcO];exact h1.files.at_ k hk'
  · rw[AcQ,Ac9]at hi hj;have lt:∀k,k<D.files.length→H.F k<w.heap.size:=fun k hk=>(h.foot (.inr (.inr (.inr (.inr ⟨k,hk, .inl rfl⟩))))).2.1;by_cases ei:i=D.files.length <;> by_cases ej:j=D.files.length
    · omega
    · exfalso;have e:B0 H.F D.files.length f i=B0 H.F D.files.length f j:=e;rw[ei,Db,Da _ _ (by omega:j<D.files.length)]at e;have:=lt j (by omega);omega
    · exfalso;have e:B0 H.F D.files.length f i=B0 H.F D.files.length f j:=e;rw[ej,Db,Da _ _ (by omega:i<D.files.length)]at e;have:=lt i (by omega);omega
    · have e:B0 H.F D.files.length f i=B0 H.F D.files.length f j:=e;rw[Da _ _ (by omega:i<D.files.length),Da _ _ (by omega:j<D.files.length)]at e;exact h.files.inj i j (by omega) (by omega) e
  · rw[AcQ,Ac9]at hi hj;have hx:(B0 H.V D.files.length (.slice none 0 0) i).ownBlock=some x:=hx;show(B0 H.V D.files.length (.slice none 0 0) j).ownBlock≠some x;by_cases ei:i=D.files.length
    · rw[ei,Db]at hx;cases hx
    · by_cases ej:j=D.files.length
      · rw[ej,Db];exact fun q=>by cases q
      · rw[Da _ _ (by omega:i<D.files.length)]at hx;rw[Da _ _ (by omega:j<D.files.length)];exact h.files.apart i j (by omega) (by omega) hne x hx
theorem DkS.setFile(h:DkS base w H D){k:Nat}(hk:k<D.files.length){v:AcJ}{x:List UInt8 × Nat}(hx:x.2≤x.1.length)(hc:Chg (fun i=>i=H.F k∨(H.V k).ownBlock=some i) w w')(hf:FileAt base w' (H.F k) v x)(hv:∀i,v.ownBlock=some i→(H.V k).ownBlock=some i∨w.heap.size≤i):
    DkS base w' { H with V:=B0 H.V k v } { D with files:=D.files.set k x } :=by
  have hT:∀i,i<w.heap.size→(i=H.F k∨(H.V k).ownBlock=some i)→TyB w i:=fun i _ e=>e.elim (fun e=>e▸Dl (.inr (.inr (.inl (h.tF hk))))) fun e=>Dl (.inr (.inr (.inr (.inl (h.tV hk e)))));obtain⟨vs,hvs⟩:=h.acts;have ne0:∀ {i x:Nat},CT w i=some x→x≠133+1→x≠5+1→¬(i=H.F k∨(H.V k).ownBlock=some i):=fun e h1 h2 q=>q.elim (fun q=>by rw[q,h.tF hk]at e;exact h1 (Adu e).symm) fun q=>by rw[h.tV hk q]at e;exact h2 (Adu e).symm
  have off:∀j,j<D.files.length→j≠k→¬(H.F j=H.F k∨(H.V k).ownBlock=some (H.F j))∧∀i,(H.V j).ownBlock=some i→¬(i=H.F k∨(H.V k).ownBlock=some i):=fun j hj hne=>
    ⟨fun q=>q.elim (fun q=>hne (h.files.inj j k hj hk q)) fun q=>by have:=h.tV hk q;rw[h.tF hj]at this;exact absurd (Adu this) (by decide),
     fun i hi q=>q.elim (fun q=>by have:=h.tV hj hi;rw[q,h.tF hk]at this;exact absurd (Adu this) (by decide)) fun q=>h.files.apart j k hj hk hne i hi q⟩
  refine⟨(hc.blk _ (bl h.blk) (ne0 h.tg (by decide) (by decide))).trans h.blk,h.now.chg hc (ne0 h.now.tag (by decide) (by decide)),h.kept.chg hc (ne0 h.kept.tag (by decide) (by decide)),h.ne,
    ⟨vs,C9 hc hvs.row (fun i hi=>ne0 (h.tA hi) (by decide) (by decide)),hvs.len,fun i hi=>(hvs.at_ i hi).chg hc hT rfl⟩,⟨fun j hj=> ?_,fun i j hi hj e=> ?_,fun i j hi hj hne y hy=> ?_⟩,h.ok.setFile k x hx,h.lo⟩
  · rw[Aer]at hj;by_cases e:j=k
    · subst e;show FileAt base w' (H.F j) (B0 _ _ _ _) _;rw[Db,AcO,Af0 hj];exact hf
    · show FileAt base w' (H.F j) (B0 _ _ _ _) _;rw[Hp _ _ e,AcO,Air (fun q=>e q.symm),←AcO];exact(h.files.at_ j hj).keep hc (off j hj e).1 (off j hj e).2
  · rw[Aer]at hi hj;exact h.files.inj i j hi hj e
  · rw[Aer]at hi hj;have hy:(B0 H.V k v i).ownBlock=some y:=hy;show(B0 H.V k v j).ownBlock≠some y;by_cases ei:i=k
    · have ej:j≠k:=fun q=>hne (ei.trans q.symm);rw[ei,Db]at hy;rw[Hp _ _ ej];intro q;rcases hv y hy with r | r
      · exact h.files.apart j k hj hk ej y q r
      · have:=(h.foot (.inr (.inr (.inr (.inr ⟨j,hj, .inr q⟩))))).2.1;omega
    · rw[Hp _ _ ei]at hy;by_cases ej:j=k
      · rw[ej,Db];intro q;rcases hv y q with r | r
        · exact h.files.apart i k hi hk ei y hy r
        · have:=(h.foot (.inr (.inr (.inr (.inr ⟨i,hi, .inr hy⟩))))).2.1;omega
      · rw[Hp _ _ ej];exact h.files.apart i j hi hj hne y hy
end
abbrev CX(s:List UInt8):List AcJ:= [St s]
abbrev Ez(v:AcJ):List AcJ:= [v]
theorem N8(l:List (List UInt8)):l.flatMap CX=l.map St:=by
  induction l with
  | nil=>rfl
  | cons a l ih=>rw[AdJ,Ado,ih];rfl
theorem H0(l:List AcJ):l.flatMap Ez=l:=by
  induction l with
  | nil=>rfl
  | cons a l ih=>rw[AdJ,ih];rfl
section
variable {P : Adg} {K : AcJ → AcK → Prop} {ρ : Ad} {w : AcK} {d : Option Tmp} {ty : AcR} {pos : String} {af : Array AdL} {gd : Option (Nat × Bool)}
theorem ZZ{α:Type}{enc:α→List AcJ}{t e:AcR}{x:AcW}{a:α}{u:AcJ}(hx:Aa ρ x=u)(hu:enc a= [u]) 
    (hr:∀w:AcK,(Adt t 1 #[(0,u)]).run P w = .ok (.slice (some ⟨w.heap.size,0,none⟩) 1 1) (w.alloc (.cells #[u] e)))
    (hk:∀v w',RG 1 enc w' v [a]→Ext w w' →K v w'):Yk P K ((execOp (Aa ρ) ⟨d, .buildSlice t 1 #[(0,x)],ty,pos,af,gd⟩).run P w):=by
  have hE:Ext w (w.alloc (.cells #[u] e)):=(AdC _ _).alloc (AcP _) _;have hb:(w.alloc (.cells #[u] e)).heap[w.heap.size]? =some (.cells ([u]:List AcJ).toArray e (0,0)):=heap_alloc_new w _;refine Yk.value (v:= .slice (some ⟨w.heap.size,0,none⟩) 1 1) (w' :=w.alloc (.cells #[u] e)) ?_ (hk _ _ ⟨fun y hy=>by rw[AcY.1 hy,hu];rfl,by simp[hu],_,1,rfl,AcP _,by simp[maxLen],(fun hq=>by cases hq),fun q hq j z hz=> ?_⟩ hE)
  · unfold execOp;simp only[Ads,Ado,AdA,hx,Ac1,hr,AcV,Ac3]
  · cases hq;rw[Aek,Ad4];exact cellAt hb (by simpa [hu] using hz)
end
abbrev BV(n:Int):List AcJ:= [.int .i64 n]
def readyL(d:Ae)(l:List (List UInt8)):Nat:=if d.down=true then 9 else if l.all Br=true then 0 else 10
theorem G6{d:Ae}{l:List (List UInt8)}(h:d.down=true):readyL d l=9:=if_pos h
theorem IY{d:Ae}{l:List (List UInt8)}(h:d.down=false)(h2:l.all Br=true):readyL d l=0:=(if_neg (by rw[h];decide)).trans (if_pos h2)
theorem Rc{d:Ae}{l:List (List UInt8)}{i:Nat}(h:d.down=false)(hi:i<l.length)(hm:Br (l.getD i [])=false):readyL d l=10:=by
 refine(if_neg (by rw[h];decide)).trans (if_neg fun ha=> ?_);have:=Adv.1 ha (l.getD i []) (by rw[AcO,AcS hi];exact Ad9 hi);rw[hm]at this;cases this
theorem UP{l:List (List UInt8)}{i:Nat}(hi:i<l.length)(h:(l.take i).all Br=true)(hm:Br (l.getD i [])=true):(l.take (i+1)).all Br=true:=by
 rw[Adi hi,Ah5,h];rw[AcO,AcS hi]at hm
 simpa using hm
theorem UQ:Tryz.prog.underlying 50=some (.pointer 107):=by kernel_rfl
theorem Pc:AV AcM 107 6 6:=fun b o w=>by simp[go_sem]
theorem N9:Tryz.prog.underlying 56=some (.slice 9):=by kernel_rfl
theorem UR:∀w' :AcK,(sizeOf 9).run AcM w' = .ok 1 w' :=fun _=>by kernel_rfl
theorem S7:Plain AcM 101:=fun _ _=>by kernel_rfl
theorem W0(w:AcK)(s:List UInt8):
  Calls AcM 101 #[St s] w fun e w' =>e = .returned (.bool (Br s))∧Ext w w' :=by
 refine PB (args:= [St (s)]) Tryz.func101 rfl 11 rfl rfl ?_;have hE:=Ext.refl w;refine gS (Aam (l:=s) PO rfl (gS (Zv (a:=(s.length:Nat)) (b:=(1:Nat)) rfl rfl (EM _ _ _ _) (gO fun _=>BB (St (s)) rfl rfl (gT rfl) (fun hG3=>Yk.move rfl ⟨rfl,rfl⟩) (EF (gO fun _=>BB (NI s.length) rfl rfl (gT rfl) (fun hG4=>Aam (l:=s) PO (DG rfl hG4) ⟨rfl,rfl⟩) (EF (gO fun _=>BB (.bool (decide ((s.length)≤(80)))) rfl rfl (gT rfl) (fun hG5=>Zv (a:=((s.length:Nat):Int)) (b:=((80:Nat):Int)) (DG rfl hG5) rfl (DD _ .i64 (s.length) (80)) ⟨rfl,rfl⟩) (EF (gS (Abw rfl (fun hA=>(DG rfl hA)) rfl fun bb6 hbb7=>(Bb rfl (vr (.bool (bb6)) rfl) ?_))))))))))));subst hbb7;exact⟨rfl,hE⟩

theorem DB(base:Nat)(w:AcK)(H:Dk)(D:Ae)(hS:DkS base w H D)(v:AcJ)(l:List (List UInt8))(hr:RG 1 CX w v l)(hl:l.length<4611686018427387904):
  Calls AcM 56 #[PQ H.g 0,v] w fun e w' =>e = .returned (NI (readyL D l))∧Ext w w' :=by
 have hb:=hS.blk;have hgl:=(bl hb);refine gG (args:= [PQ H.g 0,v]) Tryz.func56 rfl 23 rfl rfl ?_;have hE:=Ext.refl w;refine gS (ZR UQ rfl (cF rfl (gS (Yk.nilCheck rfl (gS (Yk.fieldAt Pc rfl (gS (Zu Ka rfl rfl (cellAt hb rfl) ?_))))))));refine cB (D.down) rfl (fun c=> ?_) fun c=> ?_
 ·refine Bb rfl (vr (NI 9) rfl) ?_;exact⟨by rw[G6 (by simpa using c)],hE⟩
 refine gS (ZI N9 (ZC hr rfl) (gL (fun(ρ:Ad) (wz:AcK)=>∃i:Nat,ρ 0=(PQ H.g 0:AcJ)∧ρ 1=(v:AcJ)∧ρ 8=(.bool (false):AcJ)∧ρ 13=(v:AcJ)∧ρ 14=(NI l.length:AcJ)∧ρ 15=(NI i:AcJ)∧RG 1 CX wz v l∧wz.heap[H.g]? =some (.cells (JN (D.quota) (H.mn) (H.ml) (H.va) (D.refused) (D.arm) (D.down)).toArray 107 (0,0))∧Ext w wz∧(i≤l.length)∧((l.take i).all Br=true)∧True) (fun ρ _=>l.length-(intOf (ρ 15)).toNat) ⟨0,rfl,rfl,rfl,rfl,rfl,rfl,hr,hb,hE,Adm _,rfl,trivial⟩ ?_));clear hr hb hE;rintro p t ⟨i,q,r,s,k,m,f,hr,hb,hE,hi,hn,-⟩;have q15:=f;refine gS (Zv (a:=(i:Nat)) (b:=(l.length:Nat)) f m (AI _ _ _ _) ?_);refine cD rfl (fun n=> ?_) fun n=> ?_
 ·have hlt:i<l.length:=n;have u:(CX (l.getD (i) ([]:List UInt8))).length=1:=(RG.elem hr ([]:List UInt8) (by omega));refine gS (ZO N9 UR (by decide) ([]:List UInt8) (ZC hr k) f (by omega) fun x o=>(gS (ZL PO rfl (PR.cell (ZT o rfl) rfl) ?_)));clear o;refine gS (ZA S7 rfl ((W0 _ (l.getD (i) ([]:List UInt8))).mono ?_));rintro e y ⟨rfl,h⟩;refine⟨_,rfl,?_⟩;refine gS (Z9 rfl ?_);refine cB (!(Br (l.getD (i) ([]:List UInt8)))) rfl (fun j=> ?_) fun j=> ?_
  ·have hm:Br (l.getD i [])=false:=by simpa using j
   refine Bb rfl (vr (NI 10) rfl) ?_;have hE:=hE.trans h;exact⟨by rw[Rc (by simpa using c) hlt hm],hE⟩
  have hm:Br (l.getD i [])=true:=by simpa using j
  have hr:=hr.keep h;have hb:=eb h hb;have hE:=hE.trans h;refine gS (Zw (xv:=NI i) (yv:=NI 1) f rfl rfl (Ag _ _ _ (by omega)) (gK (Adr ⟨i+1,q,r,s,k,m,rfl,hr,hb,hE,by omega,UP hlt hn hm,trivial⟩ ?_)));show l.length-(intOf (NI ((i)+(1)))).toNat<l.length-(intOf (p 15)).toNat;rw[q15];simp only[intOf,Ac0];omega
 refine Bb rfl (vr (NI 0) rfl) ?_;exact⟨by rw[IY (by simpa using c) (by rw[AdD (by omega)]at hn;exact hn)],hE⟩
theorem S8{n:Nat}{l:B5}(h:DirOk n l):(l.map Adk).Nodup:=
 AgM _ (fun a b q e=>by rw[e,FJ]at q;cases q) h.sort
theorem W1{n:Nat}{l:B5}(h:DirOk n l)(a:List UInt8)(y:Nat):Aw l a=some y↔(a,y)∈l:=⟨Ej,fun q=>Jq h.sort q⟩
theorem US{α:Type}(f:α→Nat){l:List α}{a:α}{r:List α}(h:l.Perm (a :: r)):(l.map f).sum=f a+(r.map f).sum:=by
 have:=(h.map f).sum_nat;rw[this,Ado,List.sum_cons]
theorem Pd:AV AcM 107 1 1:=fun b o w=>by simp[go_sem]
theorem Mn:Tryz.prog.underlying 104=some (.map 9 113):=by kernel_rfl
theorem Pe:AV AcM 133 0 0:=fun b o w=>by simp[go_sem]
theorem LF(base:Nat)(w:AcK)(H:Dk)(D:Ae)(hS:DkS base w H D)(hU:usedD D<4611686018427387904):
  Calls AcM 57 #[PQ H.g 0] w fun e w' =>e = .returned (NI (usedD D))∧Ext w w' :=by
 have hb:=hS.blk;have hgl:=(bl hb);refine gG (args:= [PQ H.g 0]) Tryz.func57 rfl 23 rfl rfl ?_;have hE:=Ext.refl w;refine gS (Yk.nilCheck rfl (gS (Yk.fieldAt Pd rfl (gS (Zu Mn rfl rfl (cellAt (eb hE hb) rfl) (gS (Abg (fun a c=>C5) Mn rfl (hS.keep hE).now (S8 hS.ok.now) (W1 hS.ok.now) fun b u v j l x=> ?_)))))));have hI11:=j;clear j;have hgi:=MIt.lt hI11;have hE:=hE.trans l;refine gL (fun(ρ:Ad) (wz:AcK)=>∃left:List (List UInt8 × Nat),∃s:Nat,ρ 0=(PQ H.g 0:AcJ)∧ρ 2=(NI 0:AcJ)∧ρ 10=(PQ b 0:AcJ)∧ρ 3=(NI s:AcJ)∧Ext w wz∧MIt St (pF H.F) wz b H.mn left∧(∀p∈left,p∈D.now)∧(s+(left.map fun e=>(A0 D e.2).1.length).sum=usedD D)∧True) (fun ρ wz=>Aad wz b) ⟨D.now,0,rfl,rfl,rfl,rfl,hE,hI11,fun p hp=>hp,Ad4 _,trivial⟩ ?_;clear hI11;clear hE;rintro y m ⟨left,s,n,o,f,k,hE,hI,hsub,htot,-⟩;by_cases i:left= []
 ·refine gS (AaY f hI i (gS (Yk.extract (vs:= [.bool (false)]) rfl rfl (cF rfl (Bb rfl k ?_)))));exact⟨by rw[i]at htot;rw[←htot];rfl,hE⟩
 refine gS (Aa6 f hI i fun a18 y19 rest20 q h hI23 r t z=> ?_);have hm0:=AaH hI;clear hI;have hI:=hI23;clear hI23;have hgi:=MIt.lt hI;have hmem:(a18,y19)∈D.now:=hsub _ (h.mem_iff.2 AdM);have hyl:=hS.ok.now.num _ hmem;have hfl:=hS.files.at_ y19 hyl;have hsum:(left.map fun e=>(A0 D e.2).1.length).sum=(D.files.getD y19 ([],0)).1.length+(rest20.map fun e=>(A0 D e.2).1.length).sum:=US _ h;have hfb:=hfl.blk;have hfr:RB w (H.V y19) (D.files.getD y19 ([],0)).1:=ZP hfl.row;have hE:=Ab hE t (AcN (AcP _) (by omega));refine gS (Yk.extract (vs:= [.bool (true),St (a18), .pointer (some ⟨(H.F y19),0,none⟩)]) rfl rfl (cT rfl (gS (Abh f r (gS (Yk.extract (vs:= [St (a18), .pointer (some ⟨(H.F y19),0,none⟩)]) rfl rfl (gS (Yk.nilCheck rfl (gS (Yk.fieldAt Pe rfl (gS (Zu Gj rfl rfl (cellAt (eb hE hfb) rfl) (gS (ZF Gj (ZB (hfr.keep hE) rfl) (gS (Zw (xv:=NI s) (yv:=NI (((D.files.getD y19 ([],0)).1:List UInt8).length)) k rfl rfl (Ag _ _ _ (by have:=hU;rw[hsum]at htot;omega)) (gK (Adr ⟨rest20,s+(D.files.getD y19 ([],0)).1.length,n,o,f,rfl,hE,hI,fun p hp=>hsub p (h.mem_iff.2 (AdO _ hp)),by rw[hsum]at htot;exact(Ae2 _ _ _).trans htot,trivial⟩ ?_))))))))))))))))));show Aad q b<Aad m b;rw[AaH hI,hm0,h.length_eq];simp
section
variable {P : Adg} {K : AcJ → AcK → Prop} {ρ : Ad} {w : AcK} {d : Option Tmp} {ty : AcR} {pos : String} {af : Array AdL} {gd : Option (Nat × Bool)}
theorem Ld(w:AcK)(t tx ty e:AcR)(i:TypeInfo)(z:AcJ)(size bytes:Nat)(ht:P.underlying t=some (.slice e))(hi:P.info? e=some i)(hz:i.zero=some z) 
    (hsize:i.size=size) (hby:i.bytes=bytes) (hzs:z.cells.size=size) (a:Addr) (n:Nat) (xs:List AcJ) (hxs:xs.length=n*size) (hc:∀j u,xs[j]? =some u→w.cell? (a.add j)=some u)
    (x:AcJ) (m:Nat) (news:List AcJ) (hs:Src P size tx x m news w) (hm:0<m) (h63:n+m≤maxLen) (hbytes:(n+m)*bytes≤140737488355328):
    ∃v' w',(AfO #[t,tx] ty #[.slice (some a) n n,x]).run P w = .ok v' w' ∧w'.ownsRow w.heap.size e size v' (n+m) (xs++news)∧Ext w w' :=by
  subst hsize;subst hby
  have hsmall:n+m≤9223372036854775807:=by simp only[maxLen]at h63;omega
  have hl:=hs.newsLen;have hlen:(xs++news).length=(n+m)*i.size:=by rw[AcQ,hxs,hl,AeV]
  have hge:=grownCap_ge w (n+m) n e;have hcm:grownCap w (n+m) n e≤maxLen:=grownCap_le_maxLen w (n+m) n e h63;have hr:=run_append_grow_src (P:=P) w t tx ty e i z ht hi hz (some a) n n xs (run_firstCells_some w.drew i.size n a n n xs hxs (by simpa using hc)) x m news hs (by omega) (by omega) (growslice_fits (by omega) hbytes);refine⟨_,_,hr,⟨hlen, .inr ⟨w.heap.size,_,_,rfl,AcP _,heap_alloc_new w.drew _,hge,hcm,?_,?_⟩⟩,(AdC _ _).grown ((Grew.refl w (AcU none 0 0)).drew.alloc _).by_ (AcP _) (fun _ e=>by simp[AcT]at e)⟩
  · simp only[Array.size_append,Ac6,size_zeroCells,hzs,hlen,←AeV]
    congr 1
    omega
  · simp only[AiE];rw[←hlen];exact Ae8
def FullG{α:Type}(k:Nat)(enc:α→List AcJ)(w:AcK)(v:AcJ)(l:List α):Prop:=(v = .slice none 0 0∧l= [])∨∃a,v = .slice (some a) l.length l.length∧RG k enc w v l
theorem FullG.keep{α:Type}{k:Nat}{enc:α→List AcJ}{w w' :AcK}{v:AcJ}{l:List α}(h:FullG k enc w v l)(hE:Ext w w'):FullG k enc w' v l:=h.imp id fun⟨a,h1,h2⟩=>⟨a,h1,h2.keep hE⟩
theorem FullG.rg{α:Type}{k:Nat}{enc:α→List AcJ}{w:AcK}{v:AcJ}{l:List α}(h:FullG k enc w v l):RG k enc w v l:=by
  rcases h with ⟨rfl,rfl⟩ | ⟨a,h1,h2⟩
  · exact RG.nil _ _ _
  · exact h2
theorem AaA{α:Type}{k:Nat}{enc:α→List AcJ}{t tx e e' :AcR}{z:AcJ}{bytes:Nat}(ht:P.underlying t=some (.slice e))(hi:(P.info? e).map (fun i=>(i.zero,i.size,i.bytes))=some (some z,k,bytes))(hzs:z.cells.size=k)(hu:P.underlying tx=some (.slice e')) 
    (h1:∀x:α,∀u∈enc x,u.oneCell' =true) {s x:AcW} {v y:AcJ} {l m:List α} (hs:Aa ρ s=v) (h:FullG k enc w v l) (hx:Aa ρ x=y) (hy:RG k enc w y m) (hm:0<m.length) (hlen:(l.length+m.length)*bytes≤140737488355328) (hlen2:l.length+m.length≤maxLen)
    (hk:∀v' w',OG w.heap.size e k enc w' v' (l++m)→Ext w w' →K v' w'):Yk P K ((execOp (Aa ρ) ⟨d, .call ⟨.builtin .append,#[s,x],#[t,tx]⟩,ty,pos,af,gd⟩).run P w):=by
  obtain⟨i,hi0,hi1⟩:=Afi.1 hi;have hz:i.zero=some z:=congrArg Adk hi1;have hsz:i.size=k:=congrArg (fun q=>q.2.1) hi1;have hby:i.bytes=bytes:=congrArg (fun q=>q.2.2) hi1;have hsrc:Src P k tx y m.length (m.flatMap enc) w:=by
    obtain⟨q1,q2,ao,cap,rfl,q3,q4,q5,q6⟩:=hy;cases ao with
    | none=>exact absurd (q5 rfl).1 (by omega)
    | some a=>exact Ahl w hu a _ cap _ q2 (q6 a rfl) fun u hu=>let ⟨x,_,hx⟩:=AhP.1 hu;h1 x u hx
  have hlen' :∀ {xs:List α},(∀x∈xs,(enc x).length=k)→(xs.flatMap enc).length=xs.length*k:=fun {xs} hxs=>by
    induction xs with
    | nil=>simp
    | cons a r ih=>rw[AdJ,AcQ,hxs a AdM,ih fun x hx=>hxs x (AdO _ hx),Adh,AeV,Nat.one_mul,AgB]
  have hall:∀x∈l++m,(enc x).length=k:=fun x hx=>(Adf.1 hx).elim (h.rg.1 x) (hy.1 x);have fin:∀v' w',(AfO #[t,tx] ty #[v,y]).run P w = .ok v' w' →w'.ownsRow w.heap.size e k v' (l.length+m.length) (l.flatMap enc++m.flatMap enc)→Ext w w' →Yk P K ((execOp (Aa ρ) ⟨d, .call ⟨.builtin .append,#[s,x],#[t,tx]⟩,ty,pos,af,gd⟩).run P w):=fun v' w' hr ho hE=>by
    refine Yk.value (v:=v') (w' :=w') ?_ (hk v' w' ⟨hall,by rw[AcQ,AfG];exact ho⟩ hE);unfold execOp;simp only[resolve,invoke,builtin,Ac1,Ac3,AcV,Ads,Ado,AdA,hs,hx,hr]
  rcases h with ⟨rfl,rfl⟩ | ⟨a,hv,hr⟩
  · obtain⟨v',w',hr,ho,hg⟩:=Fk (P:=P) w w.heap.size t tx ty e i z k bytes ht hi0 hz hsz hby hzs (.slice none 0 0) 0 [] (AdK _ _ _ _) y m.length _ hsrc (by simpa using hlen2) (by simpa using hlen) (AcP _);exact fin v' w' hr (by simpa using ho) ((AdC _ _).grown hg.by_ (AcP _) fun _ q=>by simp[AcT]at q)
  · obtain⟨-,q2,ao,cap,q3,-,-,-,q6⟩:=id hr;rw[hv]at q3;cases q3;obtain⟨v',w',hr',ho,hE⟩:=Ld (P:=P) (ty:=ty) w t tx e i z k bytes ht hi0 hz hsz hby hzs a l.length _ q2 (q6 a rfl) y m.length _ hsrc hm hlen2 hlen;exact fin v' w' (by rw[hv];exact hr') ho hE
end
theorem Fp:KL AcM 9 (Agm .string):=Abn (by kernel_rfl)
theorem Ew(a:List UInt8)(_:Nm a):Agm .string (St a):=trivial
theorem Js(u:AcK):(zeroValue 113).run AcM u = .ok (.pointer none) u:=by kernel_rfl
def EC(d:Ae)(ms:List (List UInt8))(s:List UInt8):Except Nat Nat:=if readyL d (ms++ [s])≠0 then .error (readyL d (ms++ [s]))else match Aw d.now s with | some k=> .ok k | none=> .error 4
def Zg(H:Dk):Except Nat Nat→AcJ
 | .ok k=>PQ (H.F k) 0
 | .error _=> .pointer none
def Zh:Except Nat Nat→Nat
 | .ok _=>0
 | .error e=>e
theorem Rd{d:Ae}{ms:List (List UInt8)}{s:List UInt8}(h:readyL d (ms++ [s])=0):Br s=true:=by
 unfold readyL at h;split at h
 ·cases h
 ·split at h
  ·rename_i h2
   rw[Ah5]at h2;simp only[AdT,Ahs,AiZ,Bool.and_true]at h2;exact h2.2
  ·cases h
theorem Ke(z:ByteArray)(w:AcK):(Adt 56 1 #[(0, .string z)]).run AcM w = .ok (.slice (some ⟨w.heap.size,0,none⟩) 1 1) (w.alloc (.cells #[.string z] 9)):=by kernel_rfl
theorem LG:(Tryz.prog.info? 9).map (fun i=>(i.zero,i.size,i.bytes))=some (some (.string ⟨#[]⟩),1,16):=by kernel_rfl
theorem Kf:Plain AcM 56:=fun _ _=>by kernel_rfl
theorem Mo:Tryz.prog.underlying 113=some (.pointer 133):=by kernel_rfl
theorem Hq(base:Nat)(w:AcK)(H:Dk)(D:Ae)(hS:DkS base w H D)(s:List UInt8)(v:AcJ)(ms:List (List UInt8))(hF:FullG 1 CX w v ms)(hl:ms.length≤1):
  Calls AcM 77 #[PQ H.g 0,St s,v] w fun e w' =>e = .returned (.tuple #[Zg H (EC D ms s),NI (Zh (EC D ms s))])∧Ext w w' :=by
 have hb:=hS.blk;have hgl:=(bl hb);refine gG (args:= [PQ H.g 0,St (s),v]) Tryz.func77 rfl 28 rfl rfl ?_;have hE:=Ext.refl w;by_cases c:readyL D (ms++ [s])≠0
 ·have hV:EC D ms s = .error (readyL D (ms++ [s])):=if_pos c;refine gS (ZZ (a:=s) (enc:=CX) (vr (St (s)) rfl) rfl (fun w=>Ke _ w) fun n w5 o p=> ?_);have hE:=hE.trans p;refine gS (AaA N9 LG rfl N9 (fun y u hu=>by rw[AcY.1 hu];rfl) (vr v rfl) (hF.keep hE) (vr n rfl) o (by simp) (by simp;omega) (by simp[maxLen];omega) fun q w9 r t=> ?_);have ak:=hE.size;have hE:=hE.trans t;refine gS (Zx Kf rfl rfl ((DB base _ H D (hS.keep hE) q (ms++ [s]) (ZG r) (by simp;omega)).mono ?_));rintro e al ⟨rfl,x⟩;refine⟨_,rfl,?_⟩;refine gS (Zv (a:=(readyL D (ms++ [s]):Nat)) (b:=(0:Nat)) rfl rfl (AY _ _ _ _) (kT (by omega) (cT rfl (BF rfl (vr (.pointer none) rfl) (vr (NI (readyL D (ms++ [s]))) rfl) ?_))));have hE:=hE.trans x;exact⟨by rw[hV];rfl,hE⟩
 have z:readyL D (ms++ [s])=0:=AgN.1 c;have hm:=Rd z;rcases hlk:Aw D.now s with _ | k
 ·have hV:EC D ms s = .error 4:=by unfold EC;rw[if_neg c,hlk]
  refine gS (ZZ (a:=s) (enc:=CX) (vr (St (s)) rfl) rfl (fun w=>Ke _ w) fun aa am ab f=> ?_);have hE:=hE.trans f;refine gS (AaA N9 LG rfl N9 (fun y u hu=>by rw[AcY.1 hu];rfl) (vr v rfl) (hF.keep hE) (vr aa rfl) ab (by simp) (by simp;omega) (by simp[maxLen];omega) fun ac an ad h=> ?_);have ao:=hE.size;have hE:=hE.trans h;refine gS (Zx Kf rfl rfl ((DB base _ H D (hS.keep hE) ac (ms++ [s]) (ZG ad) (by simp;omega)).mono ?_));rintro e ap ⟨rfl,i⟩;refine⟨_,rfl,?_⟩;have hb:=eb ((f.trans h).trans i) hb;have hE:=hE.trans i;refine gS (Zv (a:=(readyL D (ms++ [s]):Nat)) (b:=(0:Nat)) rfl rfl (AY _ _ _ _) (kF (by omega) (cF rfl (gS (Yk.nilCheck rfl (gS (Yk.fieldAt Pd rfl (gS (Zu Mn rfl rfl (cellAt hb rfl) (gS (AaT Fp Ew (fun _ _=>C5) Mn Js rfl rfl (hS.keep hE).now (by have:=Cp hm;exact this.2) hlk (gS (ZR Mo rfl (kB (rfl) (cT rfl (BF rfl (vr (.pointer none) rfl) (vr (NI 4) rfl) ?_))))))))))))))));exact⟨by rw[hV];rfl,hE⟩
 have hV:EC D ms s = .ok k:=by unfold EC;rw[if_neg c,hlk]
 refine gS (ZZ (a:=s) (enc:=CX) (vr (St (s)) rfl) rfl (fun w=>Ke _ w) fun ae aq af j=> ?_);have hE:=hE.trans j;refine gS (AaA N9 LG rfl N9 (fun y u hu=>by rw[AcY.1 hu];rfl) (vr v rfl) (hF.keep hE) (vr ae rfl) af (by simp) (by simp;omega) (by simp[maxLen];omega) fun ag ar ah l=> ?_);have au:=hE.size;have hE:=hE.trans l;refine gS (Zx Kf rfl rfl ((DB base _ H D (hS.keep hE) ag (ms++ [s]) (ZG ah) (by simp;omega)).mono ?_));rintro e av ⟨rfl,m⟩;refine⟨_,rfl,?_⟩;have hb:=eb ((j.trans l).trans m) hb;have hE:=hE.trans m;refine gS (Zv (a:=(readyL D (ms++ [s]):Nat)) (b:=(0:Nat)) rfl rfl (AY _ _ _ _) (kF (by omega) (cF rfl (gS (Yk.nilCheck rfl (gS (Yk.fieldAt Pd rfl (gS (Zu Mn rfl rfl (cellAt hb rfl) (gS (Aaq Fp Ew (fun _ _=>C5) Mn Js rfl rfl (hS.keep hE).now (by have:=Cp hm;exact this.2) hlk (gS (ZR Mo rfl (kB (rfl) (cF rfl (BF rfl (vr (.pointer (some ⟨(H.F k),0,none⟩)) rfl) (vr (NI 0) rfl) ?_))))))))))))))));exact⟨by rw[hV];rfl,hE⟩

theorem Ws{α β:Type}{ek:α→AcJ}{ev:β→AcJ}{D:α→Prop}{w w' :AcK}{m:Nat}{G:α→Option β}(h:MapF ek ev D w m G)(hg:w.grownBy w' (some m)){b:Nat}{cs:Array AcJ}{t:AcR}{fr:Nat × Nat}(hb:w.heap[b]? =some (.cells cs t fr)):w'.heap[b]? =some (.cells cs t fr):=
 kb hg hb fun e=>by obtain⟨es,c,h1,-⟩:=h;rw[e,h1]at hb;cases hb
theorem W2{ev:Nat→AcJ}(w:AcK)(m:Nat)(G:List UInt8→Option Nat)(hM:MapF St ev Nm w m (G))(bf bn fk k:Nat)(to:List UInt8)(h1:w.heap[bf]? =some (.cells ([PQ fk 0]).toArray 113 (0,0)))(h2:w.heap[bn]? =some (.cells ([St to]).toArray 9 (0,0)))(hev:PQ fk 0=ev k)(ht:Nm to):
  Calls AcM 141 #[.map (some m),PQ bf 0,PQ bn 0] w fun e w' =>e = .returned (.tuple #[])∧MapF St ev Nm w' m (updM G to (some k))∧w.grownBy w' (some m):=by
 have a:=Aef w (some m);refine gG (args:= [.map (some m),PQ bf 0,PQ bn 0]) Tryz.func141 rfl 7 rfl rfl ?_;have hE:=Ext.refl w;refine gS (Zu PO rfl rfl (cellAt h2 rfl) (gS (Zu Mo rfl rfl (cellAt h1 rfl) (gS (Aak (ev:=ev) (c:=k) Fp Ew Mn (vr (.map (some m)) rfl) (vr (St (to)) rfl) (Eq.trans ((vr (PQ fk 0) rfl)) hev) (hM.keep hE) ht fun w1 hM2 b f=> ?_)))));have h1:w1.heap[bf]? =some (.cells ([PQ fk 0]).toArray 113 (0,0)):=Ws hM b h1;have h2:w1.heap[bn]? =some (.cells ([St to]).toArray 9 (0,0)):=Ws hM b h2;have a:w.grownBy w1 (some m):=Am a b (fun _ e=> .inl e);clear hE;have hM:=hM2;clear hM2;refine rt0 rfl ?_;exact⟨rfl,hM,a⟩

theorem W3{ev:Nat→AcJ}(w:AcK)(m:Nat)(G:List UInt8→Option Nat)(hM:MapF St ev Nm w m (G))(bs:Nat)(frm:List UInt8)(h3:w.heap[bs]? =some (.cells ([St frm]).toArray 9 (0,0)))(hf:Nm frm):
  Calls AcM 95 #[.map (some m),PQ bs 0] w fun e w' =>e = .returned (.tuple #[])∧MapF St ev Nm w' m (updM G frm none)∧w.grownBy w' (some m):=by
 have a:=Aef w (some m);refine gG (args:= [.map (some m),PQ bs 0]) Tryz.func95 rfl 5 rfl rfl ?_;have hE:=Ext.refl w;refine gS (Zu PO rfl rfl (cellAt h3 rfl) (gS (Abc Fp Ew (fun _ _=>C5) Mn rfl rfl (hM.keep hE) hf fun w1 hM2 b c=> ?_)));have h3:w1.heap[bs]? =some (.cells ([St frm]).toArray 9 (0,0)):=Ws hM b h3;have a:w.grownBy w1 (some m):=Am a b (fun _ e=> .inl e);clear hE;have hM:=hM2;clear hM2;refine rt0 rfl ?_;exact⟨rfl,hM,a⟩

theorem UT{n:Nat}{l:B5}(h:DirOk n l)(a:C0)(hn:a.to.length≠0):updM (updM (Aw l) a.frm none) a.to (some a.file)=Aw (turnD l a):=by
 funext t
 rw[look_turn,if_neg hn];unfold updM;rfl
theorem S9{n:Nat}{l:B5}(h:DirOk n l)(a:C0)(hn:a.to.length≠0)(hf:a.frm= []):updM (Aw l) a.to (some a.file)=Aw (turnD l a):=by
 rw[←UT h a hn]
 funext t
 unfold updM;by_cases ht:t=a.to
 ·rw[if_pos ht,if_pos ht]
 ·rw[if_neg ht,if_neg ht];by_cases h2:t=a.frm
  ·rw[if_pos h2,h2,hf,h.noEmpty]
  ·rw[if_neg h2]
theorem Ta{l:B5}(a:C0)(hn:a.to= []):updM (Aw l) a.frm none=Aw (turnD l a):=by
 funext t
 rw[look_turn,if_pos (by rw[hn];rfl)];unfold updM;rfl
theorem UU{w:AcK}{F:Nat→Nat}{v:AcJ}{a:C0}(h:ActAt w F v a){m n:Nat}{l:B5}(hM:MapF St (pF F) Nm w m (Aw l))(hl:DirOk n l)(ha:ActOk n a):
  ∃f caps,v = .func (.func f) #[] caps∧Plain AcM f∧Calls AcM f (#[.map (some m)]++caps) w fun e w' =>e = .returned (.tuple #[])∧MapF St (pF F) Nm w' m (Aw (turnD l a))∧w.grownBy w' (some m):=by
 rcases h with ⟨bf,bn,e,h1,h2,h3,h4⟩ | ⟨hm,bs,bf,bn,e,h1,h2,h3,h4⟩ | ⟨bn,e,h1,h2⟩
 ·refine⟨_,_,e,fun _ _=>by kernel_rfl,?_⟩;have:=W2 (ev:=pF F) w m _ hM bf bn (F a.file) a.file a.to h1 h2 rfl (Cp (ha.may h4)).2;rw[S9 hl a h4 h3]at this;exact this
 ·exact(show False from hm).elim
 ·refine⟨_,_,e,fun _ _=>by kernel_rfl,?_⟩;have:=W3 (ev:=pF F) w m _ hM bn a.frm h1 ha.frm;rw[Ta a h2]at this;exact this
theorem getD_left{α:Type}{l r:List α}{i:Nat}{x:α}(h:i<l.length):(l++r).getD i x=l.getD i x:=by rw[AcO,AdF h,←AcO]
theorem GQ{α:Type}{l:List α}{a x:α}:(l++ [a]).getD l.length x=a:=by rw[AcO,AdB (AcP _),Aez];rfl
section
variable {base : Nat} {w w' : AcK} {H : Dk} {D : Ae}
theorem CC{w:AcK}{i j x y:Nat}(h:CT w i=some x)(k:CT w j=some y)(hx:x≠y):i≠j:=fun e=>by rw[e,k]at h;exact hx (Adu h).symm
theorem DkS.turned(h:DkS base w H D){a:C0}(ha:ActOk D.files.length a){v:AcJ}(hat:ActAt w H.F v a){vs:List AcJ}(hvs:N7 base w H.va H.F D.acts vs){va' :AcJ} 
    (hc:Chg (fun i=>i=H.mn∨i=H.g∨H.va.ownBlock=some i) w w') (hm:MapF St (pF H.F) Nm w' H.mn (Aw (turnD D.now a)))
    (hb:w'.heap[H.g]? =some (.cells (JN D.quota H.mn H.ml va' D.refused D.arm D.down).toArray 107 (0,0))) (hr:w'.ownsRow base 131 1 va' (vs++ [v]).length (vs++ [v])):
    DkS base w' { H with va:=va' } (turnedD D a):=by
  have hT:∀i,i<w.heap.size→(i=H.mn∨i=H.g∨H.va.ownBlock=some i)→TyB w i:=fun i _ e=>by
    rcases e with e | e | e
    · exact e▸Dl (.inl h.now.tag)
    · exact e▸Dl (.inr (.inl h.tg))
    · exact Dl (.inr (.inr (.inr (.inr (h.tA e)))))
  have ne0:∀ {i x:Nat},CT w i=some x→x≠0→x≠107+1→x≠131+1→¬(i=H.mn∨i=H.g∨H.va.ownBlock=some i):=fun e h0 h1 h2 q=>by
    rcases q with q | q | q
    · rw[q,h.now.tag]at e;exact h0 (Adu e).symm
    · rw[q,h.tg]at e;exact h1 (Adu e).symm
    · rw[h.tA q]at e;exact h2 (Adu e).symm
  refine⟨hb,hm,h.kept.chg hc fun q=> ?_,h.ne,⟨vs++ [v],hr,?_,fun i hi=> ?_⟩,h.files.chg hc (fun k hk=>⟨ne0 (h.tF hk) (by decide) (by decide) (by decide),fun i hi=>ne0 (h.tV hk hi) (by decide) (by decide) (by decide)⟩),h.ok.turned ha,h.lo⟩
  · rcases q with q | q | q
    · exact h.ne q.symm
    · exact CC h.kept.tag h.tg (by decide) q
    · exact CC h.kept.tag (h.tA q) (by decide) rfl
  · show(vs++ [v]).length=(D.acts++ [a]).length;rw[AcQ,AcQ,hvs.len];rfl
  · show ActAt w' H.F ((vs++ [v]).getD i undef) ((D.acts++ [a]).getD i _);rw[show(turnedD D a).acts.length=D.acts.length+1 by show(D.acts++ [a]).length=_;simp]at hi;have hl:=hvs.len;by_cases e:i<D.acts.length
    · rw[getD_left (by omega:i<vs.length),getD_left e];exact(hvs.at_ i e).chg hc hT rfl
    · obtain rfl:i=D.acts.length:=by omega
      rw[GQ,←hl,GQ];exact hat.chg hc hT rfl
theorem DkS.synced(h:DkS base w H D){ml' :Nat}(hc:Chg (fun i=>i=H.g) w w')(hn:w.heap.size≤ml')(hm:MapF St (pF H.F) Nm w' ml' (Aw D.now))(h0:base≤w.heap.size) 
    (hb:w'.heap[H.g]? =some (.cells (JN D.quota H.mn ml' (.slice none 0 0) D.refused D.arm D.down).toArray 107 (0,0))):
    DkS base w' { H with ml:=ml',va:= .slice none 0 0 } { D with kept:=D.now,acts:= [] } :=by
  have ne0:∀ {i x:Nat},CT w i=some x→x≠107+1→i≠H.g:=fun e hx=>CC e h.tg hx;have hlt:=h.now.lt;exact⟨hb,h.now.chg hc (ne0 h.now.tag (by decide)),hm,fun(q:H.mn=ml')=>by omega,⟨[],AdK _ _ _ 1,rfl,fun i hi=>absurd hi (Aet _)⟩,
    h.files.chg hc (fun k hk=>⟨ne0 (h.tF hk) (by decide),fun i hi=>ne0 (h.tV hk hi) (by decide)⟩),⟨h.ok.now,h.ok.now,fun a ha=>(by cases ha),h.ok.syn⟩,⟨h.lo.1,h.lo.2.1,AcN h0 hn⟩⟩
structure DkT (base : Nat) (w : AcK) (H : Dk) (D : Ae) (w' : AcK) (H' : Dk) (D' : Ae) : Prop where
  st:DkS base w' H' D'
  g:H'.g=H.g
  chg:Chg (BZ H D.files.length) w w'
  foot:∀i,BZ H' D'.files.length i→BZ H D.files.length i∨w.heap.size≤i
theorem DkT.refl(h:DkS base w H D):DkT base w H D w H D:=⟨h,rfl,Chg.refl _ _,fun _ q=> .inl q⟩
theorem DkT.trans{w2:AcK}{H1 H2:Dk}{D1 D2:Ae}(h:DkT base w H D w' H1 D1)(k:DkT base w' H1 D1 w2 H2 D2):DkT base w H D w2 H2 D2:=
  ⟨k.st,k.g.trans h.g,h.chg.trans k.chg h.foot,fun i q=>(k.foot i q).elim (h.foot i) fun r=> .inr (AcN h.chg.size r)⟩
theorem DkT.keep{w2:AcK}{H1:Dk}{D1:Ae}(h:DkT base w H D w' H1 D1)(k:Ext w' w2):DkT base w H D w2 H1 D1:=⟨h.st.keep k,h.g,h.chg.keep k,h.foot⟩
theorem RB.chg{B:Nat→Prop}{v:AcJ}{l:List UInt8}(h:RB w v l)(hc:Chg B w w')(hB:l= []∨∀i,v.ownBlock=some i→¬B i):RB w' v l:=by
  obtain⟨h1,ao,cap,rfl,h2,h3,h4,h5⟩:=h;refine⟨h1,ao,cap,rfl,h2,h3,h4,fun a ha j u hu=> ?_⟩;have hl:=h5 a ha j u hu;have hlt:=Ad7 w _ hl;rcases hB with rfl | hB
  · simp[AcL]at hu
  · have hn:¬B (a.add j).block:=hB _ (by rw[ha];obtain⟨a1,a2,a3⟩:=a;simp only[AcT,AeO];split <;> rfl);have hb:=hc.blk _ hlt hn;unfold Afc at hl ⊢;rw[hb];exact hl
theorem DkS.offT(h:DkS base w H D){b:Nat}{cs:Array AcJ}{t:AcR}{fr:Nat × Nat}(hb:w.heap[b]? =some (.cells cs t fr))(h1:t≠107)(h2:t≠133)(h3:t≠5)(h4:t≠131):¬BZ H D.files.length b:=fun q=>TyB.off hb h1 h2 h3 h4 (h.foot q).1
theorem DkT.box{H1:Dk}{D1:Ae}(h:DkT base w H D w' H1 D1)(h0:DkS base w H D){b:Nat}{cs:Array AcJ}{t:AcR}{fr:Nat × Nat}(hb:w.heap[b]? =some (.cells cs t fr))(h1:t≠107)(h2:t≠133)(h3:t≠5)(h4:t≠131):w'.heap[b]? =some (.cells cs t fr):=
  (h.chg.blk b (bl hb) (h0.offT hb h1 h2 h3 h4)).trans hb
theorem DkS.setFileT(h:DkS base w H D){k:Nat}(hk:k<D.files.length){v:AcJ}{x:List UInt8 × Nat}(hx:x.2≤x.1.length)(hc:Chg (fun i=>i=H.F k∨(H.V k).ownBlock=some i) w w')(hf:FileAt base w' (H.F k) v x)(hv:∀i,v.ownBlock=some i→(H.V k).ownBlock=some i∨w.heap.size≤i):
    DkT base w H D w' { H with V:=B0 H.V k v } { D with files:=D.files.set k x } :=
  ⟨h.setFile hk hx hc hf hv,rfl,hc.mono fun i _ e=> .inr (.inr (.inr (.inr ⟨k,hk,e⟩))),fun i hi=>by
    rcases hi with e | e | e | e | ⟨j,hj,e⟩
    · exact .inl (.inl e)
    · exact .inl (.inr (.inl e))
    · exact .inl (.inr (.inr (.inl e)))
    · exact .inl (.inr (.inr (.inr (.inl e))))
    · have hj:j<D.files.length:=by have:j<(D.files.set k x).length:=hj;rwa [Aer]at this
      rcases e with e | e
      · exact .inl (.inr (.inr (.inr (.inr ⟨j,hj, .inl e⟩))))
      · by_cases ej:j=k
        · have e:(B0 H.V k v j).ownBlock=some i:=e;rw[ej,Db]at e;exact(hv i e).imp (fun q=> .inr (.inr (.inr (.inr ⟨k,hk, .inr q⟩)))) id
        · have e:(B0 H.V k v j).ownBlock=some i:=e;rw[Hp _ _ ej]at e;exact .inl (.inr (.inr (.inr (.inr ⟨j,hj, .inr e⟩))))⟩
theorem DkS.newFileT(h:DkS base w H D)(hE:Ext w w'){f:Nat}(hf:w.heap.size≤f)(hb:w'.heap[f]? =some (.cells ([.slice none 0 0,NI 0]).toArray 133 (0,0)))(h0:base≤w.heap.size):
    DkT base w H D w' { H with F:=B0 H.F D.files.length f,V:=B0 H.V D.files.length (.slice none 0 0) } { D with files:=D.files++ [([],0)] } :=
  ⟨h.newFile hE hf hb h0,rfl,Aaz hE,fun i hi=>by
    rcases hi with e | e | e | e | ⟨j,hj,e⟩
    · exact .inl (.inl e)
    · exact .inl (.inr (.inl e))
    · exact .inl (.inr (.inr (.inl e)))
    · exact .inl (.inr (.inr (.inr (.inl e))))
    · have hj:j<D.files.length+1:=by have:j<(D.files++ [(([]:List UInt8),0)]).length:=hj;rwa [AcQ]at this
      by_cases ej:j=D.files.length
      · rcases e with e | e
        · have e:i=B0 H.F D.files.length f j:=e;rw[ej,Db]at e;exact .inr (e▸hf)
        · have e:(B0 H.V D.files.length (.slice none 0 0) j).ownBlock=some i:=e;rw[ej,Db]at e;cases e
      · have hj' :j<D.files.length:=by omega
        rcases e with e | e
        · have e:i=B0 H.F D.files.length f j:=e;rw[Da _ _ hj']at e;exact .inl (.inr (.inr (.inr (.inr ⟨j,hj', .inl e⟩))))
        · have e:(B0 H.V D.files.length (.slice none 0 0) j).ownBlock=some i:=e;rw[Da _ _ hj']at e;exact .inl (.inr (.inr (.inr (.inr ⟨j,hj', .inr e⟩))))⟩
theorem DkS.setBlkT(h:DkS base w H D)(hg:w.grownBy w' (some H.g)){q rf ar:Nat}{dn:Bool}(hb:w'.heap[H.g]? =some (.cells (JN q H.mn H.ml H.va rf ar dn).toArray 107 (0,0))):DkT base w H D w' H { D with quota:=q,refused:=rf,arm:=ar,down:=dn } :=
  ⟨h.setBlk hg hb,rfl,ZX hg fun i e=> .inl (.inl (Adu e).symm),fun i hi=> .inl hi⟩
theorem DkS.syncedT(h:DkS base w H D){ml' :Nat}(hc:Chg (fun i=>i=H.g) w w')(hn:w.heap.size≤ml')(hm:MapF St (pF H.F) Nm w' ml' (Aw D.now))(h0:base≤w.heap.size) 
    (hb:w'.heap[H.g]? =some (.cells (JN D.quota H.mn ml' (.slice none 0 0) D.refused D.arm D.down).toArray 107 (0,0))):
    DkT base w H D w' { H with ml:=ml',va:= .slice none 0 0 } { D with kept:=D.now,acts:= [] } :=
  ⟨h.synced hc hn hm h0 hb,rfl,hc.mono fun i _ e=> .inl e,fun i hi=>by
    rcases hi with e | e | e | e | e
    · exact .inl (.inl e)
    · exact .inl (.inr (.inl e))
    · exact .inr ((show i=ml' from e)▸hn)
    · cases(show(none:Option Nat)=some i from e)
    · exact .inl (.inr (.inr (.inr (.inr e))))⟩
end
theorem Acz{P:Adg}{K:AcJ→AcK→Prop}{ρ:Ad}{w:AcK}{d:Option Tmp}{ty:AcR}{pos:String}{af:Array AdL}{gd:Option (Nat × Bool)}{f:AeB}{c x:AcW}{v y:AcJ}{caps:Array AcJ}{R:AcK→Prop}{at_:Array AcR}(hp:Plain P f)(hc:Aa ρ c=v)(hve:v = .func (.func f) #[] caps)(hx:Aa ρ x=y) 
  (h:Calls P f (#[y]++caps) w fun e w' =>e = .returned (.tuple #[])∧R w') (hk:∀w',R w' →K (.tuple #[]) w'):Yk P K ((execOp (Aa ρ) ⟨d, .call ⟨.value c,#[x],at_⟩,ty,pos,af,gd⟩).run P w):=
 Aav hp (hc.trans hve) _ (by simp[hx]) (h.mono fun e w' q=>⟨_,q.1,hk w' q.2⟩)
theorem YS{base:Nat}{w w' :AcK}{H:Dk}{D:Ae}(h:DkS base w H D)(hg:w.grownBy w' (some H.mn)){vs:List AcJ}(hr:OG base 131 1 Ez w H.va vs):OG base 131 1 Ez w' H.va vs:=
 hr.kept hg fun q=>CC h.now.tag (h.tA q) (by decide) rfl
theorem Pf{base:Nat}{w w' :AcK}{H:Dk}{D:Ae}(h:DkS base w H D){a:C0}(ha:ActOk D.files.length a){v:AcJ}(hat:ActAt w H.F v a){vs:List AcJ}(hvs:N7 base w H.va H.F D.acts vs){va' :AcJ} 
  (hc:Chg (fun i=>i=H.mn∨i=H.g∨H.va.ownBlock=some i) w w') (hm:MapF St (pF H.F) Nm w' H.mn (Aw (turnD D.now a)))
  (hb:w'.heap[H.g]? =some (.cells (JN D.quota H.mn H.ml va' D.refused D.arm D.down).toArray 107 (0,0))) (hr:w'.ownsRow base 131 1 va' (vs++ [v]).length (vs++ [v]))
  (hv:∀i,va'.ownBlock=some i→H.va.ownBlock=some i∨w.heap.size≤i):DkT base w H D w' { H with va:=va' } (turnedD D a):=
 ⟨h.turned ha hat hvs hc hm hb hr,rfl,hc.mono fun i _ e=>e.elim (fun e=> .inr (.inl e)) fun e=>e.elim .inl fun e=> .inr (.inr (.inr (.inl e))),fun i hi=>by
  rcases hi with e | e | e | e | e
  ·exact .inl (.inl e)
  ·exact .inl (.inr (.inl e))
  ·exact .inl (.inr (.inr (.inl e)))
  ·exact(hv i e).imp (fun e=> .inr (.inr (.inr (.inl e)))) id
  ·exact .inl (.inr (.inr (.inr (.inr e))))⟩
theorem JO:AV AcM 107 3 3:=fun b o w=>by simp[go_sem]
theorem IZ:Tryz.prog.underlying 105=some (.slice 131):=by kernel_rfl
theorem Tb(f:Fn)(a:Array AcJ)(c:Array AcJ)(w:AcK):(Adt 105 1 #[(0, .func f a c)]).run AcM w = .ok (.slice (some ⟨w.heap.size,0,none⟩) 1 1) (w.alloc (.cells #[.func f a c] 131)):=by kernel_rfl
theorem dw5_ig131:∃z,(Tryz.prog.info? 131).map (fun i=>(i.zero,i.size,i.bytes))=some (some z,1,8)∧z.cells.size=1:=Fl (by kernel_rfl)
theorem Re:(Tryz.prog.info? 105).map (·.size)=some 1:=by kernel_rfl
theorem PP(w0 w:AcK)(b:Ext w0 w)(H:Dk)(D:Ae)(hS:DkS w0.heap.size w H D)(v:AcJ)(a:C0)(ha:ActOk D.files.length a)(hat:ActAt w H.F v a)(hn:D.acts.length<1099511627776):
  Calls AcM 94 #[PQ H.g 0,v] w fun e w' =>∃va',e = .returned (.tuple #[])∧DkT w0.heap.size w H D w' { H with va:=va' } (turnedD D a):=by
 have hb:=hS.blk;have hgl:=(bl hb);have hsz0:=b.size;have hmnl:=hS.lo.2.1;have hgl0:=hS.lo.1;have h:=hS;obtain⟨vs,hvs⟩:=hS.acts;have hvl:=hvs.len;have hrow:OG w0.heap.size 131 1 Ez w H.va vs:=⟨fun _ _=>rfl,by rw[H0];exact hvs.row⟩;have hvg:H.va.ownBlock≠some H.g:=fun q=>CC hS.tg (hS.tA q) (by decide) rfl;obtain⟨f,caps,hve,hpl,hcl⟩:=UU hat hS.now hS.ok.now ha;refine gG (args:= [PQ H.g 0,v]) Tryz.func94 rfl 20 rfl rfl ?_;have hE:=Ext.refl w;refine gS (Yk.nilCheck rfl (gS (Yk.fieldAt Pd rfl (gS (Zu Mn rfl rfl (cellAt hb rfl) (gS (Acz hpl rfl hve rfl hcl fun w2 hR3=> ?_)))))));have hb:w2.heap[H.g]? =some (.cells (JN (D.quota) (H.mn) (H.ml) (H.va) (D.refused) (D.arm) (D.down)).toArray 107 (0,0)):=Ws hS.now hR3.2 hb;have hrow:OG w0.heap.size 131 1 (Ez) w2 H.va vs:=YS hS hR3.2 hrow;have b:=Ab b hR3.2 (AcN (AcP _) (by omega));clear hE;have hC:Chg (fun i=>i=H.g∨H.va.ownBlock=some i) w2 w2:=Chg.refl _ _;refine gS (Yk.nilCheck rfl (gS (Yk.fieldAt JO rfl (gS (Zu IZ rfl rfl (cellAt hb rfl) (gS (ZZ (a:=(v)) (enc:=Ez) (vr v rfl) rfl (fun w=>by rw[hve];exact Tb _ _ _ w) fun t n o k=> ?_)))))));have hC:Chg (fun i=>i=H.g∨H.va.ownBlock=some i) w2 n:=(hC.keep k);have hrow:=hrow.keep k;have b:=b.trans k;refine gS (ZM _ _ w0.heap.size _ 8 IZ dw5_ig131.choose_spec.1 dw5_ig131.choose_spec.2 IZ (vs) ([(v)]) (OG.of hrow (vr H.va rfl)) (ZC o (vr t rfl)) (fun y hy u hu=>by rw[AcY.1 hu,AcY.1 hy,hve];rfl) (by simp;omega) (by simp;omega) b.size fun l p j c=> ?_);have c:Grew n p H.va l:=c;have hb:=eb k hb;have x:OB l H.g:=An c hvg (bl hb);have hb:=Ao hb c hvg;have b:=Aq b c hrow.2 (AcP _);have hvf:=fun i e=>(c.fresh i e).imp id (fun q=>AcN (AcN hR3.2.size hC.size) q);have hC:Chg (fun i=>i=H.g∨H.va.ownBlock=some i) w2 p:=Chg.grew hC c (fun i e=> .inl (.inr e));clear o;clear hrow;refine gS (Yk.nilCheck rfl (gS (Yk.fieldAt JO rfl (gS (ZK (i:=3) (v:=l) rfl rfl hb (Ac2 rfl) Re (Ce j.2).1 (Ce j.2).2 fun m r s z=> ?_)))));clear b;have hC:Chg (fun i=>i=H.g∨H.va.ownBlock=some i) w2 m:=Chg.set hC s (.inl (.inl rfl));clear hb;have hb:=r;clear r;have aa:=bl hb;refine rt0 rfl ?_;have hC0:Chg (fun i=>i=H.mn∨i=H.g∨H.va.ownBlock=some i) w m:=((ZX hR3.2 (fun i e=> .inl (.inl (Adu e).symm)):Chg (fun i=>i=H.mn∨i=H.g∨H.va.ownBlock=some i) w w2)).trans hC (fun i e=> .inl (.inr e));have hmf:=hR3.1.chg hC (fun q=>q.elim (fun q=>CC h.now.tag h.tg (by decide) q) (fun q=>CC h.now.tag (h.tA q) (by decide) rfl));have j:=OG.kept j s x;have hown:m.ownsRow w0.heap.size 131 1 l (vs++ [v]).length (vs++ [v]):=by have:=j.2;rw[H0]at this;exact this
 exact⟨_,rfl,Pf h ha hat hvs hC0 hmf hb hown hvf⟩
open Go.Shelf Go.RowKit
def Rf:Af7:=⟨fun | 5=>71 | 7=>122 | n=>n,fun | 23=>104 | 25=>9 | 3=>113 | 4=>4 | 20=>20 | n=>n,fun | n=>n⟩
theorem Yf:Go.Proofs.SlLaysW.n5 AcM Rf:= {
  mixed:=by kernel_rfl
  f5:=⟨Tryz.f71.name,by decide,Tryz.func71.trans (congrArg some (by kernel_rfl))⟩
  f7:=Tryz.func122.trans (congrArg some (by kernel_rfl))
  t4:=Agj
  a4:=Aif
  z4:=AhV
  v4:=Ag5
  t20:=Tryz.underlying20
  a20:=Tryz.isAgg20
  z20:=Tryz.sizeOf20
  v20:=Tryz.zeroValue20
  t23:=Tryz.underlying104
  a23:=Tryz.isAgg104
  z23:=Tryz.sizeOf104
  v23:=Tryz.zeroValue104 }
def Mp:Af7:=⟨fun | 7=>59 | 10=>104 | n=>n,fun | 23=>104 | 26=>9 | 3=>113 | 28=>111 | 0=>0 | 27=>110 | 33=>139 | 4=>4 | n=>n,fun | n=>n⟩
theorem Wt:Aiw AcM Mp:= {
  mixed:=by kernel_rfl
  f7:=⟨Tryz.f59.name,by decide,Tryz.func59.trans (congrArg some (by kernel_rfl))⟩
  f10:=⟨Tryz.f104.name,by decide,Tryz.func104.trans (congrArg some (by kernel_rfl))⟩
  t0:=Agk
  a0:=Aho
  z0:=Ag6
  v0:=Agt
  t4:=Agj
  a4:=Aif
  z4:=AhV
  v4:=Ag5
  t23:=Tryz.underlying104
  a23:=Tryz.isAgg104
  z23:=Tryz.sizeOf104
  v23:=Tryz.zeroValue104
  t26:=Afh
  a26:=Agp
  z26:=Af8
  v26:=Afp
  t27:=Tryz.underlying110
  a27:=Tryz.isAgg110
  z27:=Tryz.sizeOf110
  v27:=Tryz.zeroValue110
  t28:=Ahp
  a28:=AiB
  z28:=Ail
  v28:=AhC
  t33:=Tryz.underlying139
  a33:=Tryz.isAgg139
  z33:=Tryz.sizeOf139
  v33:=Tryz.zeroValue139 }
def JP:Af7:=⟨fun | 6=>58 | 8=>102 | 9=>103 | 11=>148 | 13=>150 | 12=>149 | 23=>194 | 24=>195 | 14=>185 | 15=>186 | 16=>187 | 17=>188 | 18=>189 | 19=>190 | 20=>191 | 21=>192 | 22=>193 | 25=>215 | 26=>216 | 27=>217 | 28=>218 | 29=>219 | 30=>220 | 31=>223 | n=>n,fun | 26=>9 | 28=>111 | 24=>56 | 0=>0 | 3=>3 | 37=>184 | 48=>181 | 50=>228 | 4=>4 | 40=>276 | 39=>275 | 45=>193 | 5=>5 | 9=>9 | 51=>307 | 55=>311 | 57=>317 | 58=>297 | 33=>139 | n=>n,fun | n=>n⟩
theorem PS:Go.Proofs.SlLaysZ.n6 AcM JP:= {
  mixed:=by kernel_rfl
  f6:=⟨Tryz.f58.name,by decide,Tryz.func58.trans (congrArg some (by kernel_rfl))⟩
  f8:=⟨Tryz.f102.name,by decide,Tryz.func102.trans (congrArg some (by kernel_rfl))⟩
  f11:=⟨Tryz.f148.name,by decide,Tryz.func148.trans (congrArg some (by kernel_rfl))⟩
  t0:=Agk
  a0:=Aho
  z0:=Ag6
  v0:=Agt
  t24:=AhD
  a24:=Ai0
  z24:=AiC
  v24:=AhW
  t26:=Afh
  a26:=Agp
  z26:=Af8
  v26:=Afp
  t28:=Ahp
  a28:=AiB
  z28:=Ail
  v28:=AhC
  i26:=by kernel_rfl }
def Tc:Af7:=⟨fun | 6=>103 | 8=>150 | 9=>149 | 19=>194 | 20=>195 | 21=>185 | 22=>186 | 23=>187 | 24=>188 | 25=>189 | 26=>190 | 27=>191 | 28=>192 | 29=>193 | 36=>215 | 31=>216 | 32=>217 | 37=>218 | 38=>219 | 39=>220 | 41=>223 | n=>n,fun | 27=>56 | 29=>9 | 3=>3 | 32=>184 | 26=>56 | 0=>0 | 44=>181 | 46=>228 | 4=>4 | 36=>276 | 35=>275 | 41=>193 | 5=>5 | 9=>9 | 53=>307 | 57=>311 | 63=>317 | 64=>297 | n=>n,fun | n=>n⟩
theorem Wu:Go.Proofs.SlLaysM.n6 AcM Tc:= {
  mixed:=by kernel_rfl
  f6:=⟨Tryz.f103.name,by decide,Tryz.func103.trans (congrArg some (by kernel_rfl))⟩
  f8:=Tryz.func150.trans (congrArg some (by kernel_rfl))
  f9:=⟨Tryz.f149.name,by decide,Tryz.func149.trans (congrArg some (by kernel_rfl))⟩
  f19:=Tryz.func194.trans (congrArg some (by kernel_rfl))
  f20:=Tryz.func195.trans (congrArg some (by kernel_rfl))
  f21:=⟨Tryz.f185.name,by decide,Tryz.func185.trans (congrArg some (by kernel_rfl))⟩
  f22:=⟨Tryz.f186.name,by decide,Tryz.func186.trans (congrArg some (by kernel_rfl))⟩
  f23:=⟨Tryz.f187.name,by decide,Tryz.func187.trans (congrArg some (by kernel_rfl))⟩
  f24:=⟨Tryz.f188.name,by decide,Tryz.func188.trans (congrArg some (by kernel_rfl))⟩
  f25:=⟨Tryz.f189.name,by decide,Tryz.func189.trans (congrArg some (by kernel_rfl))⟩
  f26:=⟨Tryz.f190.name,by decide,Tryz.func190.trans (congrArg some (by kernel_rfl))⟩
  f27:=⟨Tryz.f191.name,by decide,Tryz.func191.trans (congrArg some (by kernel_rfl))⟩
  f28:=⟨Tryz.f192.name,by decide,Tryz.func192.trans (congrArg some (by kernel_rfl))⟩
  f29:=⟨Tryz.f193.name,by decide,Tryz.func193.trans (congrArg some (by kernel_rfl))⟩
  f31:=Tryz.func216.trans (congrArg some (by kernel_rfl))
  f32:=Tryz.func217.trans (congrArg some (by kernel_rfl))
  f36:=⟨Tryz.f215.name,by decide,Tryz.func215.trans (congrArg some (by kernel_rfl))⟩
  f37:=⟨Tryz.f218.name,by decide,Tryz.func218.trans (congrArg some (by kernel_rfl))⟩
  f38:=⟨Tryz.f219.name,by decide,Tryz.func219.trans (congrArg some (by kernel_rfl))⟩
  f39:=⟨Tryz.f220.name,by decide,Tryz.func220.trans (congrArg some (by kernel_rfl))⟩
  f41:=⟨Tryz.f223.name,by decide,Tryz.func223.trans (congrArg some (by kernel_rfl))⟩
  t0:=Agk
  a0:=Aho
  z0:=Ag6
  v0:=Agt
  t3:=AhX
  a3:=Ai6
  z3:=Ai1
  v3:=Ah6
  t4:=Agj
  a4:=Aif
  z4:=AhV
  v4:=Ag5
  t5:=Agi
  a5:=Ai7
  z5:=Ai2
  v5:=Ah7
  t9:=Afh
  a9:=Agp
  z9:=Af8
  v9:=Afp
  t26:=AhD
  a26:=Ai0
  z26:=AiC
  v26:=AhW
  t27:=AhD
  a27:=Ai0
  z27:=AiC
  v27:=AhW
  t29:=Afh
  a29:=Agp
  z29:=Af8
  v29:=Afp
  t32:=Tryz.underlying184
  a32:=Tryz.isAgg184
  z32:=Tryz.sizeOf184
  v32:=Tryz.zeroValue184
  t35:=Tryz.underlying275
  a35:=Tryz.isAgg275
  z35:=Tryz.sizeOf275
  v35:=Tryz.zeroValue275
  t36:=Tryz.underlying276
  a36:=Tryz.isAgg276
  z36:=Tryz.sizeOf276
  v36:=Tryz.zeroValue276
  t41:=Tryz.underlying193
  a41:=Tryz.isAgg193
  z41:=Tryz.sizeOf193
  v41:=Tryz.zeroValue193
  t44:=Ahq
  a44:=Tryz.isAgg181
  z44:=Tryz.sizeOf181
  v44:=Tryz.zeroValue181
  t46:=Tryz.underlying228
  a46:=Tryz.isAgg228
  z46:=Tryz.sizeOf228
  v46:=Tryz.zeroValue228
  t53:=Tryz.underlying307
  a53:=Tryz.isAgg307
  z53:=Tryz.sizeOf307
  v53:=Tryz.zeroValue307
  t57:=Tryz.underlying311
  a57:=Tryz.isAgg311
  z57:=Tryz.sizeOf311
  v57:=Tryz.zeroValue311
  t63:=Tryz.underlying317
  a63:=Tryz.isAgg317
  z63:=Tryz.sizeOf317
  v63:=Tryz.zeroValue317
  t64:=Tryz.underlying297
  a64:=Tryz.isAgg297
  z64:=Tryz.sizeOf297
  v64:=Tryz.zeroValue297 }
open Go.RowKit Go.Shelf
theorem Td(w:AcK){F:Nat→Nat}{b:Nat}{G:List UInt8→Option Nat}(h:MapF St (pF F) Nm w b G):
    Calls AcM 71 #[.map (some b)] w fun e w' =>∃n,e = .returned (.map (some n))∧w.heap.size≤n∧MapF St (pF F) Nm w' n G∧Ext w w' :=by
  obtain⟨es,c,hb,hI⟩:=h;have h0:=AnyW.maps_Clone Yf b es.toArray c w hb;change Calls _ 71 _ _ _ at h0;refine h0.mono fun e w' ⟨he,hw⟩=>⟨w.heap.size,he,AcP _,⟨es,c,by rw[hw];exact heap_alloc_new _ _,hI⟩,by rw[hw];exact(AdC _ _).alloc (AcP _) _⟩
theorem Te(m:Nat):AnyZ.SortsIn AcM JP AfY m:=
  ⟨fun blk off cap ss W hH hblk hsz=>callsIn_wide.2 (AnyM.slices_Sort_string Wu blk off cap ss W hH hblk hsz),fun p cap W=>callsIn_wide.2 (AnyM.slices_Sort_string_none Wu p cap W)⟩
theorem UV(w:AcK)(b:Nat):Calls AcM 59 #[.map (some b)] w fun e w' =>e = .returned (.func (.func 104) #[] #[.pointer (some ⟨w.heap.size,0,none⟩)])∧w' =w.alloc (.cells #[.map (some b)] 104):=by
  have h:=AnyZ.keys_in Wt AfY 5 trivial rfl (some b) w;exact callsIn_wide.1 h
theorem Rg{n:Nat}{l:B5}(h:DirOk n l){ss:List (List UInt8)}(hp:ss.Perm (l.map Adk)):ss.mergeSort (fun x y=>decide (x≤y))=l.map Adk:=by
  have h1:=mergeSort_of_perm hp;refine h1.trans (Ahw ?_);refine h.sort.map _ fun a b q=> ?_;rw[bytesLess_eq,decide_eq_true_eq]at q;simp only[decide_eq_true_eq];exact List.le_of_lt q
set_option maxHeartbeats 1000000 in
theorem Rh(w w2:AcK){F:Nat→Nat}{b n:Nat}{l:B5}(hw:w2=w.alloc (.cells #[.map (some b)] 104))(h:MapF St (pF F) Nm w b (Aw l))(hl:DirOk n l)(hlen:l.length<1099511627776):
    Calls AcM 58 #[.func (.func 104) #[] #[.pointer (some ⟨w.heap.size,0,none⟩)]] w2 fun e w' =>∃v,e = .returned v∧OG w2.heap.size 9 1 CX w' v (l.map Adk)∧Ext w2 w' :=by
  subst hw;obtain⟨D0,hown,hperm,hsize⟩:=h.owns (P:=AcM) (k:=9) (by kernel_rfl) (fun a q=>AcN q (by decide)) (keys:=l.map Adk) (AgM _ (fun a b q e=>by rw[e,FJ]at q;cases q) hl.sort) (fun s=>by
    constructor
    · intro q;obtain⟨y,hy⟩:=AgF.1 q;exact Adx.2 ⟨(s,y),Ej hy,rfl⟩
    · intro q;obtain⟨e,he,rfl⟩:=Adx.1 q;rw[Jq hl.sort he];rfl) (by rw[Ada];simp only[maxLen];omega)
  rw[Ada]at hsize;have hbl:=hown.lt;have hseq:SeqGives AfY 2 AcM 104 #[.pointer (some ⟨w.heap.size,0,none⟩)] encStr (fun ss=>ss.Perm (strKeys D0)) (Maps.size D0) (w.alloc (.cells #[.map (some b)] 104)):=
    AnyZ.keys_gives (ρ:=Mp) { Wt with } AfY _ trivial rfl (by omega) w.heap.size b _ D0 _ (by simp) (by simp) (by
      obtain⟨es,clock,hb,Ft,hs,hD⟩:=hown;exact⟨es,clock,(Below.heap_alloc _ _ b hbl).trans hb,Ft,hs,hD⟩)
  have hS:=AnyZ.sorted_in PS AfY 5 trivial trivial trivial trivial rfl (by omega) (Te _) (enters_of Tryz.func103 (by kernel_rfl) rfl) 104 #[.pointer (some ⟨w.heap.size,0,none⟩)] trivial (enters_of Tryz.func104 (by kernel_rfl) rfl) _ _ (by rw[hsize];simp only[maxLen];omega) (by rw[hsize];omega) _ hseq;refine(callsIn_wide.1 hS).mono fun e w' q=> ?_;obtain⟨v,ss,he,hp,hrow,-,hB⟩:=q;refine⟨v,he,⟨fun _ _=>rfl,?_⟩,hB⟩;have hs:=Rg hl (hp.trans hperm);rw[hs]at hrow;rw[N8];have hlen:ss.length=(l.map Adk).length:=(hp.trans hperm).length_eq;rw[hlen]at hrow;exact hrow
theorem W4(w0 w:AcK)(b:Ext w0 w)(H:Dk)(D:Ae)(hS:DkS w0.heap.size w H D)(g:Nat)(hg:H.g=g)(v:AcJ)(a:C0)(ha:ActOk D.files.length a)(hat:ActAt w H.F v a)(hn:D.acts.length<1099511627776):
  Calls AcM 94 #[PQ g 0,v] w fun e w' =>∃va',e = .returned (.tuple #[])∧DkT w0.heap.size w H D w' { H with va:=va' } (turnedD D a):=by
 subst hg;exact PP w0 w b H D hS v a ha hat hn
theorem UW{base:Nat}{w w' :AcK}{H H1:Dk}{D D1:Ae}(h:DkT base w H D w' H1 D1){v:AcJ}{b:List UInt8}(hr:RB w v b)(ho:b= []∨∀i,v.ownBlock=some i→¬BZ H D.files.length i):b= []∨∀i,v.ownBlock=some i→¬BZ H1 D1.files.length i:=by
 rcases ho with h0 | ho
 ·exact .inl h0
 ·by_cases hb:b= []
  ·exact .inl hb
  ·refine .inr fun i hi q=> ?_;rcases h.foot i q with q | q
   ·exact ho i hi q
   ·have:=RB.lt hr (AiN.2 hb) hi;omega
theorem Aar{base:Nat}{w w' :AcK}{H:Dk}{D:Ae}(h:DkS base w H D)(hE:Ext w w'):DkT base w H D w' H D:=⟨h.keep hE,rfl,Aaz hE,fun _ q=> .inl q⟩
theorem W5{D:Ae}{s b:List UInt8}{k:Nat}(h:Aw D.now s=some k):Cl D s b = { D with files:=D.files.set k ((D.files.getD k ([],0)).1++b,(D.files.getD k ([],0)).2) } :=by unfold Cl;rw[h];rfl
theorem W6{D:Ae}{s b:List UInt8}(h:Aw D.now s=none): { turnedD { D with files:=D.files++ [([],0)] } ⟨[],s,D.files.length⟩with files:=(turnedD { D with files:=D.files++ [([],0)] } ⟨[],s,D.files.length⟩).files.set D.files.length (((turnedD { D with files:=D.files++ [([],0)] } ⟨[],s,D.files.length⟩).files.getD D.files.length ([],0)).1++b,((turnedD { D with files:=D.files++ [([],0)] } ⟨[],s,D.files.length⟩).files.getD D.files.length ([],0)).2) } = Cl D s b:=by
 unfold Cl;rw[h];have h1:(turnedD { D with files:=D.files++ [([],0)] } ⟨[],s,D.files.length⟩).files=D.files++ [([],0)]:=rfl;rw[h1,GQ];have h2:(D.files++ [(([]:List UInt8),0)]).set D.files.length ([]++b,0)=D.files++ [(b,0)]:=by
  rw[Aeg _ _ (AcP _),Aez];rfl
 rw[h2];rfl
theorem GR{α:Type}{l:List α}{k:Nat}{d:α}(h:k<l.length):l.getD k d∈l:=by rw[AcO,AcS h];exact Ad9 h
theorem Oa:Plain AcM 94:=fun _ _=>by kernel_rfl
theorem Pg:AV AcM 133 1 1:=fun b o w=>by simp[go_sem]
theorem UX:Plain AcM 71:=fun _ _=>by kernel_rfl
theorem Ph:AV AcM 107 2 2:=fun b o w=>by simp[go_sem]
theorem Ri:(Tryz.prog.info? 104).map (·.size)=some 1:=by kernel_rfl
theorem Tf{d:Option Tmp}{ty:AcR}{pos:String}{af:Array AdL}{gd:Option (Nat × Bool)}(σ:AcW→AcJ)(w:AcK):(execOp σ ⟨d, .alloc 113,ty,pos,af,gd⟩).run AcM w = .ok (.value (PQ w.heap.size 0)) (w.alloc (.cells ([.pointer none]).toArray 113)):=by kernel_rfl
theorem Rl:(Tryz.prog.info? 113).map (·.size)=some 1:=by kernel_rfl
theorem YT(w0 w:AcK)(a:Ext w0 w)(H:Dk)(D:Ae)(hS:DkS w0.heap.size w H D)(bd bs k:Nat)(s:List UInt8)(hbd:w.heap[bd]? =some (.cells ([PQ H.g 0]).toArray 50 (0,0)))(h3:w.heap[bs]? =some (.cells ([St s]).toArray 9 (0,0)))(hk:k<D.files.length)(hs:Br s=true)(hn:D.acts.length<1099511627776):
  Calls AcM 93 #[PQ bd 0,PQ bs 0] w fun e w' =>∃H',e = .returned (.tuple #[])∧DkT w0.heap.size w H D w' H' (turnedD D ⟨s,[],k⟩):=by
 have hb:=hS.blk;have hgl0:=hS.lo.1;have hsz0:=a.size;refine gG (args:= [PQ bd 0,PQ bs 0]) Tryz.func93 rfl 5 rfl rfl ?_;have hE:=Ext.refl w;refine gS (Zu UQ rfl rfl (cellAt hbd rfl) (gS (Z8 (vs:= #[PQ bs 0]) (by simp only[Ads,Ado,AdA];exact congrArg Aec (M9 (vr (PQ bs 0) rfl))) (gS (Zx Oa rfl rfl ((PP w0 _ a H D (hS.keep hE) (.func (.func 95) #[] #[PQ bs 0]) ⟨s,[],k⟩ ⟨hk,fun q=>absurd rfl q,(Cp hs).2⟩ (.inr (.inr ⟨bs,rfl,h3,rfl⟩)) hn).mono ?_))))));rintro e w1 ⟨va2,rfl,hT⟩;refine⟨_,rfl,?_⟩;refine rt0 rfl ?_;exact⟨_,rfl,hT⟩

theorem YU(w0 w:AcK)(f:Ext w0 w)(H:Dk)(D:Ae)(hS:DkS w0.heap.size w H D)(bf bd k:Nat)(hbf:w.heap[bf]? =some (.cells ([PQ (H.F k) 0]).toArray 113 (0,0)))(hbd:w.heap[bd]? =some (.cells ([PQ H.g 0]).toArray 50 (0,0)))(hkl:k<D.files.length):
  Calls AcM 142 #[PQ bf 0,PQ bd 0] w fun e w' =>∃H',e = .returned (.tuple #[])∧DkT w0.heap.size w H D w' H' ({ D with files:=D.files.set k ((A0 D k).1,(A0 D k).1.length),kept:=D.now,acts:= [] }):=by
 have hb:=hS.blk;have hgl0:=hS.lo.1;have hsz0:=f.size;have h:=hS;have hbd0:=hbd;have af:bf≠H.F k:=CC (B6 hbf) (hS.tF hkl) (by decide);have ag:bd≠H.F k:=CC (B6 hbd) (hS.tF hkl) (by decide);have ah:H.g≠H.F k:=CC hS.tg (hS.tF hkl) (by decide);have hfa:=h.files.at_ k hkl;have hfb:=hfa.blk;have hfl:=(bl hfb);have hfo:=hfa.row;have hflo:=hfa.lo;have hfv:(H.V k).ownBlock≠some (H.F k):=fun q=>CC (h.tF hkl) (h.tV hkl q) (by decide) rfl;have hfr:RB w (H.V k) (D.files.getD k ([],0)).1:=ZP hfo;have hC:Chg (fun i=>i=(H.F k)) w w:=Chg.refl _ _;refine gG (args:= [PQ bf 0,PQ bd 0]) Tryz.func142 rfl 21 rfl rfl ?_;have hE:=Ext.refl w;refine CD [0,1,2,3,4,5,6,7,8] [8] [] fun w2 j=> ?_;have hC:Chg (fun i=>i=(H.F k)) w w2:=(hC.keep j);have hbf:=eb j hbf;have hfb:=eb j hfb;have hE:=hE.trans j;refine ys (Zu Mo rfl rfl (cellAt hbf rfl) zz) (ys (Zu Mo rfl rfl (cellAt hbf rfl) zz) (ys (Yk.nilCheck rfl zz) (ys (Yk.fieldAt Pe rfl zz) (ys (Zu Gj rfl rfl (cellAt hfb rfl) zz) (ys (ZF Gj (ZB (hfr.keep hE) rfl) zz) (ys (Yk.nilCheck rfl zz) (ys (Yk.fieldAt Pg rfl zz) (yC (ZK (i:=1) (v:=NI (((D.files.getD k ([],0)).1:List UInt8).length)) rfl rfl hfb (Ac2 rfl) NC rfl rfl fun b p r ai=> ?_)))))))));have hC:Chg (fun i=>i=(H.F k)) w b:=Chg.set hC r (.inl rfl);clear hE;clear hfb;have hfb:=p;clear p;have aj:=bl hfb;have hT1:=h.setFileT (x:=((D.files.getD k ([],0)).1,(D.files.getD k ([],0)).1.length)) hkl (AcP _) (hC.mono fun i _ e=> .inl e) ⟨hfb,C9 hC hfo (fun i e q=>hfv (e.trans (congrArg some q))),hflo⟩ (fun i e=> .inl e);have hbd1:=DkT.box hT1 h hbd0 (by decide) (by decide) (by decide) (by decide);obtain⟨H1,s⟩:∃x,x=({ H with V:=B0 H.V k (H.V k) } :Dk):=⟨_,rfl⟩;obtain⟨D1,hD1⟩:∃x,x=({ D with files:=D.files.set k ((D.files.getD k ([],0)).1,(D.files.getD k ([],0)).1.length) } :Ae):=⟨_,rfl⟩;rw[←s,←hD1]at hT1;have y:H1.g=H.g:=by rw[s]
 have c:=hT1.st;have f:=f.trans j;have f:=Ab f r (AcN (AcP _) (by omega));have z:=f;have a:=c.blk;have hgl1:=(bl a);rw[←y]at hbd1;have hm1:=c.now;have ak:bd≠H1.g:=CC (B6 hbd1) c.tg (by decide);have hgm:H1.g≠H1.mn:=CC c.tg c.now.tag (by decide);have hmn1:=c.now.lt;have hC2:Chg (fun i=>i=H1.g) b b:=Chg.refl _ _;have hg1l:=c.lo.1;refine D6 [0,1,2,3,4,5,6,7,8,9,10,11,12] [6,9,12] [] [0,1] fun w9 l=> ?_;have hC2:Chg (fun i=>i=H1.g) b w9:=(hC2.keep l);have hm1:=hm1.keep l;have a:=eb l a;have hbd1:=eb l hbd1;refine Za hbd1 ?_;refine yf (fun _ ⟨hbd1,_⟩=>Zu UQ rfl rfl (cellAt hbd1 rfl) zz) (yf (fun _ ⟨hbd1,_⟩=>Zu UQ rfl rfl (cellAt hbd1 rfl) zz) (ys (Zu UQ rfl rfl (cellAt hbd1 rfl) zz) (ys (Yk.nilCheck rfl zz) (ys (Yk.fieldAt Pd rfl zz) (ys (Zu Mn rfl rfl (cellAt a rfl) zz) (yI (ZA UX rfl ((Td _ hm1).mono ?_))))))));rintro e ab ⟨nm,rfl,hnl,hmm,m⟩;refine⟨_,rfl,?_⟩;have hnl1:b.heap.size≤nm:=AcN hC2.size hnl;have hC2:Chg (fun i=>i=H1.g) b ab:=(hC2.keep m);have hgn:H1.g≠nm:=by omega
 have a:=eb m a;have hbd1:=eb m hbd1;refine⟨⟨hbd1,trivial⟩,?_⟩;refine ys (Yk.nilCheck rfl zz) (ys (Yk.fieldAt Ph rfl zz) (yI (ZK (i:=2) (v:= .map (some nm)) rfl rfl a (Ac2 rfl) Ri rfl rfl fun ac t n al=> ?_)));have hm1:=hm1.keep m;have hm1:=MapF.other hm1 n (Ak (by omega));have hC2:Chg (fun i=>i=H1.g) b ac:=Chg.set hC2 n (.inl rfl);have hmm:=MapF.other hmm n (Ak (by omega));clear a;have a:=t;clear t;have am:=bl a;have hbd1:=kb n hbd1 (by omega);refine⟨⟨hbd1,trivial⟩,?_⟩;refine ys (Yk.nilCheck rfl zz) (ys (Yk.fieldAt JO rfl zz) (yD rfl (ZK (i:=3) (v:=(AcU none 0 0)) rfl rfl a (Ac2 rfl) Re rfl rfl fun ad u o an=> ?_)));have hm1:=MapF.other hm1 o (Ak (by omega));have hC2:Chg (fun i=>i=H1.g) b ad:=Chg.set hC2 o (.inl rfl);have hmm:=MapF.other hmm o (Ak (by omega));clear a;have a:=u;clear u;have ao:=bl a;refine rt0 rfl ?_;have ae:=a;have hT2:=c.syncedT hC2 hnl1 hmm z.size ae;exact⟨_,rfl,by have:=hT1.trans hT2;rw[hD1]at this;exact this⟩

theorem YV(w0 w:AcK)(c:Ext w0 w)(H:Dk)(D:Ae)(hS:DkS w0.heap.size w H D)(bd bn bb:Nat)(s b:List UInt8)(vb:AcJ)(hbd:w.heap[bd]? =some (.cells ([PQ H.g 0]).toArray 50 (0,0)))(hbn:w.heap[bn]? =some (.cells ([St s]).toArray 9 (0,0)))(hbb:w.heap[bb]? =some (.cells ([vb]).toArray 27 (0,0)))(hrb:RB w vb b)(hoff:b= []∨∀i,vb.ownBlock=some i→¬BZ H D.files.length i)(hs:Br s=true)(hbl:b.length<1099511627776)(hfs:∀x∈D.files,x.1.length<1099511627776)(hn:D.acts.length<1099511627776)(k:Nat)(hlk:Aw D.now s=some k):
  Calls AcM 140 #[PQ bd 0,PQ bn 0,PQ bb 0] w fun e w' =>∃H',e = .returned (.tuple #[])∧DkT w0.heap.size w H D w' H' (Cl D s b):=by
 have hb:=hS.blk;have hgl0:=hS.lo.1;have hsz0:=c.size;have aa:=hS;have hrb0:=hrb;have ab:=c;have hT12:=DkT.refl hS;have hkl:=(hS.ok.now.look hlk).1;have hlb:=hfs _ (GR (d:=([],0)) hkl);refine gG (args:= [PQ bd 0,PQ bn 0,PQ bb 0]) Tryz.func140 rfl 32 rfl rfl ?_;have hE:=Ext.refl w;refine CD [0,1,2,3,4,5,6] [] [] fun u h=> ?_;have hT12:DkT w0.heap.size w H D u H D:=(hT12.keep h);have hb:=eb h hb;have hbd:=eb h hbd;have hbn:=eb h hbn;refine ys (Zu UQ rfl rfl (cellAt hbd rfl) zz) (ys (Yk.nilCheck rfl zz) (ys (Yk.fieldAt Pd rfl zz) (ys (Zu Mn rfl rfl (cellAt hb rfl) zz) (ys (Zu PO rfl rfl (cellAt hbn rfl) zz) (ys (Aaq Fp Ew (fun _ _=>C5) Mn Js rfl rfl hT12.st.now (Cp hs).2 hlk zz) (ys (ZR Mo rfl zz) (kB (rfl) (cF rfl (CD [0,1,2,3,4,5,6] [] [] fun f j=> ?_)))))))));have hT12:DkT w0.heap.size w H D f H D:=(hT12.keep j);have hb:=eb j hb;have hbd:=eb j hbd;have hbn:=eb j hbn;refine ys (Zu UQ rfl rfl (cellAt hbd rfl) zz) (ys (Yk.nilCheck rfl zz) (ys (Yk.fieldAt Pd rfl zz) (ys (Zu Mn rfl rfl (cellAt hb rfl) zz) (ys (Zu PO rfl rfl (cellAt hbn rfl) zz) (ys (Aaq Fp Ew (fun _ _=>C5) Mn Js rfl rfl hT12.st.now (Cp hs).2 hlk zz) ?_)))));have hTc:=hT12;have hSc:=hTc.st;have hfa:=hSc.files.at_ k hkl;have hfb:=hfa.blk;have hfl:=(bl hfb);have hfo:=hfa.row;have hflo:=hfa.lo;have hfv:(H.V k).ownBlock≠some (H.F k):=fun q=>CC (hSc.tF hkl) (hSc.tV hkl q) (by decide) rfl;have hC:Chg (fun i=>i=(H.F k)∨(H.V k).ownBlock=some i) f f:=Chg.refl _ _;have hsy:=hSc.ok.syn _ (GR (d:=([],0)) hkl);have hZ1:=h.trans j;have hbb:=eb hZ1 hbb;have hvb:AcT (H.V k)≠some bb:=fun q=>CC (B6 hbb) (hSc.tV hkl q) (by decide) rfl;have ac:bb≠(H.F k):=CC (B6 hbb) (hSc.tF hkl) (by decide);refine CD [0,1,2,3,4,5,6,7,8,9] [6,9] [] fun o l=> ?_;have hC:Chg (fun i=>i=(H.F k)∨(H.V k).ownBlock=some i) f o:=(hC.keep l);have hZ2:=hZ1.trans l;have hE:=hE.trans hZ2;have c:=c.trans hZ2;have hbb:=eb l hbb;have hfb:=eb l hfb;have hfo:=Stab.own _ _ _ _ _ _ _ _ hfo l;refine ys (Yk.nilCheck rfl zz) (ys (Yk.fieldAt Pe rfl zz) (ys (Zu Gj rfl rfl (cellAt hfb rfl) zz) (ys (Zu Gj rfl rfl (cellAt hbb rfl) zz) (yC (ZW _ _ w0.heap.size (.int .u8 0) Gj Nc rfl Gj ((D.files.getD k ([],0)).1) (b) (C3 hfo (vr (H.V k) rfl)) (ZB (hrb.keep hE) (vr vb rfl)) (by omega) c.size fun n p m a=> ?_)))));have a:Grew o p (H.V k) n:=a;have y:AcT n≠some (H.F k):=An a hfv (bl hfb);have hbb:=Ao hbb a hvb;clear hE;have c:=Aq c a hfo (AcP _);have hfb:=Ao hfb a hfv;have hvf:=fun i e=>(a.fresh i e).imp id (fun q=>AcN hC.size q);have hC:Chg (fun i=>i=(H.F k)∨(H.V k).ownBlock=some i) f p:=Chg.grew hC a (fun i e=> .inl (.inr e));clear hfo;refine ys (Yk.nilCheck rfl zz) (ys (Yk.fieldAt Pe rfl zz) (yC (ZK (i:=0) (v:=n) rfl rfl hfb (Ac2 rfl) KN (Ce m).1 (Ce m).2 fun z r t ad=> ?_)));have hC:Chg (fun i=>i=(H.F k)∨(H.V k).ownBlock=some i) f z:=Chg.set hC t (.inl (.inl rfl));clear hfb;have hfb:=r;clear r;have ae:=bl hfb;refine rt0 rfl ?_;have m:=BM m t y;have hTf:=hSc.setFileT (x:=((D.files.getD k ([],0)).1++b,(D.files.getD k ([],0)).2)) hkl (by simp only[AcQ];omega) hC ⟨hfb,(show Ahv _ _ _ _ _ _ _ from by simpa using m),hflo⟩ hvf;exact⟨_,rfl,by rw[W5 hlk];exact hTc.trans hTf⟩

theorem YW(w0 w:AcK)(a:Ext w0 w)(H:Dk)(D:Ae)(hS:DkS w0.heap.size w H D)(bd bn bb:Nat)(s b:List UInt8)(vb:AcJ)(hbd:w.heap[bd]? =some (.cells ([PQ H.g 0]).toArray 50 (0,0)))(hbn:w.heap[bn]? =some (.cells ([St s]).toArray 9 (0,0)))(hbb:w.heap[bb]? =some (.cells ([vb]).toArray 27 (0,0)))(hrb:RB w vb b)(hoff:b= []∨∀i,vb.ownBlock=some i→¬BZ H D.files.length i)(hs:Br s=true)(hbl:b.length<1099511627776)(hfs:∀x∈D.files,x.1.length<1099511627776)(hn:D.acts.length<1099511627776)(hlk:Aw D.now s=none):
  Calls AcM 140 #[PQ bd 0,PQ bn 0,PQ bb 0] w fun e w' =>∃H',e = .returned (.tuple #[])∧DkT w0.heap.size w H D w' H' (Cl D s b):=by
 have hb:=hS.blk;have hgl0:=hS.lo.1;have hsz0:=a.size;have ap:=hS;have hrb0:=hrb;have aq:=a;have hT12:=DkT.refl hS;refine gG (args:= [PQ bd 0,PQ bn 0,PQ bb 0]) Tryz.func140 rfl 32 rfl rfl ?_;have hE:=Ext.refl w;refine CD [0,1,2,3,4,5,6] [] [] fun w3 j=> ?_;have hT12:DkT w0.heap.size w H D w3 H D:=(hT12.keep j);have hb:=eb j hb;have hbd:=eb j hbd;have hbn:=eb j hbn;refine ys (Zu UQ rfl rfl (cellAt hbd rfl) zz) (ys (Yk.nilCheck rfl zz) (ys (Yk.fieldAt Pd rfl zz) (ys (Zu Mn rfl rfl (cellAt hb rfl) zz) (ys (Zu PO rfl rfl (cellAt hbn rfl) zz) (ys (AaT Fp Ew (fun _ _=>C5) Mn Js rfl rfl hT12.st.now (Cp hs).2 hlk zz) (ys (ZR Mo rfl zz) (kB (rfl) (cT rfl (gS (Yk.run (v:= .agg #[.slice none 0 0,NI 0]) (by kernel_rfl) ?_))))))))));have hE:=hE.trans j;have hzb:=hE.size;refine gS (Yk.box (cs:=([.slice none 0 0,NI 0]:List AcJ).toArray) (show _=(.agg ([.slice none 0 0,NI 0]:List AcJ).toArray:AcJ)from rfl) fun m w7 a0 ag aa a1=> ?_);have c:=Ext.refl w3;have a:=a.trans j;have a2:=hE.size;have a3:=a.size;have ab:=ag;clear ag;have a4:m<w7.heap.size:=by omega
 refine gS (Yk.alloc Tf fun n ar a5 ah y a6=> ?_);have o:=Ext.refl w7;have hE:=hE.trans aa;have a:=a.trans aa;have c:=c.trans aa;have au:=hE.size;have av:=a.size;have p:=ah;clear ah;have a7:n<ar.heap.size:=by omega
 refine gS (ZK (i:=0) (v:=PQ m 0) rfl rfl p (Ac2 rfl) Rl rfl rfl fun a8 ai z a9=> ?_);clear p;have p:=ai;clear ai;have ba:=bl p;have aw:=c.size;have c:=c.trans y;have c:=Ab c z (AcN aw (by omega));have hbd:=eb c hbd;refine gS (Zu UQ rfl rfl (cellAt hbd rfl) (gS (Z8 (vs:= #[PQ n 0,PQ bn 0]) (by simp only[Ads,Ado,AdA];exact congrArg Aec (FA (vr (PQ n 0) rfl) (vr (PQ bn 0) rfl))) ?_)));have o:=o.trans y;have o:=Ab o z (AcN (AcP _) (by omega));have ab:=eb o ab;have hE:=hE.trans y;have hE:=Ab hE z (AcN au (by omega));have hT1:=ap.newFileT (f:=m) hE (by omega) ab aq.size;obtain⟨H1,ac⟩:∃x,x=({ H with F:=B0 H.F D.files.length m,V:=B0 H.V D.files.length (.slice none 0 0) } :Dk):=⟨_,rfl⟩;obtain⟨D1,hD1⟩:∃x,x=({ D with files:=D.files++ [([],0)] } :Ae):=⟨_,rfl⟩;rw[←ac,←hD1]at hT1;have r:=hT1.st;have aj:H1.g=H.g:=by rw[ac]
 have hF1:H1.F D.files.length=m:=by rw[ac];exact Db _ _ _
 have hD1l:D1.files.length=D.files.length+1:=by rw[hD1];simp
 have hsl:=(Cp hs).1;have hbd1:=hbd;have hbn:=eb c hbn;have hbn1:=hbn;have hbb:=eb (j.trans c) hbb;have hbb1:=hbb;have hrb1:=(hrb.keep hE);have a:=a.trans y;have a:=Ab a z (AcN av (by omega));refine gS (Zx Oa rfl rfl ((W4 w0 _ a H1 D1 r H.g aj (.func (.func 141) #[] #[PQ n 0,PQ bn 0]) ⟨[],s,D.files.length⟩ ⟨by rw[hD1l];exact AgV _,fun _=>hs,Adm _⟩ (.inl ⟨n,bn,rfl,by rw[hF1];exact p,hbn,rfl,show s.length≠0 from by omega⟩) (by rw[hD1];exact hn)).mono ?_));rintro e bc ⟨va2,rfl,hT2⟩;refine⟨_,rfl,?_⟩;have a:=Chg.ext a hT2.chg (fun i q=>(r.foot q).2.2);have hT12:=hT1.trans hT2;obtain⟨H2,ak⟩:∃x,x=({ H1 with va:=va2 } :Dk):=⟨_,rfl⟩;obtain⟨D2,hD2⟩:∃x,x=turnedD D1 ⟨[],s,D.files.length⟩:=⟨_,rfl⟩;rw[←ak,←hD2]at hT12;have ax:H2.g=H.g:=by rw[ak];exact aj
 have hlk2:Aw D2.now s=some D.files.length:=by rw[hD2];exact(look_turn _ _ _).trans ((if_neg (show s.length≠0 by omega)).trans (if_pos rfl))
 have hkl:=(hT12.st.ok.now.look hlk2).1;have hlb:(D2.files.getD D.files.length ([],0)).1.length<1099511627776:=by rw[hD2,hD1];show((D.files++ [(([]:List UInt8),0)]).getD D.files.length ([],0)).1.length<_;rw[GQ];decide
 have hoff1:=UW hT1 hrb0 hoff;have hbd:=DkT.box hT2 r hbd1 (by decide) (by decide) (by decide) (by decide);have hbn:=DkT.box hT2 r hbn1 (by decide) (by decide) (by decide) (by decide);have hbb:=DkT.box hT2 r hbb1 (by decide) (by decide) (by decide) (by decide);have hrb:=hrb1.chg hT2.chg hoff1;have hb:=eb c hb;have hb:=hT12.st.blk;rw[ax]at hb;have hgl2:=(bl hb);refine CD [0,1,2,3,4,5,6] [] [] fun k l=> ?_;have hT12:DkT w0.heap.size w H D k H2 D2:=(hT12.keep l);have hb:=eb l hb;have hbd:=eb l hbd;have hbn:=eb l hbn;refine ys (Zu UQ rfl rfl (cellAt hbd rfl) zz) (ys (Yk.nilCheck rfl zz) (ys (Yk.fieldAt Pd rfl zz) (ys (Zu Mn rfl rfl (cellAt hb rfl) zz) (ys (Zu PO rfl rfl (cellAt hbn rfl) zz) (ys (Aaq Fp Ew (fun _ _=>C5) Mn Js rfl rfl hT12.st.now (Cp hs).2 hlk2 zz) ?_)))));have hTc:=hT12;have hSc:=hTc.st;have hfa:=hSc.files.at_ (D.files.length) hkl;have hfb:=hfa.blk;have hfl:=(bl hfb);have hfo:=hfa.row;have hflo:=hfa.lo;have hfv:(H2.V (D.files.length)).ownBlock≠some (H2.F (D.files.length)):=fun q=>CC (hSc.tF hkl) (hSc.tV hkl q) (by decide) rfl;have hC:Chg (fun i=>i=(H2.F (D.files.length))∨(H2.V (D.files.length)).ownBlock=some i) k k:=Chg.refl _ _;have hsy:=hSc.ok.syn _ (GR (d:=([],0)) hkl);have hbb:=eb l hbb;have hvb:AcT (H2.V (D.files.length))≠some bb:=fun q=>CC (B6 hbb) (hSc.tV hkl q) (by decide) rfl;have be:bb≠(H2.F (D.files.length)):=CC (B6 hbb) (hSc.tF hkl) (by decide);refine CD [0,1,2,3,4,5,6,7,8,9] [6,9] [] fun al t=> ?_;have hC:Chg (fun i=>i=(H2.F (D.files.length))∨(H2.V (D.files.length)).ownBlock=some i) k al:=(hC.keep t);have hZ1:=l.trans t;have a:=a.trans hZ1;have hrb:=hrb.keep hZ1;have hbb:=eb t hbb;have hfb:=eb t hfb;have hfo:=Stab.own _ _ _ _ _ _ _ _ hfo t;refine ys (Yk.nilCheck rfl zz) (ys (Yk.fieldAt Pe rfl zz) (ys (Zu Gj rfl rfl (cellAt hfb rfl) zz) (ys (Zu Gj rfl rfl (cellAt hbb rfl) zz) (yC (ZW _ _ w0.heap.size (.int .u8 0) Gj Nc rfl Gj ((D2.files.getD (D.files.length) ([],0)).1) (b) (C3 hfo (vr (H2.V (D.files.length)) rfl)) (ZB hrb (vr vb rfl)) (by omega) a.size fun ad am u h=> ?_)))));have h:Grew al am (H2.V (D.files.length)) ad:=h;have ay:AcT ad≠some (H2.F (D.files.length)):=An h hfv (bl hfb);have a:=Aq a h hfo (AcP _);have hbb:=Ao hbb h hvb;clear hrb;have hfb:=Ao hfb h hfv;have hvf:=fun i e=>(h.fresh i e).imp id (fun q=>AcN hC.size q);have hC:Chg (fun i=>i=(H2.F (D.files.length))∨(H2.V (D.files.length)).ownBlock=some i) k am:=Chg.grew hC h (fun i e=> .inl (.inr e));clear hfo;refine ys (Yk.nilCheck rfl zz) (ys (Yk.fieldAt Pe rfl zz) (yC (ZK (i:=0) (v:=ad) rfl rfl hfb (Ac2 rfl) KN (Ce u).1 (Ce u).2 fun az an ao bf=> ?_)));have hC:Chg (fun i=>i=(H2.F (D.files.length))∨(H2.V (D.files.length)).ownBlock=some i) k az:=Chg.set hC ao (.inl (.inl rfl));clear hfb;have hfb:=an;clear an;have bg:=bl hfb;refine rt0 rfl ?_;have u:=BM u ao ay;have hTf:=hSc.setFileT (x:=((D2.files.getD (D.files.length) ([],0)).1++b,(D2.files.getD (D.files.length) ([],0)).2)) hkl (by simp only[AcQ];omega) hC ⟨hfb,(show Ahv _ _ _ _ _ _ _ from by simpa using u),hflo⟩ hvf;exact⟨_,rfl,by rw[←W6 hlk];have:=hTc.trans hTf;rw[hD2,hD1]at this;exact this⟩
theorem AbE{P:Adg}{K:AcJ→AcK→Prop}{ρ:Ad}{w:AcK}{d:Option Tmp}{ty:AcR}{pos:String}{af:Array AdL}{gd:Option (Nat × Bool)}{f:AeB}{c:AcW}{v:AcJ}{caps:Array AcJ}{R:AcK→Prop}{at_:Array AcR}(hp:Plain P f)(hc:Aa ρ c=v)(hve:v = .func (.func f) #[] caps) 
  (h:Calls P f caps w fun e w' =>e = .returned (.tuple #[])∧R w') (hk:∀w',R w' →K (.tuple #[]) w'):Yk P K ((execOp (Aa ρ) ⟨d, .call ⟨.value c,#[],at_⟩,ty,pos,af,gd⟩).run P w):=
 Aav hp (hc.trans hve) _ (by simp) (h.mono fun e w' q=>⟨_,q.1,hk w' q.2⟩)
theorem CO:AV AcM 107 5 5:=fun b o w=>by simp[go_sem]
theorem UY:(Tryz.prog.info? 4).map (·.size)=some 1:=by kernel_rfl
theorem Ob(w0 w:AcK)(l:Ext w0 w)(H:Dk)(D:Ae)(hS:DkS w0.heap.size w H D)(hdn:D.down=false)(har:D.arm<9223372036854775808)(v:AcJ)(f:AeB)(caps:Array AcJ)(hpl:Plain AcM f)(hve:v = .func (.func f) #[] caps)(g:Ae→Ae) 
  (hc:∀w1 D1,DkT w0.heap.size w H D w1 H D1→D1=(C1 D).1→Calls AcM f caps w1 fun e w' =>e = .returned (.tuple #[])∧∃H',DkT w0.heap.size w1 H D1 w' H' (g D1)):
  Calls AcM 92 #[PQ H.g 0,v] w fun e w' =>∃H',e = .returned (NI (D8 D g).2)∧DkT w0.heap.size w H D w' H' (D8 D g).1:=by
 have hb:=hS.blk;have hgl:=(bl hb);have hgl0:=hS.lo.1;have hsz0:=l.size;have c:=hS;have hgr:=Aef w (some H.g);refine gG (args:= [PQ H.g 0,v]) Tryz.func92 rfl 27 rfl rfl ?_;have hE:=Ext.refl w;by_cases ha0:D.arm=0
 ·have hA:C1 D=(D,false):=if_pos ha0;have hV:D8 D g=(g D,0):=by unfold D8;rw[hA];rfl
  refine gS (Yk.nilCheck rfl (gS (Yk.fieldAt CO rfl (gS (Zu Uo rfl rfl (cellAt hb rfl) (gS (Zv (a:=(D.arm:Nat)) (b:=(0:Nat)) rfl rfl (Bh _ _ _ _) (kF (by omega) (cF rfl ?_)))))))));have hT1:=Aar c hE;have hD1:D=(C1 D).1:=by rw[hA]
  refine gS (AbE hpl rfl hve (hc _ _ hT1 hD1) fun s hR6=> ?_);obtain⟨H3,hT2⟩:=hR6;have hT3:=hT1.trans hT2;refine Bb rfl (vr (NI 0) rfl) ?_;exact⟨H3,by rw[hV],by rw[hV];exact hT3⟩
 have hA:C1 D=({ D with arm:=D.arm-1,down:=decide (D.arm-1=0) },decide (D.arm-1=0)):=if_neg ha0;by_cases ha1:D.arm-1=0
 ·rw[decide_eq_true ha1]at hA;have hV:D8 D g=({ D with arm:=D.arm-1,down:=true },9):=by unfold D8;rw[hA];rfl
  refine gS (Yk.nilCheck rfl (gS (Yk.fieldAt CO rfl (gS (Zu Uo rfl rfl (cellAt hb rfl) (gS (Zv (a:=(D.arm:Nat)) (b:=(0:Nat)) rfl rfl (Bh _ _ _ _) (kT (by omega) (cT rfl (gS (Yk.nilCheck rfl (gS (Yk.fieldAt CO rfl (gS (Zu Uo rfl rfl (cellAt hb rfl) (gS (Zw (xv:=NI D.arm) (yv:=NI 1) rfl rfl rfl (BN _ _ _ (by omega) (by omega)) (gS (Yk.nilCheck rfl (gS (Yk.fieldAt CO rfl (gS (ZK (i:=5) (v:=NI ((D.arm)-(1))) rfl rfl hb (Ac2 rfl) NC rfl rfl fun m h n t=> ?_)))))))))))))))))))))));have hgr:w.grownBy m (some H.g):=Am hgr n (fun _ e=> .inl e);clear hE;clear hb;have hb:=h;clear h;have u:=bl hb;refine gS (Yk.nilCheck rfl (gS (Yk.fieldAt CO rfl (gS (Zu Uo rfl rfl (cellAt hb rfl) (gS (Zv (a:=((D.arm)-(1):Nat)) (b:=(0:Nat)) rfl rfl (AF _ _ _ _) (kT (by omega) (cT rfl (gS (Yk.nilCheck rfl (gS (Yk.fieldAt Pc rfl (gS (ZK (i:=6) (v:= .bool (true)) rfl rfl hb (Ac2 rfl) UY rfl rfl fun o j p x=> ?_)))))))))))))));have hgr:w.grownBy o (some H.g):=Am hgr p (fun _ e=> .inl e);clear hb;have hb:=j;clear j;have y:=bl hb;refine Bb rfl (vr (NI 9) rfl) ?_;exact⟨H,by rw[hV],by rw[hV];exact c.setBlkT hgr hb⟩
 rw[decide_eq_false ha1]at hA;have hV:D8 D g=(g { D with arm:=D.arm-1,down:=false },0):=by unfold D8;rw[hA];rfl
 refine gS (Yk.nilCheck rfl (gS (Yk.fieldAt CO rfl (gS (Zu Uo rfl rfl (cellAt hb rfl) (gS (Zv (a:=(D.arm:Nat)) (b:=(0:Nat)) rfl rfl (Bh _ _ _ _) (kT (by omega) (cT rfl (gS (Yk.nilCheck rfl (gS (Yk.fieldAt CO rfl (gS (Zu Uo rfl rfl (cellAt hb rfl) (gS (Zw (xv:=NI D.arm) (yv:=NI 1) rfl rfl rfl (BN _ _ _ (by omega) (by omega)) (gS (Yk.nilCheck rfl (gS (Yk.fieldAt CO rfl (gS (ZK (i:=5) (v:=NI ((D.arm)-(1))) rfl rfl hb (Ac2 rfl) NC rfl rfl fun q k r z=> ?_)))))))))))))))))))))));have hgr:w.grownBy q (some H.g):=Am hgr r (fun _ e=> .inl e);clear hE;clear hb;have hb:=k;clear k;have aa:=bl hb;refine gS (Yk.nilCheck rfl (gS (Yk.fieldAt CO rfl (gS (Zu Uo rfl rfl (cellAt hb rfl) (gS (Zv (a:=((D.arm)-(1):Nat)) (b:=(0:Nat)) rfl rfl (AF _ _ _ _) (kF (by omega) (cF rfl ?_)))))))));have hT1:=c.setBlkT hgr hb;have hD1:({ D with quota:=D.quota,refused:=D.refused,arm:=D.arm-1,down:=D.down } :Ae)=(C1 D).1:=by rw[hA,hdn]
 refine gS (AbE hpl rfl hve (hc _ _ hT1 hD1) fun ab hR35=> ?_);obtain⟨H3,hT2⟩:=hR35;have hT3:=hT1.trans hT2;refine Bb rfl (vr (NI 0) rfl) ?_;exact⟨H3,by rw[hV],by rw[hV];rw[←hdn];exact hT3⟩
theorem Oc(t:AcR)(a b:Int)(h: -9223372036854775808≤a+b∧a+b≤9223372036854775807):Adq .add t (.int .i64 a) (.int .i64 b)=pure (.int .i64 (a+b)):=by
  show pure (AeJ .i64 (IntKind.i64.wrap (a+b)))=_;rw[IntWalk.i64_in _ h]
theorem Od(t:AcR)(a b:Int)(h: -9223372036854775808≤a-b∧a-b≤9223372036854775807):Adq .sub t (.int .i64 a) (.int .i64 b)=pure (.int .i64 (a-b)):=by
  show pure (AeJ .i64 (IntKind.i64.wrap (a-b)))=_;rw[IntWalk.i64_in _ h]
structure Df (D : Ae) : Prop where
  quota:D.quota≤1073741824
  used:usedD D<4611686018427387904
  refused:D.refused<4611686018427387904
  arm:D.arm<9223372036854775808
  acts:D.acts.length<1099511627776
  now:D.now.length<1099511627776
  kept:D.kept.length+D.acts.length<1099511627776
  files:∀x∈D.files,x.1.length<1099511627776
theorem UZ(D:Ae)(s t:List UInt8):readyL D [t,s]=CH D s t:=by
  unfold readyL CH;by_cases h:D.down=true
  · rw[if_pos h,if_pos h]
  · rw[if_neg h,if_neg h];simp only[Ahs,AiZ,Bool.and_true,AdT];by_cases h1:Br s=true <;> by_cases h2:Br t=true <;> simp[h1,h2]
theorem Gw(D:Ae)(s:List UInt8):readyL D [s]=CH D s s:=by
  rw[←UZ];unfold readyL;simp
theorem W7(w0 w:AcK)(c:Ext w0 w)(H:Dk)(D:Ae)(hS:DkS w0.heap.size w H D)(bd bn bb:Nat)(s b:List UInt8)(vb:AcJ)(hbd:w.heap[bd]? =some (.cells ([PQ H.g 0]).toArray 50 (0,0)))(hbn:w.heap[bn]? =some (.cells ([St s]).toArray 9 (0,0)))(hbb:w.heap[bb]? =some (.cells ([vb]).toArray 27 (0,0))) 
    (hrb:RB w vb b) (hoff:b= []∨∀i,vb.ownBlock=some i→¬BZ H D.files.length i) (hs:Br s=true) (hbl:b.length<1099511627776) (hfs:∀x∈D.files,x.1.length<1099511627776) (hn:D.acts.length<1099511627776):
    ∀w1 D1,DkT w0.heap.size w H D w1 H D1→D1=(C1 D).1→Calls AcM 140 #[PQ bd 0,PQ bn 0,PQ bb 0] w1 fun e w' =>e = .returned (.tuple #[])∧∃H',DkT w0.heap.size w1 H D1 w' H' (Cl D1 s b):=by
  intro w1 D1 hT hD1;have hf:=HY D;rw[←hD1]at hf;have a:Ext w0 w1:=Chg.ext c hT.chg (fun i q=>(hS.foot q).2.2);have h1:=DkT.box hT hS hbd (by decide) (by decide) (by decide) (by decide);have h2:=DkT.box hT hS hbn (by decide) (by decide) (by decide) (by decide);have h3:=DkT.box hT hS hbb (by decide) (by decide) (by decide) (by decide);have h4:=hrb.chg hT.chg hoff;have h5:b= []∨∀i,vb.ownBlock=some i→¬BZ H D1.files.length i:=by rw[hf.1];exact hoff
  cases hlk:Aw D1.now s with
  | none=>exact(YW w0 w1 a H D1 hT.st bd bn bb s b vb h1 h2 h3 h4 h5 hs hbl (by rw[hf.1];exact hfs) (by rw[hf.2.2.2.1];exact hn) hlk).mono fun e w' ⟨H',q1,q2⟩=>⟨q1,H',q2⟩
  | some k=>exact(YV w0 w1 a H D1 hT.st bd bn bb s b vb h1 h2 h3 h4 h5 hs hbl (by rw[hf.1];exact hfs) (by rw[hf.2.2.2.1];exact hn) k hlk).mono fun e w' ⟨H',q1,q2⟩=>⟨q1,H',q2⟩
theorem Hr(D:Ae)(s:List UInt8):FO D s s=EC D [] s:=by
  unfold FO EC;rw[AdS,Gw] <;>
  (by_cases h:CH D s s≠0
   · rw[if_pos h,if_pos h]
   · rw[if_neg h,if_neg h] <;> (cases Aw D.now s <;> rfl))
theorem LH{D:Ae}{ms:List (List UInt8)}{s:List UInt8}{c:Nat}(h:EC D ms s = .error c):c≠0:=by
  unfold EC at h;split at h
  · rename_i hn;cases h;exact hn
  · split at h
    · cases h
    · cases h;decide
theorem LI{D:Ae}{ms:List (List UInt8)}{s:List UInt8}{k:Nat}(h:EC D ms s = .ok k):D.down=false∧Aw D.now s=some k∧∀t∈ms,Br t=true:=by
  unfold EC at h;split at h
  · cases h
  · rename_i hn
    have hn:readyL D (ms++ [s])=0:=AgN.1 hn;split at h
    · rename_i k' hk
      cases h;unfold readyL at hn;split at hn
      · cases hn
      · rename_i hd
        split at hn
        · rename_i ha
          exact⟨AhB.2 hd,hk,fun t ht=>Adv.1 ha t (Afv _ ht)⟩
        · cases hn
    · cases h
theorem U0(w0 w:AcK)(a:Ext w0 w)(H:Dk)(D:Ae)(hS:DkS w0.heap.size w H D)(bf bd k:Nat)(hbf:w.heap[bf]? =some (.cells ([PQ (H.F k) 0]).toArray 113 (0,0)))(hbd:w.heap[bd]? =some (.cells ([PQ H.g 0]).toArray 50 (0,0)))(hk:k<D.files.length):
    ∀w1 D1,DkT w0.heap.size w H D w1 H D1→D1=(C1 D).1→Calls AcM 142 #[PQ bf 0,PQ bd 0] w1 fun e w' =>e = .returned (.tuple #[])∧∃H',DkT w0.heap.size w1 H D1 w' H' { D1 with files:=D1.files.set k ((A0 D1 k).1,(A0 D1 k).1.length),kept:=D1.now,acts:= [] } :=by
  intro w1 D1 hT hD1;have hf:=HY D;rw[←hD1]at hf;have b:Ext w0 w1:=Chg.ext a hT.chg (fun i q=>(hS.foot q).2.2);exact(YU w0 w1 b H D1 hT.st bf bd k (DkT.box hT hS hbf (by decide) (by decide) (by decide) (by decide)) (DkT.box hT hS hbd (by decide) (by decide) (by decide) (by decide)) (by rw[hf.1];exact hk)).mono fun e w' ⟨H',q1,q2⟩=>⟨q1,H',q2⟩
theorem U1(w0 w:AcK)(a:Ext w0 w)(H:Dk)(D:Ae)(hS:DkS w0.heap.size w H D)(bd bs k:Nat)(s:List UInt8)(hbd:w.heap[bd]? =some (.cells ([PQ H.g 0]).toArray 50 (0,0)))(hbs:w.heap[bs]? =some (.cells ([St s]).toArray 9 (0,0))) 
    (hk:k<D.files.length) (hs:Br s=true) (hn:D.acts.length<1099511627776):
    ∀w1 D1,DkT w0.heap.size w H D w1 H D1→D1=(C1 D).1→Calls AcM 93 #[PQ bd 0,PQ bs 0] w1 fun e w' =>e = .returned (.tuple #[])∧∃H',DkT w0.heap.size w1 H D1 w' H' (turnedD D1 ⟨s,[],k⟩):=by
  intro w1 D1 hT hD1;have hf:=HY D;rw[←hD1]at hf;have b:Ext w0 w1:=Chg.ext a hT.chg (fun i q=>(hS.foot q).2.2);exact(YT w0 w1 b H D1 hT.st bd bs k s (DkT.box hT hS hbd (by decide) (by decide) (by decide) (by decide)) (DkT.box hT hS hbs (by decide) (by decide) (by decide) (by decide)) (by rw[hf.1];exact hk) hs (by rw[hf.2.2.2.1];exact hn)).mono fun e w' ⟨H',q1,q2⟩=>⟨q1,H',q2⟩
theorem JQ:AV AcM 107 0 0:=fun b o w=>by simp[go_sem]
theorem Oe:Plain AcM 57:=fun _ _=>by kernel_rfl
theorem JR:AV AcM 107 4 4:=fun b o w=>by simp[go_sem]
theorem Kg:Plain AcM 92:=fun _ _=>by kernel_rfl
theorem H4:Plain AcM 77:=fun _ _=>by kernel_rfl
theorem Th(w0 w:AcK)(h:Ext w0 w)(H:Dk)(D:Ae)(hS:DkS w0.heap.size w H D)(s:List UInt8)(vb:AcJ)(b:List UInt8)(hrb:RB w vb b)(hoff:b= []∨∀i,vb.ownBlock=some i→¬BZ H D.files.length i)(hbl:b.length<1099511627776)(hL:Df D):
    Calls AcM 88 #[PQ H.g 0,St s,vb] w fun e w' =>∃H',e = .returned (NI (A5 D s b).2)∧DkT w0.heap.size w H D w' H' (A5 D s b).1:=by
  have hb:=hS.blk;have hgl:=(bl hb);have hgl0:=hS.lo.1;have hsz0:=h.size;have ag:=hS;have hgr:=Aef w (some H.g);refine gG (args:= [PQ H.g 0,St (s),vb]) Tryz.func88 rfl 35 rfl rfl ?_;have hE:=Ext.refl w;refine gS (Aaf (vr (PQ H.g 0) rfl) rfl fun o w3 ak al u bk=> ?_);have bm:=hE.size;have bn:=h.size;have hgr:w.grownBy w3 (some H.g):=Am hgr u.grown (fun _ e=>by cases e);have c:=al;clear al;have bo:o<w3.heap.size:=by omega
  refine gS (Aaf (vr (St (s)) rfl) rfl fun p am x an l bp=> ?_);have hE:=hE.trans u;have h:=h.trans u;have bq:=hE.size;have br:=h.size;have hgr:w.grownBy am (some H.g):=Am hgr l.grown (fun _ e=>by cases e);have f:=an;clear an;have bs:p<am.heap.size:=by omega
  have hE:=hE.trans l;refine gS (Aaf (vr vb rfl) (RB.one (hrb.keep hE)).1 fun t ao m ap j bt=> ?_);have h:=h.trans l;have bu:=hE.size;have bv:=h.size;have hgr:w.grownBy ao (some H.g):=Am hgr j.grown (fun _ e=>by cases e);have k:=ap;clear ap;have bw:t<ao.heap.size:=by omega
  have hq0:=hL.quota;have hq1:=hL.used;by_cases y:CH D s s≠0
  · have hV:A5 D s b=(D,CH D s s):=if_pos y;have aq:=As (bl c) x;have c:=eb l c;have ar:=As (bl c) m;have c:=eb j c;have au:=As (bl f) m;have f:=eb j f;refine gS (Zu UQ rfl rfl (cellAt c rfl) (gS (Zu PO rfl rfl (cellAt f rfl) (gS (ZZ (a:=s) (enc:=CX) (vr (St (s)) rfl) rfl (fun w=>Ke _ w) fun a1 a2 a3 av=> ?_)))));have hgr:w.grownBy a2 (some H.g):=Am hgr av.grown (fun _ e=>by cases e);have hZ1:=j.trans av;have hE:=hE.trans hZ1;refine gS (Zx Kf rfl rfl ((DB w0.heap.size _ H D (hS.keep hE) a1 [s] a3 (by simp)).mono ?_));rintro e a4 ⟨rfl,aw⟩;refine⟨_,rfl,?_⟩;have hgr:w.grownBy a4 (some H.g):=Am hgr aw.grown (fun _ e=>by cases e);refine gS (Zv (a:=(readyL D [s]:Nat)) (b:=(0:Nat)) rfl rfl (AY _ _ _ _) (kT (by rw[Gw];omega) (cT rfl (Bb rfl (vr (NI (readyL D [s])) rfl) ?_))));have hE:=hE.trans aw;exact⟨H,by rw[hV,Gw],by rw[hV];exact Aar ag hE⟩
  have a5:CH D s s=0:=AgN.1 y;obtain⟨hdn,hs,-⟩:=UO a5;by_cases hq:D.quota<usedD D+b.length
  · have hV:A5 D s b=({ D with refused:=D.refused+1 },8):=(if_neg y).trans (if_pos hq);have aq:=As (bl c) x;have c:=eb l c;have ar:=As (bl c) m;have c:=eb j c;have au:=As (bl f) m;have f:=eb j f;refine gS (Zu UQ rfl rfl (cellAt c rfl) (gS (Zu PO rfl rfl (cellAt f rfl) (gS (ZZ (a:=s) (enc:=CX) (vr (St (s)) rfl) rfl (fun w=>Ke _ w) fun a6 a7 ax ah=> ?_)))));have hgr:w.grownBy a7 (some H.g):=Am hgr ah.grown (fun _ e=>by cases e);have hZ2:=j.trans ah;have hE:=hE.trans hZ2;refine gS (Zx Kf rfl rfl ((DB w0.heap.size _ H D (hS.keep hE) a6 [s] ax (by simp)).mono ?_));rintro e a8 ⟨rfl,z⟩;refine⟨_,rfl,?_⟩;have hgr:w.grownBy a8 (some H.g):=Am hgr z.grown (fun _ e=>by cases e);refine gS (Zv (a:=(readyL D [s]:Nat)) (b:=(0:Nat)) rfl rfl (AY _ _ _ _) (kF (by rw[Gw];omega) (cF rfl (D6 [0,1,2,3,4,5,6,7,8,9] [7] [1,3,4] [0,2,5] fun ay aa=> ?_))));have hgr:w.grownBy ay (some H.g):=Am hgr aa.grown (fun _ e=>by cases e);have ab:=Ext.refl ay;have a9:=As (bl hb) ak;have hb:=eb u hb;have ba:=As (bl hb) x;have hb:=eb l hb;have bb:=As (bl hb) m;have hZ3:=(hZ2.trans z).trans aa;have hb:=eb hZ3 hb;have hZ4:=(ah.trans z).trans aa;have c:=eb hZ4 c;have k:=eb hZ4 k;have hZ5:=z.trans aa;have hE:=hE.trans hZ5;refine DM ab ?_;refine yf (fun _ ⟨hZ,_⟩=>Zu Gj rfl rfl (cellAt (eb hZ k) rfl) zz) (yp (ZF Gj (ZB (hrb.keep hE) rfl) zz) (yf (fun _ ⟨hZ,_⟩=>Zu UQ rfl rfl (cellAt (eb hZ c) rfl) zz) (yp (Yk.nilCheck rfl zz) (yp (Yk.fieldAt JQ rfl zz) (yf (fun _ ⟨hZ,_⟩=>Zu Uo rfl rfl (cellAt (eb hZ hb) rfl) zz) (ys (Zu UQ rfl rfl (cellAt c rfl) zz) (yE (ZA Oe rfl ((LF w0.heap.size _ H D (hS.keep hE) hL.used).mono ?_)))))))));rintro e bc ⟨rfl,ac⟩;refine⟨_,rfl,?_⟩;have hgr:w.grownBy bc (some H.g):=Am hgr ac.grown (fun _ e=>by cases e);have ab:=ab.trans ac;refine⟨ab,?_⟩;have hb:=eb ac hb;have c:=eb ac c;refine ys (Zw (xv:= .int .i64 (((D.quota:Nat):Int))) (yv:= .int .i64 (((usedD D:Nat):Int))) rfl rfl rfl (Od _ (((D.quota:Nat):Int)) (((usedD D:Nat):Int)) (by omega)) zz) (ys (Zv rfl rfl (Qk _ .i64 ((b.length:Nat):Int) (((((D.quota:Nat):Int))-(((usedD D:Nat):Int))):Int)) zz) (kT (by omega) (cT rfl (gS (Zu UQ rfl rfl (cellAt c rfl) (gS (Yk.nilCheck rfl (gS (Yk.fieldAt JR rfl (gS (Zu Uo rfl rfl (cellAt hb rfl) (gS (Zw (xv:=NI D.refused) (yv:=NI 1) rfl rfl rfl (Ag _ _ _ (by have:=hL.refused;omega)) (gS (Yk.nilCheck rfl (gS (Yk.fieldAt JR rfl (gS (ZK (i:=4) (v:=NI ((D.refused)+(1))) rfl rfl hb (Ac2 rfl) NC rfl rfl fun bd az be bx=> ?_)))))))))))))))))));have hgr:w.grownBy bd (some H.g):=Am hgr be (fun _ e=> .inl e);clear hE;clear ax;clear hb;have hb:=az;clear az;have bz:=bl hb;refine Bb rfl (vr (NI 8) rfl) ?_;exact⟨H,by rw[hV],by rw[hV];exact ag.setBlkT hgr hb⟩
  have hV:A5 D s b=D8 D (fun d=>Cl d s b):=by unfold D8;exact(if_neg y).trans (if_neg hq)
  have aq:=As (bl c) x;have c:=eb l c;have ar:=As (bl c) m;have c:=eb j c;have au:=As (bl f) m;have f:=eb j f;refine gS (Zu UQ rfl rfl (cellAt c rfl) (gS (Zu PO rfl rfl (cellAt f rfl) (gS (ZZ (a:=s) (enc:=CX) (vr (St (s)) rfl) rfl (fun w=>Ke _ w) fun bf bg bh ai=> ?_)))));have hgr:w.grownBy bg (some H.g):=Am hgr ai.grown (fun _ e=>by cases e);have hZ6:=j.trans ai;have hE:=hE.trans hZ6;refine gS (Zx Kf rfl rfl ((DB w0.heap.size _ H D (hS.keep hE) bf [s] bh (by simp)).mono ?_));rintro e bi ⟨rfl,ad⟩;refine⟨_,rfl,?_⟩;have hgr:w.grownBy bi (some H.g):=Am hgr ad.grown (fun _ e=>by cases e);refine gS (Zv (a:=(readyL D [s]:Nat)) (b:=(0:Nat)) rfl rfl (AY _ _ _ _) (kF (by rw[Gw];omega) (cF rfl (D6 [0,1,2,3,4,5,6,7,8,9] [7] [1,3,4] [0,2,5] fun a0 ae=> ?_))));have hgr:w.grownBy a0 (some H.g):=Am hgr ae.grown (fun _ e=>by cases e);have af:=Ext.refl a0;have a9:=As (bl hb) ak;have hb:=eb u hb;have ba:=As (bl hb) x;have hb:=eb l hb;have bb:=As (bl hb) m;have hZ7:=(hZ6.trans ad).trans ae;have hb:=eb hZ7 hb;have hZ8:=(ai.trans ad).trans ae;have c:=eb hZ8 c;have k:=eb hZ8 k;have hZ9:=ad.trans ae;have hE:=hE.trans hZ9;refine DM af ?_;refine yf (fun _ ⟨hZ,_⟩=>Zu Gj rfl rfl (cellAt (eb hZ k) rfl) zz) (yp (ZF Gj (ZB (hrb.keep hE) rfl) zz) (yf (fun _ ⟨hZ,_⟩=>Zu UQ rfl rfl (cellAt (eb hZ c) rfl) zz) (yp (Yk.nilCheck rfl zz) (yp (Yk.fieldAt JQ rfl zz) (yf (fun _ ⟨hZ,_⟩=>Zu Uo rfl rfl (cellAt (eb hZ hb) rfl) zz) (ys (Zu UQ rfl rfl (cellAt c rfl) zz) (yE (ZA Oe rfl ((LF w0.heap.size _ H D (hS.keep hE) hL.used).mono ?_)))))))));rintro e bj ⟨rfl,n⟩;refine⟨_,rfl,?_⟩;have hgr:w.grownBy bj (some H.g):=Am hgr n.grown (fun _ e=>by cases e);have af:=af.trans n;refine⟨af,?_⟩;have c:=eb n c;refine ys (Zw (xv:= .int .i64 (((D.quota:Nat):Int))) (yv:= .int .i64 (((usedD D:Nat):Int))) rfl rfl rfl (Od _ (((D.quota:Nat):Int)) (((usedD D:Nat):Int)) (by omega)) zz) (ys (Zv rfl rfl (Qk _ .i64 ((b.length:Nat):Int) (((((D.quota:Nat):Int))-(((usedD D:Nat):Int))):Int)) zz) (kF (by omega) (cF rfl (gS (Zu UQ rfl rfl (cellAt c rfl) (gS (Z8 (vs:= #[PQ o 0,PQ p 0,PQ t 0]) (by simp only[Ads,Ado,AdA];exact congrArg Aec (Wn (vr (PQ o 0) rfl) (vr (PQ p 0) rfl) (vr (PQ t 0) rfl))) ?_)))))));have hE:=hE.trans n;have hEc:=hE;have hSc:=(hS.keep hE);have hTc:=Aar ag hEc;have hZ10:=hZ7.trans n;have h:=h.trans hZ10;have hE0c:=h;have f:=eb (hZ8.trans n) f;have k:=eb n k;refine gS (Zx Kg rfl rfl ((Ob w0 _ hE0c H D hSc hdn hL.arm (.func (.func 140) #[] #[PQ o 0,PQ p 0,PQ t 0]) 140 #[PQ o 0,PQ p 0,PQ t 0] (fun _ _=>by kernel_rfl) rfl (fun d=>Cl d s b) (W7 w0 _ hE0c H D hSc o p t s b vb c f k (hrb.keep hE) (hoff.imp id fun q i hi r=>q i hi r) hs hbl hL.files hL.acts)).mono ?_));rintro e b0 ⟨H3,rfl,hT2⟩;refine⟨_,rfl,?_⟩;have hT3:=hTc.trans hT2;refine Bb rfl (vr (NI ((D8 D (fun d=>Cl d s b)).2)) rfl) ?_;exact⟨H3,by rw[hV],by rw[hV];exact hT3⟩

theorem W8(w0 w:AcK)(c:Ext w0 w)(H:Dk)(D:Ae)(hS:DkS w0.heap.size w H D)(s:List UInt8)(hL:Df D):
    Calls AcM 90 #[PQ H.g 0,St s] w fun e w' =>∃H',e = .returned (NI (BG D s).2)∧DkT w0.heap.size w H D w' H' (BG D s).1:=by
  have hb:=hS.blk;have hgl:=(bl hb);have hgl0:=hS.lo.1;have hsz0:=c.size;have y:=hS;have hgr:=Aef w (some H.g);refine gG (args:= [PQ H.g 0,St (s)]) Tryz.func90 rfl 19 rfl rfl ?_;have hE:=Ext.refl w;refine gS (Aaf (vr (PQ H.g 0) rfl) rfl fun f z ar aa n au=> ?_);have j:=Ext.refl w;have av:=hE.size;have aw:=c.size;have hgr:w.grownBy z (some H.g):=Am hgr n.grown (fun _ e=>by cases e);have l:=aa;clear aa;have ax:f<z.heap.size:=by omega
  rcases hV0:EC D [] s with ce | k
  · have hV:BG D s=(D,ce):=by unfold BG;rw[Hr,hV0]
    have hce:=LH hV0;have hE:=hE.trans n;refine gS (Zu UQ rfl rfl (cellAt l rfl) (gS (ZV H4 rfl rfl rfl (((show Calls _ _ _ _ (fun e w2=>e = .returned (.tuple #[.pointer none,NI ce])∧Ext _ w2)from by have h:=Hq w0.heap.size _ H D (hS.keep hE) s ((AcU none 0 0)) [] (.inl ⟨rfl,rfl⟩) (by simp);rw[hV0]at h;exact h)).mono ?_))));rintro e ak ⟨rfl,x⟩;refine⟨_,rfl,?_⟩;have hgr:w.grownBy ak (some H.g):=Am hgr x.grown (fun _ e=>by cases e);refine gS (Yk.extract (vs:= [.pointer none,NI ce]) rfl rfl (gS (Yk.extract (vs:= [.pointer none,NI ce]) rfl rfl (gS (Yk.alloc Tf fun al ab ay ac ad az=> ?_)))));have hE:=hE.trans x;have hZ1:=n.trans x;have c:=c.trans hZ1;have j:=j.trans hZ1;have a0:=hE.size;have a1:=c.size;have am:=j.size;have hgr:w.grownBy ab (some H.g):=Am hgr ad.grown (fun _ e=>by cases e);have q:=ac;clear ac;have a2:al<ab.heap.size:=by omega
    refine gS (ZK (i:=0) (v:= .pointer none) rfl rfl q (Ac2 rfl) Rl rfl rfl fun an ae af a3=> ?_);have hgr:w.grownBy an (some H.g):=Am hgr af (fun _ e=> .inr (by cases e;omega));clear q;have q:=ae;clear ae;have a4:=bl q;refine gS (Zv (a:=(ce:Nat)) (b:=(0:Nat)) rfl rfl (AY _ _ _ _) (kT (by omega) (cT rfl (Bb rfl (vr (NI ce) rfl) ?_))));have hE:=hE.trans ad;have hE:=Ab hE af (AcN am (by omega));exact⟨H,by rw[hV],by rw[hV];exact Aar y hE⟩
  have hV:BG D s=D8 D (fun d=> { d with files:=d.files.set k ((A0 d k).1,(A0 d k).1.length),kept:=d.now,acts:= [] }):=by unfold BG;rw[Hr,hV0]
  obtain⟨hdn,hlk,hms⟩:=LI hV0;have hkl:=hS.ok.now.look hlk;have hE:=hE.trans n;refine gS (Zu UQ rfl rfl (cellAt l rfl) (gS (ZV H4 rfl rfl rfl (((show Calls _ _ _ _ (fun e w2=>e = .returned (.tuple #[.pointer (some ⟨(H.F k),0,none⟩),NI 0])∧Ext _ w2)from by have h:=Hq w0.heap.size _ H D (hS.keep hE) s ((AcU none 0 0)) [] (.inl ⟨rfl,rfl⟩) (by simp);rw[hV0]at h;exact h)).mono ?_))));rintro e ag ⟨rfl,r⟩;refine⟨_,rfl,?_⟩;have hgr:w.grownBy ag (some H.g):=Am hgr r.grown (fun _ e=>by cases e);refine gS (Yk.extract (vs:= [.pointer (some ⟨(H.F k),0,none⟩),NI 0]) rfl rfl (gS (Yk.extract (vs:= [.pointer (some ⟨(H.F k),0,none⟩),NI 0]) rfl rfl (gS (Yk.alloc Tf fun m ah a5 ai t a6=> ?_)))));have o:=Ext.refl ag;have hE:=hE.trans r;have hZ2:=n.trans r;have c:=c.trans hZ2;have j:=j.trans hZ2;have a7:=hE.size;have ao:=c.size;have ap:=j.size;have hgr:w.grownBy ah (some H.g):=Am hgr t.grown (fun _ e=>by cases e);have p:=ai;clear ai;have a8:m<ah.heap.size:=by omega
  refine gS (ZK (i:=0) (v:= .pointer (some ⟨(H.F k),0,none⟩)) rfl rfl p (Ac2 rfl) Rl rfl rfl fun aq aj u a9=> ?_);have hgr:w.grownBy aq (some H.g):=Am hgr u (fun _ e=> .inr (by cases e;omega));clear p;have p:=aj;clear aj;have ba:=bl p;have o:=o.trans t;have o:=Ab o u (AcN (AcP _) (by omega));have l:=eb (r.trans o) l;refine gS (Zv (a:=(0:Nat)) (b:=(0:Nat)) rfl rfl (AY _ _ _ _) (kF (by decide) (cF rfl (gS (Zu UQ rfl rfl (cellAt l rfl) (gS (Z8 (vs:= #[PQ m 0,PQ f 0]) (by simp only[Ads,Ado,AdA];exact congrArg Aec (FA (vr (PQ m 0) rfl) (vr (PQ f 0) rfl))) ?_)))))));have hE:=hE.trans t;have hE:=Ab hE u (AcN ap (by omega));have hEc:=hE;have hSc:=(hS.keep hE);have hTc:=Aar y hEc;have c:=c.trans t;have c:=Ab c u (AcN ao (by omega));have hE0c:=c;refine gS (Zx Kg rfl rfl ((Ob w0 _ hE0c H D hSc hdn hL.arm (.func (.func 142) #[] #[PQ m 0,PQ f 0]) 142 #[PQ m 0,PQ f 0] (fun _ _=>by kernel_rfl) rfl (fun d=> { d with files:=d.files.set k ((A0 d k).1,(A0 d k).1.length),kept:=d.now,acts:= [] }) (U0 w0 _ hE0c H D hSc m f k p l hkl.1)).mono ?_));rintro e bb ⟨H3,rfl,hT2⟩;refine⟨_,rfl,?_⟩;have hT3:=hTc.trans hT2;refine Bb rfl (vr (NI ((D8 D (fun d=> { d with files:=d.files.set k ((A0 d k).1,(A0 d k).1.length),kept:=d.now,acts:= [] })).2)) rfl) ?_;exact⟨H3,by rw[hV],by rw[hV];exact hT3⟩

theorem W9(w0 w:AcK)(f:Ext w0 w)(H:Dk)(D:Ae)(hS:DkS w0.heap.size w H D)(s:List UInt8)(hL:Df D):
    Calls AcM 52 #[PQ H.g 0,St s] w fun e w' =>∃H',e = .returned (NI (BA D s).2)∧DkT w0.heap.size w H D w' H' (BA D s).1:=by
  have hb:=hS.blk;have hgl:=(bl hb);have hgl0:=hS.lo.1;have hsz0:=f.size;have p:=hS;have hgr:=Aef w (some H.g);refine gG (args:= [PQ H.g 0,St (s)]) Tryz.func52 rfl 19 rfl rfl ?_;have hE:=Ext.refl w;refine gS (Aaf (vr (PQ H.g 0) rfl) rfl fun i q ab r o ac=> ?_);have ad:=hE.size;have ae:=f.size;have hgr:w.grownBy q (some H.g):=Am hgr o.grown (fun _ e=>by cases e);have c:=r;clear r;have af:i<q.heap.size:=by omega
  refine gS (Aaf (vr (St (s)) rfl) rfl fun j t u v l ag=> ?_);have hE:=hE.trans o;have f:=f.trans o;have ah:=hE.size;have ai:=f.size;have hgr:w.grownBy t (some H.g):=Am hgr l.grown (fun _ e=>by cases e);have m:=v;clear v;have aj:j<t.heap.size:=by omega
  rcases hV0:EC D [] s with ce | k
  · have hV:BA D s=(D,ce):=by unfold BA;rw[Hr,hV0]
    have hce:=LH hV0;have y:=As (bl c) u;have c:=eb l c;have hE:=hE.trans l;refine gS (Zu UQ rfl rfl (cellAt c rfl) (gS (Zu PO rfl rfl (cellAt m rfl) (gS (ZV H4 rfl rfl rfl (((show Calls _ _ _ _ (fun e w2=>e = .returned (.tuple #[.pointer none,NI ce])∧Ext _ w2)from by have h:=Hq w0.heap.size _ H D (hS.keep hE) s ((AcU none 0 0)) [] (.inl ⟨rfl,rfl⟩) (by simp);rw[hV0]at h;exact h)).mono ?_))))));rintro e z ⟨rfl,x⟩;refine⟨_,rfl,?_⟩;have hgr:w.grownBy z (some H.g):=Am hgr x.grown (fun _ e=>by cases e);refine gS (Yk.extract (vs:= [.pointer none,NI ce]) rfl rfl (gS (Yk.extract (vs:= [.pointer none,NI ce]) rfl rfl (gS (Zv (a:=(ce:Nat)) (b:=(0:Nat)) rfl rfl (AY _ _ _ _) (kT (by omega) (cT rfl (Bb rfl (vr (NI ce) rfl) ?_))))))));have hE:=hE.trans x;exact⟨H,by rw[hV],by rw[hV];exact Aar p hE⟩
  have hV:BA D s=D8 D (fun d=>turnedD d ⟨s,[],k⟩):=by unfold BA;rw[Hr,hV0]
  obtain⟨hdn,hlk,hms⟩:=LI hV0;have hkl:=hS.ok.now.look hlk;have y:=As (bl c) u;have c:=eb l c;have hE:=hE.trans l;refine gS (Zu UQ rfl rfl (cellAt c rfl) (gS (Zu PO rfl rfl (cellAt m rfl) (gS (ZV H4 rfl rfl rfl (((show Calls _ _ _ _ (fun e w2=>e = .returned (.tuple #[.pointer (some ⟨(H.F k),0,none⟩),NI 0])∧Ext _ w2)from by have h:=Hq w0.heap.size _ H D (hS.keep hE) s ((AcU none 0 0)) [] (.inl ⟨rfl,rfl⟩) (by simp);rw[hV0]at h;exact h)).mono ?_))))));rintro e aa ⟨rfl,n⟩;refine⟨_,rfl,?_⟩;have hgr:w.grownBy aa (some H.g):=Am hgr n.grown (fun _ e=>by cases e);have c:=eb n c;refine gS (Yk.extract (vs:= [.pointer (some ⟨(H.F k),0,none⟩),NI 0]) rfl rfl (gS (Yk.extract (vs:= [.pointer (some ⟨(H.F k),0,none⟩),NI 0]) rfl rfl (gS (Zv (a:=(0:Nat)) (b:=(0:Nat)) rfl rfl (AY _ _ _ _) (kF (by decide) (cF rfl (gS (Zu UQ rfl rfl (cellAt c rfl) (gS (Z8 (vs:= #[PQ i 0,PQ j 0]) (by simp only[Ads,Ado,AdA];exact congrArg Aec (FA (vr (PQ i 0) rfl) (vr (PQ j 0) rfl))) ?_)))))))))));have hE:=hE.trans n;have hEc:=hE;have hSc:=(hS.keep hE);have hTc:=Aar p hEc;have hZ1:=l.trans n;have f:=f.trans hZ1;have hE0c:=f;have m:=eb n m;refine gS (Zx Kg rfl rfl ((Ob w0 _ hE0c H D hSc hdn hL.arm (.func (.func 93) #[] #[PQ i 0,PQ j 0]) 93 #[PQ i 0,PQ j 0] (fun _ _=>by kernel_rfl) rfl (fun d=>turnedD d ⟨s,[],k⟩) (U1 w0 _ hE0c H D hSc i j k s c m hkl.1 hkl.2 hL.acts)).mono ?_));rintro e ak ⟨H3,rfl,hT2⟩;refine⟨_,rfl,?_⟩;have hT3:=hTc.trans hT2;refine Bb rfl (vr (NI ((D8 D (fun d=>turnedD d ⟨s,[],k⟩)).2)) rfl) ?_;exact⟨H3,by rw[hV],by rw[hV];exact hT3⟩
theorem AcA{P:Adg}{K:AcJ→AcK→Prop}{ρ:Ad}{w:AcK}{d:Option Tmp}{ty:AcR}{pos:String}{af:Array AdL}{gd:Option (Nat × Bool)}{x y:AcW}{n:Int}(hx:Aa ρ x = .int .i64 n)(hy:Aa ρ y=NI 0)(hk:K (NI n.toNat) w):Yk P K ((execOp (Aa ρ) ⟨d, .call ⟨.builtin .max,#[x,y],#[3,3]⟩,ty,pos,af,gd⟩).run P w):=by
 refine Yk.value (v:=NI n.toNat) (w' :=w) ?_ hk;have he:(if(0:Int)>n then(0:Int)else n)=(n.toNat:Int):=by split <;> omega
 have hr:=run_max_int2 (P:=P) w #[3,3] ty .i64 .i64 n 0;rw[he]at hr;unfold execOp;simp only[resolve,invoke,builtin,Ac1,Ac3,AcV,Ads,Ado,AdA,hx,hy,hr,show(NI 0:AcJ) = .int .i64 0 from rfl]
def Rm(D:Ae):Nat:=if D.down=true then 0 else usedD D
theorem U2:Plain AcM 59:=fun _ _=>by kernel_rfl
theorem U3:Plain AcM 58:=fun _ _=>by kernel_rfl
theorem Xa(w0 w:AcK)(H:Dk)(D:Ae)(hS:DkS w0.heap.size w H D)(s:List UInt8)(hL:Df D):
  Calls AcM 42 #[PQ H.g 0,St s] w fun e w' =>∃v,e = .returned (.tuple #[v,NI (Ap D s).2])∧w'.ownsRow w.heap.size 5 1 v (Ap D s).1.length (AcL (Ap D s).1)∧Ext w w' :=by
 have hb:=hS.blk;have hgl:=(bl hb);have c:=hS;refine gG (args:= [PQ H.g 0,St (s)]) Tryz.func42 rfl 22 rfl rfl ?_;have hE:=Ext.refl w;rcases hV0:EC D [] s with ce | k
 ·have hV:Ap D s=([],ce):=by unfold Ap;rw[Hr,hV0]
  have hce:=LH hV0;refine gS (ZV H4 rfl rfl rfl (((show Calls _ _ _ _ (fun e w2=>e = .returned (.tuple #[.pointer none,NI ce])∧Ext _ w2)from by have h:=Hq w0.heap.size _ H D (hS.keep hE) s ((AcU none 0 0)) [] (.inl ⟨rfl,rfl⟩) (by simp);rw[hV0]at h;exact h)).mono ?_));rintro e n ⟨rfl,j⟩;refine⟨_,rfl,?_⟩;refine gS (Yk.extract (vs:= [.pointer none,NI ce]) rfl rfl (gS (Yk.extract (vs:= [.pointer none,NI ce]) rfl rfl (gS (Zv (a:=(ce:Nat)) (b:=(0:Nat)) rfl rfl (AY _ _ _ _) (kT (by omega) (cT rfl (BF rfl (vr (AcU none 0 0) rfl) (vr (NI ce) rfl) ?_))))))));have hE:=hE.trans j;exact⟨_,by rw[hV],by rw[hV];exact AdK _ _ _ 1,hE⟩
 have hV:Ap D s=((A0 D k).1,0):=by unfold Ap;rw[Hr,hV0]
 obtain⟨hdn,hlk,hms⟩:=LI hV0;have hkl:=(c.ok.now.look hlk).1;have hfa:=c.files.at_ k hkl;have hfb:=hfa.blk;have hfr:RB w (H.V k) (D.files.getD k ([],0)).1:=ZP hfa.row;have hlb:=hL.files _ (GR (d:=([],0)) hkl);refine gS (ZV H4 rfl rfl rfl (((show Calls _ _ _ _ (fun e w2=>e = .returned (.tuple #[.pointer (some ⟨(H.F k),0,none⟩),NI 0])∧Ext _ w2)from by have h:=Hq w0.heap.size _ H D (hS.keep hE) s ((AcU none 0 0)) [] (.inl ⟨rfl,rfl⟩) (by simp);rw[hV0]at h;exact h)).mono ?_));rintro e o ⟨rfl,f⟩;refine⟨_,rfl,?_⟩;have hE:=hE.trans f;refine gS (Yk.extract (vs:= [.pointer (some ⟨(H.F k),0,none⟩),NI 0]) rfl rfl (gS (Yk.extract (vs:= [.pointer (some ⟨(H.F k),0,none⟩),NI 0]) rfl rfl (gS (Zv (a:=(0:Nat)) (b:=(0:Nat)) rfl rfl (AY _ _ _ _) (kF (by decide) (cF rfl (gS (Yk.nilCheck rfl (gS (Yk.fieldAt Pe rfl (gS (Zu Gj rfl rfl (cellAt (eb hE hfb) rfl) (gS (ZA S1 rfl ((Ml _ (H.V k) ((D.files.getD k ([],0)).1) (hfr.keep hE) (by omega)).mono ?_))))))))))))))));rintro e p ⟨l,rfl,i⟩;refine⟨_,rfl,?_⟩;have q:=hE.size;have hb:=eb f hb;have m:=i.own;refine BF rfl (vr l rfl) (vr (NI 0) rfl) ?_;have hE:=hE.trans i.ext;exact⟨_,by rw[hV],by rw[hV];exact BL m (by omega),hE⟩

theorem Zi(base:Nat)(w:AcK)(H:Dk)(D:Ae)(hS:DkS base w H D)(hU:usedD D<4611686018427387904):
  Calls AcM 25 #[PQ H.g 0] w fun e w' =>e = .returned (NI (Rm D))∧Ext w w' :=by
 have hb:=hS.blk;have hgl:=(bl hb);refine gG (args:= [PQ H.g 0]) Tryz.func25 rfl 8 rfl rfl ?_;have hE:=Ext.refl w;cases hdn:D.down
 ·have hV:Rm D=usedD D:=if_neg (by rw[hdn];decide);have hr:readyL D []=0:=IY hdn rfl;refine gS (Zx Kf rfl rfl ((DB base _ H D (hS.keep hE) (AcU none 0 0) [] (RG.nil _ _ _) (by simp)).mono ?_));rintro e i ⟨rfl,c⟩;refine⟨_,rfl,?_⟩;have hE:=hE.trans c;refine gS (Zv (a:=(readyL D []:Nat)) (b:=(0:Nat)) rfl rfl (AY _ _ _ _) (kF (by omega) (cF rfl (gS (ZA Oe rfl ((LF base _ H D (hS.keep hE) hU).mono ?_))))));rintro e j ⟨rfl,f⟩;refine⟨_,rfl,?_⟩;refine Bb rfl (vr (NI (usedD D)) rfl) ?_;have hE:=hE.trans f;exact⟨by rw[hV],hE⟩
 have hV:Rm D=0:=if_pos hdn;have hr:readyL D []=9:=G6 hdn;refine gS (Zx Kf rfl rfl ((DB base _ H D (hS.keep hE) (AcU none 0 0) [] (RG.nil _ _ _) (by simp)).mono ?_));rintro e k ⟨rfl,h⟩;refine⟨_,rfl,?_⟩;refine gS (Zv (a:=(readyL D []:Nat)) (b:=(0:Nat)) rfl rfl (AY _ _ _ _) (kT (by omega) (cT rfl (Bb rfl (vr (NI 0) rfl) ?_))));have hE:=hE.trans h;exact⟨by rw[hV],hE⟩

theorem Pi(base:Nat)(w:AcK)(H:Dk)(D:Ae)(hS:DkS base w H D):
  Calls AcM 29 #[PQ H.g 0] w fun e w' =>e = .returned (NI D.refused)∧Ext w w' :=by
 have hb:=hS.blk;have hgl:=(bl hb);refine gG (args:= [PQ H.g 0]) Tryz.func29 rfl 9 rfl rfl ?_;have hE:=Ext.refl w;refine gS (ZR UQ rfl (cF rfl (gS (Yk.nilCheck rfl (gS (Yk.fieldAt JR rfl (gS (Zu Uo rfl rfl (cellAt hb rfl) (Bb rfl (vr (NI D.refused) rfl) ?_)))))))));exact⟨rfl,hE⟩

theorem U4(base:Nat)(w:AcK)(H:Dk)(D:Ae)(hS:DkS base w H D):
  Calls AcM 40 #[PQ H.g 0] w fun e w' =>e = .returned (.bool D.down)∧Ext w w' :=by
 have hb:=hS.blk;have hgl:=(bl hb);refine gG (args:= [PQ H.g 0]) Tryz.func40 rfl 11 rfl rfl ?_;have hE:=Ext.refl w;refine gS (AbT UQ rfl (gS (Yk.nilCheck rfl (gS (Yk.fieldAt Pc rfl (gS (Zu Ka rfl rfl (cellAt hb rfl) (gS (ZE rfl rfl (Bb rfl (vr (.bool (D.down)) rfl) ?_))))))))));exact⟨rfl,hE⟩

theorem Xb(base:Nat)(w:AcK)(H:Dk)(D:Ae)(hS:DkS base w H D)(hlen:D.now.length<1099511627776):
  Calls AcM 27 #[PQ H.g 0] w fun e w' =>∃v,e = .returned v∧OG w.heap.size 9 1 CX w' v (AE D)∧Ext w w' :=by
 have hb:=hS.blk;have hgl:=(bl hb);have i:=hS;refine gG (args:= [PQ H.g 0]) Tryz.func27 rfl 12 rfl rfl ?_;have hE:=Ext.refl w;cases hdn:D.down
 ·have hV:AE D=D.now.map Adk:=if_neg (by rw[hdn];decide);have hr:readyL D []=0:=IY hdn rfl;refine gS (Zx Kf rfl rfl ((DB base _ H D (hS.keep hE) (AcU none 0 0) [] (RG.nil _ _ _) (by simp)).mono ?_));rintro e c ⟨rfl,f⟩;refine⟨_,rfl,?_⟩;have hb:=eb f hb;refine gS (Zv (a:=(readyL D []:Nat)) (b:=(0:Nat)) rfl rfl (AY _ _ _ _) (kF (by omega) (cF rfl (gS (Yk.nilCheck rfl (gS (Yk.fieldAt Pd rfl (gS (Zu Mn rfl rfl (cellAt hb rfl) ?_)))))))));have hE:=hE.trans f;have hm1:=(hS.keep hE).now;refine gS (ZA U2 rfl ((UV _ _).mono ?_));rintro e h ⟨rfl,hwk⟩;refine⟨_,rfl,?_⟩;have hxk:Ext c h:=by rw[hwk];exact(AdC _ _).alloc (AcP _) _
  refine gS (ZA U3 rfl ((Rh c h hwk hm1 i.ok.now hlen).mono ?_));rintro e n ⟨j,rfl,k,l⟩;refine⟨_,rfl,?_⟩;have hE:=hE.trans hxk;have o:=hE.size;refine Bb rfl (vr j rfl) ?_;have hE:=hE.trans l;exact⟨_,rfl,by rw[hV];exact OG.low k (by omega),hE⟩
 have hV:AE D= []:=if_pos hdn;have hr:readyL D []=9:=G6 hdn;refine gS (Zx Kf rfl rfl ((DB base _ H D (hS.keep hE) (AcU none 0 0) [] (RG.nil _ _ _) (by simp)).mono ?_));rintro e p ⟨rfl,m⟩;refine⟨_,rfl,?_⟩;refine gS (Zv (a:=(readyL D []:Nat)) (b:=(0:Nat)) rfl rfl (AY _ _ _ _) (kT (by omega) (cT rfl (Bb rfl (vr (AcU none 0 0) rfl) ?_))));have hE:=hE.trans m;exact⟨_,rfl,by rw[hV];exact OG.nil _ _ _ _ _,hE⟩

theorem RG.kept{α:Type}{k:Nat}{enc:α→List AcJ}{w w' :AcK}{v:AcJ}{l:List α}(h:RG k enc w v l){row:Option Nat}(hg:w.grownBy w' row)(hv:v.ownBlock=none∨v.ownBlock≠row):RG k enc w' v l:=by
 refine⟨h.1,?_⟩;obtain⟨h1,ao,cap,rfl,h2,h3,h4,h5⟩:=h.2;refine⟨h1,ao,cap,rfl,h2,h3,h4,fun a ha j u hu=> ?_⟩;have hc:=h5 a ha j u hu;subst ha;have hlt:=Ad7 w _ hc;have hbl:(a.add j).block=a.block:=by unfold AeO;split <;> rfl
 have hne:(some a.block)≠row:=by
  rcases hv with hv | hv
  ·cases hv
  ·exact hv
 rw[hbl]at hlt;rw[Ain (w:=w) (by rw[hbl];exact hg.block a.block hlt hne)];exact hc
theorem Ti(t:AcR)(a b:Int)(hb:b≠0):Adq .rem t (.int .i64 a) (.int .i64 b)=pure (.int .i64 (Ae7 a b)):=by
 unfold Adq;simp only[ne_eq,not_true_eq_false,if_false,Op.intDiv];rw[if_neg hb]
theorem Xc(x:Int)(m:Nat): -(m:Int)≤Ae7 x ((m+1:Nat):Int)∧Ae7 x ((m+1:Nat):Int)≤m:=by
 have h1:=Int.tmod_lt_of_pos x (show(0:Int)<((m+1:Nat):Int) by omega);have h2:=Int.lt_tmod_of_pos x (show(0:Int)<((m+1:Nat):Int) by omega);omega
def D4(q:Nat):Ae:=⟨q,[],[],[],[],0,0,false⟩
theorem Xd(q:Nat):DOk (D4 q):=⟨DirOk.nil _,DirOk.nil _,fun a h=>(by cases h),fun x h=>(by cases h)⟩
theorem Ab8{P:Adg}{K:AcJ→AcK→Prop}{ρ:Ad}{w:AcK}{d:Option Tmp}{t ty:AcR}{pos:String}{af:Array AdL}{gd:Option (Nat × Bool)}{i0 i1 i2:Nat}{x0 x1 x2:AcW}{a b c v:AcJ}(h0:Aa ρ x0=a)(h1:Aa ρ x1=b)(h2:Aa ρ x2=c)(hr:∀w:AcK,(AeH t #[(i0,a),(i1,b),(i2,c)]).run P w = .ok v w)(hk:K v w):Yk P K ((execOp (Aa ρ) ⟨d, .build t #[(i0,x0),(i1,x1),(i2,x2)],ty,pos,af,gd⟩).run P w):=
 Yk.build (by simp[h0,h1,h2]) hr hk
theorem Xe(q:Int)(a b:Nat)(w:AcK):(AeH 107 #[(0, .int .i64 q),(1, .map (some a)),(2, .map (some b))]).run AcM w = .ok (.agg #[.int .i64 q, .map (some a), .map (some b), .slice none 0 0,NI 0,NI 0, .bool false]) w:=by kernel_rfl
theorem Yg(w:AcK)(q:Nat)(hq:q≤1073741824):
  Calls AcM 21 #[NI q] w fun e w' =>∃H,e = .returned (PQ H.g 0)∧DkS w.heap.size w' H (D4 q)∧Ext w w' :=by
 refine gG (args:= [NI q]) Tryz.func21 rfl 14 rfl rfl ?_;have hE:=Ext.refl w;refine gS (Zv (a:=(q:Nat)) (b:=(0:Nat)) rfl rfl (AI _ _ _ _) (kF (by omega) (gS (Zv (a:=(q:Nat)) (b:=(1073741824:Nat)) rfl rfl (Bh _ _ _ _) (kF (by omega) (gS (ZH rfl rfl (cF rfl ?_))))))));have v:=hE.size;refine gS (Aan St (pF (fun _=>0)) Nm fun c p x hm8 r y=> ?_);have z:c<p.heap.size:=by omega
 have hE:=hE.trans r;have aa:=hE.size;refine gS (Aan St (pF (fun _=>0)) Nm fun f s ab hm16 m ac=> ?_);have ad:f<s.heap.size:=by omega
 refine gS (Ab8 (vr (NI q) rfl) (vr (.map (some c)) rfl) (vr (.map (some f)) rfl) (fun w=>Xe _ _ _ w) (gS (Yk.box (vr (.agg (JN q c f (.slice none 0 0) 0 0 false).toArray) rfl) fun h t n o l ae=> ?_)));have hE:=hE.trans m;have af:=hE.size;have hm8:=hm8.keep m;have ag:=As hm8.lt n;have ah:=As hm16.lt n;have u:=o;clear o;have ai:h<t.heap.size:=by omega
 refine Bb rfl (vr (PQ h 0) rfl) ?_;have hE:=hE.trans l;have hm8:=hm8.keep l;have hm16:=hm16.keep l;exact⟨⟨h,c,f, .slice none 0 0,fun _=>0,fun _=> .slice none 0 0⟩,rfl,⟨u,hm8,hm16,by show c≠f;omega,⟨[],AdK _ _ _ 1,rfl,fun i hi=>absurd hi (Aet _)⟩,⟨fun k hk=>absurd hk (Aet _),fun i j hi=>absurd hi (Aet _),fun i j hi=>absurd hi (Aet _)⟩,Xd q,by show _≤h∧_≤c∧_≤f;omega⟩,hE⟩

section
variable {base : Nat} {w w' : AcK} {H : Dk} {D : Ae}
theorem FilesAt.low{F:Nat→Nat}{V:Nat→AcJ}{fs:List (List UInt8 × Nat)}(h:FilesAt base w F V fs){b' :Nat}(hb:b' ≤base):FilesAt b' w F V fs:=⟨fun k hk=>⟨(h.at_ k hk).blk,BL (h.at_ k hk).row hb,AcN hb (h.at_ k hk).lo⟩,h.inj,h.apart⟩
end
theorem Yh{P:Adg}{t:AcR}{k:Nat}{l:List AcJ}(hl:l.length=k)(hi:(P.info? t).map (·.size)=some k):(P.info? t).map (·.size)=some l.toArray.size:=by rw[Ac6,hl];exact hi
structure DBd (n : Nat) (D : Ae) : Prop where
  quota:D.quota≤1073741824
  refused:D.refused≤n
  arm:D.arm≤9223372036854775807
  acts:D.kept.length+D.acts.length≤n
  now:D.now.length≤n
  files:∀x∈D.files,x.1.length≤300*n
theorem DBd.file{n:Nat}{D:Ae}(h:DBd n D)(k:Nat):(A0 D k).1.length≤300*n:=by
  by_cases hk:k<D.files.length
  · exact h.files _ (IW hk)
  · unfold A0;rw[AcO,AdY (by omega)];exact Adm _
theorem Rn{l:List Nat}{m:Nat}(h:∀x∈l,x≤m):l.sum≤l.length*m:=by
  induction l with
  | nil=>simp
  | cons a r ih=>
    have h1:=h a AdM;have h2:=ih fun x hx=>h x (AdO _ hx);rw[List.sum_cons,Adh,Nat.succ_mul];omega
theorem DBd.used{n:Nat}{D:Ae}(h:DBd n D):usedD D≤n*(300*n):=by
  unfold usedD;have h1:=Rn (l:=D.now.map fun e=>(A0 D e.2).1.length) (m:=300*n) fun x hx=>by
    obtain⟨e,_,rfl⟩:=Adx.1 hx;exact h.file e.2
  rw[Ada]at h1;exact AcN h1 (Agc _ h.now)
theorem DBd.lt{n:Nat}{D:Ae}(h:DBd n D)(hn:n≤100000):Df D:=by
  have h1:=h.used;have h2:n*(300*n)≤100000*(300*100000):=Ahg hn (AfH _ hn);have h3:=h.acts;have h4:=h.now;have h5:=h.refused;have h6:=h.arm;exact⟨h.quota,by omega,by omega,by omega,by omega,by omega,by omega,fun x hx=>by have:=h.files x hx;omega⟩
theorem DBd.mono{n m:Nat}{D:Ae}(h:DBd n D)(hn:n≤m):DBd m D:=
  ⟨h.quota,AcN h.refused hn,h.arm,AcN h.acts hn,AcN h.now hn,fun x hx=>AcN (h.files x hx) (AfH _ hn)⟩
theorem DBd.new{q:Nat}(hq:q≤1073741824):DBd 0 (D4 q):=⟨hq,AcP _,Adm _,AcP _,AcP _,fun x h=>by cases h⟩
theorem DBd.armed{n:Nat}{D:Ae}(h:DBd n D):DBd n (C1 D).1:=by
  unfold C1;split
  · exact h
  · have:=h.arm;exact⟨h.quota,h.refused,by show D.arm-1≤_;omega,h.acts,h.now,h.files⟩
theorem DBd.turned{n:Nat}{D:Ae}(h:DBd n D)(a:C0):DBd (n+1) (turnedD D a):=by
  have h1:=UM D.now a;have h2:=h.acts;have h3:=h.now;refine⟨h.quota,AeZ h.refused,h.arm,?_,?_,fun x hx=>AcN (h.files x hx) (AfH _ (AgS n))⟩
  · show D.kept.length+(D.acts++ [a]).length≤n+1;rw[AcQ,Ac9];omega
  · show(turnD D.now a).length≤n+1;omega
theorem DBd.add{n:Nat}{D:Ae}(h:DBd n D)(s:List UInt8){b:List UInt8}(hb:b.length≤300):DBd (n+1) (Cl D s b):=by
  unfold Cl;split
  · rename_i k _
    refine⟨h.quota,AeZ h.refused,h.arm,AeZ h.acts,AeZ h.now,fun x hx=> ?_⟩;rcases Afy hx with hx | rfl
    · have:=h.files x hx;omega
    · have:=h.file k;show((A0 D k).1++b).length≤_;rw[AcQ];omega
  · have h1:=h.turned ⟨[],s,D.files.length⟩;refine⟨h1.quota,h1.refused,h1.arm,h1.acts,h1.now,fun x hx=> ?_⟩;rcases Adf.1 hx with hx | hx
    · have:=h.files x hx;omega
    · rw[AcY.1 hx];show b.length≤_;omega
theorem DBd.did{n:Nat}{D:Ae}(h:DBd n D){f:Ae→Ae}(hf:∀E,DBd n E→DBd (n+1) (f E)):DBd (n+1) (D8 D f).1:=by
  unfold D8;split
  · exact h.armed.mono (AgS n)
  · exact hf _ h.armed
theorem DBd.append{n:Nat}{D:Ae}(h:DBd n D)(s:List UInt8){b:List UInt8}(hb:b.length≤300):DBd (n+1) (A5 D s b).1:=by
  unfold A5;split
  · exact h.mono (AgS n)
  · split
    · exact⟨h.quota,Nat.succ_le_succ h.refused,h.arm,AeZ h.acts,AeZ h.now,fun x hx=>AcN (h.files x hx) (AfH _ (AgS n))⟩
    · exact h.did (f:=fun d=>Cl d s b) fun E hE=>hE.add s hb
theorem DBd.sync{n:Nat}{D:Ae}(h:DBd n D)(s:List UInt8):DBd (n+1) (BG D s).1:=by
  unfold BG;split
  · exact h.mono (AgS n)
  · rename_i k _
    refine h.did fun E hE=>⟨hE.quota,AeZ hE.refused,hE.arm,?_,AeZ hE.now,fun x hx=> ?_⟩
    · have:=hE.now;show E.now.length+0≤_;omega
    · rcases Afy hx with hx | rfl
      · have:=hE.files x hx;omega
      · have:=hE.file k;show(A0 E k).1.length≤_;omega
theorem DBd.drop{n:Nat}{D:Ae}(h:DBd n D)(s:List UInt8):DBd (n+1) (BA D s).1:=by
  unfold BA;split
  · exact h.mono (AgS n)
  · exact h.did fun E hE=>hE.turned _
section
variable {base : Nat} {w w' wb : AcK} {g : Nat} {H H' : Dk} {D D' : Ae}
theorem DkS.low(h:DkS base w H D){b' :Nat}(hb:b' ≤base):DkS b' w H D:=by
  obtain⟨vs,hv⟩:=h.acts;exact⟨h.blk,h.now,h.kept,h.ne,⟨vs,BL hv.row hb,hv.len,hv.at_⟩,h.files.low hb,h.ok,⟨AcN hb h.lo.1,AcN hb h.lo.2.1,AcN hb h.lo.2.2⟩⟩
structure DkG (wb w : AcK) (g : Nat) (H : Dk) (D : Ae) : Prop where
  ext:Ext wb w
  st:DkS wb.heap.size w H D
  hg:H.g=g
theorem DkG.keep(h:DkG wb w g H D)(k:Ext w w'):DkG wb w' g H D:=⟨h.ext.trans k,h.st.keep k,h.hg⟩
theorem DkG.step(h:DkG wb w g H D)(k:DkT wb.heap.size w H D w' H' D'):DkG wb w' g H' D' :=⟨k.chg.ext h.ext (fun i q=>(h.st.foot q).2.2),k.st,k.g.trans h.hg⟩
theorem Yi{v:AcJ}{l:List UInt8}(h:RB w v l):l= []∨∃b,v.ownBlock=some b∧b<w.heap.size:=by
  cases l with
  | nil=>exact .inl rfl
  | cons x r=>
    obtain⟨h1,ao,cap,rfl,h2,h3,h4,h5⟩:=id h;cases ao with
    | none=>exact absurd (h4 rfl).1 (by simp)
    | some a=>
      have hc:=h5 a rfl 0 _ (show _=some (B8 x)from rfl);have hl:=Ad7 w _ hc;refine .inr ⟨a.block,rfl,?_⟩;have e:(a.add 0).block=a.block:=by unfold AeO;split <;> rfl
      rwa [e]at hl
theorem DkG.off(h:DkG wb w g H D){v:AcJ}{l:List UInt8}(hr:RB wb v l):l= []∨∀i,v.ownBlock=some i→¬BZ H D.files.length i:=by
  refine(Yi hr).imp id fun⟨b,hb,hl⟩ i hi q=> ?_;have:=(h.st.foot q).2.2;rw[hb]at hi;cases hi;omega
theorem DkG.box(h:DkG wb w g H D)(hc:Chg (BZ H D.files.length) w w'){b:Nat}{cs:Array AcJ}{t:AcR}{fr:Nat × Nat}(hb:w.heap[b]? =some (.cells cs t fr))(h1:t≠107)(h2:t≠133)(h3:t≠5)(h4:t≠131):w'.heap[b]? =some (.cells cs t fr):=
  (hc.blk b (bl hb) (h.st.offT hb h1 h2 h3 h4)).trans hb
theorem DkG.read(h:DkG wb w g H D)(s:List UInt8)(hL:Df D):
    Calls AcM 42 #[PQ g 0,St s] w fun e w' =>∃v,e = .returned (.tuple #[v,NI (Ap D s).2])∧w'.ownsRow w.heap.size 5 1 v (Ap D s).1.length (AcL (Ap D s).1)∧Ext w w' :=by
  rw[←h.hg];exact Xa wb w H D h.st s hL
theorem DkG.list(h:DkG wb w g H D)(hL:Df D):
    Calls AcM 27 #[PQ g 0] w fun e w' =>∃v,e = .returned v∧OG w.heap.size 9 1 CX w' v (AE D)∧Ext w w' :=by
  rw[←h.hg];exact Xb _ w H D h.st hL.now
theorem DkG.refused(h:DkG wb w g H D):
    Calls AcM 29 #[PQ g 0] w fun e w' =>e = .returned (NI D.refused)∧Ext w w' :=by
  rw[←h.hg];exact Pi _ w H D h.st
theorem DkG.down(h:DkG wb w g H D):
    Calls AcM 40 #[PQ g 0] w fun e w' =>e = .returned (.bool D.down)∧Ext w w' :=by
  rw[←h.hg];exact U4 _ w H D h.st
theorem Wv(wb w:AcK)(hE:Ext wb w)(q:Nat)(hq:q≤1073741824):
    Calls AcM 21 #[NI q] w fun e w' =>∃g H,e = .returned (PQ g 0)∧DkG wb w' g H (D4 q)∧Ext w w' :=
  (Yg w q hq).mono fun e w' ⟨H,he,hS,hx⟩=>⟨H.g,H,he,⟨hE.trans hx,hS.low hE.size,rfl⟩,hx⟩
end
section
variable {base : Nat} {w w' wb : AcK} {g : Nat} {H H' : Dk} {D D' : Ae}
structure DkW (wb w : AcK) (g : Nat) (H : Dk) (D : Ae) (w' : AcK) (H' : Dk) (D' : Ae) : Prop where
  g:DkG wb w' g H' D'
  chg:Chg (BZ H D.files.length) w w'
  foot:∀i,BZ H' D'.files.length i→BZ H D.files.length i∨w.heap.size≤i
theorem DkG.stepW(h:DkG wb w g H D)(k:DkT wb.heap.size w H D w' H' D'):DkW wb w g H D w' H' D' :=⟨h.step k,k.chg,k.foot⟩
theorem DkG.appendW(h:DkG wb w g H D)(s:List UInt8)(vb:AcJ)(b:List UInt8)(hrb:RB w vb b)(hoff:b= []∨∀i,vb.ownBlock=some i→¬BZ H D.files.length i)(hbl:b.length<1099511627776)(hL:Df D):
    Calls AcM 88 #[PQ g 0,St s,vb] w fun e w' =>∃H',e = .returned (NI (A5 D s b).2)∧DkW wb w g H D w' H' (A5 D s b).1:=by
  rw[←h.hg];exact(Th wb w h.ext H D h.st s vb b hrb hoff hbl hL).mono fun e w' ⟨H',he,hT⟩=>⟨H',he,by rw[h.hg];exact h.stepW hT⟩
theorem DkG.syncW(h:DkG wb w g H D)(s:List UInt8)(hL:Df D):
    Calls AcM 90 #[PQ g 0,St s] w fun e w' =>∃H',e = .returned (NI (BG D s).2)∧DkW wb w g H D w' H' (BG D s).1:=by
  rw[←h.hg];exact(W8 wb w h.ext H D h.st s hL).mono fun e w' ⟨H',he,hT⟩=>⟨H',he,by rw[h.hg];exact h.stepW hT⟩
theorem DkG.dropW(h:DkG wb w g H D)(s:List UInt8)(hL:Df D):
    Calls AcM 52 #[PQ g 0,St s] w fun e w' =>∃H',e = .returned (NI (BA D s).2)∧DkW wb w g H D w' H' (BA D s).1:=by
  rw[←h.hg];exact(W9 wb w h.ext H D h.st s hL).mono fun e w' ⟨H',he,hT⟩=>⟨H',he,by rw[h.hg];exact h.stepW hT⟩
theorem ActAt.setT{F:Nat→Nat}{v:AcJ}{a:C0}{g:Nat}{cs:Array AcJ}{t:AcR}{fr:Nat × Nat}(h:ActAt w F v a)(hc:Chg (fun i=>i=g) w w')(hb:w.heap[g]? =some (.cells cs t fr))(h1:t≠113)(h2:t≠9):ActAt w' F v a:=by
  have k:∀ {b:Nat} {cs' :Array AcJ} {t' :AcR} {fr' :Nat × Nat},w.heap[b]? =some (.cells cs' t' fr')→t' ≠t→w'.heap[b]? =some (.cells cs' t' fr'):=fun e hne=>(hc.blk _ (bl e) fun q=>by rw[q,hb]at e;cases e;exact hne rfl).trans e;rcases h with ⟨bf,bn,e,q1,q2,q3,q4⟩ | ⟨hm,bs,bf,bn,e,q1,q2,q3,q4⟩ | ⟨bn,e,q1,q2⟩
  · exact .inl ⟨bf,bn,e,k q1 (AgY h1),k q2 (AgY h2),q3,q4⟩
  · exact .inr (.inl ⟨hm,bs,bf,bn,e,k q1 (AgY h2),k q2 (AgY h1),k q3 (AgY h2),q4⟩)
  · exact .inr (.inr ⟨bn,e,k q1 (AgY h2),q2⟩)
theorem DkS.setT(h:DkS base w H D){g:Nat}{cs:Array AcJ}{t:AcR}{fr:Nat × Nat}(hg:w.grownBy w' (some g))(hb:w.heap[g]? =some (.cells cs t fr))(h1:t≠107)(h2:t≠133)(h3:t≠5)(h4:t≠131)(h5:t≠113)(h6:t≠9):DkS base w' H D:=by
  have hc:Chg (fun i=>i=g) w w' :=ZX hg fun i e=> .inl (Adu e).symm;have hB:∀i,BZ H D.files.length i→¬i=g:=fun i q e=>h.offT hb h1 h2 h3 h4 (e▸q);obtain⟨vs,hv⟩:=h.acts;exact⟨(hc.blk _ (bl h.blk) (hB _ (.inl rfl))).trans h.blk,h.now.chg hc (hB _ (.inr (.inl rfl))),h.kept.chg hc (hB _ (.inr (.inr (.inl rfl)))),h.ne,
    ⟨vs,C9 hc hv.row (fun i hi=>hB i (.inr (.inr (.inr (.inl hi))))),hv.len,fun i hi=>(hv.at_ i hi).setT hc hb h5 h6⟩,
    h.files.chg hc (fun k hk=>⟨hB _ (.inr (.inr (.inr (.inr ⟨k,hk, .inl rfl⟩)))),fun i hi=>hB i (.inr (.inr (.inr (.inr ⟨k,hk, .inr hi⟩))))⟩),h.ok,h.lo⟩
theorem DkG.setT(h:DkG wb w g H D){b:Nat}{cs:Array AcJ}{t:AcR}{fr:Nat × Nat}(hg:w.grownBy w' (some b))(hb:w.heap[b]? =some (.cells cs t fr))(hw:wb.heap.size≤b)(h1:t≠107)(h2:t≠133)(h3:t≠5)(h4:t≠131)(h5:t≠113)(h6:t≠9):DkG wb w' g H D:=
  ⟨(show Chg (fun i=>i=b) w w' from ZX hg fun i e=> .inl (Adu e).symm).ext h.ext (fun i q=>by have q:i=b:=q;omega),h.st.setT hg hb h1 h2 h3 h4 h5 h6,h.hg⟩
end
def BAt(w w0:AcK)(b:Nat)(l:List UInt8):Prop:=w0.heap.size≤b∧∃p v,(p = .pointer none∨p = .pointer (some ⟨b,0,none⟩))∧w.heap[b]? =some (.cells ([p,v]:List AcJ).toArray 219 (0,0))∧w.ownsRow w0.heap.size 5 1 v l.length (AcL l)∧v.ownBlock≠some b
theorem BAt.fresh{w w0:AcK}{b:Nat}(h0:w0.heap.size≤b)(h:w.heap[b]? =some (.cells ([.pointer none,(.slice none 0 0)]:List AcJ).toArray 219 (0,0))):BAt w w0 b []:=
  ⟨h0,_,_, .inl rfl,h,AdK w _ _ 1,by simp[AcT]⟩
theorem AcB{w w0:AcK}{b:Nat}{l:List UInt8}(h:BAt w w0 b l):Lib.IsBuilder 219 5 w0.heap.size b (AcL l) w:=by
  obtain⟨h0,p,v,h1,h2,h3,h4⟩:=h;have h3' :w.ownsRow w0.heap.size 5 1 v (AcL l).length (AcL l):=by rw[AcZ];exact h3
  rcases h1 with rfl | rfl
  · exact .inl ⟨h0,v,h2,h3',h4⟩
  · exact .inr ⟨h0,v,h2,h3',h4⟩
section
variable {P : Adg} {K : AcJ → AcK → Prop} {ρ : Ad} {w : AcK} {d : Option Tmp} {ty : AcR} {pos : String} {af : Array AdL} {gd : Option (Nat × Bool)}
theorem LJ{t n:Nat}(hi:(P.info? t).map (·.size)=some n):∃j,P.info? t=some j∧j.size=n:=by
  cases h:P.info? t with
  | none=>simp[h]at hi
  | some j=>exact⟨j,rfl,by simpa [h] using hi⟩
theorem AbA{src dst t e:AcR}{n:Nat}(hs:P.underlying src=some (.pointer t))(hd:P.underlying dst=some .unsafePointer)(hi:(P.info? t).map (·.size)=some n)(hn:n≠0){x:AcW}{b o:Nat}{cs:Array AcJ}{fr:Nat × Nat}(hx:Aa ρ x = .pointer (some ⟨b,o,none⟩))(hb:w.heap[b]? =some (.cells cs e fr))(ho:o<cs.size) 
    (hk:K (.pointer (some ⟨b,o,none⟩)) w):Yk P K ((execOp (Aa ρ) ⟨d, .convert src dst x,ty,pos,af,gd⟩).run P w):=by
  obtain⟨j,h1,h2⟩:=LJ hi;have hr:=Lib.run_to_unsafe (P:=P) w (⟨b,o,none⟩:Addr) hs hd h1 (by omega) (by show w.shape? b=_;unfold AiS;rw[hb]) ho;refine Yk.value (v:= .pointer (some ⟨b,o,none⟩)) (w' :=w) ?_ hk;unfold execOp;simp only[hx,hr,Ac1,Ac3,AcV]
theorem Abj{src dst u e:AcR}{n m:Nat}(hs:P.underlying src=some .unsafePointer)(hd:P.underlying dst=some (.pointer u))(hi:(P.info? u).map (·.size)=some n){x:AcW}{b o:Nat}{cs:Array AcJ}{fr:Nat × Nat}(hx:Aa ρ x = .pointer (some ⟨b,o,none⟩))(hb:w.heap[b]? =some (.cells cs e fr))(hm:cs.size=m)(hl:liesAt P P.depth e (m/P.cellsOf e) o u 1=true) 
    (hk:K (.pointer (some ⟨b,o,none⟩)) w):Yk P K ((execOp (Aa ρ) ⟨d, .convert src dst x,ty,pos,af,gd⟩).run P w):=by
  obtain⟨j,h1,h2⟩:=LJ hi;have hr:=Lib.run_from_unsafe (P:=P) w (cells:=m) (⟨b,o,none⟩:Addr) hs hd h1 (by show w.shape? b=_;unfold AiS;rw[hb];simp[hm]) hl;refine Yk.value (v:= .pointer (some ⟨b,o,none⟩)) (w' :=w) ?_ hk;unfold execOp;simp only[hx,hr,Ac1,Ac3,AcV]
theorem AbQ{t e ty2:AcR}{n:Nat}(ht:P.underlying t=some (.pointer e))(hi:(P.info? e).map (·.size)=some n){x y:AcW}{a:Addr}(hx:Aa ρ x = .pointer (some a))(hy:Aa ρ y = .pointer (some a))(hk:K (.bool false) w):Yk P K ((execOp (Aa ρ) ⟨d, .binOp .neq t x y ty2,ty,pos,af,gd⟩).run P w):=by
  obtain⟨j,h1,h2⟩:=LJ hi;have hr:=Lib.run_neq_ptr_same (P:=P) w a ht h1;refine Yk.value (v:= .bool false) (w' :=w) ?_ hk;unfold execOp;simp only[hx,hy];simp[eqGuard,hr]
end
theorem leb6_tyU305:Tryz.prog.underlying 305=some .unsafePointer:=by kernel_rfl
theorem leb6_ne(a:Option Addr)(w:AcK):(callFunc 213 #[.pointer a]).run AcM w = .ok (.value (.pointer a)) w:=by kernel_rfl
theorem Xf:liesAt AcM Tryz.prog.depth 219 (2/Tryz.prog.cellsOf 219) 0 219 1=true:=by kernel_rfl
theorem leb6_fo219_0:AV AcM 219 0 0:=fun b o w=>by simp[go_sem]
theorem leb6_ty217:Tryz.prog.underlying 217=some (.pointer 219):=by kernel_rfl
theorem leb6_isz219:(Tryz.prog.info? 219).map (·.size)=some 2:=by kernel_rfl
theorem Pj:(Tryz.prog.info? 217).map (·.size)=some 1:=by kernel_rfl
theorem leb6_pl174:Plain AcM 174:=fun _ _=>by kernel_rfl
theorem I0:AV AcM 219 1 1:=fun b o w=>by simp[go_sem]
theorem LK(w:AcK)(b:Nat)(v:AcJ)(hb:w.heap[b]? =some (.cells ([.pointer none,v]:List AcJ).toArray 219 (0,0))):
  Calls AcM 174 #[PQ b 0] w fun e w' =>e = .returned (.tuple #[])∧w'.heap[b]? =some (.cells ([PQ b 0,v]:List AcJ).toArray 219 (0,0))∧w.grownBy w' (some b):=by
 have hgr:w.grownBy w (some b):=Aef _ _;refine gG (args:= [PQ b 0]) Tryz.func174 rfl 20 rfl rfl (gS (Yk.nilCheck rfl (gS (Yk.fieldAt leb6_fo219_0 rfl (gS (Zu leb6_ty217 rfl rfl (cellAt hb rfl) (gS (ZR leb6_ty217 rfl (cT rfl (gS (AbA leb6_ty217 leb6_tyU305 leb6_isz219 (by decide) rfl hb (Ac2 rfl) (gS (AbH rfl (leb6_ne _ _) (gS (Abj leb6_tyU305 leb6_ty217 leb6_isz219 rfl hb (m:=2) rfl Xf (gS (Yk.nilCheck rfl (gS (Yk.fieldAt leb6_fo219_0 rfl (gS (ZK (i:=0) (v:=PQ b 0) rfl rfl hb (Ac2 rfl) Pj rfl rfl fun w2 a c f=> ?_)))))))))))))))))))));have hgr:w.grownBy w2 (some b):=Am hgr c (fun _ e=> .inl e);clear hb;have hb:=a;clear a;have g:=bl hb;refine rt0 rfl ?_;exact⟨rfl,hb,hgr⟩

theorem LL(w:AcK)(b:Nat)(v:AcJ)(hb:w.heap[b]? =some (.cells ([PQ b 0,v]:List AcJ).toArray 219 (0,0))):
  Calls AcM 174 #[PQ b 0] w fun e w' =>e = .returned (.tuple #[])∧w'.heap[b]? =some (.cells ([PQ b 0,v]:List AcJ).toArray 219 (0,0))∧w.grownBy w' (some b):=by
 have hgr:w.grownBy w (some b):=Aef _ _;refine gG (args:= [PQ b 0]) Tryz.func174 rfl 20 rfl rfl (gS (Yk.nilCheck rfl (gS (Yk.fieldAt leb6_fo219_0 rfl (gS (Zu leb6_ty217 rfl rfl (cellAt hb rfl) (gS (ZR leb6_ty217 rfl (cF rfl (gS (Yk.nilCheck rfl (gS (Yk.fieldAt leb6_fo219_0 rfl (gS (Zu leb6_ty217 rfl rfl (cellAt hb rfl) (gS (AbQ leb6_ty217 leb6_isz219 rfl rfl (cF rfl (rt0 rfl ?_)))))))))))))))))));exact⟨rfl,hb,hgr⟩

theorem copyCheck_any(w:AcK)(b:Nat)(p v:AcJ)(hp:p = .pointer none∨p=PQ b 0)(hb:w.heap[b]? =some (.cells ([p,v]:List AcJ).toArray 219 (0,0))):
  Calls AcM 174 #[PQ b 0] w fun e w' =>e = .returned (.tuple #[])∧w'.heap[b]? =some (.cells ([PQ b 0,v]:List AcJ).toArray 219 (0,0))∧w.grownBy w' (some b):=by
 rcases hp with rfl | rfl
 ·exact LK w b v hb
 ·exact LL w b v hb

theorem Im(w0 w:AcK)(h0:Ext w0 w)(b:Nat)(l:List UInt8)(hB:BAt w w0 b l)(c:UInt8)(hl:l.length<140737488355328):
  Calls AcM 135 #[PQ b 0,B8 c] w fun e w' =>e = .returned .nilIface∧BAt w' w0 b (l++ [c])∧Ext w0 w' :=by
 obtain⟨k,p,v,hp,hb,ho,hne⟩:=hB;refine gG (args:= [PQ b 0,B8 (c)]) Tryz.func135 rfl 17 rfl rfl (gS (ZA leb6_pl174 rfl ((copyCheck_any _ b p v hp hb).mono ?_)));rintro e y ⟨rfl,m,n⟩;refine⟨_,rfl,?_⟩;clear hb;have hb:=m;clear m;refine gS (Yk.nilCheck rfl (gS (Yk.fieldAt I0 rfl (gS (Zu Gj rfl rfl (cellAt hb rfl) (gS (AaB (b:=c) Sd (vr (B8 (c)) rfl) fun o t f=> ?_)))))));have h0:=Ab h0 n (AcN (AcP _) k);have z:=h0.size;have ho:=BM ho n hne;have u:Ai v o:=DN ho f.own;have h:=f.own;have h0:=h0.trans f.ext;have ho:=Stab.own _ _ _ _ _ _ _ _ ho f.ext;refine gS (ZW _ _ w0.heap.size (.int .u8 0) Gj Nc rfl Gj (l) ([(c:UInt8)]) (C3 ho (vr v rfl)) (ZB (ZP h) (vr o rfl)) (by simp;omega) h0.size fun j x g a=> ?_);have a:Grew t x v j:=a;have hb:=eb f.ext hb;have q:OB j b:=An a hne (bl hb);have h0:=Aq h0 a ho (AcP _);have hb:=Ao hb a hne;have h:=Dy h a u;clear ho;refine gS (Yk.nilCheck rfl (gS (Yk.fieldAt I0 rfl (gS (ZK (i:=1) (v:=j) rfl rfl hb (Ac2 rfl) KN (Ce g).1 (Ce g).2 fun aa r s ab=> ?_)))));clear hb;have hb:=r;clear r;have ac:=bl hb;refine Bb rfl (vr (Value.nilIface) rfl) ?_;have h0:=Ab h0 s (AcN (AcP _) (by omega));have g:=BM g s q;exact⟨rfl,⟨k,_,_, .inr rfl,hb,g,q⟩,h0⟩
def digs:List UInt8:= [48,49,50,51,52,53,54,55,56,57,97,98,99,100,101,102]
def Ro(b:UInt8):List UInt8:= [digs.getD (b.toNat/16) 0,digs.getD (b.toNat%16) 0]
def hexOf(id:List UInt8):List UInt8:=id.flatMap Ro
theorem Rp(id:List UInt8)(i:Nat)(hi:i<id.length):hexOf (id.take (i+1))=hexOf (id.take i)++Ro (id.getD i 0):=by
  rw[Adi hi,hexOf,AfG];simp[hexOf,hi]
theorem CU:∀id:List UInt8,(hexOf id).length=2*id.length
  | []=>rfl
  | b :: id=>by
    have:=CU id;simp only[hexOf,AdJ,AcQ,Adh]at *;simp only[Ro,Adh,Adp];omega
def dg(c:UInt8):Option Nat:=if 48≤c.toNat∧c.toNat≤57 then some (c.toNat-48)else if 97≤c.toNat∧c.toNat≤102 then some (c.toNat-87)else none
def Fj(c:UInt8):Int:=match dg c with | some n=>(n:Int) | none=> -1
theorem Ww{c:UInt8}{n:Nat}(h:dg c=some n):n<16:=by
  unfold dg at h;split at h
  · cases h;omega
  · split at h
    · cases h;omega
    · cases h
theorem Tj:∀n:Fin 256,Ahx digs (AdQ n.val)=Fj (AdQ n.val):=by decide+kernel
theorem U5(c:UInt8):Ahx digs c=Fj c:=by
  have:=Tj ⟨c.toNat,c.toNat_lt⟩
  simpa using this
def FP(s:List UInt8)(j:Nat):Bool:=(dg (s.getD (2*j) 0)).isSome&&(dg (s.getD (2*j+1) 0)).isSome
def Fe(s:List UInt8)(j:Nat):UInt8:=AdQ (16*(dg (s.getD (2*j) 0)).getD 0+(dg (s.getD (2*j+1) 0)).getD 0)
def A4(s:List UInt8):List UInt8 × Bool:=if s.length=64∧(AdN 32).all (FP s)=true then((AdN 32).map (Fe s),true)else(AcX 32 0,false)
theorem AX(s:List UInt8):(A4 s).1.length=32:=by
  unfold A4;split <;> simp
theorem Kh{s:List UInt8}(h:¬(s.length=64∧(AdN 32).all (FP s)=true)):A4 s=(AcX 32 0,false):=if_neg h
theorem Mq{s:List UInt8}(h1:s.length=64)(h2:∀j,j<32→FP s j=true):A4 s=((AdN 32).map (Fe s),true):=if_pos ⟨h1,by
  rw[Adv];intro j hj;exact h2 j (by simpa using hj)⟩
def pre(s:List UInt8)(i:Nat):List UInt8:=(AdN i).map (Fe s)++AcX (32-i) 0
theorem Dv(s:List UInt8)(i:Nat)(hi:i≤32):(pre s i).length=32:=by
  unfold pre;simp;omega
theorem U6(s:List UInt8)(i:Nat)(hi:i<32):(pre s i).set i (Fe s i)=pre s (i+1):=by
  unfold pre;rw[Aeg _ _ (by simp),List.range_succ,Aei];simp only[Ada,List.length_range,Aez,Ado,AdA,Adn]
  congr 1
  obtain⟨k,hk⟩:∃k,32-i=k+1:=⟨32-i-1,by omega⟩;rw[hk,AiG,AgC,show 32-(i+1)=k by omega];rfl
theorem Xg(s:List UInt8):pre s 32=(AdN 32).map (Fe s):=by simp[pre]
/-! ### There and back -/
theorem Yj:∀n:Fin 16,dg (digs.getD n.val 0)=some n.val:=by decide+kernel
theorem PT(n:Nat)(h:n<16):dg (digs.getD n 0)=some n:=Yj ⟨n,h⟩
theorem Mr:∀(id:List UInt8) (j:Nat),j<id.length→(hexOf id).getD (2*j) 0=digs.getD ((id.getD j 0).toNat/16) 0∧(hexOf id).getD (2*j+1) 0=digs.getD ((id.getD j 0).toNat%16) 0
  | [],j,h=>by simp at h
  | b :: id,0,_=>⟨rfl,rfl⟩
  | b :: id,j+1,h=>by
    have:=Mr id j (by simpa using h);have e:hexOf (b :: id)=digs.getD (b.toNat/16) 0 :: digs.getD (b.toNat%16) 0 :: hexOf id:=rfl;rw[e,show 2*(j+1)=2*j+1+1 by omega];exact this
theorem EJ(id:List UInt8)(h:id.length=32):A4 (hexOf id)=(id,true):=by
  have hg:=fun j (hj:j<32)=>Mr id j (by omega);have hlt:=fun j=>(id.getD j 0).toNat_lt;have hd:∀j,j<32→dg ((hexOf id).getD (2*j) 0)=some ((id.getD j 0).toNat/16)∧dg ((hexOf id).getD (2*j+1) 0)=some ((id.getD j 0).toNat%16):=fun j hj=>by
    rw[(hg j hj).1,(hg j hj).2];exact⟨PT _ (by have:=hlt j;omega),PT _ (by omega)⟩
  rw[Mq (by rw[CU,h]) (fun j hj=>by unfold FP;rw[(hd j hj).1,(hd j hj).2];rfl)]
  congr 1
  apply AgT (by simp[h])
  intro j h1 h2;have hj:j<32:=by simpa using h1
  simp only[Agg,List.getElem_range,Fe];rw[(hd j hj).1,(hd j hj).2];simp only[AdI];rw[Nat.div_add_mod];simp[h2]
def Ms:Af7:=⟨fun | 169=>136 | n=>n,fun | 70=>217 | 9=>9 | 0=>0 | 72=>219 | 37=>27 | 127=>265 | 3=>3 | 5=>5 | n=>n,fun | n=>n⟩
theorem YX:Go.Proofs.Lays.n169 AcM Ms:= {
  mixed:=by kernel_rfl
  f169:=Tryz.func136.trans (congrArg some (by kernel_rfl))
  t0:=Agk
  a0:=Aho
  z0:=Ag6
  v0:=Agt
  t3:=AhX
  a3:=Ai6
  z3:=Ai1
  v3:=Ah6
  t9:=Afh
  a9:=Agp
  z9:=Af8
  v9:=Afp
  t37:=Tryz.underlying27
  a37:=Tryz.isAgg27
  z37:=Tryz.sizeOf27
  v37:=Tryz.zeroValue27
  t70:=Tryz.underlying217
  a70:=Tryz.isAgg217
  z70:=Tryz.sizeOf217
  v70:=Tryz.zeroValue217
  t72:=Tryz.underlying219
  a72:=Tryz.isAgg219
  z72:=Tryz.sizeOf219
  v72:=Tryz.zeroValue219
  t127:=Tryz.underlying265
  a127:=Tryz.isAgg265
  z127:=Tryz.sizeOf265
  v127:=Tryz.zeroValue265 }
theorem Pk:Builder.Extra AcM Ms:= {
  sizeBuilder:=by kernel_rfl
  liesBuilder:=by kernel_rfl
  t5:=Agi
  a5:=Ai7
  z5:=Ai2
  v5:=Ah7
  infoByte:=by kernel_rfl
  cellsByte:=by kernel_rfl
  sizeByte:=by kernel_rfl
  neB5:=by decide }
theorem H5(B b:Nat)(l:List UInt8)(w:AcK)(h:Lib.IsBuilder 219 5 B b (AcL l) w)(hBw:B≤w.heap.size):
    Calls AcM 136 #[.pointer (some ⟨b,0,none⟩)] w fun e w' =>e = .returned (.string ⟨l.toArray⟩)∧Below B w w' :=Any.Builder_String_any YX Pk B b l w h hBw
theorem U7(t:AcR)(c:UInt8):Adq .and t (.int .u8 ((c.toNat:Nat):Int)) (.int .u8 ((15:Nat):Int))=pure (.int .u8 ((c.toNat%16:Nat):Int)):=by
 rw[X3 t _ _ c.toNat_lt (by decide),Nat.and_two_pow_sub_one_eq_mod _ 4]
theorem U8(l:List UInt8)(b:UInt8):(l++ [([48,49,50,51,52,53,54,55,56,57,97,98,99,100,101,102]:List UInt8).getD (b.toNat/2^4) 0])++ [([48,49,50,51,52,53,54,55,56,57,97,98,99,100,101,102]:List UInt8).getD (b.toNat%16) 0]=l++Ro b:=by
 rw[Adn];rfl
theorem Rq{d:Option Tmp}{ty:AcR}{pos:String}{af:Array AdL}{gd:Option (Nat × Bool)}(σ:AcW→AcJ)(w:AcK):(execOp σ ⟨d, .alloc 219,ty,pos,af,gd⟩).run AcM w = .ok (.value (PQ w.heap.size 0)) (w.alloc (.cells ([.pointer none,(AcU none 0 0)]).toArray 219)):=by kernel_rfl
theorem Le:Plain AcM 135:=fun _ _=>by kernel_rfl
theorem Rr:Plain AcM 136:=fun _ _=>by kernel_rfl
theorem PU(w:AcK)(id:List UInt8)(hid:id.length=32):
  Calls AcM 80 #[AB id] w fun e w' =>e = .returned (St (hexOf id))∧Ext w w' :=by
 refine gG (args:= [AB id]) Tryz.func80 rfl 20 rfl rfl ?_;have hE:=Ext.refl w;refine gS (Yk.box (vr (AB id) rfl) fun o f ag p v ah=> ?_);have h:=p;clear p;have ai:o<f.heap.size:=by omega
 refine gS (Yk.alloc Rq fun g q x r m aj=> ?_);have c:=Ext.refl f;have hE:=hE.trans v;have n:=hE;have ak:=hE.size;have y:=r;clear r;have al:g<q.heap.size:=by omega
 have s:BAt q f g []:=BAt.fresh (by omega) y;have am:=As (bl h) x;have h:=eb m h;have hE:=hE.trans m;have c:=c.trans m;refine gS (Zz rfl h Wq rfl (by rw[Ac6,AcZ,hid];exact R4) (gL (fun(ρ:Ad) (wz:AcK)=>∃i:Nat,ρ 0=(AB id:AcJ)∧ρ 1=(PQ o 0:AcJ)∧ρ 2=(St (([]:List UInt8)):AcJ)∧ρ 3=(PQ g 0:AcJ)∧ρ 6=(AB id:AcJ)∧ρ 7=(NI i:AcJ)∧Ext w wz∧Ext f wz∧BAt wz f g (hexOf (id.take i))∧(i≤32)∧True) (fun ρ _=>32-(intOf (ρ 7)).toNat) ⟨0,rfl,rfl,rfl,rfl,rfl,rfl,hE,c,s,Adm _,trivial⟩ ?_));clear h;clear s;clear hE;rintro z an ⟨i,T0,T1,T2,j,t,k,hE,c,hBi,hi,-⟩;have q7:=k;have hlt:=(id.getD i 0).toNat_lt;refine gS (Zv (a:=(i:Nat)) (b:=(32:Nat)) k rfl (AI _ _ _ _) ?_);refine cD rfl (fun ad=> ?_) fun ad=> ?_
 ·refine gS (Acw (l:=id) (i:=i) Wq u5 rfl Qq t k (by omega) (hid) (gS (Zw (xv:= .int .u8 (((id.getD (i) 0).toNat:Nat):Int)) (yv:= .int .u64 ((4:Nat):Int)) rfl rfl rfl (X2 _ _ _ _ (by omega)) (gS (Aa1 (l:=([48,49,50,51,52,53,54,55,56,57,97,98,99,100,101,102]:List UInt8)) (i:=((id.getD (i) 0).toNat)/2^(4)) PO rfl rfl (by show _<16;omega) (gS (Zx Le j rfl ((Im f _ c g (hexOf (id.take i)) hBi ((([48,49,50,51,52,53,54,55,56,57,97,98,99,100,101,102]:List UInt8):List UInt8).getD (((id.getD (i) 0).toNat)/2^(4)) 0) (by have:=CU (id.take i);simp at this ⊢;omega)).mono ?_))))))));rintro e ao ⟨rfl,u,hv33⟩;refine⟨_,rfl,?_⟩;have hE:=n.trans hv33;have c:=hv33;clear hBi;refine gS (Zw (xv:= .int .u8 (((id.getD (i) 0).toNat:Nat):Int)) (yv:= .int .u8 ((15:Nat):Int)) rfl rfl rfl (U7 _ (id.getD (i) 0)) (gS (Aa1 (l:=([48,49,50,51,52,53,54,55,56,57,97,98,99,100,101,102]:List UInt8)) (i:=(id.getD (i) 0).toNat%16) PO rfl rfl (by show _<16;omega) (gS (Zx Le j rfl ((Im f _ c g ((hexOf (id.take i):List UInt8)++ [(([48,49,50,51,52,53,54,55,56,57,97,98,99,100,101,102]:List UInt8):List UInt8).getD (((id.getD (i) 0).toNat)/2^(4)) 0]) u ((([48,49,50,51,52,53,54,55,56,57,97,98,99,100,101,102]:List UInt8):List UInt8).getD ((id.getD (i) 0).toNat%16) 0) (by have:=CU (id.take i);simp at this ⊢;omega)).mono ?_))))));rintro e ap ⟨rfl,ae,hv36⟩;refine⟨_,rfl,?_⟩;have hE:=n.trans hv36;have c:=hv36;clear u;refine gS (Zw (xv:=NI i) (yv:=NI 1) k rfl rfl (Ag _ _ _ (by omega)) (gK (Adr ⟨i+1,T0,T1,T2,j,t,rfl,hE,c,(show BAt _ _ _ _ from by rw[Rp id i (by omega),←U8];exact ae),by omega,trivial⟩ ?_)));show 32-(intOf (NI ((i)+(1)))).toNat<32-(intOf (z 7)).toNat;rw[q7];simp only[intOf,Ac0];omega
 have af:id.take i=id:=AdD (by omega);refine gS (ZA Rr j ((H5 _ g (hexOf (id.take i)) _ (AcB hBi) c.size).mono ?_));rintro e aq ⟨rfl,hv39⟩;refine⟨_,rfl,?_⟩;have hv39t:=Aic c hv39;have hE:=n.trans hv39t;have c:=hv39t;clear hBi;refine Bb rfl (vr (St (hexOf (id.take i))) rfl) ?_;exact⟨by rw[af],hE⟩
end Go.Proofs.YtfpekahfdalfkaaGreatDoor
