/- Part 5 of what stands behind these statements: laws and walks of the functions that are reached. Conditions: those that each theorem names. -/
import Derived.Test.YtfpekahfdalfkaaGreatDoorA4
set_option linter.unusedVariables false
set_option linter.unusedSimpArgs false
namespace Go.Proofs.YtfpekahfdalfkaaGreatDoor
open _root_.Go renaming World → AaS, Value → AaR, MapEntry → Acz, Program → Abo, TypeId → AaZ, Edge → AbP, Operand → Aa5, FuncId → AcF, binOp → Abt
open _root_.Go.Instr renaming buildSlice → Abz, next → Agu, build → AcJ
open _root_.Go.Proofs.Tryz renaming prog → AaU, underlying4 → Aej, isAgg4 → Agf, sizeOf4 → AfY, zeroValue4 → Ae9, underlying0 → Aek, isAgg0 → Afr, sizeOf0 → Afa, zeroValue0 → Aet, underlying9 → Adl, isAgg9 → Aeq, sizeOf9 → Aeb, zeroValue9 → Ads, underlying111 → Afs, isAgg111 → AgB, sizeOf111 → Agm, zeroValue111 → AfE, underlying56 → AfF, isAgg56 → AgX, sizeOf56 → AgC, zeroValue56 → AfZ, underlying3 → Af0, isAgg3 → Ag3, sizeOf3 → AgY, zeroValue3 → Af9, underlying5 → AdJ, isAgg5 → Ag4, sizeOf5 → AgZ, zeroValue5 → Aga, underlying181 → Aft
open _root_.Go.Value renaming slice → Aa0, ownBlock → Aa1, int → AcM
open _root_.Go.World renaming ownsRow_nil → AbO, ownsRow → Afx, block_lt_of_cell? → Ach, cell? → Ade, cell?_of_block → Ago, shape? → AgS
open _root_.List renaming length_nil → Abw, eq_nil_of_length_eq_zero → AbC, mem_cons_self → AbZ, mem_cons_of_mem → Ab1, pairwise_cons → AbY, mem_cons → AbF, cons_append → AbS, filter_cons_of_neg → AeL, filter_cons_of_pos → AeM, takeWhile_append_dropWhile → AdQ, filter_sublist → AgJ, dropWhile_cons → AgK, takeWhile_cons → AgL, pairwise_append → Acd, takeWhile_sublist → Ad3, dropWhile_sublist → Ad4, length_filter_le → AcH, length_append → AaY, length_cons → Abp, mem_filter → Acw, mem_append → Abk, map_cons → Abv, mem_map_of_mem → Aer, mem_map → AbD, perm_ext_iff_of_nodup → Adx, length → AeR, length_map → Abh, size_toArray → Abe, map_map → AdK, map_congr_left → AgM, nodup_cons → Ac2, filter_eq_self → Afe, append_of_mem → Adq, getD_eq_getElem?_getD → AaW, getElem?_eq_getElem → Aa2, getElem_mem → Acp, getElem?_eq_none → Ab3, mem_singleton → Aa6, length_set → Acv, mem_or_eq_of_mem_set → AdD, length_singleton → Abj, getElem?_append_right → AbH, getElem?_append_left → AbN, getElem?_set_self → Ad2, getElem?_set_ne → Agr, flatMap_cons → AbW, map_toArray → Abx, map_nil → AbG, all_eq_true → AbE, take_succ_eq_append_getElem → Abu, take_of_length_le → AbK, take_left → Ada, mem_flatMap → AfR, flatMap_append → AdL, all_cons → Agz, mergeSort_of_pairwise → Afy, length_pos_iff → AgN, set_append_right → Acg, toArray → Acn, nil_append → AbV, mem_append_left → AdB, range → Ab6, replicate → Aa4, map_append → Acj, append_assoc → Abr, replicate_succ → AgG, set_cons_zero → AeE, ext_getElem → AeU, getElem_map → Aeh, drop_zero → Adk, length_drop → Abf, take_length → Acy, length_take → Abg
open _root_.Nat renaming le_refl → AaX, le_trans → AaV, lt_of_lt_of_le → AbL, le_add_right → Ac8, zero_le → Abs, sub_self → AcD, zero_add → Ab9, add_assoc → Ac5, add_mul → Adm, add_comm → AeD, not_lt_zero → Acx, le_of_ble_eq_true → Aa9, lt_succ_self → AeW, mul_le_mul_right → Aee, mul_le_mul → Afl, mul_le_mul_left → AdM, le_succ_of_le → Ac1, le_succ → AeT, sub_zero → AgR
open _root_.Go.Lib renaming byteCells → AaT, byteCells_length → Aa8, indexByte → Afz
open _root_.Prod renaming fst → Abq
open _root_.Go.Op renaming bytesLess → Ab2
open _root_.Classical renaming byContradiction → AcE, not_not → AeO
open _root_.List.Pairwise renaming sublist → Agl, of_map → AdC, map → AeN, nil → AcQ
open _root_.Bool renaming eq_false_iff → AfD, eq_iff_iff → AdY, false_eq_true → Ado, and_eq_true → AbX
open _root_.Option renaming isSome_iff_exists → AeH, map_some → Aca, map_eq_some_iff → Ad1, getD_some → AbR
open _root_.Go.DataW renaming insert → AgV
open _root_.Go.MapKept renaming Stamped → Ae7, IsKey → Aem
open _root_.Array renaming getElem?_eq_some_iff → Abm, toList_filter → Afg, filter → AgW, getElem?_eq_getElem → AfH, getElem?_setIfInBounds → Acu, getElem?_eq_none → Ad0, toList_append → AgE
open _root_.Go.Sem renaming run_bind → Aa7, run_pure → Abb, run → Ae3
open _root_.Go.Result renaming andThen_ok → Aa3, andThen → AbM
open _root_.Go.RowKit.Below renaming refl → AbJ, trans → Agc
open _root_.Go.Question renaming forced → Af8
open _root_.Go.World.grownBy renaming refl → Ace
open _root_.Option.some renaming inj → AbB, injEq → AcA
open _root_.Nat.succ renaming inj → AfX
open _root_.Go.Addr renaming add_lit → Ack, add → AcU
open _root_.And renaming intro → Aby
open _root_.Int renaming toNat_natCast → Aba, tmod → Ac9
open _root_.Go.Builtin renaming append_ → AdS
open _root_.Go.Src renaming ofSlice → Afp
open _root_.Go.Shelf renaming Ren → Aea
open _root_.Go.Proofs.SlLaysZ renaming n7 → Agv
open _root_.Go.Fence renaming wide → AdZ
open _root_.Ne renaming symm → AeZ
open _root_.UInt8 renaming ofNat → AbQ
open _root_.Go.Deferred renaming ofValue → AdG
open Go.RowKit
set_option maxRecDepth 100000
def PackO(w:AaS)(v:AaR):Option AZ→Prop
 | none=>v = .pointer none
 | some p=>PackAt w v p
theorem PackO.keep{w w' :AaS}{v:AaR}:∀ {q:Option AZ},PackO w v q→Ext w w' →PackO w' v q
 | none,h,_=>h
 | some _,h,k=>PackAt.keep h k
def Cq(q:Option AZ)(id:Bs):(Bs × Nat)× Nat:=
 match q with
 | none=>(([],0),1)
 | some p=>match p.2 id with
  | none=>(([],0),12)
  | some x=>(x,0)
theorem Qm(w:AaS):(Abz 27 0 #[]).run AaU w = .ok (.slice (some ⟨w.heap.size,0,none⟩) 0 0) (w.alloc (.cells #[] 5)):=by kernel_rfl
theorem Qn:Plain AaU 139:=fun _ _=>by kernel_rfl
theorem Sa:Plain AaU 72:=fun _ _=>by kernel_rfl
set_option maxHeartbeats 1600000
theorem WC(w:AaS):
  Calls AaU 72 #[(.slice none 0 0)] w fun e w' =>∃v',e = .returned v' ∧NewB 5 w w' v' []:=by
 refine gG (args:= [(.slice none 0 0)]) Tryz.func72 rfl 8 rfl rfl ?_;have hE:=Ext.refl w;refine gS (Y9 F5 rfl (cT rfl (Bn rfl (vr (Aa0 none 0 0) rfl) ?_)));exact⟨_,rfl,⟨AbO _ _ _ 1,hE.grown⟩⟩

theorem WD(w:AaS)(a:Addr)(c:Nat)(l:Bs)(hr:RB w (.slice (some a) l.length c) l)(hl:l.length<1099511627776):
  Calls AaU 72 #[(.slice (some a) l.length c)] w fun e w' =>∃v',e = .returned v' ∧NewB 5 w w' v' l:=by
 refine gG (args:= [(.slice (some a) l.length c)]) Tryz.func72 rfl 8 rfl rfl ?_;have hE:=Ext.refl w;refine gS (Y9 F5 rfl (cF rfl (gS (AaD Qm fun g j h=> ?_))));have b:=h.own;have hE:=hE.trans h.ext;refine gS (Ya _ _ w.heap.size (.int .u8 0) F5 MA rfl F5 (([]:List UInt8)) (l) (CV b (vr g rfl)) (XP (hr.keep hE) (vr (.slice (some a) l.length c) rfl)) (by simp only[Abw];omega) hE.size fun i k m f=> ?_);have f:Grew j k g i:=f;have hE:=Av hE f b (AaX _);clear b;refine Bn rfl (vr i rfl) ?_;exact⟨_,rfl,⟨(show Afx _ _ _ _ _ _ _ from by simpa using m),hE.grown⟩⟩

theorem LM(w:AaS)(v:AaR)(l:Bs)(h:RB w v l)(hl:l.length<1099511627776):
  Calls AaU 72 #[v] w fun e w' =>∃v',e = .returned v' ∧NewB 5 w w' v' l:=by
 obtain⟨h1,ao,cap,rfl,h2,h3,h4,h5⟩:=id h;cases ao with
 | none=>
  have hl:=h4 rfl;have:l= []:=AbC hl.1;subst this;rw[show cap=0 from hl.2];exact WC w
 | some a=>exact WD w a cap l h hl

theorem Sb(w:AaS)(id:Bs)(hid:id.length=32):
  Calls AaU 139 #[.pointer none,AB id] w fun e w' =>∃x,e = .returned x∧∃(o:Bs × Nat) (s:AaR),x = .tuple #[.agg ([s,NI o.2]).toArray,NI (Cq (none:Option AZ) id).2]∧o=(Cq (none:Option AZ) id).1∧RB w' s o.1∧Ext w w' :=by
 refine gG (args:= [.pointer none,AB id]) Tryz.func139 rfl 24 rfl rfl ?_;have hE:=Ext.refl w;refine gS (Yk.box (vr (AB id) rfl) fun h i p b j q=> ?_);have r:=b;clear b;have t:h<i.heap.size:=by omega
 refine gS (Yk.alloc DG fun c k u f l y=> ?_);have hE:=hE.trans j;have m:=hE.size;have a:=f;clear f;have z:c<k.heap.size:=by omega
 refine gS (X5 Fw rfl (cT rfl (gS (Yk.run (v:= .agg ([(Aa0 none 0 0),NI 0]).toArray) (by kernel_rfl) (gS (XN (vr (PQ c 0) rfl) (vr (.agg ([(Aa0 none 0 0),NI 0]).toArray) rfl) a rfl (show(Tryz.prog.info? 215).map (·.size)=some 2 from Bf) (Cn rfl) fun aa g n ab=> ?_))))));clear a;have a:=g;clear g;have ac:=bl a;refine MV rfl (ResF.row rfl a (Dm).choose_spec rfl ((show(Tryz.prog.info? 215).map (·.size)=some 2 from Bf))) (vr (NI 1) rfl) ?_;have hE:=hE.trans l;have hE:=Ab hE n (AaV m (by omega));exact⟨_,rfl,([],0),_,rfl,rfl,RB.nil _,hE⟩

theorem Ts(w:AaS)(g bo:Nat)(vi:AaR)(ids:List Bs)(O:Bs→Option Cp)(hg:w.heap[g]? =some (.cells ([vi, .map (some bo)]).toArray 163 (0,0)))(hrg:RG 32 AaT w vi ids)(hmo:MapF rk Ch (fun id:List UInt8=>id.length=32) w bo O)(hoo:OOk w O)(id:Bs)(hid:id.length=32):
  Calls AaU 139 #[PQ g 0,AB id] w fun e w' =>∃x,e = .returned x∧∃(o:Bs × Nat) (s:AaR),x = .tuple #[.agg ([s,NI o.2]).toArray,NI (Cq (some (ids,fun k=>(O k).map Abq)) id).2]∧o=(Cq (some (ids,fun k=>(O k).map Abq)) id).1∧RB w' s o.1∧Ext w w' :=by
 refine gG (args:= [PQ g 0,AB id]) Tryz.func139 rfl 24 rfl rfl ?_;have hE:=Ext.refl w;refine gS (Yk.box (vr (AB id) rfl) fun n2 w3 r aa j a6=> ?_);have a7:=Ar hmo.lt r;have b:=aa;clear aa;have a8:n2<w3.heap.size:=by omega
 refine gS (Yk.alloc DG fun t aw c ab ac a9=> ?_);have hE:=hE.trans j;have ad:=hE.size;have hmo:=hmo.keep j;have ba:=Ar hmo.lt c;have a:=ab;clear ab;have bb:t<aw.heap.size:=by omega
 refine gS (X5 Fw rfl ?_);rcases hO:O id with _ | x
 ·have hQ:Cq (some (ids,fun k=>(O k).map Abq)) id=(([],0),12):=by show(match (O id).map Abq with | none=>_ | some x=>_)=_;rw[hO];rfl
  refine cF rfl (DV [0,1,2,3,4,5,6,7,8,9,10,11] [9,10] [1,2,7,8] [3,4,5] fun ae af=> ?_);have f:=Ext.refl ae;have hZ1:=ac.trans af;have hE:=hE.trans hZ1;have ax:=hE.size;have l:=Ext.refl ae;have ay:=Ar (bl hg) r;have hg:=eb j hg;have az:=Ar (bl hg) c;have hg:=eb hZ1 hg;have a0:=Ar (bl b) c;have b:=eb hZ1 b;have hmo:=hmo.keep hZ1;refine DQ l ?_;refine yp (Yk.nilCheck rfl zz) (yp (Yk.fieldAt Nr rfl zz) (yf (fun _ ⟨hZ,_⟩=>XJ CH rfl rfl (cellAt (eb hZ hg) rfl) zz) (yf (fun _ ⟨hZ,_⟩=>XO rfl (eb hZ b) UY rfl (by exact Ac hid) zz) (yf (fun _ ⟨hZ,_⟩=>Yw (ek:=rk) (ev:=Ch) (D:=(fun id:List UInt8=>id.length=32)) Ce Cf (fun _ _=>B9) CH (z:=Ch K6) G4 rfl rfl (hmo.keep hZ) hid hO zz) (yp (Yk.extract (vs:= [.agg ([(Aa0 none 0 0),NI 0]).toArray, .bool (false)]) rfl rfl zz) (yp (Yk.extract (vs:= [.agg ([(Aa0 none 0 0),NI 0]).toArray, .bool (false)]) rfl rfl zz) (yE (Yk.alloc DG fun ag a1 a2 ah m bc=> ?_))))))));have bd:=Ar hmo.lt a2;have n:=ah;clear ah;have be:ag<a1.heap.size:=by omega
  have l:=l.trans m;refine⟨l,?_⟩;refine yD rfl (XN (vr (PQ ag 0) rfl) (vr (.agg ([(Aa0 none 0 0),NI 0]).toArray) rfl) n rfl (show(Tryz.prog.info? 215).map (·.size)=some 2 from Bf) (Cn rfl) fun bf ai u bg=> ?_);have hmo:=hmo.keep m;have hmo:=MapF.other hmo u (Am (by omega));clear n;have n:=ai;clear ai;have bh:=bl n;have f:=f.trans m;have f:=Ab f u (AaV (AaX _) (by omega));have a:=eb (af.trans f) a;refine gS (Ym rfl (cT rfl (gS (Yk.run (v:= .agg ([(Aa0 none 0 0),NI 0]).toArray) (by kernel_rfl) (gS (XN (vr (PQ t 0) rfl) (vr (.agg ([(Aa0 none 0 0),NI 0]).toArray) rfl) a rfl (show(Tryz.prog.info? 215).map (·.size)=some 2 from Bf) (Cn rfl) fun bi aj ak bj=> ?_))))));have hmo:=MapF.other hmo ak (Am (by omega));clear a;have a:=aj;clear aj;have bk:=bl a;refine MV rfl (ResF.row rfl a (Dm).choose_spec rfl ((show(Tryz.prog.info? 215).map (·.size)=some 2 from Bf))) (vr (NI 12) rfl) ?_;have hE:=hE.trans m;have hE:=Ab hE u (AaV ax (by omega));have hE:=Ab hE ak (AaV ad (by omega));exact⟨_,rfl,([],0),_,by rw[hQ],by rw[hQ],RB.nil _,hE⟩
 have hQ:Cq (some (ids,fun k=>(O k).map Abq)) id=(x.1,0):=by show(match (O id).map Abq with | none=>_ | some x=>_)=_;rw[hO];rfl
 have hxr:=hoo id x hO;refine cF rfl (DV [0,1,2,3,4,5,6,7,8,9,10,11] [9,10] [1,2,7,8] [3,4,5] fun al am=> ?_);have h:=Ext.refl al;have hZ2:=ac.trans am;have hE:=hE.trans hZ2;have a3:=hE.size;have p:=Ext.refl al;have ay:=Ar (bl hg) r;have hg:=eb j hg;have az:=Ar (bl hg) c;have hg:=eb hZ2 hg;have a0:=Ar (bl b) c;have b:=eb hZ2 b;have hmo:=hmo.keep hZ2;refine DQ p ?_;refine yp (Yk.nilCheck rfl zz) (yp (Yk.fieldAt Nr rfl zz) (yf (fun _ ⟨hZ,_⟩=>XJ CH rfl rfl (cellAt (eb hZ hg) rfl) zz) (yf (fun _ ⟨hZ,_⟩=>XO rfl (eb hZ b) UY rfl (by exact Ac hid) zz) (yf (fun _ ⟨hZ,_⟩=>Yr (ek:=rk) (ev:=Ch) (D:=(fun id:List UInt8=>id.length=32)) Ce Cf (fun _ _=>B9) CH (z:=Ch K6) G4 rfl rfl (hmo.keep hZ) hid hO zz) (yp (Yk.extract (vs:= [.agg ([x.2,NI x.1.2]).toArray, .bool (true)]) rfl rfl zz) (yp (Yk.extract (vs:= [.agg ([x.2,NI x.1.2]).toArray, .bool (true)]) rfl rfl zz) (yE (Yk.alloc DG fun an a4 a5 ao q bm=> ?_))))))));have bn:=Ar hmo.lt a5;have i:=ao;clear ao;have bp:an<a4.heap.size:=by omega
 have p:=p.trans q;refine⟨p,?_⟩;have hE:=hE.trans q;refine yD rfl (XN (vr (PQ an 0) rfl) (vr (.agg ([x.2,NI x.1.2]).toArray) rfl) i rfl (show(Tryz.prog.info? 215).map (·.size)=some 2 from Bf) (Cn (RB.one (hxr.keep hE)).2) fun bq ap y br=> ?_);have hmo:=hmo.keep q;have hmo:=MapF.other hmo y (Am (by omega));clear i;have i:=ap;clear ap;have bs:=bl i;have h:=h.trans q;have h:=Ab h y (AaV (AaX _) (by omega));have a:=eb (am.trans h) a;have hE:=Ab hE y (AaV a3 (by omega));refine gS (Ym rfl (cF rfl (gS (XO rfl i (Dm).choose_spec rfl (show(Tryz.prog.info? 215).map (·.size)=some 2 from Bf) (gS (XN (vr (PQ t 0) rfl) (vr (.agg ([x.2,NI x.1.2]).toArray) rfl) a rfl (show(Tryz.prog.info? 215).map (·.size)=some 2 from Bf) (Cn (RB.one (hxr.keep hE)).2) fun bt aq ar bu=> ?_))))));have hmo:=MapF.other hmo ar (Am (by omega));clear a;have a:=aq;clear aq;have bv:=bl a;refine MV rfl (ResF.row rfl a (Dm).choose_spec rfl ((show(Tryz.prog.info? 215).map (·.size)=some 2 from Bf))) (vr (NI 0) rfl) ?_;have hE:=Ab hE ar (AaV ad (by omega));exact⟨_,rfl,x.1,x.2,by rw[hQ],by rw[hQ],(hxr.keep hE),hE⟩

theorem Sc(w:AaS)(v:AaR)(q:Option AZ)(h:PackO w v q)(id:Bs)(hid:id.length=32):
  Calls AaU 139 #[v,AB id] w fun e w' =>∃x,e = .returned x∧∃(o:Bs × Nat) (s:AaR),x = .tuple #[.agg ([s,NI o.2]).toArray,NI (Cq q id).2]∧o=(Cq q id).1∧RB w' s o.1∧Ext w w' :=by
 match q,h with
 | none,h=>rw[show v = .pointer none from h];exact Sb w id hid
 | some p,h=>
  obtain⟨g,vi,bo,O,rfl,h2,hg,hrg,hmo,hoo⟩:=h;obtain⟨ids,P⟩:=p;subst h2;exact Ts w g bo vi ids O hg hrg hmo hoo id hid

theorem Tt(w:AaS)(v:AaR)(q:Option AZ)(hq:PackO w v q)(id:Bs)(hid:id.length=32)(hb:(Cq q id).1.1.length<1099511627776):
  Calls AaU 85 #[v,AB id] w fun e w' =>∃v',e = .returned (.tuple #[v',NI (Cq q id).2])∧w'.ownsRow w.heap.size 5 1 v' (Cq q id).1.1.length (AaT (Cq q id).1.1)∧Ext w w' :=by
 refine gG (args:= [v,AB id]) Tryz.func85 rfl 18 rfl rfl ?_;have hE:=Ext.refl w;refine gS (Yk.box (vr (AB id) rfl) fun r s ab g t ac=> ?_);have f:=g;clear g;have ad:r<s.heap.size:=by omega
 have hE:=hE.trans t;refine gS (XO rfl f UY rfl (by exact Ac hid) (gS (XM Qn rfl rfl ((Sc _ v q (hq.keep hE) id hid).mono ?_))));rintro e u ⟨_,rfl,o,c,rfl,ho,h,i⟩;refine⟨_,rfl,?_⟩;subst ho;refine gS (Yk.extract (vs:= [.agg ([c,NI ((Cq q id).1.2)]).toArray,NI ((Cq q id).2)]) rfl rfl (gS (Yk.extract (vs:= [.agg ([c,NI ((Cq q id).1.2)]).toArray,NI ((Cq q id).2)]) rfl rfl (gS (Yk.alloc DG fun j x ae k l af=> ?_)))));have a:=Ext.refl u;have hE:=hE.trans i;have y:=hE.size;have b:=k;clear k;have ag:j<x.heap.size:=by omega
 have a:=a.trans l;refine gS (XN (vr (PQ j 0) rfl) (vr (.agg ([c,NI ((Cq q id).1.2)]).toArray) rfl) b rfl (show(Tryz.prog.info? 215).map (·.size)=some 2 from Bf) (Cn (RB.one (h.keep a)).2) fun ah m n ai=> ?_);clear b;have b:=m;clear m;have aj:=bl b;have a:=Ab a n (AaV (AaX _) (by omega));refine gS (Yk.fieldAt Gf rfl (gS (XJ F5 rfl rfl (cellAt b rfl) (gS (XQ Sa rfl ((LM _ c (Cq q id).1.1 (h.keep a) (by omega)).mono ?_))))));rintro e ak ⟨z,rfl,p⟩;refine⟨_,rfl,?_⟩;have hE:=hE.trans l;have hE:=Ab hE n (AaV y (by omega));have al:=hE.size;have am:=a.size;have f:=eb (i.trans a) f;have aa:=p.own;refine By rfl (vr z rfl) (vr (NI ((Cq q id).2)) rfl) ?_;have hE:=hE.trans p.ext;exact⟨_,rfl,BH aa (by omega),hE⟩
abbrev BY:=List (List UInt8 × Nat)
def Aw:BY→List UInt8→Option Nat
  | [],_=>none
  | e :: r,s=>if e.1=s then some e.2 else Aw r s
theorem Dn(e:List UInt8 × Nat)(r:BY)(s:List UInt8):Aw (e :: r) s=if e.1=s then some e.2 else Aw r s:=rfl
def G7(l:BY)(s:List UInt8):BY:=l.filter fun e=> !decide (e.1=s)
def Gg(l:BY)(s:List UInt8)(k:Nat):BY:=l.takeWhile (fun e=>Ab2 e.1 s)++(s,k) :: l.dropWhile (fun e=>Ab2 e.1 s)
structure CR where
  frm:List UInt8
  to:List UInt8
  file:Nat
def turnD(l:BY)(a:CR):BY:=if a.to.length=0 then G7 l a.frm else Gg (G7 (G7 l a.frm) a.to) a.to a.file
def Fj(l:BY):Prop:=l.Pairwise fun a b=>Ab2 a.1 b.1=true
theorem Ny{a b c:List UInt8}(h:Ab2 a b=true)(k:Ab2 b c=true):Ab2 a c=true:=by
  rw[bytesLess_eq,decide_eq_true_eq]at *;exact List.lt_trans h k
theorem Fx(a:List UInt8):Ab2 a a=false:=by
  rw[bytesLess_eq];exact decide_eq_false (List.lt_irrefl a)
theorem Tu{a b:List UInt8}(h:Ab2 a b=false)(hne:b≠a):Ab2 b a=true:=by
  rw[bytesLess_eq,decide_eq_false_iff_not]at h;rw[bytesLess_eq,decide_eq_true_eq];have h:b≤a:=h;rcases List.le_total a b with h2 | h2
  · exact absurd (List.le_antisymm h h2) hne
  · exact AcE fun hn=>hne (List.le_antisymm h hn)
theorem Iz{l:BY}{s:List UInt8}:Aw l s=none↔∀e∈l,e.1≠s:=by
  induction l with
  | nil=>simp[Aw]
  | cons e r ih=>
    rw[Dn];by_cases h:e.1=s
    · simp[h]
    · simp[h,ih]
theorem D9{l:BY}{s:List UInt8}{k:Nat}(h:Aw l s=some k):(s,k)∈l:=by
  induction l with
  | nil=>cases h
  | cons e r ih=>
    rw[Dn]at h;split at h
    · rename_i he
      cases h;rw[←he];exact AbZ
    · exact Ab1 _ (ih h)
theorem I3{l:BY}(hs:Fj l){e:List UInt8 × Nat}(h:e∈l):Aw l e.1=some e.2:=by
  induction l with
  | nil=>cases h
  | cons x r ih=>
    obtain⟨h1,h2⟩:=AbY.1 hs;rw[Dn];rcases AbF.1 h with rfl | h
    · exact if_pos rfl
    · have:=h1 e h;rw[if_neg (fun he=>by rw[he,Fx]at this;cases this)];exact ih h2 h
theorem JL{l r:BY}{s:List UInt8}:Aw (l++r) s=(Aw l s).or (Aw r s):=by
  induction l with
  | nil=>rfl
  | cons e l ih=>
    rw[AbS,Dn,Dn];by_cases h:e.1=s
    · rw[if_pos h,if_pos h];rfl
    · rw[if_neg h,if_neg h];exact ih
theorem I4(l:BY)(s t:List UInt8):Aw (G7 l s) t=if t=s then none else Aw l t:=by
  induction l with
  | nil=>simp[G7,Aw]
  | cons e r ih=>
    unfold G7 at ih ⊢;by_cases h:e.1=s
    · rw[AeL (by simp[h]),ih];split
      · rfl
      · rename_i ht
        rw[Dn,if_neg (fun he=>ht (he.symm.trans h))]
    · rw[AeM (by simp[h])];rw[Dn,Dn];by_cases he:e.1=t
      · rw[if_pos he,if_pos he,if_neg (fun ht=>h (he.trans ht))]
      · rw[if_neg he,if_neg he];exact ih
theorem Tv{l:BY}{s:List UInt8}(k:Nat)(h:Aw l s=none)(t:List UInt8):Aw (Gg l s k) t=if t=s then some k else Aw l t:=by
  have hl:l=l.takeWhile (fun e=>Ab2 e.1 s)++l.dropWhile (fun e=>Ab2 e.1 s):=(AdQ).symm;have hn:=h;rw[hl,JL]at hn;unfold Gg;rw[JL];rw[Dn];simp only;by_cases ht:t=s
  · subst ht;rw[if_pos rfl,if_pos rfl];cases h2:Aw (l.takeWhile fun e=>Ab2 e.1 t) t with
    | none=>rfl
    | some x=>rw[h2]at hn;cases hn
  · rw[if_neg (fun e=>ht e.symm),if_neg ht]
    conv=>rhs;rw[hl,JL]
theorem K7{l:BY}(h:Fj l)(s:List UInt8):Fj (G7 l s):=Agl (AgJ) h
theorem Vr{l:BY}{s:List UInt8}(hs:Fj l)(h:Aw l s=none):∀e∈l.dropWhile (fun e=>Ab2 e.1 s),Ab2 s e.1=true:=by
  induction l with
  | nil=>intro e he;cases he
  | cons x r ih=>
    obtain⟨h1,h2⟩:=AbY.1 hs;have h3:=Iz.1 h;intro e he;by_cases hx:Ab2 x.1 s=true
    · rw[AgK,if_pos hx]at he;exact ih h2 (Iz.2 fun y hy=>h3 y (Ab1 _ hy)) e he
    · rw[AgK,if_neg hx]at he;have hxs:=Tu (AfD.2 hx) (fun q=>h3 x AbZ q.symm);rcases AbF.1 he with rfl | he
      · exact hxs
      · exact Ny hxs (h1 e he)
theorem Vs{l:BY}{s:List UInt8}:∀e∈l.takeWhile (fun e=>Ab2 e.1 s),Ab2 e.1 s=true:=by
  induction l with
  | nil=>intro e he;cases he
  | cons x r ih=>
    intro e he;by_cases hx:Ab2 x.1 s=true
    · rw[AgL,if_pos hx]at he;rcases AbF.1 he with rfl | he
      · exact hx
      · exact ih e he
    · rw[AgL,if_neg hx]at he;cases he
theorem Tw{l:BY}{s:List UInt8}(k:Nat)(hs:Fj l)(h:Aw l s=none):Fj (Gg l s k):=by
  unfold Gg Fj;have h1:=Vr hs h;have h2:=Vs (l:=l) (s:=s);rw[Acd];refine⟨hs.sublist (Ad3 _),AbY.2 ⟨fun e he=>h1 e he,hs.sublist (Ad4 _)⟩,fun a ha b hb=> ?_⟩;rcases AbF.1 hb with rfl | hb
  · exact h2 a ha
  · exact Ny (h2 a ha) (h1 b hb)
theorem Nz(l:BY)(a b:List UInt8):Aw (G7 (G7 l a) b) b=none:=by rw[I4,if_pos rfl]
theorem look_turn(l:BY)(a:CR)(t:List UInt8):Aw (turnD l a) t=if a.to.length=0 then(if t=a.frm then none else Aw l t)else if t=a.to then some a.file else if t=a.frm then none else Aw l t:=by
  unfold turnD;by_cases h:a.to.length=0
  · rw[if_pos h,if_pos h,I4]
  · rw[if_neg h,if_neg h,Tv _ (Nz _ _ _)];by_cases ht:t=a.to
    · rw[if_pos ht,if_pos ht]
    · rw[if_neg ht,if_neg ht,I4,if_neg ht,I4]
theorem Sd{l:BY}(h:Fj l)(a:CR):Fj (turnD l a):=by
  unfold turnD;split
  · exact K7 h _
  · exact Tw _ (K7 (K7 h _) _) (Nz _ _ _)
theorem Se(l:BY)(s:List UInt8):(G7 l s).length≤l.length:=AcH _ _
theorem Vt(l:BY)(s:List UInt8)(k:Nat):(Gg l s k).length=l.length+1:=by
  unfold Gg;have h:(l.takeWhile (fun e=>Ab2 e.1 s)++l.dropWhile (fun e=>Ab2 e.1 s)).length=l.length:=by rw[AdQ]
  rw[AaY]at h;rw[AaY,Abp];omega
theorem Tx(l:BY)(a:CR):(turnD l a).length≤l.length+1:=by
  have h1:=Se l a.frm;have h2:=Se (G7 l a.frm) a.to;unfold turnD;split
  · omega
  · rw[Vt];omega
theorem IA{l:BY}{s:List UInt8}{e:List UInt8 × Nat}(h:e∈G7 l s):e∈l:=(Acw.1 h).1
theorem Vu{l:BY}{s:List UInt8}{k:Nat}{e:List UInt8 × Nat}(h:e∈Gg l s k):e∈l∨e=(s,k):=by
  unfold Gg at h;rcases Abk.1 h with h | h
  · exact .inl ((Ad3 _).subset h)
  · rcases AbF.1 h with h | h
    · exact .inr h
    · exact .inl ((Ad4 _).subset h)
theorem JM{l:BY}{a:CR}{e:List UInt8 × Nat}(h:e∈turnD l a):e∈l∨(a.to.length≠0∧e=(a.to,a.file)):=by
  unfold turnD at h;split at h
  · exact .inl (IA h)
  · rename_i hn
    rcases Vu h with h | h
    · exact .inl (IA (IA h))
    · exact .inr ⟨hn,h⟩
structure Ae where
  quota:Nat
  files:List (List UInt8 × Nat)
  now:BY
  kept:BY
  acts:List CR
  refused:Nat
  arm:Nat
  down:Bool
def Bh(s:List UInt8):Bool:=decide (1≤s.length)&&decide (s.length≤80)
def CA(d:Ae)(a b:List UInt8):Nat:=if d.down=true then 9 else if Bh a=true∧Bh b=true then 0 else 10
def AY(d:Ae)(k:Nat):List UInt8 × Nat:=d.files.getD k ([],0)
def usedD(d:Ae):Nat:=(d.now.map fun e=>(AY d e.2).1.length).sum
def CS(d:Ae):Ae × Bool:=if d.arm=0 then(d,false)else({ d with arm:=d.arm-1,down:=decide (d.arm-1=0) },decide (d.arm-1=0))
def turnedD(d:Ae)(a:CR):Ae:= { d with now:=turnD d.now a,acts:=d.acts++ [a] }
def Cd(d:Ae)(s b:List UInt8):Ae:=
  match Aw d.now s with
  | some k=> { d with files:=d.files.set k ((AY d k).1++b,(AY d k).2) }
  | none=> { turnedD d ⟨[],s,d.files.length⟩with files:=d.files++ [(b,0)] }
def A0(d:Ae)(s b:List UInt8):Ae × Nat:=
  if CA d s s≠0 then(d,CA d s s)
  else if d.quota<usedD d+b.length then({ d with refused:=d.refused+1 },8)
  else if(CS d).2=true then((CS d).1,9)else(Cd (CS d).1 s b,0)
def FB(d:Ae)(a b:List UInt8):Except Nat Nat:=if CA d a b≠0 then .error (CA d a b)else match Aw d.now a with | some k=> .ok k | none=> .error 4
def DT(d:Ae)(f:Ae→Ae):Ae × Nat:=if(CS d).2=true then((CS d).1,9)else(f (CS d).1,0)
def BB(d:Ae)(s:List UInt8):Ae × Nat:=
  match FB d s s with
  | .error e=>(d,e)
  | .ok k=>DT d fun d=> { d with files:=d.files.set k ((AY d k).1,(AY d k).1.length),kept:=d.now,acts:= [] }
def Bx(d:Ae)(s:List UInt8):Ae × Nat:=
  match FB d s s with
  | .error e=>(d,e)
  | .ok k=>DT d fun d=>turnedD d ⟨s,[],k⟩
def An(d:Ae)(s:List UInt8):List UInt8 × Nat:=
  match FB d s s with
  | .error e=>([],e)
  | .ok k=>((AY d k).1,0)
def Ba(d:Ae):List (List UInt8):=if d.down=true then []else d.now.map Abq
open Go.WideElems (Fit rd rg rg_of)
open Go.WideShapes (sorted_perm)
open Go.MapKept Go.WideShapes
theorem W8{es:List Acz}:(∀e∈es,∃a,e.key=St a)→∃ks:List (List UInt8),es.map (·.key)=ks.map St:=by
  induction es with
  | nil=>intro _;exact⟨[],rfl⟩
  | cons e r ih=>
    intro h;obtain⟨a,ha⟩:=h e AbZ;obtain⟨ks,hk⟩:=ih fun x hx=>h x (Ab1 _ hx);exact⟨a :: ks,by rw[Abv,Abv,ha,hk]⟩
theorem C7{a b:List UInt8}(h:St a=St b):a=b:=by simpa using h
theorem Ty{P:Abo}{k:AaZ}(hk:P.underlying k=some .string){a:List UInt8}(ha:a.length≤maxLen):keyOf P k (St a)=some (.string a):=by
  simp[keyOf,hk,mapKey];exact ha
abbrev Hz(_:AaR):Option (DataW Unit × List MemPlace):=some (.nil,[])
theorem MapF.owns{β:Type}{P:Abo}{k:AaZ}(hk:P.underlying k=some .string){ev:β→AaR}{D:List UInt8→Prop}(hD:∀a,D a→a.length≤maxLen){w:AaS}{b:Nat}{G:List UInt8→Option β}(h:MapF St ev D w b G){keys:List (List UInt8)}(hn:keys.Nodup)(hG:∀s,(G s).isSome=true↔s∈keys)(hmax:keys.length≤maxLen):
    ∃D0:DataW Unit,w.ownsMap P k Hz b keys.length D0∧(strKeys D0).Perm keys∧Maps.size D0=keys.length:=by
  obtain⟨es,c,hb,H,hS⟩:=h;obtain⟨ks,hks⟩:=W8 (es:=es) fun e he=>by obtain⟨a,y,-,h2,-,-⟩:=H.ent e he;exact⟨a,h2⟩
  have hnd:ks.Nodup:=by
    have h:=H.keys;rw[hks]at h;exact AdC St (fun a b hne e=>hne (by rw[e])) h
  have hmem:∀s,s∈ks↔(G s).isSome=true:=fun s=>by
    constructor
    · intro hs;have h1:St s∈es.map (·.key):=by rw[hks];exact Aer hs
      obtain⟨e,he,f⟩:=AbD.1 h1;obtain⟨a,y,-,h2,-,h4⟩:=H.ent e he;obtain rfl:a=s:=C7 (h2.symm.trans f);rw[h4];rfl
    · intro hs;obtain⟨y,hy⟩:=AeH.1 hs;obtain⟨-,e,he,f⟩:=H.all s y hy;have h1:St s∈es.map (·.key):=AbD.2 ⟨e,he,f⟩;rw[hks]at h1;obtain⟨a,ha,g⟩:=AbD.1 h1
      rwa [←C7 g]
  have hperm:ks.Perm keys:=(Adx hnd hn).2 fun s=>(hmem s).trans (hG s);have hlen:es.length=keys.length:=by
    have h1:=congrArg AeR hks;rw[Abh,Abh]at h1;rw[h1,hperm.length_eq]
  have hrd:∀x∈es,∃a,x.key=St a∧rd P k Hz x=some (.string a, .nil):=fun x hx=>by
    obtain⟨a,y,ha,h2,-,-⟩:=H.ent x hx;exact⟨a,h2,by unfold Go.WideElems.rd;rw[h2,Ty hk (hD a ha)];rfl⟩
  have hF:Fit P k Hz es.toArray c:=⟨by rw[Abe,hlen];exact hmax,hS,fun x hx=>by
    obtain⟨a,-,h2⟩:=hrd x (by simpa using hx);exact⟨_,h2⟩⟩
  refine⟨.map ((es.toArray.toList.map (rg P k Hz)).foldr AgV []),⟨es.toArray,c,hb,hF,by rw[Abe,hlen];exact AaX _,rfl⟩,?_,?_⟩
  · have h1:(strKeys (.map ((es.toArray.toList.map (rg P k Hz)).foldr AgV []))).Perm ((es.map (rg P k Hz)).map fun p=>strOf p.1):=(sorted_perm _).map _;refine h1.trans ?_;have h2:(es.map (rg P k Hz)).map (fun p=>strOf p.1)=(es.map (·.key)).map fun v=>match v with | .string s=>s.data.toList | _=> []:=by
      rw[AdK,AdK];refine AgM fun x hx=> ?_;obtain⟨a,h3,h4⟩:=hrd x hx;show strOf (rg P k Hz x).1=_;rw[rg_of h4];simp only[Function.comp,h3,strOf]
    rw[h2,hks,AdK];have h5:ks.map ((fun v:AaR=>match v with | .string s=>s.data.toList | _=> [])∘St)=ks:=by
      conv=>rhs;rw[←List.map_id ks]
      exact AgM fun a _=>rfl
    rw[h5];exact hperm
  · show((es.toArray.toList.map (rg P k Hz)).foldr AgV []).length=_;rw[(sorted_perm _).length_eq,Abh,hlen]
section
variable {α β : Type} (ek : α → AaR) (ev : β → AaR)
def MIt(w:AaS)(g bm:Nat)(left:List (α × β)):Prop:=
  ∃es clock since seen c0,w.heap[g]? =some (.mapIter (some bm) since seen c0)∧w.heap[bm]? =some (.map es clock)∧Ae7 es clock∧(∀x∈es.toList,x.born<since)∧since≤c0∧since≤clock∧((leftOf es seen).toList.map fun e=>(e.key,e.val)).Perm (left.map fun p=>(ek p.1,ev p.2))
def WE(w:AaS)(g bm:Nat)(a:α)(y:β):Prop:=
  ∃(es:Array Acz) (clock since:Nat) (seen:Array Nat) (e:Acz),w.heap[g]? =some (.mapIter (some bm) since (seen.push e.born) clock)∧w.heap[bm]? =some (.map es clock)∧(es.toList.map (·.born)).Nodup∧e∈es.toList∧e.key=ek a∧e.val=ev y
end
def YL(w:AaS)(g:Nat):Nat:=match w.heap[g]? with
  | some (.mapIter (some bm) _ seen _)=>(match w.heap[bm]? with | some (.map es _)=>(leftOf es seen).size | _=>0)
  | _=>0
theorem Zs{α β:Type}{ek:α→AaR}{ev:β→AaR}{w:AaS}{g bm:Nat}{left:List (α × β)}(h:MIt ek ev w g bm left):YL w g=left.length:=by
  obtain⟨es,clock,since,seen,c0,hg,hb,-,-,-,-,hp⟩:=h;have:=hp.length_eq;rw[Abh,Abh]at this;unfold YL;rw[hg];simp only[hb];rw[←this];simp
theorem MIt.lt{α β:Type}{ek:α→AaR}{ev:β→AaR}{w:AaS}{g bm:Nat}{left:List (α × β)}(h:MIt ek ev w g bm left):g<w.heap.size:=by
  obtain⟨es,clock,since,seen,c0,hg,-⟩:=h;exact(Abm.1 hg).1
theorem LN{e:Acz}:∀ {l:List Acz},(l.map (·.born)).Nodup→e∈l→l.Perm (e :: l.filter fun x=> !(x.born==e.born))
  | [],_,h=>by cases h
  | x :: l,hn,h=>by
    have hn' :=Ac2.1 hn;rcases AbF.1 h with rfl | h
    · have hf:l.filter (fun x=> !(x.born==e.born))=l:=Afe.2 fun y hy=>by
        have:y.born≠e.born:=fun q=>hn'.1 (AbD.2 ⟨y,hy,q⟩)
        simpa using this
      rw[AeL (by simp),hf]
    · have hx:x.born≠e.born:=fun q=>hn'.1 (AbD.2 ⟨e,h,q.symm⟩);rw[AeM (by simpa using hx)];exact((LN hn'.2 h).cons x).trans (List.Perm.swap _ _ _)
theorem Sf(es:Array Acz)(seen:Array Nat)(b:Nat):(leftOf es (seen.push b)).toList=(leftOf es seen).toList.filter fun x=> !(x.born==b):=by
  unfold leftOf;simp only[Afg,List.filter_filter];refine List.filter_congr fun x _=> ?_;rw[AdY];simp[and_comm]
theorem Qo{es:Array Acz}{seen:Array Nat}(h:(es.toList.map (·.born)).Nodup):((leftOf es seen).toList.map (·.born)).Nodup:=by
  unfold leftOf;rw[Afg];exact(List.filter_sublist.map _).nodup h
section
variable {P : Abo} {K : AaR → AaS → Prop} {ρ : Ad} {w : AaS} {d : Option Tmp} {ty : AaZ} {pos : String} {af : Array AbP} {gd : Option (Nat × Bool)}
variable {α β : Type} {ek : α → AaR} {ev : β → AaR} {D : α → Prop} {b : Nat} {G : α → Option β} {t Kt E : AaZ}
theorem Aal(hi:∀a c,ek a=ek c→a=c)(ht:P.underlying t=some (.map Kt E)){x:Aa5}(hx:Aa ρ x = .map (some b))(h:MapF ek ev D w b G){ps:List (α × β)}(hn:(ps.map Abq).Nodup)(hG:∀a y,G a=some y↔(a,y)∈ps) 
    (hk:∀n w',w.heap.size=n→MIt ek ev w' n b ps→Ext w w' →w'.heap.size=n+1→K (.pointer (some ⟨n,0,none⟩)) w'):Yk P K ((execOp (Aa ρ) ⟨d, .range t x,ty,pos,af,gd⟩).run P w):=by
  have hlt:=h.lt;obtain⟨es,c,hb,H,hS⟩:=h;have hr:(execOp (Aa ρ) ⟨d, .range t x,ty,pos,af,gd⟩).run P w = .ok (.value (.pointer (some ⟨w.heap.size,0,none⟩))) (w.alloc (.mapIter (some b) c #[] c)):=by
    unfold execOp;simp only[hx,Aa7,run_range_map w t Kt E b _ c ht hb,Aa3,Abb]
  rw[hr];refine hk _ _ rfl ⟨es.toArray,c,c,#[],c,heap_alloc_new _ _,(heap_alloc_old _ _ hlt).trans hb,hS,hS.1,AaX _,AaX _,?_⟩ ((AbJ _ _).alloc (AaX _) _) (by simp);have h0:(leftOf es.toArray #[]).toList=es:=by
    unfold leftOf;rw[Afg];exact Afe.2 fun _ _=>by simp
  rw[h0];refine(Adx ?_ ?_).2 fun q=> ?_
  · exact AdC (S:=(· ≠ ·)) Abq (fun a c hne e=>hne (by rw[e])) (by rw[AdK];exact H.keys)
  · refine AeN _ (fun p q hne e=>hne ?_) (AdC (S:=(· ≠ ·)) (R:=fun p q:α × β=>p.1≠q.1) Abq (fun _ _ h=>h) hn);exact hi _ _ (congrArg Abq e)
  · constructor
    · intro hq;obtain⟨e,he,rfl⟩:=AbD.1 hq;obtain⟨a,y,-,h2,h3,h4⟩:=H.ent e he;exact AbD.2 ⟨(a,y),(hG a y).1 h4,by rw[h2,h3]⟩
    · intro hq;obtain⟨p,hp,rfl⟩:=AbD.1 hq;have hg:=(hG p.1 p.2).2 hp;obtain⟨-,e,he,hek⟩:=H.all p.1 p.2 hg;obtain⟨a,y,-,h2,h3,h4⟩:=H.ent e he;have ha:a=p.1:=hi _ _ (h2.symm.trans hek);rw[ha,hg]at h4;cases h4;exact AbD.2 ⟨e,he,by rw[hek,h3]⟩
theorem ZE{x:Aa5}{g bm:Nat}{left:List (α × β)}(hx:Aa ρ x = .pointer (some ⟨g,0,none⟩))(h:MIt ek ev w g bm left) 
    (h0:left= []→K (.tuple #[.bool false]) w) (h1:∀a y rest w',left.Perm ((a,y) :: rest)→MIt ek ev w' g bm rest→WE ek ev w' g bm a y→w.grownBy w' (some g)→w'.heap.size=w.heap.size→K (.tuple #[.bool true,ek a,ev y]) w'):
    Yk P K ((execOp (Aa ρ) ⟨d, .next x false,ty,pos,af,gd⟩).run P w):=by
  obtain⟨es,clock,since,seen,c0,hg,hb,hS,hold,hsc,hck,hp⟩:=h;have hgl:=(Abm.1 hg).1;have hne:bm≠g:=fun e=>by rw[e,hg]at hb;cases hb
  have hlp:=hp.length_eq;rw[Abh,Abh]at hlp;have hL:(leftOf es seen).toList.length=(leftOf es seen).size:=by simp
  by_cases hz:(leftOf es seen).size=0
  · have hr:(Agu (.pointer (some ⟨g,0,none⟩)) false ty).run P w = .ok (.tuple #[.bool false]) w:=by
      simp only[Agu,getObj,Aa7,Ae3,hg,hb,AbM,next_test_false seen es since c0 hold hsc,Ado,if_false];unfold leftOf at hz;have hz' :AgW (fun e=> !seen.contains e.born) es = #[]:=Array.eq_empty_of_size_eq_zero hz;rw[hz'];simp[choose,Ae3,Af8]
    unfold execOp;simp only[hx,hr,Aa7,Aa3,Abb];exact h0 (AbC (by omega))
  · obtain⟨e,he,w1,hw1,hsz1,hr⟩:∃e∈(leftOf es seen).toList,∃w1:AaS,w.grownBy w1 none∧w1.heap=w.heap∧(Agu (.pointer (some ⟨g,0,none⟩)) false ty).run P w = .ok (.tuple #[.bool true,e.key,e.val]) { w1 with heap:=w1.heap.setIfInBounds g (.mapIter (some bm) since (seen.push e.born) clock) } :=by
      simp only[Agu,getObj,Aa7,Ae3,hg,hb,AbM,next_test_false seen es since c0 hold hsc,Ado,if_false];unfold leftOf at hz ⊢;have hmem:∀x∈(AgW (fun e=> !seen.contains e.born) es).toList,x.born<since:=fun x hx=>hold x (by simp at hx ⊢;exact hx.1)
      generalize AgW (fun e=> !seen.contains e.born) es=L at hmem hz ⊢
      have l:L.filter (fun x=>decide (x.born<since))=L:=Array.filter_eq_self.2 (fun x hx=>by simpa using hmem x (by simpa using hx));have m:L.filter (fun x=>decide (x.born≥since)) = #[]:=by
        rw[Array.filter_eq_empty_iff];intro x hx;have:=hmem x (by simpa using hx);simp;omega
      simp only[l,m,Array.append_empty];have hne' :L.isEmpty=false:=by simp[Array.isEmpty,hz]
      simp only[hne',Ado,if_false,Array.empty_append,Array.size_map];have hch:∃(j:Nat) (w1:AaS),j<L.size∧w.grownBy w1 none∧w1.heap=w.heap∧(choose (Question.mapNext L.size)).run P w = .ok j w1:=by
        by_cases hf:L.size≤1
        · exact⟨0,w,by omega,Ace _ _,rfl,by simp[choose,Ae3,Af8,hf]⟩
        · exact⟨_,w.drew,Nat.mod_lt _ (by omega),(Grew.refl w undef).drew.by_,rfl,by
            simp only[choose,Ae3,Af8,decide_eq_true_eq,hf,if_false,Question.cut];rfl⟩
      obtain⟨j,w1,hj,hal,hwh,hrun⟩:=hch;refine⟨L[j],by simp,w1,hal,hwh,?_⟩;simp only[hrun,Array.getElem?_map,AfH hj,Aca,Aa7,AbM,setObj,Ae3,hwh,hg];rfl
    have hmk:(e.key,e.val)∈left.map fun p=>(ek p.1,ev p.2):=hp.mem_iff.1 (Aer (f:=fun e:Acz=>(e.key,e.val)) he);obtain⟨p,hpm,hpe⟩:=AbD.1 hmk;obtain⟨rest,hrest⟩:∃rest,left.Perm (p :: rest):=by
      obtain⟨s,t,hst⟩:=Adq hpm;exact⟨s++t,by rw[hst];exact List.perm_middle⟩
    have b:ek p.1=e.key:=congrArg Abq hpe;have c:ev p.2=e.val:=congrArg Prod.snd hpe;unfold execOp;simp only[hx,hr,Aa7,Aa3,Abb];rw[←b,←c];have hgr:w.grownBy { w1 with heap:=w1.heap.setIfInBounds g (.mapIter (some bm) since (seen.push e.born) clock) } (some g):=
      ⟨hw1.os,hw1.tape,hw1.output,by simp[hsz1],fun i _ hi=>by rw[hsz1];simp only[Acu];rw[if_neg (fun q=>hi (by rw[q]))]⟩
    have k:({ w1 with heap:=w1.heap.setIfInBounds g (.mapIter (some bm) since (seen.push e.born) clock) } :AaS).heap[bm]? =some (.map es clock):=by
      simp only[hsz1,Acu];rw[if_neg (fun q=>hne q.symm)];exact hb
    have hes:e∈es.toList:=by have:=he;unfold leftOf at this;simp at this ⊢;exact this.1
    refine h1 p.1 p.2 rest _ hrest ⟨es,clock,since,seen.push e.born,clock,by simp[hsz1,hgl],k,hS,hold,hck,hck,?_⟩ ⟨es,clock,since,seen,e,by simp[hsz1,hgl],k,hS.2.1,hes,b.symm,c.symm⟩ hgr (by simp[hsz1])
    · have h2:=(LN (Qo (seen:=seen) hS.2.1) he).map fun e:Acz=>(e.key,e.val);rw[←Sf]at h2;have h3:=(h2.symm.trans hp).trans (hrest.map fun p=>(ek p.1,ev p.2));rw[Abv,Abv,←hpe]at h3;exact h3.cons_inv
theorem ZL{x:Aa5}{g bm:Nat}{left:List (α × β)}(hx:Aa ρ x = .pointer (some ⟨g,0,none⟩))(h:MIt ek ev w g bm left)(h0:left= [])(hk:K (.tuple #[.bool false]) w):
    Yk P K ((execOp (Aa ρ) ⟨d, .next x false,ty,pos,af,gd⟩).run P w):=
  ZE hx h (fun _=>hk) fun a y rest w' hp _ _ _ _=>by rw[h0]at hp;exact absurd hp.length_eq (by simp)
theorem Z3{x:Aa5}{g bm:Nat}{left:List (α × β)}(hx:Aa ρ x = .pointer (some ⟨g,0,none⟩))(h:MIt ek ev w g bm left)(h0:left≠ []) 
    (hk:∀a y rest w',left.Perm ((a,y) :: rest)→MIt ek ev w' g bm rest→WE ek ev w' g bm a y→w.grownBy w' (some g)→w'.heap.size=w.heap.size→K (.tuple #[.bool true,ek a,ev y]) w'):
    Yk P K ((execOp (Aa ρ) ⟨d, .next x false,ty,pos,af,gd⟩).run P w):=ZE hx h (fun e=>absurd e h0) hk
theorem Aam{x:Aa5}{g bm:Nat}{a:α}{y:β}(hx:Aa ρ x = .pointer (some ⟨g,0,none⟩))(h:WE ek ev w g bm a y)(hk:K (.tuple #[ek a,ev y]) w):
    Yk P K ((execOp (Aa ρ) ⟨d, .entry x,ty,pos,af,gd⟩).run P w):=by
  obtain⟨es,clock,since,seen,e,hg,hb,hn,he,h1,h2⟩:=h;have hf:es.find? (·.born==e.born)=some e:=by rw[←Array.find?_toList];exact find_born e es.toList hn he
  have hr:(Instr.entry (.pointer (some ⟨g,0,none⟩))).run P w = .ok (.tuple #[e.key,e.val]) w:=by
    simp only[Instr.entry,getObj,Aa7,Ae3,hg,hb,AbM,Array.back?_push,bne_self_eq_false,Ado,if_false,hf];rfl
  unfold execOp;simp only[hx,hr,Aa7,Aa3,Abb];rw[h1,h2];exact hk
end
structure DirOk (n : Nat) (l : BY) : Prop where
  sort:Fj l
  num:∀e∈l,e.2<n
  may:∀e∈l,Bh e.1=true
structure ActOk (n : Nat) (a : CR) : Prop where
  num:a.file<n
  may:a.to.length≠0→Bh a.to=true
  frm:a.frm.length≤80
structure DOk (d : Ae) : Prop where
  now:DirOk d.files.length d.now
  kept:DirOk d.files.length d.kept
  acts:∀a∈d.acts,ActOk d.files.length a
  syn:∀x∈d.files,x.2≤x.1.length
theorem DirOk.nil(n:Nat):DirOk n []:=⟨AcQ,fun _ h=>(by cases h),fun _ h=>(by cases h)⟩
theorem DirOk.mono{n m:Nat}{l:BY}(h:DirOk n l)(hn:n≤m):DirOk m l:=⟨h.sort,fun e he=>AbL (h.num e he) hn,h.may⟩
theorem ActOk.mono{n m:Nat}{a:CR}(h:ActOk n a)(hn:n≤m):ActOk m a:=⟨AbL h.num hn,h.may,h.frm⟩
theorem DirOk.turn{n:Nat}{l:BY}{a:CR}(h:DirOk n l)(ha:ActOk n a):DirOk n (turnD l a):=
  ⟨Sd h.sort a,fun e he=>(JM he).elim (h.num e) fun⟨_,q⟩=>q▸ha.num,fun e he=>(JM he).elim (h.may e) fun⟨q,r⟩=>r▸ha.may q⟩
theorem DirOk.look{n:Nat}{l:BY}(h:DirOk n l){s:List UInt8}{k:Nat}(hk:Aw l s=some k):k<n∧Bh s=true:=⟨h.num _ (D9 hk),h.may _ (D9 hk)⟩
theorem Cv{s:List UInt8}(h:Bh s=true):1≤s.length∧s.length≤80:=by
  unfold Bh at h
  simpa using h
theorem DirOk.noEmpty{n:Nat}{l:BY}(h:DirOk n l):Aw l []=none:=Iz.2 fun e he q=>by
  have:=Cv (h.may e he);rw[q]at this;simp at this
theorem IB{d:Ae}{k:Nat}(h:k<d.files.length):AY d k∈d.files:=by
  unfold AY;rw[AaW,Aa2 h];exact Acp h
theorem DOk.sync_le{d:Ae}(h:DOk d)(k:Nat):(AY d k).2≤(AY d k).1.length:=by
  by_cases hk:k<d.files.length
  · exact h.syn _ (IB hk)
  · unfold AY;rw[AaW,Ab3 (by omega)];exact AaX 0
theorem DOk.turned{d:Ae}(h:DOk d){a:CR}(ha:ActOk d.files.length a):DOk (turnedD d a):=
  ⟨h.now.turn ha,h.kept,fun b hb=>(Abk.1 hb).elim (h.acts b) fun q=>Aa6.1 q▸ha,h.syn⟩
theorem DOk.files{d:Ae}(h:DOk d)(fs:List (List UInt8 × Nat))(hl:d.files.length≤fs.length)(hs:∀x∈fs,x.2≤x.1.length):DOk { d with files:=fs } :=
  ⟨h.now.mono hl,h.kept.mono hl,fun a ha=>(h.acts a ha).mono hl,hs⟩
theorem DOk.setFile{d:Ae}(h:DOk d)(k:Nat)(x:List UInt8 × Nat)(hx:x.2≤x.1.length):DOk { d with files:=d.files.set k x } :=
  h.files _ (by rw[Acv];exact AaX _) fun y hy=>(AdD hy).elim (h.syn y) fun q=>q▸hx
theorem DOk.newFile{d:Ae}(h:DOk d)(x:List UInt8 × Nat)(hx:x.2≤x.1.length):DOk { d with files:=d.files++ [x] } :=
  h.files _ (by rw[AaY];exact Ac8 _ _) fun y hy=>(Abk.1 hy).elim (h.syn y) fun q=>Aa6.1 q▸hx
theorem DOk.add{d:Ae}(h:DOk d){s:List UInt8}(b:List UInt8)(hs:Bh s=true):DOk (Cd d s b):=by
  unfold Cd;split
  · rename_i k hk
    refine h.setFile k _ ?_;have:=h.sync_le k;simp only[AaY];omega
  · have h1:=h.newFile (b,0) (Abs _);have h2:=h1.turned (a:=⟨[],s,d.files.length⟩) ⟨by simp,fun _=>hs,Abs _⟩;exact h2
theorem HA(d:Ae):(CS d).1.files=d.files∧(CS d).1.now=d.now∧(CS d).1.kept=d.kept∧(CS d).1.acts=d.acts∧(CS d).1.quota=d.quota∧(CS d).1.refused=d.refused:=by
  unfold CS;split <;> exact⟨rfl,rfl,rfl,rfl,rfl,rfl⟩
theorem DOk.synced{d:Ae}(h:DOk d)(k:Nat):DOk { d with files:=d.files.set k ((AY d k).1,(AY d k).1.length),kept:=d.now,acts:= [] } :=by
  have h1:=h.setFile k ((AY d k).1,(AY d k).1.length) (AaX _);exact⟨h1.now,h1.now,fun a ha=>(by cases ha),h1.syn⟩
theorem Tz{d:Ae}{s t:List UInt8}(h:CA d s t=0):d.down=false∧Bh s=true∧Bh t=true:=by
  unfold CA at h;split at h
  · cases h
  · rename_i hd
    split at h
    · rename_i hm
      exact⟨AfD.2 hd,hm⟩
    · cases h
structure Chg (B : Nat → Prop) (w w' : AaS) : Prop where
  os:w'.os=w.os
  tape:w'.tape=w.tape
  output:w'.output=w.output
  size:w.heap.size≤w'.heap.size
  blk:∀i,i<w.heap.size→¬B i→w'.heap[i]? =w.heap[i]?
theorem Chg.refl(B:Nat→Prop)(w:AaS):Chg B w w:=⟨rfl,rfl,rfl,AaX _,fun _ _ _=>rfl⟩
theorem Chg.trans{B B' :Nat→Prop}{w w1 w2:AaS}(h:Chg B w w1)(k:Chg B' w1 w2)(hB:∀i,B' i→B i∨w.heap.size≤i):Chg B w w2:=
  ⟨k.os.trans h.os,k.tape.trans h.tape,k.output.trans h.output,AaV h.size k.size,fun i hi hn=>by
    have hs:=h.size;rw[k.blk i (by omega) (fun hb=>(hB i hb).elim hn (by omega)),h.blk i hi hn]⟩
theorem Chg.mono{B B' :Nat→Prop}{w w' :AaS}(h:Chg B w w')(hB:∀i,i<w.heap.size→B i→B' i):Chg B' w w' :=
  ⟨h.os,h.tape,h.output,h.size,fun i hi hn=>h.blk i hi fun hb=>hn (hB i hi hb)⟩
theorem Yc{w w' :AaS}{r:Option Nat}{B:Nat→Prop}(h:w.grownBy w' r)(hr:∀i,r=some i→B i∨w.heap.size≤i):Chg B w w' :=
  ⟨h.os,h.tape,h.output,h.size,fun i hi hn=>h.block i hi fun e=>(hr i e.symm).elim hn (by omega)⟩
theorem YP{w w' :AaS}{B:Nat→Prop}(h:Ext w w'):Chg B w w' :=Yc h.grown fun i e=>by cases e
theorem Chg.ext{w0 w w' :AaS}{B:Nat→Prop}(hE:Ext w0 w)(h:Chg B w w')(hB:∀i,B i→w0.heap.size≤i):Ext w0 w' :=by
  have h1:=hE.grown;have hs:=hE.size;exact(AbJ _ _).grown (⟨h.os.trans h1.os,h.tape.trans h1.tape,h.output.trans h1.output,AaV hs h.size,fun i hi hn=>by
    rw[h.blk i (by omega) (fun hb=>by have:=hB i hb;omega),h1.block i hi hn]⟩:w0.grownBy w' none) (AaX _) (fun _ e=>by cases e)
theorem Du{base:Nat}{e:AaZ}{size:Nat}{v:AaR}{n:Nat}{xs:List AaR}{B:Nat→Prop}{w w' :AaS}(hc:Chg B w w')(h:w.ownsRow base e size v n xs)(hB:∀i,v.ownBlock=some i→¬B i):w'.ownsRow base e size v n xs:=by
  refine⟨h.1,h.2.imp (fun x=>x) fun⟨g,cap,cur,a,c,b,r⟩=>⟨g,cap,cur,a,c,(hc.blk g (bl b) (hB g (by rw[a];rfl))).trans b,r⟩⟩
structure Dk where
  g:Nat
  mn:Nat
  ml:Nat
  va:AaR
  F:Nat→Nat
  V:Nat→AaR
def B2(H:Dk)(n:Nat)(i:Nat):Prop:=i=H.g∨i=H.mn∨i=H.ml∨H.va.ownBlock=some i∨∃k,k<n∧(i=H.F k∨(H.V k).ownBlock=some i)
structure FileAt (base : Nat) (w : AaS) (f : Nat) (v : AaR) (x : List UInt8 × Nat) : Prop where
  blk:w.heap[f]? =some (.cells ([v,NI x.2]).toArray 133 (0,0))
  row:w.ownsRow base 5 1 v x.1.length (AaT x.1)
  lo:base≤f
structure FilesAt (base : Nat) (w : AaS) (F : Nat → Nat) (V : Nat → AaR) (fs : List (List UInt8 × Nat)) : Prop where
  at_:∀k,k<fs.length→FileAt base w (F k) (V k) (fs.getD k ([],0))
  inj:∀i j,i<fs.length→j<fs.length→F i=F j→i=j
  apart:∀i j,i<fs.length→j<fs.length→i≠j→∀x,(V i).ownBlock=some x→(V j).ownBlock≠some x
theorem FileAt.keep{base:Nat}{w w' :AaS}{f:Nat}{v:AaR}{x:List UInt8 × Nat}(h:FileAt base w f v x){B:Nat→Prop}(hc:Chg B w w')(h1:¬B f)(h2:∀i,v.ownBlock=some i→¬B i):FileAt base w' f v x:=
  ⟨(hc.blk f (bl h.blk) h1).trans h.blk,Du hc h.row h2,h.lo⟩
theorem FilesAt.chg{base:Nat}{w w' :AaS}{F:Nat→Nat}{V:Nat→AaR}{fs:List (List UInt8 × Nat)}(h:FilesAt base w F V fs){B:Nat→Prop}(hc:Chg B w w')(hB:∀k,k<fs.length→¬B (F k)∧∀i,(V k).ownBlock=some i→¬B i):FilesAt base w' F V fs:=
  ⟨fun k hk=>(h.at_ k hk).keep hc (hB k hk).1 (hB k hk).2,h.inj,h.apart⟩
def W9:Prop:=False
def ActAt(w:AaS)(F:Nat→Nat)(v:AaR)(a:CR):Prop:=
  (∃bf bn,v = .func (.func 141) #[] #[PQ bf 0,PQ bn 0]∧w.heap[bf]? =some (.cells ([PQ (F a.file) 0]).toArray 113 (0,0))∧w.heap[bn]? =some (.cells ([St a.to]).toArray 9 (0,0))∧a.frm= []∧a.to.length≠0) ∨
  (W9∧∃bs bf bn,v = .func (.func 0) #[] #[PQ bs 0,PQ bf 0,PQ bn 0]∧w.heap[bs]? =some (.cells ([St a.frm]).toArray 9 (0,0))∧w.heap[bf]? =some (.cells ([PQ (F a.file) 0]).toArray 113 (0,0))∧w.heap[bn]? =some (.cells ([St a.to]).toArray 9 (0,0))∧a.to.length≠0) ∨
  (∃bn,v = .func (.func 95) #[] #[PQ bn 0]∧w.heap[bn]? =some (.cells ([St a.frm]).toArray 9 (0,0))∧a.to= [])
def TyB(w:AaS)(i:Nat):Prop:=(∃es c,w.heap[i]? =some (.map es c))∨∃cs t fr,w.heap[i]? =some (.cells cs t fr)∧(t=107∨t=133∨t=5∨t=131)
theorem TyB.off{w:AaS}{i:Nat}{cs:Array AaR}{t:AaZ}{fr:Nat × Nat}(h:w.heap[i]? =some (.cells cs t fr))(h1:t≠107)(h2:t≠133)(h3:t≠5)(h4:t≠131):¬TyB w i:=by
  rintro(⟨es,c,e⟩ | ⟨cs',t',fr',e,k⟩)
  · rw[h]at e;cases e
  · rw[h]at e;cases e;rcases k with k | k | k | k
    · exact h1 k
    · exact h2 k
    · exact h3 k
    · exact h4 k
theorem ActAt.chg{w w' :AaS}{F F' :Nat→Nat}{v:AaR}{a:CR}{B:Nat→Prop}(h:ActAt w F v a)(hc:Chg B w w')(hB:∀i,i<w.heap.size→B i→TyB w i)(hF:F' a.file=F a.file):ActAt w' F' v a:=by
  have k:∀ {b:Nat} {cs:Array AaR} {t:AaZ} {fr:Nat × Nat},w.heap[b]? =some (.cells cs t fr)→t≠107→t≠133→t≠5→t≠131→w'.heap[b]? =some (.cells cs t fr):=fun e h1 h2 h3 h4=>(hc.blk _ (bl e) fun q=>TyB.off e h1 h2 h3 h4 (hB _ (bl e) q)).trans e;rcases h with ⟨bf,bn,e,h1,h2,h3,h4⟩ | ⟨hm,bs,bf,bn,e,h1,h2,h3,h4⟩ | ⟨bn,e,h1,h2⟩
  · exact .inl ⟨bf,bn,e,by rw[hF];exact k h1 (by decide) (by decide) (by decide) (by decide),k h2 (by decide) (by decide) (by decide) (by decide),h3,h4⟩
  · exact .inr (.inl ⟨hm,bs,bf,bn,e,k h1 (by decide) (by decide) (by decide) (by decide),by rw[hF];exact k h2 (by decide) (by decide) (by decide) (by decide),k h3 (by decide) (by decide) (by decide) (by decide),h4⟩)
  · exact .inr (.inr ⟨bn,e,k h1 (by decide) (by decide) (by decide) (by decide),h2⟩)
abbrev pF(F:Nat→Nat)(k:Nat):AaR:=PQ (F k) 0
abbrev Nm(s:List UInt8):Prop:=s.length≤80
abbrev Jn(q mn ml:Nat)(va:AaR)(rf ar:Nat)(dn:Bool):List AaR:= [NI q, .map (some mn), .map (some ml),va,NI rf,NI ar, .bool dn]
structure NA (base : Nat) (w : AaS) (va : AaR) (F : Nat → Nat) (acs : List CR) (vs : List AaR) : Prop where
  row:w.ownsRow base 131 1 va vs.length vs
  len:vs.length=acs.length
  at_:∀i,i<acs.length→ActAt w F (vs.getD i undef) (acs.getD i ⟨[],[],0⟩)
structure DkS (base : Nat) (w : AaS) (H : Dk) (D : Ae) : Prop where
  blk:w.heap[H.g]? =some (.cells (Jn D.quota H.mn H.ml H.va D.refused D.arm D.down).toArray 107 (0,0))
  now:MapF St (pF H.F) Nm w H.mn (Aw D.now)
  kept:MapF St (pF H.F) Nm w H.ml (Aw D.kept)
  ne:H.mn≠H.ml
  acts:∃vs,NA base w H.va H.F D.acts vs
  files:FilesAt base w H.F H.V D.files
  ok:DOk D
  lo:base≤H.g∧base≤H.mn∧base≤H.ml
def CT(w:AaS)(i:Nat):Option Nat:=match w.heap[i]? with | some (.map _ _)=>some 0 | some (.cells _ t _)=>some (t+1) | _=>none
theorem Co{w:AaS}{i:Nat}{cs:Array AaR}{t:AaZ}{fr:Nat × Nat}(h:w.heap[i]? =some (.cells cs t fr)):CT w i=some (t+1):=by unfold CT;rw[h]
theorem K8{base:Nat}{e:AaZ}{size:Nat}{v:AaR}{n:Nat}{xs:List AaR}{w:AaS}(h:w.ownsRow base e size v n xs){i:Nat}(hi:v.ownBlock=some i):CT w i=some (e+1):=by
  rcases h.2 with ⟨rfl,-⟩ | ⟨g,cap,cur,rfl,b,a,-⟩
  · cases hi
  · obtain rfl:g=i:=AbB hi;exact Co a
theorem MapF.tag{α β:Type}{ek:α→AaR}{ev:β→AaR}{D:α→Prop}{w:AaS}{b:Nat}{G:α→Option β}(h:MapF ek ev D w b G):CT w b=some 0:=by
  obtain⟨es,c,h,-⟩:=h;unfold CT;rw[h]
theorem MapF.congr{α β:Type}{ek:α→AaR}{ev ev' :β→AaR}{D:α→Prop}{w:AaS}{b:Nat}{G:α→Option β}(h:MapF ek ev D w b G)(he:∀a y,G a=some y→ev' y=ev y):MapF ek ev' D w b G:=by
  obtain⟨es,c,h1,h2,h3⟩:=h;exact⟨es,c,h1,⟨h2.keys,fun e he' =>by
    obtain⟨a,y,k1,k2,k3,k4⟩:=h2.ent e he';exact⟨a,y,k1,k2,k3.trans (he a y k4).symm,k4⟩,h2.all⟩,h3⟩
theorem MapF.chg{α β:Type}{ek:α→AaR}{ev:β→AaR}{D:α→Prop}{w w' :AaS}{b:Nat}{G:α→Option β}{B:Nat→Prop}(h:MapF ek ev D w b G)(hc:Chg B w w')(hB:¬B b):MapF ek ev D w' b G:=by
  obtain⟨es,c,h1,h2⟩:=h;exact⟨es,c,(hc.blk b (bl h1) hB).trans h1,h2⟩
theorem Chg.keep{B:Nat→Prop}{w w1 w2:AaS}(h:Chg B w w1)(k:Ext w1 w2):Chg B w w2:=h.trans (B' :=fun _=>False) (YP k) fun _ h=>h.elim
theorem Chg.set{B:Nat→Prop}{w w1 w2:AaS}{g:Nat}(h:Chg B w w1)(k:w1.grownBy w2 (some g))(hg:B g∨w.heap.size≤g):Chg B w w2:=h.trans (B' :=fun i=>i=g) (Yc k fun i e=> .inl (AbB e).symm) fun i e=>e▸hg
theorem Chg.grew{B:Nat→Prop}{w w1 w2:AaS}{v v' :AaR}(h:Chg B w w1)(k:Grew w1 w2 v v')(hv:∀i,v.ownBlock=some i→B i∨w.heap.size≤i):Chg B w w2:=h.trans (B' :=fun i=>v.ownBlock=some i) (Yc k.by_ fun i e=> .inl e) hv
section
variable {base : Nat} {w w' : AaS} {H : Dk} {D : Ae}
theorem DkS.tg(h:DkS base w H D):CT w H.g=some (107+1):=Co h.blk
theorem DkS.tF(h:DkS base w H D){k:Nat}(hk:k<D.files.length):CT w (H.F k)=some (133+1):=Co (h.files.at_ k hk).blk
theorem DkS.tV(h:DkS base w H D){k:Nat}(hk:k<D.files.length){i:Nat}(hi:(H.V k).ownBlock=some i):CT w i=some (5+1):=K8 (h.files.at_ k hk).row hi
theorem DkS.tA(h:DkS base w H D){i:Nat}(hi:H.va.ownBlock=some i):CT w i=some (131+1):=by
  obtain⟨vs,hv⟩:=h.acts;exact K8 hv.row hi
theorem Dc{i:Nat}(h:CT w i=some 0∨CT w i=some (107+1)∨CT w i=some (133+1)∨CT w i=some (5+1)∨CT w i=some (131+1)):TyB w i:=by
  unfold CT at h;cases hb:w.heap[i]? with
  | none=>rw[hb]at h;simp at h
  | some o=>
    rw[hb]at h;cases o with
    | map es c=>exact .inl ⟨es,c,hb⟩
    | cells cs t fr=>
      refine .inr ⟨cs,t,fr,hb,?_⟩;simp only[AcA]at h;rcases h with h | h | h | h | h
      · omega
      · exact .inl (AfX h)
      · exact .inr (.inl (AfX h))
      · exact .inr (.inr (.inl (AfX h)))
      · exact .inr (.inr (.inr (AfX h)))
    | _=>simp at h
theorem DkS.foot(h:DkS base w H D){i:Nat}(hi:B2 H D.files.length i):TyB w i∧i<w.heap.size∧base≤i:=by
  have lt:∀ {j:Nat} {x:Nat},CT w j=some x→j<w.heap.size:=fun {j x} e=>by
    rcases Nat.lt_or_ge j w.heap.size with q | q
    · exact q
    · unfold CT at e;rw[Ad0 q]at e;cases e
  rcases hi with rfl | rfl | rfl | hi | ⟨k,hk,rfl | hi⟩
  · exact⟨Dc (.inr (.inl h.tg)),lt h.tg,h.lo.1⟩
  · exact⟨Dc (.inl h.now.tag),lt h.now.tag,h.lo.2.1⟩
  · exact⟨Dc (.inl h.kept.tag),lt h.kept.tag,h.lo.2.2⟩
  · obtain⟨vs,hv⟩:=h.acts;exact⟨Dc (.inr (.inr (.inr (.inr (h.tA hi))))),lt (h.tA hi),(hv.row.lt i hi).1⟩
  · exact⟨Dc (.inr (.inr (.inl (h.tF hk)))),lt (h.tF hk),(h.files.at_ k hk).lo⟩
  · exact⟨Dc (.inr (.inr (.inr (.inl (h.tV hk hi))))),lt (h.tV hk hi),((h.files.at_ k hk).row.lt i hi).1⟩
theorem DkS.keepB{B:Nat→Prop}(h:DkS base w H D)(hc:Chg B w w')(hB:∀i,B2 H D.files.length i→¬B i)(hT:∀i,i<w.heap.size→B i→TyB w i):DkS base w' H D:=by
  obtain⟨vs,hv⟩:=h.acts;exact⟨(hc.blk _ (bl h.blk) (hB _ (.inl rfl))).trans h.blk,h.now.chg hc (hB _ (.inr (.inl rfl))),h.kept.chg hc (hB _ (.inr (.inr (.inl rfl)))),h.ne,
    ⟨vs,Du hc hv.row (fun i hi=>hB i (.inr (.inr (.inr (.inl hi))))),hv.len,fun i hi=>(hv.at_ i hi).chg hc hT rfl⟩,
    h.files.chg hc (fun k hk=>⟨hB _ (.inr (.inr (.inr (.inr ⟨k,hk, .inl rfl⟩)))),fun i hi=>hB i (.inr (.inr (.inr (.inr ⟨k,hk, .inr hi⟩))))⟩),h.ok,h.lo⟩
theorem DkS.keep(h:DkS base w H D)(k:Ext w w'):DkS base w' H D:=h.keepB (B:=fun _=>False) (YP k) (fun _ _ q=>q) (fun _ _ q=>q.elim)
theorem DkS.setBlk(h:DkS base w H D)(hg:w.grownBy w' (some H.g)){q rf ar:Nat}{dn:Bool}(hb:w'.heap[H.g]? =some (.cells (Jn q H.mn H.ml H.va rf ar dn).toArray 107 (0,0))):DkS base w' H { D with quota:=q,refused:=rf,arm:=ar,down:=dn } :=by
  have hc:Chg (fun i=>i=H.g) w w' :=Yc hg fun i e=> .inl (AbB e).symm;have hT:∀i,i<w.heap.size→i=H.g→TyB w i:=fun i _ e=>e▸Dc (.inr (.inl h.tg));obtain⟨vs,hv⟩:=h.acts;have ne0:∀ {i x:Nat},CT w i=some x→x≠107+1→i≠H.g:=fun e hx q=>by rw[q,h.tg]at e;exact hx (AbB e).symm
  exact⟨hb,h.now.chg hc (ne0 h.now.tag (by decide)),h.kept.chg hc (ne0 h.kept.tag (by decide)),h.ne,
    ⟨vs,Du hc hv.row (fun i hi=>ne0 (h.tA hi) (by decide)),hv.len,fun i hi=>(hv.at_ i hi).chg hc hT rfl⟩,
    h.files.chg hc (fun k hk=>⟨ne0 (h.tF hk) (by decide),fun i hi=>ne0 (h.tV hk hi) (by decide)⟩),⟨h.ok.now,h.ok.kept,h.ok.acts,h.ok.syn⟩,h.lo⟩
def BT{α:Type}(F:Nat→α)(n:Nat)(x:α)(k:Nat):α:=if k=n then x else F k
theorem C2{α:Type}(F:Nat→α){n k:Nat}(x:α)(h:k<n):BT F n x k=F k:=if_neg (by omega)
theorem C3{α:Type}(F:Nat→α)(n:Nat)(x:α):BT F n x n=x:=if_pos rfl
theorem G8{α:Type}(F:Nat→α){n k:Nat}(x:α)(h:k≠n):BT F n x k=F k:=if_neg h
theorem DkS.newFile(h:DkS base w H D)(hE:Ext w w'){f:Nat}(hf:w.heap.size≤f)(hb:w'.heap[f]? =some (.cells ([.slice none 0 0,NI 0]).toArray 133 (0,0)))(h0:base≤w.heap.size):
    DkS base w' { H with F:=BT H.F D.files.length f,V:=BT H.V D.files.length (.slice none 0 0) } { D with files:=D.files++ [([],0)] } :=by
  have h1:=h.keep hE;obtain⟨vs,hv⟩:=h1.acts;refine⟨h1.blk,h1.now.congr fun a y hy=> ?_,h1.kept.congr fun a y hy=> ?_,h1.ne,⟨vs,hv.row,hv.len,fun i hi=> ?_⟩,⟨fun k hk=> ?_,fun i j hi hj e=> ?_,fun i j hi hj hne x hx=> ?_⟩,h.ok.newFile _ (AaX 0),h1.lo⟩
  · show PQ (BT _ _ _ _) 0=_;rw[C2 _ _ (h.ok.now.look hy).1]
  · show PQ (BT _ _ _ _) 0=_;rw[C2 _ _ (h.ok.kept.look hy).1]
  · refine(hv.at_ i hi).chg (B:=fun _=>False) (Chg.refl _ _) (fun _ _ q=>q.elim) (C2 _ _ ?_);exact(h.ok.acts _ (by rw[AaW,Aa2 hi];exact Acp hi)).num
  · rw[AaY,Abj]at hk;by_cases e:k=D.files.length
    · subst e;show FileAt base w' (BT _ _ _ _) (BT _ _ _ _) _;rw[C3,C3,AaW,AbH (AaX _),AcD];exact⟨hb,AbO _ _ _ 1,by omega⟩
    · have hk' :k<D.files.length:=by omega
      show FileAt base w' (BT _ _ _ _) (BT _ _ _ _) _;rw[C2 _ _ hk',C2 _ _ hk',AaW,AbN hk',←AaW];exact h1.files.at_ k hk'
  · rw[AaY,Abj]at hi hj;have lt:∀k,k<D.files.length→H.F k<w.heap.size:=fun k hk=>(h.foot (.inr (.inr (.inr (.inr ⟨k,hk, .inl rfl⟩))))).2.1;by_cases ei:i=D.files.length <;> by_cases ej:j=D.files.length
    · omega
    · exfalso;have e:BT H.F D.files.length f i=BT H.F D.files.length f j:=e;rw[ei,C3,C2 _ _ (by omega:j<D.files.length)]at e;have:=lt j (by omega);omega
    · exfalso;have e:BT H.F D.files.length f i=BT H.F D.files.length f j:=e;rw[ej,C3,C2 _ _ (by omega:i<D.files.length)]at e;have:=lt i (by omega);omega
    · have e:BT H.F D.files.length f i=BT H.F D.files.length f j:=e;rw[C2 _ _ (by omega:i<D.files.length),C2 _ _ (by omega:j<D.files.length)]at e;exact h.files.inj i j (by omega) (by omega) e
  · rw[AaY,Abj]at hi hj;have hx:(BT H.V D.files.length (.slice none 0 0) i).ownBlock=some x:=hx;show(BT H.V D.files.length (.slice none 0 0) j).ownBlock≠some x;by_cases ei:i=D.files.length
    · rw[ei,C3]at hx;cases hx
    · by_cases ej:j=D.files.length
      · rw[ej,C3];exact fun q=>by cases q
      · rw[C2 _ _ (by omega:i<D.files.length)]at hx;rw[C2 _ _ (by omega:j<D.files.length)];exact h.files.apart i j (by omega) (by omega) hne x hx
theorem DkS.setFile(h:DkS base w H D){k:Nat}(hk:k<D.files.length){v:AaR}{x:List UInt8 × Nat}(hx:x.2≤x.1.length)(hc:Chg (fun i=>i=H.F k∨(H.V k).ownBlock=some i) w w')(hf:FileAt base w' (H.F k) v x)(hv:∀i,v.ownBlock=some i→(H.V k).ownBlock=some i∨w.heap.size≤i):
    DkS base w' { H with V:=BT H.V k v } { D with files:=D.files.set k x } :=by
  have hT:∀i,i<w.heap.size→(i=H.F k∨(H.V k).ownBlock=some i)→TyB w i:=fun i _ e=>e.elim (fun e=>e▸Dc (.inr (.inr (.inl (h.tF hk))))) fun e=>Dc (.inr (.inr (.inr (.inl (h.tV hk e)))));obtain⟨vs,hvs⟩:=h.acts;have ne0:∀ {i x:Nat},CT w i=some x→x≠133+1→x≠5+1→¬(i=H.F k∨(H.V k).ownBlock=some i):=fun e h1 h2 q=>q.elim (fun q=>by rw[q,h.tF hk]at e;exact h1 (AbB e).symm) fun q=>by rw[h.tV hk q]at e;exact h2 (AbB e).symm
  have off:∀j,j<D.files.length→j≠k→¬(H.F j=H.F k∨(H.V k).ownBlock=some (H.F j))∧∀i,(H.V j).ownBlock=some i→¬(i=H.F k∨(H.V k).ownBlock=some i):=fun j hj hne=>
    ⟨fun q=>q.elim (fun q=>hne (h.files.inj j k hj hk q)) fun q=>by have:=h.tV hk q;rw[h.tF hj]at this;exact absurd (AbB this) (by decide),
     fun i hi q=>q.elim (fun q=>by have:=h.tV hj hi;rw[q,h.tF hk]at this;exact absurd (AbB this) (by decide)) fun q=>h.files.apart j k hj hk hne i hi q⟩
  refine⟨(hc.blk _ (bl h.blk) (ne0 h.tg (by decide) (by decide))).trans h.blk,h.now.chg hc (ne0 h.now.tag (by decide) (by decide)),h.kept.chg hc (ne0 h.kept.tag (by decide) (by decide)),h.ne,
    ⟨vs,Du hc hvs.row (fun i hi=>ne0 (h.tA hi) (by decide) (by decide)),hvs.len,fun i hi=>(hvs.at_ i hi).chg hc hT rfl⟩,⟨fun j hj=> ?_,fun i j hi hj e=> ?_,fun i j hi hj hne y hy=> ?_⟩,h.ok.setFile k x hx,h.lo⟩
  · rw[Acv]at hj;by_cases e:j=k
    · subst e;show FileAt base w' (H.F j) (BT _ _ _ _) _;rw[C3,AaW,Ad2 hj];exact hf
    · show FileAt base w' (H.F j) (BT _ _ _ _) _;rw[G8 _ _ e,AaW,Agr (fun q=>e q.symm),←AaW];exact(h.files.at_ j hj).keep hc (off j hj e).1 (off j hj e).2
  · rw[Acv]at hi hj;exact h.files.inj i j hi hj e
  · rw[Acv]at hi hj;have hy:(BT H.V k v i).ownBlock=some y:=hy;show(BT H.V k v j).ownBlock≠some y;by_cases ei:i=k
    · have ej:j≠k:=fun q=>hne (ei.trans q.symm);rw[ei,C3]at hy;rw[G8 _ _ ej];intro q;rcases hv y hy with r | r
      · exact h.files.apart j k hj hk ej y q r
      · have:=(h.foot (.inr (.inr (.inr (.inr ⟨j,hj, .inr q⟩))))).2.1;omega
    · rw[G8 _ _ ei]at hy;by_cases ej:j=k
      · rw[ej,C3];intro q;rcases hv y q with r | r
        · exact h.files.apart i k hi hk ei y hy r
        · have:=(h.foot (.inr (.inr (.inr (.inr ⟨i,hi, .inr hy⟩))))).2.1;omega
      · rw[G8 _ _ ej];exact h.files.apart i j hi hj hne y hy
end
abbrev CX(s:List UInt8):List AaR:= [St s]
abbrev EZ(v:AaR):List AaR:= [v]
theorem NB(l:List (List UInt8)):l.flatMap CX=l.map St:=by
  induction l with
  | nil=>rfl
  | cons a l ih=>rw[AbW,Abv,ih];rfl
theorem NC(l:List AaR):l.flatMap EZ=l:=by
  induction l with
  | nil=>rfl
  | cons a l ih=>rw[AbW,ih];rfl
section
variable {P : Abo} {K : AaR → AaS → Prop} {ρ : Ad} {w : AaS} {d : Option Tmp} {ty : AaZ} {pos : String} {af : Array AbP} {gd : Option (Nat × Bool)}
theorem Ye{α:Type}{enc:α→List AaR}{t e:AaZ}{x:Aa5}{a:α}{u:AaR}(hx:Aa ρ x=u)(hu:enc a= [u]) 
    (hr:∀w:AaS,(Abz t 1 #[(0,u)]).run P w = .ok (.slice (some ⟨w.heap.size,0,none⟩) 1 1) (w.alloc (.cells #[u] e)))
    (hk:∀v w',RG 1 enc w' v [a]→Ext w w' →K v w'):Yk P K ((execOp (Aa ρ) ⟨d, .buildSlice t 1 #[(0,x)],ty,pos,af,gd⟩).run P w):=by
  have hE:Ext w (w.alloc (.cells #[u] e)):=(AbJ _ _).alloc (AaX _) _;have hb:(w.alloc (.cells #[u] e)).heap[w.heap.size]? =some (.cells ([u]:List AaR).toArray e (0,0)):=heap_alloc_new w _;refine Yk.value (v:= .slice (some ⟨w.heap.size,0,none⟩) 1 1) (w' :=w.alloc (.cells #[u] e)) ?_ (hk _ _ ⟨fun y hy=>by rw[Aa6.1 hy,hu];rfl,by simp[hu],_,1,rfl,AaX _,by simp[maxLen],(fun hq=>by cases hq),fun q hq j z hz=> ?_⟩ hE)
  · unfold execOp;simp only[Abx,Abv,AbG,hx,Aa7,hr,Aa3,Abb]
  · cases hq;rw[Ack,Ab9];exact cellAt hb (by simpa [hu] using hz)
end
abbrev B5(n:Int):List AaR:= [.int .i64 n]
def readyL(d:Ae)(l:List (List UInt8)):Nat:=if d.down=true then 9 else if l.all Bh=true then 0 else 10
theorem GO{d:Ae}{l:List (List UInt8)}(h:d.down=true):readyL d l=9:=if_pos h
theorem IC{d:Ae}{l:List (List UInt8)}(h:d.down=false)(h2:l.all Bh=true):readyL d l=0:=(if_neg (by rw[h];decide)).trans (if_pos h2)
theorem Qp{d:Ae}{l:List (List UInt8)}{i:Nat}(h:d.down=false)(hi:i<l.length)(hm:Bh (l.getD i [])=false):readyL d l=10:=by
 refine(if_neg (by rw[h];decide)).trans (if_neg fun ha=> ?_);have:=AbE.1 ha (l.getD i []) (by rw[AaW,Aa2 hi];exact Acp hi);rw[hm]at this;cases this
theorem TA{l:List (List UInt8)}{i:Nat}(hi:i<l.length)(h:(l.take i).all Bh=true)(hm:Bh (l.getD i [])=true):(l.take (i+1)).all Bh=true:=by
 rw[Abu hi,List.all_append,h];rw[AaW,Aa2 hi]at hm
 simpa using hm
theorem TB:Tryz.prog.underlying 50=some (.pointer 107):=by kernel_rfl
theorem Oz:A2 AaU 107 6 6:=fun b o w=>by simp[go_sem]
theorem ND:Tryz.prog.underlying 56=some (.slice 9):=by kernel_rfl
theorem TC:∀w' :AaS,(sizeOf 9).run AaU w' = .ok 1 w' :=fun _=>by kernel_rfl
theorem Sg:Plain AaU 101:=fun _ _=>by kernel_rfl
theorem Vv(w:AaS)(s:List UInt8):
  Calls AaU 101 #[St s] w fun e w' =>e = .returned (.bool (Bh s))∧Ext w w' :=by
 refine UX (args:= [St (s)]) Tryz.func101 rfl 11 rfl rfl ?_;have hE:=Ext.refl w;refine gS (YC (l:=s) O7 rfl (gS (XK (a:=(s.length:Nat)) (b:=(1:Nat)) rfl rfl (EQ _ _ _ _) (gO fun _=>Fp (St (s)) rfl rfl (gT rfl) (fun hG3=>Yk.move rfl ⟨rfl,rfl⟩) (Q8 (gO fun _=>Fp (NI s.length) rfl rfl (gT rfl) (fun hG4=>YC (l:=s) O7 (MO rfl hG4) ⟨rfl,rfl⟩) (Q8 (gO fun _=>Fp (.bool (decide ((s.length)≤(80)))) rfl rfl (gT rfl) (fun hG5=>XK (a:=((s.length:Nat):Int)) (b:=((80:Nat):Int)) (MO rfl hG5) rfl (Dw _ .i64 (s.length) (80)) ⟨rfl,rfl⟩) (Q8 (gS (ZH rfl (fun hA=>(MO rfl hA)) rfl fun bb6 hbb7=>(Bn rfl (vr (.bool (bb6)) rfl) ?_))))))))))));subst hbb7;exact⟨rfl,hE⟩

theorem Dv(base:Nat)(w:AaS)(H:Dk)(D:Ae)(hS:DkS base w H D)(v:AaR)(l:List (List UInt8))(hr:RG 1 CX w v l)(hl:l.length<4611686018427387904):
  Calls AaU 56 #[PQ H.g 0,v] w fun e w' =>e = .returned (NI (readyL D l))∧Ext w w' :=by
 have hb:=hS.blk;have hgl:=(bl hb);refine gG (args:= [PQ H.g 0,v]) Tryz.func56 rfl 23 rfl rfl ?_;have hE:=Ext.refl w;refine gS (X5 TB rfl (cF rfl (gS (Yk.nilCheck rfl (gS (Yk.fieldAt Oz rfl (gS (XJ JI rfl rfl (cellAt hb rfl) ?_))))))));refine cB (D.down) rfl (fun c=> ?_) fun c=> ?_
 ·refine Bn rfl (vr (NI 9) rfl) ?_;exact⟨by rw[GO (by simpa using c)],hE⟩
 refine gS (X1 ND (XU hr rfl) (gL (fun(ρ:Ad) (wz:AaS)=>∃i:Nat,ρ 0=(PQ H.g 0:AaR)∧ρ 1=(v:AaR)∧ρ 8=(.bool (false):AaR)∧ρ 13=(v:AaR)∧ρ 14=(NI l.length:AaR)∧ρ 15=(NI i:AaR)∧RG 1 CX wz v l∧wz.heap[H.g]? =some (.cells (Jn (D.quota) (H.mn) (H.ml) (H.va) (D.refused) (D.arm) (D.down)).toArray 107 (0,0))∧Ext w wz∧(i≤l.length)∧((l.take i).all Bh=true)∧True) (fun ρ _=>l.length-(intOf (ρ 15)).toNat) ⟨0,rfl,rfl,rfl,rfl,rfl,rfl,hr,hb,hE,Abs _,rfl,trivial⟩ ?_));clear hr hb hE;rintro p t ⟨i,q,r,s,k,m,f,hr,hb,hE,hi,hn,-⟩;have q15:=f;refine gS (XK (a:=(i:Nat)) (b:=(l.length:Nat)) f m (AL _ _ _ _) ?_);refine cD rfl (fun n=> ?_) fun n=> ?_
 ·have hlt:i<l.length:=n;have u:(CX (l.getD (i) ([]:List UInt8))).length=1:=(RG.elem hr ([]:List UInt8) (by omega));refine gS (X4 ND TC (by decide) ([]:List UInt8) (XU hr k) f (by omega) fun x o=>(gS (X0 O7 rfl (PR.cell (Yb o rfl) rfl) ?_)));clear o;refine gS (XQ Sg rfl ((Vv _ (l.getD (i) ([]:List UInt8))).mono ?_));rintro e y ⟨rfl,h⟩;refine⟨_,rfl,?_⟩;refine gS (Ym rfl ?_);refine cB (!(Bh (l.getD (i) ([]:List UInt8)))) rfl (fun j=> ?_) fun j=> ?_
  ·have hm:Bh (l.getD i [])=false:=by simpa using j
   refine Bn rfl (vr (NI 10) rfl) ?_;have hE:=hE.trans h;exact⟨by rw[Qp (by simpa using c) hlt hm],hE⟩
  have hm:Bh (l.getD i [])=true:=by simpa using j
  have hr:=hr.keep h;have hb:=eb h hb;have hE:=hE.trans h;refine gS (XL (xv:=NI i) (yv:=NI 1) f rfl rfl (Ai _ _ _ (by omega)) (gK (Aby ⟨i+1,q,r,s,k,m,rfl,hr,hb,hE,by omega,TA hlt hn hm,trivial⟩ ?_)));show l.length-(intOf (NI ((i)+(1)))).toNat<l.length-(intOf (p 15)).toNat;rw[q15];simp only[intOf,Aba];omega
 refine Bn rfl (vr (NI 0) rfl) ?_;exact⟨by rw[IC (by simpa using c) (by rw[AbK (by omega)]at hn;exact hn)],hE⟩
theorem Sh{n:Nat}{l:BY}(h:DirOk n l):(l.map Abq).Nodup:=
 AeN _ (fun a b q e=>by rw[e,Fx]at q;cases q) h.sort
theorem Vw{n:Nat}{l:BY}(h:DirOk n l)(a:List UInt8)(y:Nat):Aw l a=some y↔(a,y)∈l:=⟨D9,fun q=>I3 h.sort q⟩
theorem TD{α:Type}(f:α→Nat){l:List α}{a:α}{r:List α}(h:l.Perm (a :: r)):(l.map f).sum=f a+(r.map f).sum:=by
 have:=(h.map f).sum_nat;rw[this,Abv,List.sum_cons]
theorem OA:A2 AaU 107 1 1:=fun b o w=>by simp[go_sem]
theorem LO:Tryz.prog.underlying 104=some (.map 9 113):=by kernel_rfl
theorem OC:A2 AaU 133 0 0:=fun b o w=>by simp[go_sem]
theorem K9(base:Nat)(w:AaS)(H:Dk)(D:Ae)(hS:DkS base w H D)(hU:usedD D<4611686018427387904):
  Calls AaU 57 #[PQ H.g 0] w fun e w' =>e = .returned (NI (usedD D))∧Ext w w' :=by
 have hb:=hS.blk;have hgl:=(bl hb);refine gG (args:= [PQ H.g 0]) Tryz.func57 rfl 23 rfl rfl ?_;have hE:=Ext.refl w;refine gS (Yk.nilCheck rfl (gS (Yk.fieldAt OA rfl (gS (XJ LO rfl rfl (cellAt (eb hE hb) rfl) (gS (Aal (fun a c=>C7) LO rfl (hS.keep hE).now (Sh hS.ok.now) (Vw hS.ok.now) fun b u v j l x=> ?_)))))));have hI11:=j;clear j;have hgi:=MIt.lt hI11;have hE:=hE.trans l;refine gL (fun(ρ:Ad) (wz:AaS)=>∃left:List (List UInt8 × Nat),∃s:Nat,ρ 0=(PQ H.g 0:AaR)∧ρ 2=(NI 0:AaR)∧ρ 10=(PQ b 0:AaR)∧ρ 3=(NI s:AaR)∧Ext w wz∧MIt St (pF H.F) wz b H.mn left∧(∀p∈left,p∈D.now)∧(s+(left.map fun e=>(AY D e.2).1.length).sum=usedD D)∧True) (fun ρ wz=>YL wz b) ⟨D.now,0,rfl,rfl,rfl,rfl,hE,hI11,fun p hp=>hp,Ab9 _,trivial⟩ ?_;clear hI11;clear hE;rintro y m ⟨left,s,n,o,f,k,hE,hI,hsub,htot,-⟩;by_cases i:left= []
 ·refine gS (ZL f hI i (gS (Yk.extract (vs:= [.bool (false)]) rfl rfl (cF rfl (Bn rfl k ?_)))));exact⟨by rw[i]at htot;rw[←htot];rfl,hE⟩
 refine gS (Z3 f hI i fun a18 y19 rest20 q h hI23 r t z=> ?_);have hm0:=Zs hI;clear hI;have hI:=hI23;clear hI23;have hgi:=MIt.lt hI;have hmem:(a18,y19)∈D.now:=hsub _ (h.mem_iff.2 AbZ);have hyl:=hS.ok.now.num _ hmem;have hfl:=hS.files.at_ y19 hyl;have hsum:(left.map fun e=>(AY D e.2).1.length).sum=(D.files.getD y19 ([],0)).1.length+(rest20.map fun e=>(AY D e.2).1.length).sum:=TD _ h;have hfb:=hfl.blk;have hfr:RB w (H.V y19) (D.files.getD y19 ([],0)).1:=X3 hfl.row;have hE:=Ab hE t (AaV (AaX _) (by omega));refine gS (Yk.extract (vs:= [.bool (true),St (a18), .pointer (some ⟨(H.F y19),0,none⟩)]) rfl rfl (cT rfl (gS (Aam f r (gS (Yk.extract (vs:= [St (a18), .pointer (some ⟨(H.F y19),0,none⟩)]) rfl rfl (gS (Yk.nilCheck rfl (gS (Yk.fieldAt OC rfl (gS (XJ F5 rfl rfl (cellAt (eb hE hfb) rfl) (gS (XS F5 (XP (hfr.keep hE) rfl) (gS (XL (xv:=NI s) (yv:=NI (((D.files.getD y19 ([],0)).1:List UInt8).length)) k rfl rfl (Ai _ _ _ (by have:=hU;rw[hsum]at htot;omega)) (gK (Aby ⟨rest20,s+(D.files.getD y19 ([],0)).1.length,n,o,f,rfl,hE,hI,fun p hp=>hsub p (h.mem_iff.2 (Ab1 _ hp)),by rw[hsum]at htot;exact(Ac5 _ _ _).trans htot,trivial⟩ ?_))))))))))))))))));show YL q b<YL m b;rw[Zs hI,hm0,h.length_eq];simp
section
variable {P : Abo} {K : AaR → AaS → Prop} {ρ : Ad} {w : AaS} {d : Option Tmp} {ty : AaZ} {pos : String} {af : Array AbP} {gd : Option (Nat × Bool)}
theorem KG(w:AaS)(t tx ty e:AaZ)(i:TypeInfo)(z:AaR)(size bytes:Nat)(ht:P.underlying t=some (.slice e))(hi:P.info? e=some i)(hz:i.zero=some z) 
    (hsize:i.size=size) (hby:i.bytes=bytes) (hzs:z.cells.size=size) (a:Addr) (n:Nat) (xs:List AaR) (hxs:xs.length=n*size) (hc:∀j u,xs[j]? =some u→w.cell? (a.add j)=some u)
    (x:AaR) (m:Nat) (news:List AaR) (hs:Src P size tx x m news w) (hm:0<m) (h63:n+m≤maxLen) (hbytes:(n+m)*bytes≤140737488355328):
    ∃v' w',(AdS #[t,tx] ty #[.slice (some a) n n,x]).run P w = .ok v' w' ∧w'.ownsRow w.heap.size e size v' (n+m) (xs++news)∧Ext w w' :=by
  subst hsize;subst hby
  have hsmall:n+m≤9223372036854775807:=by simp only[maxLen]at h63;omega
  have hl:=hs.newsLen;have hlen:(xs++news).length=(n+m)*i.size:=by rw[AaY,hxs,hl,Adm]
  have hge:=grownCap_ge w (n+m) n e;have hcm:grownCap w (n+m) n e≤maxLen:=grownCap_le_maxLen w (n+m) n e h63;have hr:=run_append_grow_src (P:=P) w t tx ty e i z ht hi hz (some a) n n xs (run_firstCells_some w.drew i.size n a n n xs hxs (by simpa using hc)) x m news hs (by omega) (by omega) (growslice_fits (by omega) hbytes);refine⟨_,_,hr,⟨hlen, .inr ⟨w.heap.size,_,_,rfl,AaX _,heap_alloc_new w.drew _,hge,hcm,?_,?_⟩⟩,(AbJ _ _).grown ((Grew.refl w (Aa0 none 0 0)).drew.alloc _).by_ (AaX _) (fun _ e=>by simp[Aa1]at e)⟩
  · simp only[Array.size_append,Abe,size_zeroCells,hzs,hlen,←Adm]
    congr 1
    omega
  · simp only[AgE];rw[←hlen];exact Ada
def FullG{α:Type}(k:Nat)(enc:α→List AaR)(w:AaS)(v:AaR)(l:List α):Prop:=(v = .slice none 0 0∧l= [])∨∃a,v = .slice (some a) l.length l.length∧RG k enc w v l
theorem FullG.keep{α:Type}{k:Nat}{enc:α→List AaR}{w w' :AaS}{v:AaR}{l:List α}(h:FullG k enc w v l)(hE:Ext w w'):FullG k enc w' v l:=h.imp id fun⟨a,h1,h2⟩=>⟨a,h1,h2.keep hE⟩
theorem FullG.rg{α:Type}{k:Nat}{enc:α→List AaR}{w:AaS}{v:AaR}{l:List α}(h:FullG k enc w v l):RG k enc w v l:=by
  rcases h with ⟨rfl,rfl⟩ | ⟨a,h1,h2⟩
  · exact RG.nil _ _ _
  · exact h2
theorem YQ{α:Type}{k:Nat}{enc:α→List AaR}{t tx e e' :AaZ}{z:AaR}{bytes:Nat}(ht:P.underlying t=some (.slice e))(hi:(P.info? e).map (fun i=>(i.zero,i.size,i.bytes))=some (some z,k,bytes))(hzs:z.cells.size=k)(hu:P.underlying tx=some (.slice e')) 
    (h1:∀x:α,∀u∈enc x,u.oneCell' =true) {s x:Aa5} {v y:AaR} {l m:List α} (hs:Aa ρ s=v) (h:FullG k enc w v l) (hx:Aa ρ x=y) (hy:RG k enc w y m) (hm:0<m.length) (hlen:(l.length+m.length)*bytes≤140737488355328) (hlen2:l.length+m.length≤maxLen)
    (hk:∀v' w',OG w.heap.size e k enc w' v' (l++m)→Ext w w' →K v' w'):Yk P K ((execOp (Aa ρ) ⟨d, .call ⟨.builtin .append,#[s,x],#[t,tx]⟩,ty,pos,af,gd⟩).run P w):=by
  obtain⟨i,hi0,hi1⟩:=Ad1.1 hi;have hz:i.zero=some z:=congrArg Abq hi1;have hsz:i.size=k:=congrArg (fun q=>q.2.1) hi1;have hby:i.bytes=bytes:=congrArg (fun q=>q.2.2) hi1;have hsrc:Src P k tx y m.length (m.flatMap enc) w:=by
    obtain⟨q1,q2,ao,cap,rfl,q3,q4,q5,q6⟩:=hy;cases ao with
    | none=>exact absurd (q5 rfl).1 (by omega)
    | some a=>exact Afp w hu a _ cap _ q2 (q6 a rfl) fun u hu=>let ⟨x,_,hx⟩:=AfR.1 hu;h1 x u hx
  have hlen' :∀ {xs:List α},(∀x∈xs,(enc x).length=k)→(xs.flatMap enc).length=xs.length*k:=fun {xs} hxs=>by
    induction xs with
    | nil=>simp
    | cons a r ih=>rw[AbW,AaY,hxs a AbZ,ih fun x hx=>hxs x (Ab1 _ hx),Abp,Adm,Nat.one_mul,AeD]
  have hall:∀x∈l++m,(enc x).length=k:=fun x hx=>(Abk.1 hx).elim (h.rg.1 x) (hy.1 x);have fin:∀v' w',(AdS #[t,tx] ty #[v,y]).run P w = .ok v' w' →w'.ownsRow w.heap.size e k v' (l.length+m.length) (l.flatMap enc++m.flatMap enc)→Ext w w' →Yk P K ((execOp (Aa ρ) ⟨d, .call ⟨.builtin .append,#[s,x],#[t,tx]⟩,ty,pos,af,gd⟩).run P w):=fun v' w' hr ho hE=>by
    refine Yk.value (v:=v') (w' :=w') ?_ (hk v' w' ⟨hall,by rw[AaY,AdL];exact ho⟩ hE);unfold execOp;simp only[resolve,invoke,builtin,Aa7,Abb,Aa3,Abx,Abv,AbG,hs,hx,hr]
  rcases h with ⟨rfl,rfl⟩ | ⟨a,hv,hr⟩
  · obtain⟨v',w',hr,ho,hg⟩:=E5 (P:=P) w w.heap.size t tx ty e i z k bytes ht hi0 hz hsz hby hzs (.slice none 0 0) 0 [] (AbO _ _ _ _) y m.length _ hsrc (by simpa using hlen2) (by simpa using hlen) (AaX _);exact fin v' w' hr (by simpa using ho) ((AbJ _ _).grown hg.by_ (AaX _) fun _ q=>by simp[Aa1]at q)
  · obtain⟨-,q2,ao,cap,q3,-,-,-,q6⟩:=id hr;rw[hv]at q3;cases q3;obtain⟨v',w',hr',ho,hE⟩:=KG (P:=P) (ty:=ty) w t tx e i z k bytes ht hi0 hz hsz hby hzs a l.length _ q2 (q6 a rfl) y m.length _ hsrc hm hlen2 hlen;exact fin v' w' (by rw[hv];exact hr') ho hE
end
theorem E9:KL AaU 9 (Aem .string):=Zz (by kernel_rfl)
theorem Em(a:List UInt8)(_:Nm a):Aem .string (St a):=trivial
theorem I5(u:AaS):(zeroValue 113).run AaU u = .ok (.pointer none) u:=by kernel_rfl
def Et(d:Ae)(ms:List (List UInt8))(s:List UInt8):Except Nat Nat:=if readyL d (ms++ [s])≠0 then .error (readyL d (ms++ [s]))else match Aw d.now s with | some k=> .ok k | none=> .error 4
def Xx(H:Dk):Except Nat Nat→AaR
 | .ok k=>PQ (H.F k) 0
 | .error _=> .pointer none
def Xy:Except Nat Nat→Nat
 | .ok _=>0
 | .error e=>e
theorem Qq{d:Ae}{ms:List (List UInt8)}{s:List UInt8}(h:readyL d (ms++ [s])=0):Bh s=true:=by
 unfold readyL at h;split at h
 ·cases h
 ·split at h
  ·rename_i h2
   rw[List.all_append]at h2;simp only[AbX,Agz,List.all_nil,Bool.and_true]at h2;exact h2.2
  ·cases h
theorem JN(z:ByteArray)(w:AaS):(Abz 56 1 #[(0, .string z)]).run AaU w = .ok (.slice (some ⟨w.heap.size,0,none⟩) 1 1) (w.alloc (.cells #[.string z] 9)):=by kernel_rfl
theorem La:(Tryz.prog.info? 9).map (fun i=>(i.zero,i.size,i.bytes))=some (some (.string ⟨#[]⟩),1,16):=by kernel_rfl
theorem JO:Plain AaU 56:=fun _ _=>by kernel_rfl
theorem LP:Tryz.prog.underlying 113=some (.pointer 133):=by kernel_rfl
theorem G9(base:Nat)(w:AaS)(H:Dk)(D:Ae)(hS:DkS base w H D)(s:List UInt8)(v:AaR)(ms:List (List UInt8))(hF:FullG 1 CX w v ms)(hl:ms.length≤1):
  Calls AaU 77 #[PQ H.g 0,St s,v] w fun e w' =>e = .returned (.tuple #[Xx H (Et D ms s),NI (Xy (Et D ms s))])∧Ext w w' :=by
 have hb:=hS.blk;have hgl:=(bl hb);refine gG (args:= [PQ H.g 0,St (s),v]) Tryz.func77 rfl 28 rfl rfl ?_;have hE:=Ext.refl w;by_cases c:readyL D (ms++ [s])≠0
 ·have hV:Et D ms s = .error (readyL D (ms++ [s])):=if_pos c;refine gS (Ye (a:=s) (enc:=CX) (vr (St (s)) rfl) rfl (fun w=>JN _ w) fun n w5 o p=> ?_);have hE:=hE.trans p;refine gS (YQ ND La rfl ND (fun y u hu=>by rw[Aa6.1 hu];rfl) (vr v rfl) (hF.keep hE) (vr n rfl) o (by simp) (by simp;omega) (by simp[maxLen];omega) fun q w9 r t=> ?_);have ak:=hE.size;have hE:=hE.trans t;refine gS (XM JO rfl rfl ((Dv base _ H D (hS.keep hE) q (ms++ [s]) (XW r) (by simp;omega)).mono ?_));rintro e al ⟨rfl,x⟩;refine⟨_,rfl,?_⟩;refine gS (XK (a:=(readyL D (ms++ [s]):Nat)) (b:=(0:Nat)) rfl rfl (AX _ _ _ _) (kT (by omega) (cT rfl (By rfl (vr (.pointer none) rfl) (vr (NI (readyL D (ms++ [s]))) rfl) ?_))));have hE:=hE.trans x;exact⟨by rw[hV];rfl,hE⟩
 have z:readyL D (ms++ [s])=0:=AeO.1 c;have hm:=Qq z;rcases hlk:Aw D.now s with _ | k
 ·have hV:Et D ms s = .error 4:=by unfold Et;rw[if_neg c,hlk]
  refine gS (Ye (a:=s) (enc:=CX) (vr (St (s)) rfl) rfl (fun w=>JN _ w) fun aa am ab f=> ?_);have hE:=hE.trans f;refine gS (YQ ND La rfl ND (fun y u hu=>by rw[Aa6.1 hu];rfl) (vr v rfl) (hF.keep hE) (vr aa rfl) ab (by simp) (by simp;omega) (by simp[maxLen];omega) fun ac an ad h=> ?_);have ao:=hE.size;have hE:=hE.trans h;refine gS (XM JO rfl rfl ((Dv base _ H D (hS.keep hE) ac (ms++ [s]) (XW ad) (by simp;omega)).mono ?_));rintro e ap ⟨rfl,i⟩;refine⟨_,rfl,?_⟩;have hb:=eb ((f.trans h).trans i) hb;have hE:=hE.trans i;refine gS (XK (a:=(readyL D (ms++ [s]):Nat)) (b:=(0:Nat)) rfl rfl (AX _ _ _ _) (kF (by omega) (cF rfl (gS (Yk.nilCheck rfl (gS (Yk.fieldAt OA rfl (gS (XJ LO rfl rfl (cellAt hb rfl) (gS (Y4 E9 Em (fun _ _=>C7) LO I5 rfl rfl (hS.keep hE).now (by have:=Cv hm;exact this.2) hlk (gS (X5 LP rfl (kB (rfl) (cT rfl (By rfl (vr (.pointer none) rfl) (vr (NI 4) rfl) ?_))))))))))))))));exact⟨by rw[hV];rfl,hE⟩
 have hV:Et D ms s = .ok k:=by unfold Et;rw[if_neg c,hlk]
 refine gS (Ye (a:=s) (enc:=CX) (vr (St (s)) rfl) rfl (fun w=>JN _ w) fun ae aq af j=> ?_);have hE:=hE.trans j;refine gS (YQ ND La rfl ND (fun y u hu=>by rw[Aa6.1 hu];rfl) (vr v rfl) (hF.keep hE) (vr ae rfl) af (by simp) (by simp;omega) (by simp[maxLen];omega) fun ag ar ah l=> ?_);have au:=hE.size;have hE:=hE.trans l;refine gS (XM JO rfl rfl ((Dv base _ H D (hS.keep hE) ag (ms++ [s]) (XW ah) (by simp;omega)).mono ?_));rintro e av ⟨rfl,m⟩;refine⟨_,rfl,?_⟩;have hb:=eb ((j.trans l).trans m) hb;have hE:=hE.trans m;refine gS (XK (a:=(readyL D (ms++ [s]):Nat)) (b:=(0:Nat)) rfl rfl (AX _ _ _ _) (kF (by omega) (cF rfl (gS (Yk.nilCheck rfl (gS (Yk.fieldAt OA rfl (gS (XJ LO rfl rfl (cellAt hb rfl) (gS (YG E9 Em (fun _ _=>C7) LO I5 rfl rfl (hS.keep hE).now (by have:=Cv hm;exact this.2) hlk (gS (X5 LP rfl (kB (rfl) (cF rfl (By rfl (vr (.pointer (some ⟨(H.F k),0,none⟩)) rfl) (vr (NI 0) rfl) ?_))))))))))))))));exact⟨by rw[hV];rfl,hE⟩

theorem U0{α β:Type}{ek:α→AaR}{ev:β→AaR}{D:α→Prop}{w w' :AaS}{m:Nat}{G:α→Option β}(h:MapF ek ev D w m G)(hg:w.grownBy w' (some m)){b:Nat}{cs:Array AaR}{t:AaZ}{fr:Nat × Nat}(hb:w.heap[b]? =some (.cells cs t fr)):w'.heap[b]? =some (.cells cs t fr):=
 kb hg hb fun e=>by obtain⟨es,c,h1,-⟩:=h;rw[e,h1]at hb;cases hb
theorem Vx{ev:Nat→AaR}(w:AaS)(m:Nat)(G:List UInt8→Option Nat)(hM:MapF St ev Nm w m (G))(bf bn fk k:Nat)(to:List UInt8)(h1:w.heap[bf]? =some (.cells ([PQ fk 0]).toArray 113 (0,0)))(h2:w.heap[bn]? =some (.cells ([St to]).toArray 9 (0,0)))(hev:PQ fk 0=ev k)(ht:Nm to):
  Calls AaU 141 #[.map (some m),PQ bf 0,PQ bn 0] w fun e w' =>e = .returned (.tuple #[])∧MapF St ev Nm w' m (updM G to (some k))∧w.grownBy w' (some m):=by
 have a:=Ace w (some m);refine gG (args:= [.map (some m),PQ bf 0,PQ bn 0]) Tryz.func141 rfl 7 rfl rfl ?_;have hE:=Ext.refl w;refine gS (XJ O7 rfl rfl (cellAt h2 rfl) (gS (XJ LP rfl rfl (cellAt h1 rfl) (gS (YA (ev:=ev) (c:=k) E9 Em LO (vr (.map (some m)) rfl) (vr (St (to)) rfl) (Eq.trans ((vr (PQ fk 0) rfl)) hev) (hM.keep hE) ht fun w1 hM2 b f=> ?_)))));have h1:w1.heap[bf]? =some (.cells ([PQ fk 0]).toArray 113 (0,0)):=U0 hM b h1;have h2:w1.heap[bn]? =some (.cells ([St to]).toArray 9 (0,0)):=U0 hM b h2;have a:w.grownBy w1 (some m):=Ak a b (fun _ e=> .inl e);clear hE;have hM:=hM2;clear hM2;refine rt0 rfl ?_;exact⟨rfl,hM,a⟩

theorem Vy{ev:Nat→AaR}(w:AaS)(m:Nat)(G:List UInt8→Option Nat)(hM:MapF St ev Nm w m (G))(bs:Nat)(frm:List UInt8)(h3:w.heap[bs]? =some (.cells ([St frm]).toArray 9 (0,0)))(hf:Nm frm):
  Calls AaU 95 #[.map (some m),PQ bs 0] w fun e w' =>e = .returned (.tuple #[])∧MapF St ev Nm w' m (updM G frm none)∧w.grownBy w' (some m):=by
 have a:=Ace w (some m);refine gG (args:= [.map (some m),PQ bs 0]) Tryz.func95 rfl 5 rfl rfl ?_;have hE:=Ext.refl w;refine gS (XJ O7 rfl rfl (cellAt h3 rfl) (gS (Zn E9 Em (fun _ _=>C7) LO rfl rfl (hM.keep hE) hf fun w1 hM2 b c=> ?_)));have h3:w1.heap[bs]? =some (.cells ([St frm]).toArray 9 (0,0)):=U0 hM b h3;have a:w.grownBy w1 (some m):=Ak a b (fun _ e=> .inl e);clear hE;have hM:=hM2;clear hM2;refine rt0 rfl ?_;exact⟨rfl,hM,a⟩

theorem TE{n:Nat}{l:BY}(h:DirOk n l)(a:CR)(hn:a.to.length≠0):updM (updM (Aw l) a.frm none) a.to (some a.file)=Aw (turnD l a):=by
 funext t
 rw[look_turn,if_neg hn];unfold updM;rfl
theorem Si{n:Nat}{l:BY}(h:DirOk n l)(a:CR)(hn:a.to.length≠0)(hf:a.frm= []):updM (Aw l) a.to (some a.file)=Aw (turnD l a):=by
 rw[←TE h a hn]
 funext t
 unfold updM;by_cases ht:t=a.to
 ·rw[if_pos ht,if_pos ht]
 ·rw[if_neg ht,if_neg ht];by_cases h2:t=a.frm
  ·rw[if_pos h2,h2,hf,h.noEmpty]
  ·rw[if_neg h2]
theorem Sj{l:BY}(a:CR)(hn:a.to= []):updM (Aw l) a.frm none=Aw (turnD l a):=by
 funext t
 rw[look_turn,if_pos (by rw[hn];rfl)];unfold updM;rfl
theorem TF{w:AaS}{F:Nat→Nat}{v:AaR}{a:CR}(h:ActAt w F v a){m n:Nat}{l:BY}(hM:MapF St (pF F) Nm w m (Aw l))(hl:DirOk n l)(ha:ActOk n a):
  ∃f caps,v = .func (.func f) #[] caps∧Plain AaU f∧Calls AaU f (#[.map (some m)]++caps) w fun e w' =>e = .returned (.tuple #[])∧MapF St (pF F) Nm w' m (Aw (turnD l a))∧w.grownBy w' (some m):=by
 rcases h with ⟨bf,bn,e,h1,h2,h3,h4⟩ | ⟨hm,bs,bf,bn,e,h1,h2,h3,h4⟩ | ⟨bn,e,h1,h2⟩
 ·refine⟨_,_,e,fun _ _=>by kernel_rfl,?_⟩;have:=Vx (ev:=pF F) w m _ hM bf bn (F a.file) a.file a.to h1 h2 rfl (Cv (ha.may h4)).2;rw[Si hl a h4 h3]at this;exact this
 ·exact(show False from hm).elim
 ·refine⟨_,_,e,fun _ _=>by kernel_rfl,?_⟩;have:=Vy (ev:=pF F) w m _ hM bn a.frm h1 ha.frm;rw[Sj a h2]at this;exact this
theorem getD_left{α:Type}{l r:List α}{i:Nat}{x:α}(h:i<l.length):(l++r).getD i x=l.getD i x:=by rw[AaW,AbN h,←AaW]
theorem GB{α:Type}{l:List α}{a x:α}:(l++ [a]).getD l.length x=a:=by rw[AaW,AbH (AaX _),AcD];rfl
section
variable {base : Nat} {w w' : AaS} {H : Dk} {D : Ae}
theorem Cw{w:AaS}{i j x y:Nat}(h:CT w i=some x)(k:CT w j=some y)(hx:x≠y):i≠j:=fun e=>by rw[e,k]at h;exact hx (AbB h).symm
theorem DkS.turned(h:DkS base w H D){a:CR}(ha:ActOk D.files.length a){v:AaR}(hat:ActAt w H.F v a){vs:List AaR}(hvs:NA base w H.va H.F D.acts vs){va' :AaR} 
    (hc:Chg (fun i=>i=H.mn∨i=H.g∨H.va.ownBlock=some i) w w') (hm:MapF St (pF H.F) Nm w' H.mn (Aw (turnD D.now a)))
    (hb:w'.heap[H.g]? =some (.cells (Jn D.quota H.mn H.ml va' D.refused D.arm D.down).toArray 107 (0,0))) (hr:w'.ownsRow base 131 1 va' (vs++ [v]).length (vs++ [v])):
    DkS base w' { H with va:=va' } (turnedD D a):=by
  have hT:∀i,i<w.heap.size→(i=H.mn∨i=H.g∨H.va.ownBlock=some i)→TyB w i:=fun i _ e=>by
    rcases e with e | e | e
    · exact e▸Dc (.inl h.now.tag)
    · exact e▸Dc (.inr (.inl h.tg))
    · exact Dc (.inr (.inr (.inr (.inr (h.tA e)))))
  have ne0:∀ {i x:Nat},CT w i=some x→x≠0→x≠107+1→x≠131+1→¬(i=H.mn∨i=H.g∨H.va.ownBlock=some i):=fun e h0 h1 h2 q=>by
    rcases q with q | q | q
    · rw[q,h.now.tag]at e;exact h0 (AbB e).symm
    · rw[q,h.tg]at e;exact h1 (AbB e).symm
    · rw[h.tA q]at e;exact h2 (AbB e).symm
  refine⟨hb,hm,h.kept.chg hc fun q=> ?_,h.ne,⟨vs++ [v],hr,?_,fun i hi=> ?_⟩,h.files.chg hc (fun k hk=>⟨ne0 (h.tF hk) (by decide) (by decide) (by decide),fun i hi=>ne0 (h.tV hk hi) (by decide) (by decide) (by decide)⟩),h.ok.turned ha,h.lo⟩
  · rcases q with q | q | q
    · exact h.ne q.symm
    · exact Cw h.kept.tag h.tg (by decide) q
    · exact Cw h.kept.tag (h.tA q) (by decide) rfl
  · show(vs++ [v]).length=(D.acts++ [a]).length;rw[AaY,AaY,hvs.len];rfl
  · show ActAt w' H.F ((vs++ [v]).getD i undef) ((D.acts++ [a]).getD i _);rw[show(turnedD D a).acts.length=D.acts.length+1 by show(D.acts++ [a]).length=_;simp]at hi;have hl:=hvs.len;by_cases e:i<D.acts.length
    · rw[getD_left (by omega:i<vs.length),getD_left e];exact(hvs.at_ i e).chg hc hT rfl
    · obtain rfl:i=D.acts.length:=by omega
      rw[GB,←hl,GB];exact hat.chg hc hT rfl
theorem DkS.synced(h:DkS base w H D){ml' :Nat}(hc:Chg (fun i=>i=H.g) w w')(hn:w.heap.size≤ml')(hm:MapF St (pF H.F) Nm w' ml' (Aw D.now))(h0:base≤w.heap.size) 
    (hb:w'.heap[H.g]? =some (.cells (Jn D.quota H.mn ml' (.slice none 0 0) D.refused D.arm D.down).toArray 107 (0,0))):
    DkS base w' { H with ml:=ml',va:= .slice none 0 0 } { D with kept:=D.now,acts:= [] } :=by
  have ne0:∀ {i x:Nat},CT w i=some x→x≠107+1→i≠H.g:=fun e hx=>Cw e h.tg hx;have hlt:=h.now.lt;exact⟨hb,h.now.chg hc (ne0 h.now.tag (by decide)),hm,fun(q:H.mn=ml')=>by omega,⟨[],AbO _ _ _ 1,rfl,fun i hi=>absurd hi (Acx _)⟩,
    h.files.chg hc (fun k hk=>⟨ne0 (h.tF hk) (by decide),fun i hi=>ne0 (h.tV hk hi) (by decide)⟩),⟨h.ok.now,h.ok.now,fun a ha=>(by cases ha),h.ok.syn⟩,⟨h.lo.1,h.lo.2.1,AaV h0 hn⟩⟩
structure DkT (base : Nat) (w : AaS) (H : Dk) (D : Ae) (w' : AaS) (H' : Dk) (D' : Ae) : Prop where
  st:DkS base w' H' D'
  g:H'.g=H.g
  chg:Chg (B2 H D.files.length) w w'
  foot:∀i,B2 H' D'.files.length i→B2 H D.files.length i∨w.heap.size≤i
theorem DkT.refl(h:DkS base w H D):DkT base w H D w H D:=⟨h,rfl,Chg.refl _ _,fun _ q=> .inl q⟩
theorem DkT.trans{w2:AaS}{H1 H2:Dk}{D1 D2:Ae}(h:DkT base w H D w' H1 D1)(k:DkT base w' H1 D1 w2 H2 D2):DkT base w H D w2 H2 D2:=
  ⟨k.st,k.g.trans h.g,h.chg.trans k.chg h.foot,fun i q=>(k.foot i q).elim (h.foot i) fun r=> .inr (AaV h.chg.size r)⟩
theorem DkT.keep{w2:AaS}{H1:Dk}{D1:Ae}(h:DkT base w H D w' H1 D1)(k:Ext w' w2):DkT base w H D w2 H1 D1:=⟨h.st.keep k,h.g,h.chg.keep k,h.foot⟩
theorem RB.chg{B:Nat→Prop}{v:AaR}{l:List UInt8}(h:RB w v l)(hc:Chg B w w')(hB:l= []∨∀i,v.ownBlock=some i→¬B i):RB w' v l:=by
  obtain⟨h1,ao,cap,rfl,h2,h3,h4,h5⟩:=h;refine⟨h1,ao,cap,rfl,h2,h3,h4,fun a ha j u hu=> ?_⟩;have hl:=h5 a ha j u hu;have hlt:=Ach w _ hl;rcases hB with rfl | hB
  · simp[AaT]at hu
  · have hn:¬B (a.add j).block:=hB _ (by rw[ha];obtain⟨a1,a2,a3⟩:=a;simp only[Aa1,AcU];split <;> rfl);have hb:=hc.blk _ hlt hn;unfold Ade at hl ⊢;rw[hb];exact hl
theorem DkS.offT(h:DkS base w H D){b:Nat}{cs:Array AaR}{t:AaZ}{fr:Nat × Nat}(hb:w.heap[b]? =some (.cells cs t fr))(h1:t≠107)(h2:t≠133)(h3:t≠5)(h4:t≠131):¬B2 H D.files.length b:=fun q=>TyB.off hb h1 h2 h3 h4 (h.foot q).1
theorem DkT.box{H1:Dk}{D1:Ae}(h:DkT base w H D w' H1 D1)(h0:DkS base w H D){b:Nat}{cs:Array AaR}{t:AaZ}{fr:Nat × Nat}(hb:w.heap[b]? =some (.cells cs t fr))(h1:t≠107)(h2:t≠133)(h3:t≠5)(h4:t≠131):w'.heap[b]? =some (.cells cs t fr):=
  (h.chg.blk b (bl hb) (h0.offT hb h1 h2 h3 h4)).trans hb
theorem DkS.setFileT(h:DkS base w H D){k:Nat}(hk:k<D.files.length){v:AaR}{x:List UInt8 × Nat}(hx:x.2≤x.1.length)(hc:Chg (fun i=>i=H.F k∨(H.V k).ownBlock=some i) w w')(hf:FileAt base w' (H.F k) v x)(hv:∀i,v.ownBlock=some i→(H.V k).ownBlock=some i∨w.heap.size≤i):
    DkT base w H D w' { H with V:=BT H.V k v } { D with files:=D.files.set k x } :=
  ⟨h.setFile hk hx hc hf hv,rfl,hc.mono fun i _ e=> .inr (.inr (.inr (.inr ⟨k,hk,e⟩))),fun i hi=>by
    rcases hi with e | e | e | e | ⟨j,hj,e⟩
    · exact .inl (.inl e)
    · exact .inl (.inr (.inl e))
    · exact .inl (.inr (.inr (.inl e)))
    · exact .inl (.inr (.inr (.inr (.inl e))))
    · have hj:j<D.files.length:=by have:j<(D.files.set k x).length:=hj;rwa [Acv]at this
      rcases e with e | e
      · exact .inl (.inr (.inr (.inr (.inr ⟨j,hj, .inl e⟩))))
      · by_cases ej:j=k
        · have e:(BT H.V k v j).ownBlock=some i:=e;rw[ej,C3]at e;exact(hv i e).imp (fun q=> .inr (.inr (.inr (.inr ⟨k,hk, .inr q⟩)))) id
        · have e:(BT H.V k v j).ownBlock=some i:=e;rw[G8 _ _ ej]at e;exact .inl (.inr (.inr (.inr (.inr ⟨j,hj, .inr e⟩))))⟩
theorem DkS.newFileT(h:DkS base w H D)(hE:Ext w w'){f:Nat}(hf:w.heap.size≤f)(hb:w'.heap[f]? =some (.cells ([.slice none 0 0,NI 0]).toArray 133 (0,0)))(h0:base≤w.heap.size):
    DkT base w H D w' { H with F:=BT H.F D.files.length f,V:=BT H.V D.files.length (.slice none 0 0) } { D with files:=D.files++ [([],0)] } :=
  ⟨h.newFile hE hf hb h0,rfl,YP hE,fun i hi=>by
    rcases hi with e | e | e | e | ⟨j,hj,e⟩
    · exact .inl (.inl e)
    · exact .inl (.inr (.inl e))
    · exact .inl (.inr (.inr (.inl e)))
    · exact .inl (.inr (.inr (.inr (.inl e))))
    · have hj:j<D.files.length+1:=by have:j<(D.files++ [(([]:List UInt8),0)]).length:=hj;rwa [AaY]at this
      by_cases ej:j=D.files.length
      · rcases e with e | e
        · have e:i=BT H.F D.files.length f j:=e;rw[ej,C3]at e;exact .inr (e▸hf)
        · have e:(BT H.V D.files.length (.slice none 0 0) j).ownBlock=some i:=e;rw[ej,C3]at e;cases e
      · have hj' :j<D.files.length:=by omega
        rcases e with e | e
        · have e:i=BT H.F D.files.length f j:=e;rw[C2 _ _ hj']at e;exact .inl (.inr (.inr (.inr (.inr ⟨j,hj', .inl e⟩))))
        · have e:(BT H.V D.files.length (.slice none 0 0) j).ownBlock=some i:=e;rw[C2 _ _ hj']at e;exact .inl (.inr (.inr (.inr (.inr ⟨j,hj', .inr e⟩))))⟩
theorem DkS.setBlkT(h:DkS base w H D)(hg:w.grownBy w' (some H.g)){q rf ar:Nat}{dn:Bool}(hb:w'.heap[H.g]? =some (.cells (Jn q H.mn H.ml H.va rf ar dn).toArray 107 (0,0))):DkT base w H D w' H { D with quota:=q,refused:=rf,arm:=ar,down:=dn } :=
  ⟨h.setBlk hg hb,rfl,Yc hg fun i e=> .inl (.inl (AbB e).symm),fun i hi=> .inl hi⟩
theorem DkS.syncedT(h:DkS base w H D){ml' :Nat}(hc:Chg (fun i=>i=H.g) w w')(hn:w.heap.size≤ml')(hm:MapF St (pF H.F) Nm w' ml' (Aw D.now))(h0:base≤w.heap.size) 
    (hb:w'.heap[H.g]? =some (.cells (Jn D.quota H.mn ml' (.slice none 0 0) D.refused D.arm D.down).toArray 107 (0,0))):
    DkT base w H D w' { H with ml:=ml',va:= .slice none 0 0 } { D with kept:=D.now,acts:= [] } :=
  ⟨h.synced hc hn hm h0 hb,rfl,hc.mono fun i _ e=> .inl e,fun i hi=>by
    rcases hi with e | e | e | e | e
    · exact .inl (.inl e)
    · exact .inl (.inr (.inl e))
    · exact .inr ((show i=ml' from e)▸hn)
    · cases(show(none:Option Nat)=some i from e)
    · exact .inl (.inr (.inr (.inr (.inr e))))⟩
end
theorem AaH{P:Abo}{K:AaR→AaS→Prop}{ρ:Ad}{w:AaS}{d:Option Tmp}{ty:AaZ}{pos:String}{af:Array AbP}{gd:Option (Nat × Bool)}{f:AcF}{c x:Aa5}{v y:AaR}{caps:Array AaR}{R:AaS→Prop}{at_:Array AaZ}(hp:Plain P f)(hc:Aa ρ c=v)(hve:v = .func (.func f) #[] caps)(hx:Aa ρ x=y) 
  (h:Calls P f (#[y]++caps) w fun e w' =>e = .returned (.tuple #[])∧R w') (hk:∀w',R w' →K (.tuple #[]) w'):Yk P K ((execOp (Aa ρ) ⟨d, .call ⟨.value c,#[x],at_⟩,ty,pos,af,gd⟩).run P w):=
 YN hp (hc.trans hve) _ (by simp[hx]) (h.mono fun e w' q=>⟨_,q.1,hk w' q.2⟩)
theorem Xa{base:Nat}{w w' :AaS}{H:Dk}{D:Ae}(h:DkS base w H D)(hg:w.grownBy w' (some H.mn)){vs:List AaR}(hr:OG base 131 1 EZ w H.va vs):OG base 131 1 EZ w' H.va vs:=
 hr.kept hg fun q=>Cw h.now.tag (h.tA q) (by decide) rfl
theorem OD{base:Nat}{w w' :AaS}{H:Dk}{D:Ae}(h:DkS base w H D){a:CR}(ha:ActOk D.files.length a){v:AaR}(hat:ActAt w H.F v a){vs:List AaR}(hvs:NA base w H.va H.F D.acts vs){va' :AaR} 
  (hc:Chg (fun i=>i=H.mn∨i=H.g∨H.va.ownBlock=some i) w w') (hm:MapF St (pF H.F) Nm w' H.mn (Aw (turnD D.now a)))
  (hb:w'.heap[H.g]? =some (.cells (Jn D.quota H.mn H.ml va' D.refused D.arm D.down).toArray 107 (0,0))) (hr:w'.ownsRow base 131 1 va' (vs++ [v]).length (vs++ [v]))
  (hv:∀i,va'.ownBlock=some i→H.va.ownBlock=some i∨w.heap.size≤i):DkT base w H D w' { H with va:=va' } (turnedD D a):=
 ⟨h.turned ha hat hvs hc hm hb hr,rfl,hc.mono fun i _ e=>e.elim (fun e=> .inr (.inl e)) fun e=>e.elim .inl fun e=> .inr (.inr (.inr (.inl e))),fun i hi=>by
  rcases hi with e | e | e | e | e
  ·exact .inl (.inl e)
  ·exact .inl (.inr (.inl e))
  ·exact .inl (.inr (.inr (.inl e)))
  ·exact(hv i e).imp (fun e=> .inr (.inr (.inr (.inl e)))) id
  ·exact .inl (.inr (.inr (.inr (.inr e))))⟩
theorem Jo:A2 AaU 107 3 3:=fun b o w=>by simp[go_sem]
theorem ID:Tryz.prog.underlying 105=some (.slice 131):=by kernel_rfl
theorem Sk(f:Fn)(a:Array AaR)(c:Array AaR)(w:AaS):(Abz 105 1 #[(0, .func f a c)]).run AaU w = .ok (.slice (some ⟨w.heap.size,0,none⟩) 1 1) (w.alloc (.cells #[.func f a c] 131)):=by kernel_rfl
theorem dw5_ig131:∃z,(Tryz.prog.info? 131).map (fun i=>(i.zero,i.size,i.bytes))=some (some z,1,8)∧z.cells.size=1:=E6 (by kernel_rfl)
theorem Qr:(Tryz.prog.info? 105).map (·.size)=some 1:=by kernel_rfl
theorem O8(w0 w:AaS)(b:Ext w0 w)(H:Dk)(D:Ae)(hS:DkS w0.heap.size w H D)(v:AaR)(a:CR)(ha:ActOk D.files.length a)(hat:ActAt w H.F v a)(hn:D.acts.length<1099511627776):
  Calls AaU 94 #[PQ H.g 0,v] w fun e w' =>∃va',e = .returned (.tuple #[])∧DkT w0.heap.size w H D w' { H with va:=va' } (turnedD D a):=by
 have hb:=hS.blk;have hgl:=(bl hb);have hsz0:=b.size;have hmnl:=hS.lo.2.1;have hgl0:=hS.lo.1;have h:=hS;obtain⟨vs,hvs⟩:=hS.acts;have hvl:=hvs.len;have hrow:OG w0.heap.size 131 1 EZ w H.va vs:=⟨fun _ _=>rfl,by rw[NC];exact hvs.row⟩;have hvg:H.va.ownBlock≠some H.g:=fun q=>Cw hS.tg (hS.tA q) (by decide) rfl;obtain⟨f,caps,hve,hpl,hcl⟩:=TF hat hS.now hS.ok.now ha;refine gG (args:= [PQ H.g 0,v]) Tryz.func94 rfl 20 rfl rfl ?_;have hE:=Ext.refl w;refine gS (Yk.nilCheck rfl (gS (Yk.fieldAt OA rfl (gS (XJ LO rfl rfl (cellAt hb rfl) (gS (AaH hpl rfl hve rfl hcl fun w2 hR3=> ?_)))))));have hb:w2.heap[H.g]? =some (.cells (Jn (D.quota) (H.mn) (H.ml) (H.va) (D.refused) (D.arm) (D.down)).toArray 107 (0,0)):=U0 hS.now hR3.2 hb;have hrow:OG w0.heap.size 131 1 (EZ) w2 H.va vs:=Xa hS hR3.2 hrow;have b:=Ab b hR3.2 (AaV (AaX _) (by omega));clear hE;have hC:Chg (fun i=>i=H.g∨H.va.ownBlock=some i) w2 w2:=Chg.refl _ _;refine gS (Yk.nilCheck rfl (gS (Yk.fieldAt Jo rfl (gS (XJ ID rfl rfl (cellAt hb rfl) (gS (Ye (a:=(v)) (enc:=EZ) (vr v rfl) rfl (fun w=>by rw[hve];exact Sk _ _ _ w) fun t n o k=> ?_)))))));have hC:Chg (fun i=>i=H.g∨H.va.ownBlock=some i) w2 n:=(hC.keep k);have hrow:=hrow.keep k;have b:=b.trans k;refine gS (X2 _ _ w0.heap.size _ 8 ID dw5_ig131.choose_spec.1 dw5_ig131.choose_spec.2 ID (vs) ([(v)]) (OG.of hrow (vr H.va rfl)) (XU o (vr t rfl)) (fun y hy u hu=>by rw[Aa6.1 hu,Aa6.1 hy,hve];rfl) (by simp;omega) (by simp;omega) b.size fun l p j c=> ?_);have c:Grew n p H.va l:=c;have hb:=eb k hb;have x:OB l H.g:=Ao c hvg (bl hb);have hb:=Aq hb c hvg;have b:=Av b c hrow.2 (AaX _);have hvf:=fun i e=>(c.fresh i e).imp id (fun q=>AaV (AaV hR3.2.size hC.size) q);have hC:Chg (fun i=>i=H.g∨H.va.ownBlock=some i) w2 p:=Chg.grew hC c (fun i e=> .inl (.inr e));clear o;clear hrow;refine gS (Yk.nilCheck rfl (gS (Yk.fieldAt Jo rfl (gS (XY (i:=3) (v:=l) rfl rfl hb (Aa9 rfl) Qr (B7 j.2).1 (B7 j.2).2 fun m r s z=> ?_)))));clear b;have hC:Chg (fun i=>i=H.g∨H.va.ownBlock=some i) w2 m:=Chg.set hC s (.inl (.inl rfl));clear hb;have hb:=r;clear r;have aa:=bl hb;refine rt0 rfl ?_;have hC0:Chg (fun i=>i=H.mn∨i=H.g∨H.va.ownBlock=some i) w m:=((Yc hR3.2 (fun i e=> .inl (.inl (AbB e).symm)):Chg (fun i=>i=H.mn∨i=H.g∨H.va.ownBlock=some i) w w2)).trans hC (fun i e=> .inl (.inr e));have hmf:=hR3.1.chg hC (fun q=>q.elim (fun q=>Cw h.now.tag h.tg (by decide) q) (fun q=>Cw h.now.tag (h.tA q) (by decide) rfl));have j:=OG.kept j s x;have hown:m.ownsRow w0.heap.size 131 1 l (vs++ [v]).length (vs++ [v]):=by have:=j.2;rw[NC]at this;exact this
 exact⟨_,rfl,OD h ha hat hvs hC0 hmf hb hown hvf⟩
open Go.Shelf Go.RowKit
def Qs:Aea:=⟨fun | 5=>71 | 7=>122 | n=>n,fun | 23=>104 | 25=>9 | 3=>113 | 4=>4 | 20=>20 | n=>n,fun | n=>n⟩
theorem WF:Go.Proofs.SlLaysW.n5 AaU Qs:= {
  mixed:=by kernel_rfl
  f5:=⟨Tryz.f71.name,by decide,Tryz.func71.trans (congrArg some (by kernel_rfl))⟩
  f7:=Tryz.func122.trans (congrArg some (by kernel_rfl))
  t4:=Aej
  a4:=Agf
  z4:=AfY
  v4:=Ae9
  t20:=Tryz.underlying20
  a20:=Tryz.isAgg20
  z20:=Tryz.sizeOf20
  v20:=Tryz.zeroValue20
  t23:=Tryz.underlying104
  a23:=Tryz.isAgg104
  z23:=Tryz.sizeOf104
  v23:=Tryz.zeroValue104 }
def LQ:Aea:=⟨fun | 7=>59 | 10=>104 | n=>n,fun | 23=>104 | 26=>9 | 3=>113 | 28=>111 | 0=>0 | 27=>110 | 33=>139 | 4=>4 | n=>n,fun | n=>n⟩
theorem U1:Agv AaU LQ:= {
  mixed:=by kernel_rfl
  f7:=⟨Tryz.f59.name,by decide,Tryz.func59.trans (congrArg some (by kernel_rfl))⟩
  f10:=⟨Tryz.f104.name,by decide,Tryz.func104.trans (congrArg some (by kernel_rfl))⟩
  t0:=Aek
  a0:=Afr
  z0:=Afa
  v0:=Aet
  t4:=Aej
  a4:=Agf
  z4:=AfY
  v4:=Ae9
  t23:=Tryz.underlying104
  a23:=Tryz.isAgg104
  z23:=Tryz.sizeOf104
  v23:=Tryz.zeroValue104
  t26:=Adl
  a26:=Aeq
  z26:=Aeb
  v26:=Ads
  t27:=Tryz.underlying110
  a27:=Tryz.isAgg110
  z27:=Tryz.sizeOf110
  v27:=Tryz.zeroValue110
  t28:=Afs
  a28:=AgB
  z28:=Agm
  v28:=AfE
  t33:=Tryz.underlying139
  a33:=Tryz.isAgg139
  z33:=Tryz.sizeOf139
  v33:=Tryz.zeroValue139 }
def Jp:Aea:=⟨fun | 6=>58 | 8=>102 | 9=>103 | 11=>148 | 13=>150 | 12=>149 | 23=>194 | 24=>195 | 14=>185 | 15=>186 | 16=>187 | 17=>188 | 18=>189 | 19=>190 | 20=>191 | 21=>192 | 22=>193 | 25=>215 | 26=>216 | 27=>217 | 28=>218 | 29=>219 | 30=>220 | 31=>223 | n=>n,fun | 26=>9 | 28=>111 | 24=>56 | 0=>0 | 3=>3 | 37=>184 | 48=>181 | 50=>228 | 4=>4 | 40=>276 | 39=>275 | 45=>193 | 5=>5 | 9=>9 | 51=>307 | 55=>311 | 57=>317 | 58=>297 | 33=>139 | n=>n,fun | n=>n⟩
theorem O9:Go.Proofs.SlLaysZ.n6 AaU Jp:= {
  mixed:=by kernel_rfl
  f6:=⟨Tryz.f58.name,by decide,Tryz.func58.trans (congrArg some (by kernel_rfl))⟩
  f8:=⟨Tryz.f102.name,by decide,Tryz.func102.trans (congrArg some (by kernel_rfl))⟩
  f11:=⟨Tryz.f148.name,by decide,Tryz.func148.trans (congrArg some (by kernel_rfl))⟩
  t0:=Aek
  a0:=Afr
  z0:=Afa
  v0:=Aet
  t24:=AfF
  a24:=AgX
  z24:=AgC
  v24:=AfZ
  t26:=Adl
  a26:=Aeq
  z26:=Aeb
  v26:=Ads
  t28:=Afs
  a28:=AgB
  z28:=Agm
  v28:=AfE
  i26:=by kernel_rfl }
def Sl:Aea:=⟨fun | 6=>103 | 8=>150 | 9=>149 | 19=>194 | 20=>195 | 21=>185 | 22=>186 | 23=>187 | 24=>188 | 25=>189 | 26=>190 | 27=>191 | 28=>192 | 29=>193 | 36=>215 | 31=>216 | 32=>217 | 37=>218 | 38=>219 | 39=>220 | 41=>223 | n=>n,fun | 27=>56 | 29=>9 | 3=>3 | 32=>184 | 26=>56 | 0=>0 | 44=>181 | 46=>228 | 4=>4 | 36=>276 | 35=>275 | 41=>193 | 5=>5 | 9=>9 | 53=>307 | 57=>311 | 63=>317 | 64=>297 | n=>n,fun | n=>n⟩
theorem U2:Go.Proofs.SlLaysM.n6 AaU Sl:= {
  mixed:=by kernel_rfl
  f6:=⟨Tryz.f103.name,by decide,Tryz.func103.trans (congrArg some (by kernel_rfl))⟩
  f8:=Tryz.func150.trans (congrArg some (by kernel_rfl))
  f9:=⟨Tryz.f149.name,by decide,Tryz.func149.trans (congrArg some (by kernel_rfl))⟩
  f19:=Tryz.func194.trans (congrArg some (by kernel_rfl))
  f20:=Tryz.func195.trans (congrArg some (by kernel_rfl))
  f21:=⟨Tryz.f185.name,by decide,Tryz.func185.trans (congrArg some (by kernel_rfl))⟩
  f22:=⟨Tryz.f186.name,by decide,Tryz.func186.trans (congrArg some (by kernel_rfl))⟩
  f23:=⟨Tryz.f187.name,by decide,Tryz.func187.trans (congrArg some (by kernel_rfl))⟩
  f24:=⟨Tryz.f188.name,by decide,Tryz.func188.trans (congrArg some (by kernel_rfl))⟩
  f25:=⟨Tryz.f189.name,by decide,Tryz.func189.trans (congrArg some (by kernel_rfl))⟩
  f26:=⟨Tryz.f190.name,by decide,Tryz.func190.trans (congrArg some (by kernel_rfl))⟩
  f27:=⟨Tryz.f191.name,by decide,Tryz.func191.trans (congrArg some (by kernel_rfl))⟩
  f28:=⟨Tryz.f192.name,by decide,Tryz.func192.trans (congrArg some (by kernel_rfl))⟩
  f29:=⟨Tryz.f193.name,by decide,Tryz.func193.trans (congrArg some (by kernel_rfl))⟩
  f31:=Tryz.func216.trans (congrArg some (by kernel_rfl))
  f32:=Tryz.func217.trans (congrArg some (by kernel_rfl))
  f36:=⟨Tryz.f215.name,by decide,Tryz.func215.trans (congrArg some (by kernel_rfl))⟩
  f37:=⟨Tryz.f218.name,by decide,Tryz.func218.trans (congrArg some (by kernel_rfl))⟩
  f38:=⟨Tryz.f219.name,by decide,Tryz.func219.trans (congrArg some (by kernel_rfl))⟩
  f39:=⟨Tryz.f220.name,by decide,Tryz.func220.trans (congrArg some (by kernel_rfl))⟩
  f41:=⟨Tryz.f223.name,by decide,Tryz.func223.trans (congrArg some (by kernel_rfl))⟩
  t0:=Aek
  a0:=Afr
  z0:=Afa
  v0:=Aet
  t3:=Af0
  a3:=Ag3
  z3:=AgY
  v3:=Af9
  t4:=Aej
  a4:=Agf
  z4:=AfY
  v4:=Ae9
  t5:=AdJ
  a5:=Ag4
  z5:=AgZ
  v5:=Aga
  t9:=Adl
  a9:=Aeq
  z9:=Aeb
  v9:=Ads
  t26:=AfF
  a26:=AgX
  z26:=AgC
  v26:=AfZ
  t27:=AfF
  a27:=AgX
  z27:=AgC
  v27:=AfZ
  t29:=Adl
  a29:=Aeq
  z29:=Aeb
  v29:=Ads
  t32:=Tryz.underlying184
  a32:=Tryz.isAgg184
  z32:=Tryz.sizeOf184
  v32:=Tryz.zeroValue184
  t35:=Tryz.underlying275
  a35:=Tryz.isAgg275
  z35:=Tryz.sizeOf275
  v35:=Tryz.zeroValue275
  t36:=Tryz.underlying276
  a36:=Tryz.isAgg276
  z36:=Tryz.sizeOf276
  v36:=Tryz.zeroValue276
  t41:=Tryz.underlying193
  a41:=Tryz.isAgg193
  z41:=Tryz.sizeOf193
  v41:=Tryz.zeroValue193
  t44:=Aft
  a44:=Tryz.isAgg181
  z44:=Tryz.sizeOf181
  v44:=Tryz.zeroValue181
  t46:=Tryz.underlying228
  a46:=Tryz.isAgg228
  z46:=Tryz.sizeOf228
  v46:=Tryz.zeroValue228
  t53:=Tryz.underlying307
  a53:=Tryz.isAgg307
  z53:=Tryz.sizeOf307
  v53:=Tryz.zeroValue307
  t57:=Tryz.underlying311
  a57:=Tryz.isAgg311
  z57:=Tryz.sizeOf311
  v57:=Tryz.zeroValue311
  t63:=Tryz.underlying317
  a63:=Tryz.isAgg317
  z63:=Tryz.sizeOf317
  v63:=Tryz.zeroValue317
  t64:=Tryz.underlying297
  a64:=Tryz.isAgg297
  z64:=Tryz.sizeOf297
  v64:=Tryz.zeroValue297 }
open Go.RowKit Go.Shelf
theorem Sm(w:AaS){F:Nat→Nat}{b:Nat}{G:List UInt8→Option Nat}(h:MapF St (pF F) Nm w b G):
    Calls AaU 71 #[.map (some b)] w fun e w' =>∃n,e = .returned (.map (some n))∧w.heap.size≤n∧MapF St (pF F) Nm w' n G∧Ext w w' :=by
  obtain⟨es,c,hb,hI⟩:=h;have h0:=AnyW.maps_Clone WF b es.toArray c w hb;change Calls _ 71 _ _ _ at h0;refine h0.mono fun e w' ⟨he,hw⟩=>⟨w.heap.size,he,AaX _,⟨es,c,by rw[hw];exact heap_alloc_new _ _,hI⟩,by rw[hw];exact(AbJ _ _).alloc (AaX _) _⟩
theorem Sn(m:Nat):AnyZ.SortsIn AaU Jp AdZ m:=
  ⟨fun blk off cap ss W hH hblk hsz=>callsIn_wide.2 (AnyM.slices_Sort_string U2 blk off cap ss W hH hblk hsz),fun p cap W=>callsIn_wide.2 (AnyM.slices_Sort_string_none U2 p cap W)⟩
theorem TG(w:AaS)(b:Nat):Calls AaU 59 #[.map (some b)] w fun e w' =>e = .returned (.func (.func 104) #[] #[.pointer (some ⟨w.heap.size,0,none⟩)])∧w' =w.alloc (.cells #[.map (some b)] 104):=by
  have h:=AnyZ.keys_in U1 AdZ 5 trivial rfl (some b) w;exact callsIn_wide.1 h
theorem Qt{n:Nat}{l:BY}(h:DirOk n l){ss:List (List UInt8)}(hp:ss.Perm (l.map Abq)):ss.mergeSort (fun x y=>decide (x≤y))=l.map Abq:=by
  have h1:=mergeSort_of_perm hp;refine h1.trans (Afy ?_);refine h.sort.map _ fun a b q=> ?_;rw[bytesLess_eq,decide_eq_true_eq]at q;simp only[decide_eq_true_eq];exact List.le_of_lt q
set_option maxHeartbeats 1000000 in
theorem Qu(w w2:AaS){F:Nat→Nat}{b n:Nat}{l:BY}(hw:w2=w.alloc (.cells #[.map (some b)] 104))(h:MapF St (pF F) Nm w b (Aw l))(hl:DirOk n l)(hlen:l.length<1099511627776):
    Calls AaU 58 #[.func (.func 104) #[] #[.pointer (some ⟨w.heap.size,0,none⟩)]] w2 fun e w' =>∃v,e = .returned v∧OG w2.heap.size 9 1 CX w' v (l.map Abq)∧Ext w2 w' :=by
  subst hw;obtain⟨D0,hown,hperm,hsize⟩:=h.owns (P:=AaU) (k:=9) (by kernel_rfl) (fun a q=>AaV q (by decide)) (keys:=l.map Abq) (AeN _ (fun a b q e=>by rw[e,Fx]at q;cases q) hl.sort) (fun s=>by
    constructor
    · intro q;obtain⟨y,hy⟩:=AeH.1 q;exact AbD.2 ⟨(s,y),D9 hy,rfl⟩
    · intro q;obtain⟨e,he,rfl⟩:=AbD.1 q;rw[I3 hl.sort he];rfl) (by rw[Abh];simp only[maxLen];omega)
  rw[Abh]at hsize;have hbl:=hown.lt;have hseq:SeqGives AdZ 2 AaU 104 #[.pointer (some ⟨w.heap.size,0,none⟩)] encStr (fun ss=>ss.Perm (strKeys D0)) (Maps.size D0) (w.alloc (.cells #[.map (some b)] 104)):=
    AnyZ.keys_gives (ρ:=LQ) { U1 with } AdZ _ trivial rfl (by omega) w.heap.size b _ D0 _ (by simp) (by simp) (by
      obtain⟨es,clock,hb,Ft,hs,hD⟩:=hown;exact⟨es,clock,(Below.heap_alloc _ _ b hbl).trans hb,Ft,hs,hD⟩)
  have hS:=AnyZ.sorted_in O9 AdZ 5 trivial trivial trivial trivial rfl (by omega) (Sn _) (enters_of Tryz.func103 (by kernel_rfl) rfl) 104 #[.pointer (some ⟨w.heap.size,0,none⟩)] trivial (enters_of Tryz.func104 (by kernel_rfl) rfl) _ _ (by rw[hsize];simp only[maxLen];omega) (by rw[hsize];omega) _ hseq;refine(callsIn_wide.1 hS).mono fun e w' q=> ?_;obtain⟨v,ss,he,hp,hrow,-,hB⟩:=q;refine⟨v,he,⟨fun _ _=>rfl,?_⟩,hB⟩;have hs:=Qt hl (hp.trans hperm);rw[hs]at hrow;rw[NB];have hlen:ss.length=(l.map Abq).length:=(hp.trans hperm).length_eq;rw[hlen]at hrow;exact hrow
theorem Vz(w0 w:AaS)(b:Ext w0 w)(H:Dk)(D:Ae)(hS:DkS w0.heap.size w H D)(g:Nat)(hg:H.g=g)(v:AaR)(a:CR)(ha:ActOk D.files.length a)(hat:ActAt w H.F v a)(hn:D.acts.length<1099511627776):
  Calls AaU 94 #[PQ g 0,v] w fun e w' =>∃va',e = .returned (.tuple #[])∧DkT w0.heap.size w H D w' { H with va:=va' } (turnedD D a):=by
 subst hg;exact O8 w0 w b H D hS v a ha hat hn
theorem TH{base:Nat}{w w' :AaS}{H H1:Dk}{D D1:Ae}(h:DkT base w H D w' H1 D1){v:AaR}{b:List UInt8}(hr:RB w v b)(ho:b= []∨∀i,v.ownBlock=some i→¬B2 H D.files.length i):b= []∨∀i,v.ownBlock=some i→¬B2 H1 D1.files.length i:=by
 rcases ho with h0 | ho
 ·exact .inl h0
 ·by_cases hb:b= []
  ·exact .inl hb
  ·refine .inr fun i hi q=> ?_;rcases h.foot i q with q | q
   ·exact ho i hi q
   ·have:=RB.lt hr (AgN.2 hb) hi;omega
theorem YH{base:Nat}{w w' :AaS}{H:Dk}{D:Ae}(h:DkS base w H D)(hE:Ext w w'):DkT base w H D w' H D:=⟨h.keep hE,rfl,YP hE,fun _ q=> .inl q⟩
theorem VA{D:Ae}{s b:List UInt8}{k:Nat}(h:Aw D.now s=some k):Cd D s b = { D with files:=D.files.set k ((D.files.getD k ([],0)).1++b,(D.files.getD k ([],0)).2) } :=by unfold Cd;rw[h];rfl
theorem VB{D:Ae}{s b:List UInt8}(h:Aw D.now s=none): { turnedD { D with files:=D.files++ [([],0)] } ⟨[],s,D.files.length⟩with files:=(turnedD { D with files:=D.files++ [([],0)] } ⟨[],s,D.files.length⟩).files.set D.files.length (((turnedD { D with files:=D.files++ [([],0)] } ⟨[],s,D.files.length⟩).files.getD D.files.length ([],0)).1++b,((turnedD { D with files:=D.files++ [([],0)] } ⟨[],s,D.files.length⟩).files.getD D.files.length ([],0)).2) } = Cd D s b:=by
 unfold Cd;rw[h];have h1:(turnedD { D with files:=D.files++ [([],0)] } ⟨[],s,D.files.length⟩).files=D.files++ [([],0)]:=rfl;rw[h1,GB];have h2:(D.files++ [(([]:List UInt8),0)]).set D.files.length ([]++b,0)=D.files++ [(b,0)]:=by
  rw[Acg _ _ (AaX _),AcD];rfl
 rw[h2];rfl
theorem GC{α:Type}{l:List α}{k:Nat}{d:α}(h:k<l.length):l.getD k d∈l:=by rw[AaW,Aa2 h];exact Acp h
theorem NE:Plain AaU 94:=fun _ _=>by kernel_rfl
theorem OE:A2 AaU 133 1 1:=fun b o w=>by simp[go_sem]
theorem TI:Plain AaU 71:=fun _ _=>by kernel_rfl
theorem OF:A2 AaU 107 2 2:=fun b o w=>by simp[go_sem]
theorem Qv:(Tryz.prog.info? 104).map (·.size)=some 1:=by kernel_rfl
theorem So{d:Option Tmp}{ty:AaZ}{pos:String}{af:Array AbP}{gd:Option (Nat × Bool)}(σ:Aa5→AaR)(w:AaS):(execOp σ ⟨d, .alloc 113,ty,pos,af,gd⟩).run AaU w = .ok (.value (PQ w.heap.size 0)) (w.alloc (.cells ([.pointer none]).toArray 113)):=by kernel_rfl
theorem Qw:(Tryz.prog.info? 113).map (·.size)=some 1:=by kernel_rfl
theorem Xb(w0 w:AaS)(a:Ext w0 w)(H:Dk)(D:Ae)(hS:DkS w0.heap.size w H D)(bd bs k:Nat)(s:List UInt8)(hbd:w.heap[bd]? =some (.cells ([PQ H.g 0]).toArray 50 (0,0)))(h3:w.heap[bs]? =some (.cells ([St s]).toArray 9 (0,0)))(hk:k<D.files.length)(hs:Bh s=true)(hn:D.acts.length<1099511627776):
  Calls AaU 93 #[PQ bd 0,PQ bs 0] w fun e w' =>∃H',e = .returned (.tuple #[])∧DkT w0.heap.size w H D w' H' (turnedD D ⟨s,[],k⟩):=by
 have hb:=hS.blk;have hgl0:=hS.lo.1;have hsz0:=a.size;refine gG (args:= [PQ bd 0,PQ bs 0]) Tryz.func93 rfl 5 rfl rfl ?_;have hE:=Ext.refl w;refine gS (XJ TB rfl rfl (cellAt hbd rfl) (gS (Ys (vs:= #[PQ bs 0]) (by simp only[Abx,Abv,AbG];exact congrArg Acn (PB (vr (PQ bs 0) rfl))) (gS (XM NE rfl rfl ((O8 w0 _ a H D (hS.keep hE) (.func (.func 95) #[] #[PQ bs 0]) ⟨s,[],k⟩ ⟨hk,fun q=>absurd rfl q,(Cv hs).2⟩ (.inr (.inr ⟨bs,rfl,h3,rfl⟩)) hn).mono ?_))))));rintro e w1 ⟨va2,rfl,hT⟩;refine⟨_,rfl,?_⟩;refine rt0 rfl ?_;exact⟨_,rfl,hT⟩

theorem Xc(w0 w:AaS)(f:Ext w0 w)(H:Dk)(D:Ae)(hS:DkS w0.heap.size w H D)(bf bd k:Nat)(hbf:w.heap[bf]? =some (.cells ([PQ (H.F k) 0]).toArray 113 (0,0)))(hbd:w.heap[bd]? =some (.cells ([PQ H.g 0]).toArray 50 (0,0)))(hkl:k<D.files.length):
  Calls AaU 142 #[PQ bf 0,PQ bd 0] w fun e w' =>∃H',e = .returned (.tuple #[])∧DkT w0.heap.size w H D w' H' ({ D with files:=D.files.set k ((AY D k).1,(AY D k).1.length),kept:=D.now,acts:= [] }):=by
 have hb:=hS.blk;have hgl0:=hS.lo.1;have hsz0:=f.size;have h:=hS;have hbd0:=hbd;have af:bf≠H.F k:=Cw (Co hbf) (hS.tF hkl) (by decide);have ag:bd≠H.F k:=Cw (Co hbd) (hS.tF hkl) (by decide);have ah:H.g≠H.F k:=Cw hS.tg (hS.tF hkl) (by decide);have hfa:=h.files.at_ k hkl;have hfb:=hfa.blk;have hfl:=(bl hfb);have hfo:=hfa.row;have hflo:=hfa.lo;have hfv:(H.V k).ownBlock≠some (H.F k):=fun q=>Cw (h.tF hkl) (h.tV hkl q) (by decide) rfl;have hfr:RB w (H.V k) (D.files.getD k ([],0)).1:=X3 hfo;have hC:Chg (fun i=>i=(H.F k)) w w:=Chg.refl _ _;refine gG (args:= [PQ bf 0,PQ bd 0]) Tryz.func142 rfl 21 rfl rfl ?_;have hE:=Ext.refl w;refine CC [0,1,2,3,4,5,6,7,8] [8] [] fun w2 j=> ?_;have hC:Chg (fun i=>i=(H.F k)) w w2:=(hC.keep j);have hbf:=eb j hbf;have hfb:=eb j hfb;have hE:=hE.trans j;refine ys (XJ LP rfl rfl (cellAt hbf rfl) zz) (ys (XJ LP rfl rfl (cellAt hbf rfl) zz) (ys (Yk.nilCheck rfl zz) (ys (Yk.fieldAt OC rfl zz) (ys (XJ F5 rfl rfl (cellAt hfb rfl) zz) (ys (XS F5 (XP (hfr.keep hE) rfl) zz) (ys (Yk.nilCheck rfl zz) (ys (Yk.fieldAt OE rfl zz) (yC (XY (i:=1) (v:=NI (((D.files.getD k ([],0)).1:List UInt8).length)) rfl rfl hfb (Aa9 rfl) M5 rfl rfl fun b p r ai=> ?_)))))))));have hC:Chg (fun i=>i=(H.F k)) w b:=Chg.set hC r (.inl rfl);clear hE;clear hfb;have hfb:=p;clear p;have aj:=bl hfb;have hT1:=h.setFileT (x:=((D.files.getD k ([],0)).1,(D.files.getD k ([],0)).1.length)) hkl (AaX _) (hC.mono fun i _ e=> .inl e) ⟨hfb,Du hC hfo (fun i e q=>hfv (e.trans (congrArg some q))),hflo⟩ (fun i e=> .inl e);have hbd1:=DkT.box hT1 h hbd0 (by decide) (by decide) (by decide) (by decide);obtain⟨H1,s⟩:∃x,x=({ H with V:=BT H.V k (H.V k) } :Dk):=⟨_,rfl⟩;obtain⟨D1,hD1⟩:∃x,x=({ D with files:=D.files.set k ((D.files.getD k ([],0)).1,(D.files.getD k ([],0)).1.length) } :Ae):=⟨_,rfl⟩;rw[←s,←hD1]at hT1;have y:H1.g=H.g:=by rw[s]
 have c:=hT1.st;have f:=f.trans j;have f:=Ab f r (AaV (AaX _) (by omega));have z:=f;have a:=c.blk;have hgl1:=(bl a);rw[←y]at hbd1;have hm1:=c.now;have ak:bd≠H1.g:=Cw (Co hbd1) c.tg (by decide);have hgm:H1.g≠H1.mn:=Cw c.tg c.now.tag (by decide);have hmn1:=c.now.lt;have hC2:Chg (fun i=>i=H1.g) b b:=Chg.refl _ _;have hg1l:=c.lo.1;refine DV [0,1,2,3,4,5,6,7,8,9,10,11,12] [6,9,12] [] [0,1] fun w9 l=> ?_;have hC2:Chg (fun i=>i=H1.g) b w9:=(hC2.keep l);have hm1:=hm1.keep l;have a:=eb l a;have hbd1:=eb l hbd1;refine Xt hbd1 ?_;refine yf (fun _ ⟨hbd1,_⟩=>XJ TB rfl rfl (cellAt hbd1 rfl) zz) (yf (fun _ ⟨hbd1,_⟩=>XJ TB rfl rfl (cellAt hbd1 rfl) zz) (ys (XJ TB rfl rfl (cellAt hbd1 rfl) zz) (ys (Yk.nilCheck rfl zz) (ys (Yk.fieldAt OA rfl zz) (ys (XJ LO rfl rfl (cellAt a rfl) zz) (yI (XQ TI rfl ((Sm _ hm1).mono ?_))))))));rintro e ab ⟨nm,rfl,hnl,hmm,m⟩;refine⟨_,rfl,?_⟩;have hnl1:b.heap.size≤nm:=AaV hC2.size hnl;have hC2:Chg (fun i=>i=H1.g) b ab:=(hC2.keep m);have hgn:H1.g≠nm:=by omega
 have a:=eb m a;have hbd1:=eb m hbd1;refine⟨⟨hbd1,trivial⟩,?_⟩;refine ys (Yk.nilCheck rfl zz) (ys (Yk.fieldAt OF rfl zz) (yI (XY (i:=2) (v:= .map (some nm)) rfl rfl a (Aa9 rfl) Qv rfl rfl fun ac t n al=> ?_)));have hm1:=hm1.keep m;have hm1:=MapF.other hm1 n (Am (by omega));have hC2:Chg (fun i=>i=H1.g) b ac:=Chg.set hC2 n (.inl rfl);have hmm:=MapF.other hmm n (Am (by omega));clear a;have a:=t;clear t;have am:=bl a;have hbd1:=kb n hbd1 (by omega);refine⟨⟨hbd1,trivial⟩,?_⟩;refine ys (Yk.nilCheck rfl zz) (ys (Yk.fieldAt Jo rfl zz) (yD rfl (XY (i:=3) (v:=(Aa0 none 0 0)) rfl rfl a (Aa9 rfl) Qr rfl rfl fun ad u o an=> ?_)));have hm1:=MapF.other hm1 o (Am (by omega));have hC2:Chg (fun i=>i=H1.g) b ad:=Chg.set hC2 o (.inl rfl);have hmm:=MapF.other hmm o (Am (by omega));clear a;have a:=u;clear u;have ao:=bl a;refine rt0 rfl ?_;have ae:=a;have hT2:=c.syncedT hC2 hnl1 hmm z.size ae;exact⟨_,rfl,by have:=hT1.trans hT2;rw[hD1]at this;exact this⟩

theorem Xd(w0 w:AaS)(c:Ext w0 w)(H:Dk)(D:Ae)(hS:DkS w0.heap.size w H D)(bd bn bb:Nat)(s b:List UInt8)(vb:AaR)(hbd:w.heap[bd]? =some (.cells ([PQ H.g 0]).toArray 50 (0,0)))(hbn:w.heap[bn]? =some (.cells ([St s]).toArray 9 (0,0)))(hbb:w.heap[bb]? =some (.cells ([vb]).toArray 27 (0,0)))(hrb:RB w vb b)(hoff:b= []∨∀i,vb.ownBlock=some i→¬B2 H D.files.length i)(hs:Bh s=true)(hbl:b.length<1099511627776)(hfs:∀x∈D.files,x.1.length<1099511627776)(hn:D.acts.length<1099511627776)(k:Nat)(hlk:Aw D.now s=some k):
  Calls AaU 140 #[PQ bd 0,PQ bn 0,PQ bb 0] w fun e w' =>∃H',e = .returned (.tuple #[])∧DkT w0.heap.size w H D w' H' (Cd D s b):=by
 have hb:=hS.blk;have hgl0:=hS.lo.1;have hsz0:=c.size;have aa:=hS;have hrb0:=hrb;have ab:=c;have hT12:=DkT.refl hS;have hkl:=(hS.ok.now.look hlk).1;have hlb:=hfs _ (GC (d:=([],0)) hkl);refine gG (args:= [PQ bd 0,PQ bn 0,PQ bb 0]) Tryz.func140 rfl 32 rfl rfl ?_;have hE:=Ext.refl w;refine CC [0,1,2,3,4,5,6] [] [] fun u h=> ?_;have hT12:DkT w0.heap.size w H D u H D:=(hT12.keep h);have hb:=eb h hb;have hbd:=eb h hbd;have hbn:=eb h hbn;refine ys (XJ TB rfl rfl (cellAt hbd rfl) zz) (ys (Yk.nilCheck rfl zz) (ys (Yk.fieldAt OA rfl zz) (ys (XJ LO rfl rfl (cellAt hb rfl) zz) (ys (XJ O7 rfl rfl (cellAt hbn rfl) zz) (ys (YG E9 Em (fun _ _=>C7) LO I5 rfl rfl hT12.st.now (Cv hs).2 hlk zz) (ys (X5 LP rfl zz) (kB (rfl) (cF rfl (CC [0,1,2,3,4,5,6] [] [] fun f j=> ?_)))))))));have hT12:DkT w0.heap.size w H D f H D:=(hT12.keep j);have hb:=eb j hb;have hbd:=eb j hbd;have hbn:=eb j hbn;refine ys (XJ TB rfl rfl (cellAt hbd rfl) zz) (ys (Yk.nilCheck rfl zz) (ys (Yk.fieldAt OA rfl zz) (ys (XJ LO rfl rfl (cellAt hb rfl) zz) (ys (XJ O7 rfl rfl (cellAt hbn rfl) zz) (ys (YG E9 Em (fun _ _=>C7) LO I5 rfl rfl hT12.st.now (Cv hs).2 hlk zz) ?_)))));have hTc:=hT12;have hSc:=hTc.st;have hfa:=hSc.files.at_ k hkl;have hfb:=hfa.blk;have hfl:=(bl hfb);have hfo:=hfa.row;have hflo:=hfa.lo;have hfv:(H.V k).ownBlock≠some (H.F k):=fun q=>Cw (hSc.tF hkl) (hSc.tV hkl q) (by decide) rfl;have hC:Chg (fun i=>i=(H.F k)∨(H.V k).ownBlock=some i) f f:=Chg.refl _ _;have hsy:=hSc.ok.syn _ (GC (d:=([],0)) hkl);have hZ1:=h.trans j;have hbb:=eb hZ1 hbb;have hvb:Aa1 (H.V k)≠some bb:=fun q=>Cw (Co hbb) (hSc.tV hkl q) (by decide) rfl;have ac:bb≠(H.F k):=Cw (Co hbb) (hSc.tF hkl) (by decide);refine CC [0,1,2,3,4,5,6,7,8,9] [6,9] [] fun o l=> ?_;have hC:Chg (fun i=>i=(H.F k)∨(H.V k).ownBlock=some i) f o:=(hC.keep l);have hZ2:=hZ1.trans l;have hE:=hE.trans hZ2;have c:=c.trans hZ2;have hbb:=eb l hbb;have hfb:=eb l hfb;have hfo:=Stab.own _ _ _ _ _ _ _ _ hfo l;refine ys (Yk.nilCheck rfl zz) (ys (Yk.fieldAt OC rfl zz) (ys (XJ F5 rfl rfl (cellAt hfb rfl) zz) (ys (XJ F5 rfl rfl (cellAt hbb rfl) zz) (yC (Ya _ _ w0.heap.size (.int .u8 0) F5 MA rfl F5 ((D.files.getD k ([],0)).1) (b) (CV hfo (vr (H.V k) rfl)) (XP (hrb.keep hE) (vr vb rfl)) (by omega) c.size fun n p m a=> ?_)))));have a:Grew o p (H.V k) n:=a;have y:Aa1 n≠some (H.F k):=Ao a hfv (bl hfb);have hbb:=Aq hbb a hvb;clear hE;have c:=Av c a hfo (AaX _);have hfb:=Aq hfb a hfv;have hvf:=fun i e=>(a.fresh i e).imp id (fun q=>AaV hC.size q);have hC:Chg (fun i=>i=(H.F k)∨(H.V k).ownBlock=some i) f p:=Chg.grew hC a (fun i e=> .inl (.inr e));clear hfo;refine ys (Yk.nilCheck rfl zz) (ys (Yk.fieldAt OC rfl zz) (yC (XY (i:=0) (v:=n) rfl rfl hfb (Aa9 rfl) Kh (B7 m).1 (B7 m).2 fun z r t ad=> ?_)));have hC:Chg (fun i=>i=(H.F k)∨(H.V k).ownBlock=some i) f z:=Chg.set hC t (.inl (.inl rfl));clear hfb;have hfb:=r;clear r;have ae:=bl hfb;refine rt0 rfl ?_;have m:=BI m t y;have hTf:=hSc.setFileT (x:=((D.files.getD k ([],0)).1++b,(D.files.getD k ([],0)).2)) hkl (by simp only[AaY];omega) hC ⟨hfb,(show Afx _ _ _ _ _ _ _ from by simpa using m),hflo⟩ hvf;exact⟨_,rfl,by rw[VA hlk];exact hTc.trans hTf⟩

theorem Xe(w0 w:AaS)(a:Ext w0 w)(H:Dk)(D:Ae)(hS:DkS w0.heap.size w H D)(bd bn bb:Nat)(s b:List UInt8)(vb:AaR)(hbd:w.heap[bd]? =some (.cells ([PQ H.g 0]).toArray 50 (0,0)))(hbn:w.heap[bn]? =some (.cells ([St s]).toArray 9 (0,0)))(hbb:w.heap[bb]? =some (.cells ([vb]).toArray 27 (0,0)))(hrb:RB w vb b)(hoff:b= []∨∀i,vb.ownBlock=some i→¬B2 H D.files.length i)(hs:Bh s=true)(hbl:b.length<1099511627776)(hfs:∀x∈D.files,x.1.length<1099511627776)(hn:D.acts.length<1099511627776)(hlk:Aw D.now s=none):
  Calls AaU 140 #[PQ bd 0,PQ bn 0,PQ bb 0] w fun e w' =>∃H',e = .returned (.tuple #[])∧DkT w0.heap.size w H D w' H' (Cd D s b):=by
 have hb:=hS.blk;have hgl0:=hS.lo.1;have hsz0:=a.size;have ap:=hS;have hrb0:=hrb;have aq:=a;have hT12:=DkT.refl hS;refine gG (args:= [PQ bd 0,PQ bn 0,PQ bb 0]) Tryz.func140 rfl 32 rfl rfl ?_;have hE:=Ext.refl w;refine CC [0,1,2,3,4,5,6] [] [] fun w3 j=> ?_;have hT12:DkT w0.heap.size w H D w3 H D:=(hT12.keep j);have hb:=eb j hb;have hbd:=eb j hbd;have hbn:=eb j hbn;refine ys (XJ TB rfl rfl (cellAt hbd rfl) zz) (ys (Yk.nilCheck rfl zz) (ys (Yk.fieldAt OA rfl zz) (ys (XJ LO rfl rfl (cellAt hb rfl) zz) (ys (XJ O7 rfl rfl (cellAt hbn rfl) zz) (ys (Y4 E9 Em (fun _ _=>C7) LO I5 rfl rfl hT12.st.now (Cv hs).2 hlk zz) (ys (X5 LP rfl zz) (kB (rfl) (cT rfl (gS (Yk.run (v:= .agg #[.slice none 0 0,NI 0]) (by kernel_rfl) ?_))))))))));have hE:=hE.trans j;have hzb:=hE.size;refine gS (Yk.box (cs:=([.slice none 0 0,NI 0]:List AaR).toArray) (show _=(.agg ([.slice none 0 0,NI 0]:List AaR).toArray:AaR)from rfl) fun m w7 a0 ag aa a1=> ?_);have c:=Ext.refl w3;have a:=a.trans j;have a2:=hE.size;have a3:=a.size;have ab:=ag;clear ag;have a4:m<w7.heap.size:=by omega
 refine gS (Yk.alloc So fun n ar a5 ah y a6=> ?_);have o:=Ext.refl w7;have hE:=hE.trans aa;have a:=a.trans aa;have c:=c.trans aa;have au:=hE.size;have av:=a.size;have p:=ah;clear ah;have a7:n<ar.heap.size:=by omega
 refine gS (XY (i:=0) (v:=PQ m 0) rfl rfl p (Aa9 rfl) Qw rfl rfl fun a8 ai z a9=> ?_);clear p;have p:=ai;clear ai;have ba:=bl p;have aw:=c.size;have c:=c.trans y;have c:=Ab c z (AaV aw (by omega));have hbd:=eb c hbd;refine gS (XJ TB rfl rfl (cellAt hbd rfl) (gS (Ys (vs:= #[PQ n 0,PQ bn 0]) (by simp only[Abx,Abv,AbG];exact congrArg Acn (FI (vr (PQ n 0) rfl) (vr (PQ bn 0) rfl))) ?_)));have o:=o.trans y;have o:=Ab o z (AaV (AaX _) (by omega));have ab:=eb o ab;have hE:=hE.trans y;have hE:=Ab hE z (AaV au (by omega));have hT1:=ap.newFileT (f:=m) hE (by omega) ab aq.size;obtain⟨H1,ac⟩:∃x,x=({ H with F:=BT H.F D.files.length m,V:=BT H.V D.files.length (.slice none 0 0) } :Dk):=⟨_,rfl⟩;obtain⟨D1,hD1⟩:∃x,x=({ D with files:=D.files++ [([],0)] } :Ae):=⟨_,rfl⟩;rw[←ac,←hD1]at hT1;have r:=hT1.st;have aj:H1.g=H.g:=by rw[ac]
 have hF1:H1.F D.files.length=m:=by rw[ac];exact C3 _ _ _
 have hD1l:D1.files.length=D.files.length+1:=by rw[hD1];simp
 have hsl:=(Cv hs).1;have hbd1:=hbd;have hbn:=eb c hbn;have hbn1:=hbn;have hbb:=eb (j.trans c) hbb;have hbb1:=hbb;have hrb1:=(hrb.keep hE);have a:=a.trans y;have a:=Ab a z (AaV av (by omega));refine gS (XM NE rfl rfl ((Vz w0 _ a H1 D1 r H.g aj (.func (.func 141) #[] #[PQ n 0,PQ bn 0]) ⟨[],s,D.files.length⟩ ⟨by rw[hD1l];exact AeW _,fun _=>hs,Abs _⟩ (.inl ⟨n,bn,rfl,by rw[hF1];exact p,hbn,rfl,show s.length≠0 from by omega⟩) (by rw[hD1];exact hn)).mono ?_));rintro e bc ⟨va2,rfl,hT2⟩;refine⟨_,rfl,?_⟩;have a:=Chg.ext a hT2.chg (fun i q=>(r.foot q).2.2);have hT12:=hT1.trans hT2;obtain⟨H2,ak⟩:∃x,x=({ H1 with va:=va2 } :Dk):=⟨_,rfl⟩;obtain⟨D2,hD2⟩:∃x,x=turnedD D1 ⟨[],s,D.files.length⟩:=⟨_,rfl⟩;rw[←ak,←hD2]at hT12;have ax:H2.g=H.g:=by rw[ak];exact aj
 have hlk2:Aw D2.now s=some D.files.length:=by rw[hD2];exact(look_turn _ _ _).trans ((if_neg (show s.length≠0 by omega)).trans (if_pos rfl))
 have hkl:=(hT12.st.ok.now.look hlk2).1;have hlb:(D2.files.getD D.files.length ([],0)).1.length<1099511627776:=by rw[hD2,hD1];show((D.files++ [(([]:List UInt8),0)]).getD D.files.length ([],0)).1.length<_;rw[GB];decide
 have hoff1:=TH hT1 hrb0 hoff;have hbd:=DkT.box hT2 r hbd1 (by decide) (by decide) (by decide) (by decide);have hbn:=DkT.box hT2 r hbn1 (by decide) (by decide) (by decide) (by decide);have hbb:=DkT.box hT2 r hbb1 (by decide) (by decide) (by decide) (by decide);have hrb:=hrb1.chg hT2.chg hoff1;have hb:=eb c hb;have hb:=hT12.st.blk;rw[ax]at hb;have hgl2:=(bl hb);refine CC [0,1,2,3,4,5,6] [] [] fun k l=> ?_;have hT12:DkT w0.heap.size w H D k H2 D2:=(hT12.keep l);have hb:=eb l hb;have hbd:=eb l hbd;have hbn:=eb l hbn;refine ys (XJ TB rfl rfl (cellAt hbd rfl) zz) (ys (Yk.nilCheck rfl zz) (ys (Yk.fieldAt OA rfl zz) (ys (XJ LO rfl rfl (cellAt hb rfl) zz) (ys (XJ O7 rfl rfl (cellAt hbn rfl) zz) (ys (YG E9 Em (fun _ _=>C7) LO I5 rfl rfl hT12.st.now (Cv hs).2 hlk2 zz) ?_)))));have hTc:=hT12;have hSc:=hTc.st;have hfa:=hSc.files.at_ (D.files.length) hkl;have hfb:=hfa.blk;have hfl:=(bl hfb);have hfo:=hfa.row;have hflo:=hfa.lo;have hfv:(H2.V (D.files.length)).ownBlock≠some (H2.F (D.files.length)):=fun q=>Cw (hSc.tF hkl) (hSc.tV hkl q) (by decide) rfl;have hC:Chg (fun i=>i=(H2.F (D.files.length))∨(H2.V (D.files.length)).ownBlock=some i) k k:=Chg.refl _ _;have hsy:=hSc.ok.syn _ (GC (d:=([],0)) hkl);have hbb:=eb l hbb;have hvb:Aa1 (H2.V (D.files.length))≠some bb:=fun q=>Cw (Co hbb) (hSc.tV hkl q) (by decide) rfl;have be:bb≠(H2.F (D.files.length)):=Cw (Co hbb) (hSc.tF hkl) (by decide);refine CC [0,1,2,3,4,5,6,7,8,9] [6,9] [] fun al t=> ?_;have hC:Chg (fun i=>i=(H2.F (D.files.length))∨(H2.V (D.files.length)).ownBlock=some i) k al:=(hC.keep t);have hZ1:=l.trans t;have a:=a.trans hZ1;have hrb:=hrb.keep hZ1;have hbb:=eb t hbb;have hfb:=eb t hfb;have hfo:=Stab.own _ _ _ _ _ _ _ _ hfo t;refine ys (Yk.nilCheck rfl zz) (ys (Yk.fieldAt OC rfl zz) (ys (XJ F5 rfl rfl (cellAt hfb rfl) zz) (ys (XJ F5 rfl rfl (cellAt hbb rfl) zz) (yC (Ya _ _ w0.heap.size (.int .u8 0) F5 MA rfl F5 ((D2.files.getD (D.files.length) ([],0)).1) (b) (CV hfo (vr (H2.V (D.files.length)) rfl)) (XP hrb (vr vb rfl)) (by omega) a.size fun ad am u h=> ?_)))));have h:Grew al am (H2.V (D.files.length)) ad:=h;have ay:Aa1 ad≠some (H2.F (D.files.length)):=Ao h hfv (bl hfb);have a:=Av a h hfo (AaX _);have hbb:=Aq hbb h hvb;clear hrb;have hfb:=Aq hfb h hfv;have hvf:=fun i e=>(h.fresh i e).imp id (fun q=>AaV hC.size q);have hC:Chg (fun i=>i=(H2.F (D.files.length))∨(H2.V (D.files.length)).ownBlock=some i) k am:=Chg.grew hC h (fun i e=> .inl (.inr e));clear hfo;refine ys (Yk.nilCheck rfl zz) (ys (Yk.fieldAt OC rfl zz) (yC (XY (i:=0) (v:=ad) rfl rfl hfb (Aa9 rfl) Kh (B7 u).1 (B7 u).2 fun az an ao bf=> ?_)));have hC:Chg (fun i=>i=(H2.F (D.files.length))∨(H2.V (D.files.length)).ownBlock=some i) k az:=Chg.set hC ao (.inl (.inl rfl));clear hfb;have hfb:=an;clear an;have bg:=bl hfb;refine rt0 rfl ?_;have u:=BI u ao ay;have hTf:=hSc.setFileT (x:=((D2.files.getD (D.files.length) ([],0)).1++b,(D2.files.getD (D.files.length) ([],0)).2)) hkl (by simp only[AaY];omega) hC ⟨hfb,(show Afx _ _ _ _ _ _ _ from by simpa using u),hflo⟩ hvf;exact⟨_,rfl,by rw[←VB hlk];have:=hTc.trans hTf;rw[hD2,hD1]at this;exact this⟩
theorem ZQ{P:Abo}{K:AaR→AaS→Prop}{ρ:Ad}{w:AaS}{d:Option Tmp}{ty:AaZ}{pos:String}{af:Array AbP}{gd:Option (Nat × Bool)}{f:AcF}{c:Aa5}{v:AaR}{caps:Array AaR}{R:AaS→Prop}{at_:Array AaZ}(hp:Plain P f)(hc:Aa ρ c=v)(hve:v = .func (.func f) #[] caps) 
  (h:Calls P f caps w fun e w' =>e = .returned (.tuple #[])∧R w') (hk:∀w',R w' →K (.tuple #[]) w'):Yk P K ((execOp (Aa ρ) ⟨d, .call ⟨.value c,#[],at_⟩,ty,pos,af,gd⟩).run P w):=
 YN hp (hc.trans hve) _ (by simp) (h.mono fun e w' q=>⟨_,q.1,hk w' q.2⟩)
theorem CI:A2 AaU 107 5 5:=fun b o w=>by simp[go_sem]
theorem TJ:(Tryz.prog.info? 4).map (·.size)=some 1:=by kernel_rfl
theorem NF(w0 w:AaS)(l:Ext w0 w)(H:Dk)(D:Ae)(hS:DkS w0.heap.size w H D)(hdn:D.down=false)(har:D.arm<9223372036854775808)(v:AaR)(f:AcF)(caps:Array AaR)(hpl:Plain AaU f)(hve:v = .func (.func f) #[] caps)(g:Ae→Ae) 
  (hc:∀w1 D1,DkT w0.heap.size w H D w1 H D1→D1=(CS D).1→Calls AaU f caps w1 fun e w' =>e = .returned (.tuple #[])∧∃H',DkT w0.heap.size w1 H D1 w' H' (g D1)):
  Calls AaU 92 #[PQ H.g 0,v] w fun e w' =>∃H',e = .returned (NI (DT D g).2)∧DkT w0.heap.size w H D w' H' (DT D g).1:=by
 have hb:=hS.blk;have hgl:=(bl hb);have hgl0:=hS.lo.1;have hsz0:=l.size;have c:=hS;have hgr:=Ace w (some H.g);refine gG (args:= [PQ H.g 0,v]) Tryz.func92 rfl 27 rfl rfl ?_;have hE:=Ext.refl w;by_cases ha0:D.arm=0
 ·have hA:CS D=(D,false):=if_pos ha0;have hV:DT D g=(g D,0):=by unfold DT;rw[hA];rfl
  refine gS (Yk.nilCheck rfl (gS (Yk.fieldAt CI rfl (gS (XJ Tc rfl rfl (cellAt hb rfl) (gS (XK (a:=(D.arm:Nat)) (b:=(0:Nat)) rfl rfl (Bj _ _ _ _) (kF (by omega) (cF rfl ?_)))))))));have hT1:=YH c hE;have hD1:D=(CS D).1:=by rw[hA]
  refine gS (ZQ hpl rfl hve (hc _ _ hT1 hD1) fun s hR6=> ?_);obtain⟨H3,hT2⟩:=hR6;have hT3:=hT1.trans hT2;refine Bn rfl (vr (NI 0) rfl) ?_;exact⟨H3,by rw[hV],by rw[hV];exact hT3⟩
 have hA:CS D=({ D with arm:=D.arm-1,down:=decide (D.arm-1=0) },decide (D.arm-1=0)):=if_neg ha0;by_cases ha1:D.arm-1=0
 ·rw[decide_eq_true ha1]at hA;have hV:DT D g=({ D with arm:=D.arm-1,down:=true },9):=by unfold DT;rw[hA];rfl
  refine gS (Yk.nilCheck rfl (gS (Yk.fieldAt CI rfl (gS (XJ Tc rfl rfl (cellAt hb rfl) (gS (XK (a:=(D.arm:Nat)) (b:=(0:Nat)) rfl rfl (Bj _ _ _ _) (kT (by omega) (cT rfl (gS (Yk.nilCheck rfl (gS (Yk.fieldAt CI rfl (gS (XJ Tc rfl rfl (cellAt hb rfl) (gS (XL (xv:=NI D.arm) (yv:=NI 1) rfl rfl rfl (BJ _ _ _ (by omega) (by omega)) (gS (Yk.nilCheck rfl (gS (Yk.fieldAt CI rfl (gS (XY (i:=5) (v:=NI ((D.arm)-(1))) rfl rfl hb (Aa9 rfl) M5 rfl rfl fun m h n t=> ?_)))))))))))))))))))))));have hgr:w.grownBy m (some H.g):=Ak hgr n (fun _ e=> .inl e);clear hE;clear hb;have hb:=h;clear h;have u:=bl hb;refine gS (Yk.nilCheck rfl (gS (Yk.fieldAt CI rfl (gS (XJ Tc rfl rfl (cellAt hb rfl) (gS (XK (a:=((D.arm)-(1):Nat)) (b:=(0:Nat)) rfl rfl (AA _ _ _ _) (kT (by omega) (cT rfl (gS (Yk.nilCheck rfl (gS (Yk.fieldAt Oz rfl (gS (XY (i:=6) (v:= .bool (true)) rfl rfl hb (Aa9 rfl) TJ rfl rfl fun o j p x=> ?_)))))))))))))));have hgr:w.grownBy o (some H.g):=Ak hgr p (fun _ e=> .inl e);clear hb;have hb:=j;clear j;have y:=bl hb;refine Bn rfl (vr (NI 9) rfl) ?_;exact⟨H,by rw[hV],by rw[hV];exact c.setBlkT hgr hb⟩
 rw[decide_eq_false ha1]at hA;have hV:DT D g=(g { D with arm:=D.arm-1,down:=false },0):=by unfold DT;rw[hA];rfl
 refine gS (Yk.nilCheck rfl (gS (Yk.fieldAt CI rfl (gS (XJ Tc rfl rfl (cellAt hb rfl) (gS (XK (a:=(D.arm:Nat)) (b:=(0:Nat)) rfl rfl (Bj _ _ _ _) (kT (by omega) (cT rfl (gS (Yk.nilCheck rfl (gS (Yk.fieldAt CI rfl (gS (XJ Tc rfl rfl (cellAt hb rfl) (gS (XL (xv:=NI D.arm) (yv:=NI 1) rfl rfl rfl (BJ _ _ _ (by omega) (by omega)) (gS (Yk.nilCheck rfl (gS (Yk.fieldAt CI rfl (gS (XY (i:=5) (v:=NI ((D.arm)-(1))) rfl rfl hb (Aa9 rfl) M5 rfl rfl fun q k r z=> ?_)))))))))))))))))))))));have hgr:w.grownBy q (some H.g):=Ak hgr r (fun _ e=> .inl e);clear hE;clear hb;have hb:=k;clear k;have aa:=bl hb;refine gS (Yk.nilCheck rfl (gS (Yk.fieldAt CI rfl (gS (XJ Tc rfl rfl (cellAt hb rfl) (gS (XK (a:=((D.arm)-(1):Nat)) (b:=(0:Nat)) rfl rfl (AA _ _ _ _) (kF (by omega) (cF rfl ?_)))))))));have hT1:=c.setBlkT hgr hb;have hD1:({ D with quota:=D.quota,refused:=D.refused,arm:=D.arm-1,down:=D.down } :Ae)=(CS D).1:=by rw[hA,hdn]
 refine gS (ZQ hpl rfl hve (hc _ _ hT1 hD1) fun ab hR35=> ?_);obtain⟨H3,hT2⟩:=hR35;have hT3:=hT1.trans hT2;refine Bn rfl (vr (NI 0) rfl) ?_;exact⟨H3,by rw[hV],by rw[hV];rw[←hdn];exact hT3⟩
theorem NG(t:AaZ)(a b:Int)(h: -9223372036854775808≤a+b∧a+b≤9223372036854775807):Abt .add t (.int .i64 a) (.int .i64 b)=pure (.int .i64 (a+b)):=by
  show pure (AcM .i64 (IntKind.i64.wrap (a+b)))=_;rw[IntWalk.i64_in _ h]
theorem NH(t:AaZ)(a b:Int)(h: -9223372036854775808≤a-b∧a-b≤9223372036854775807):Abt .sub t (.int .i64 a) (.int .i64 b)=pure (.int .i64 (a-b)):=by
  show pure (AcM .i64 (IntKind.i64.wrap (a-b)))=_;rw[IntWalk.i64_in _ h]
structure DL (D : Ae) : Prop where
  quota:D.quota≤1073741824
  used:usedD D<4611686018427387904
  refused:D.refused<4611686018427387904
  arm:D.arm<9223372036854775808
  acts:D.acts.length<1099511627776
  now:D.now.length<1099511627776
  kept:D.kept.length+D.acts.length<1099511627776
  files:∀x∈D.files,x.1.length<1099511627776
theorem TK(D:Ae)(s t:List UInt8):readyL D [t,s]=CA D s t:=by
  unfold readyL CA;by_cases h:D.down=true
  · rw[if_pos h,if_pos h]
  · rw[if_neg h,if_neg h];simp only[Agz,List.all_nil,Bool.and_true,AbX];by_cases h1:Bh s=true <;> by_cases h2:Bh t=true <;> simp[h1,h2]
theorem Gh(D:Ae)(s:List UInt8):readyL D [s]=CA D s s:=by
  rw[←TK];unfold readyL;simp
theorem VC(w0 w:AaS)(c:Ext w0 w)(H:Dk)(D:Ae)(hS:DkS w0.heap.size w H D)(bd bn bb:Nat)(s b:List UInt8)(vb:AaR)(hbd:w.heap[bd]? =some (.cells ([PQ H.g 0]).toArray 50 (0,0)))(hbn:w.heap[bn]? =some (.cells ([St s]).toArray 9 (0,0)))(hbb:w.heap[bb]? =some (.cells ([vb]).toArray 27 (0,0))) 
    (hrb:RB w vb b) (hoff:b= []∨∀i,vb.ownBlock=some i→¬B2 H D.files.length i) (hs:Bh s=true) (hbl:b.length<1099511627776) (hfs:∀x∈D.files,x.1.length<1099511627776) (hn:D.acts.length<1099511627776):
    ∀w1 D1,DkT w0.heap.size w H D w1 H D1→D1=(CS D).1→Calls AaU 140 #[PQ bd 0,PQ bn 0,PQ bb 0] w1 fun e w' =>e = .returned (.tuple #[])∧∃H',DkT w0.heap.size w1 H D1 w' H' (Cd D1 s b):=by
  intro w1 D1 hT hD1;have hf:=HA D;rw[←hD1]at hf;have a:Ext w0 w1:=Chg.ext c hT.chg (fun i q=>(hS.foot q).2.2);have h1:=DkT.box hT hS hbd (by decide) (by decide) (by decide) (by decide);have h2:=DkT.box hT hS hbn (by decide) (by decide) (by decide) (by decide);have h3:=DkT.box hT hS hbb (by decide) (by decide) (by decide) (by decide);have h4:=hrb.chg hT.chg hoff;have h5:b= []∨∀i,vb.ownBlock=some i→¬B2 H D1.files.length i:=by rw[hf.1];exact hoff
  cases hlk:Aw D1.now s with
  | none=>exact(Xe w0 w1 a H D1 hT.st bd bn bb s b vb h1 h2 h3 h4 h5 hs hbl (by rw[hf.1];exact hfs) (by rw[hf.2.2.2.1];exact hn) hlk).mono fun e w' ⟨H',q1,q2⟩=>⟨q1,H',q2⟩
  | some k=>exact(Xd w0 w1 a H D1 hT.st bd bn bb s b vb h1 h2 h3 h4 h5 hs hbl (by rw[hf.1];exact hfs) (by rw[hf.2.2.2.1];exact hn) k hlk).mono fun e w' ⟨H',q1,q2⟩=>⟨q1,H',q2⟩
theorem Ha(D:Ae)(s:List UInt8):FB D s s=Et D [] s:=by
  unfold FB Et;rw[AbV,Gh] <;>
  (by_cases h:CA D s s≠0
   · rw[if_pos h,if_pos h]
   · rw[if_neg h,if_neg h] <;> (cases Aw D.now s <;> rfl))
theorem Lb{D:Ae}{ms:List (List UInt8)}{s:List UInt8}{c:Nat}(h:Et D ms s = .error c):c≠0:=by
  unfold Et at h;split at h
  · rename_i hn;cases h;exact hn
  · split at h
    · cases h
    · cases h;decide
theorem Lc{D:Ae}{ms:List (List UInt8)}{s:List UInt8}{k:Nat}(h:Et D ms s = .ok k):D.down=false∧Aw D.now s=some k∧∀t∈ms,Bh t=true:=by
  unfold Et at h;split at h
  · cases h
  · rename_i hn
    have hn:readyL D (ms++ [s])=0:=AeO.1 hn;split at h
    · rename_i k' hk
      cases h;unfold readyL at hn;split at hn
      · cases hn
      · rename_i hd
        split at hn
        · rename_i ha
          exact⟨AfD.2 hd,hk,fun t ht=>AbE.1 ha t (AdB _ ht)⟩
        · cases hn
    · cases h
theorem TL(w0 w:AaS)(a:Ext w0 w)(H:Dk)(D:Ae)(hS:DkS w0.heap.size w H D)(bf bd k:Nat)(hbf:w.heap[bf]? =some (.cells ([PQ (H.F k) 0]).toArray 113 (0,0)))(hbd:w.heap[bd]? =some (.cells ([PQ H.g 0]).toArray 50 (0,0)))(hk:k<D.files.length):
    ∀w1 D1,DkT w0.heap.size w H D w1 H D1→D1=(CS D).1→Calls AaU 142 #[PQ bf 0,PQ bd 0] w1 fun e w' =>e = .returned (.tuple #[])∧∃H',DkT w0.heap.size w1 H D1 w' H' { D1 with files:=D1.files.set k ((AY D1 k).1,(AY D1 k).1.length),kept:=D1.now,acts:= [] } :=by
  intro w1 D1 hT hD1;have hf:=HA D;rw[←hD1]at hf;have b:Ext w0 w1:=Chg.ext a hT.chg (fun i q=>(hS.foot q).2.2);exact(Xc w0 w1 b H D1 hT.st bf bd k (DkT.box hT hS hbf (by decide) (by decide) (by decide) (by decide)) (DkT.box hT hS hbd (by decide) (by decide) (by decide) (by decide)) (by rw[hf.1];exact hk)).mono fun e w' ⟨H',q1,q2⟩=>⟨q1,H',q2⟩
theorem TM(w0 w:AaS)(a:Ext w0 w)(H:Dk)(D:Ae)(hS:DkS w0.heap.size w H D)(bd bs k:Nat)(s:List UInt8)(hbd:w.heap[bd]? =some (.cells ([PQ H.g 0]).toArray 50 (0,0)))(hbs:w.heap[bs]? =some (.cells ([St s]).toArray 9 (0,0))) 
    (hk:k<D.files.length) (hs:Bh s=true) (hn:D.acts.length<1099511627776):
    ∀w1 D1,DkT w0.heap.size w H D w1 H D1→D1=(CS D).1→Calls AaU 93 #[PQ bd 0,PQ bs 0] w1 fun e w' =>e = .returned (.tuple #[])∧∃H',DkT w0.heap.size w1 H D1 w' H' (turnedD D1 ⟨s,[],k⟩):=by
  intro w1 D1 hT hD1;have hf:=HA D;rw[←hD1]at hf;have b:Ext w0 w1:=Chg.ext a hT.chg (fun i q=>(hS.foot q).2.2);exact(Xb w0 w1 b H D1 hT.st bd bs k s (DkT.box hT hS hbd (by decide) (by decide) (by decide) (by decide)) (DkT.box hT hS hbs (by decide) (by decide) (by decide) (by decide)) (by rw[hf.1];exact hk) hs (by rw[hf.2.2.2.1];exact hn)).mono fun e w' ⟨H',q1,q2⟩=>⟨q1,H',q2⟩
theorem Jq:A2 AaU 107 0 0:=fun b o w=>by simp[go_sem]
theorem NJ:Plain AaU 57:=fun _ _=>by kernel_rfl
theorem Jr:A2 AaU 107 4 4:=fun b o w=>by simp[go_sem]
theorem JP:Plain AaU 92:=fun _ _=>by kernel_rfl
theorem HC:Plain AaU 77:=fun _ _=>by kernel_rfl
theorem Sp(w0 w:AaS)(h:Ext w0 w)(H:Dk)(D:Ae)(hS:DkS w0.heap.size w H D)(s:List UInt8)(vb:AaR)(b:List UInt8)(hrb:RB w vb b)(hoff:b= []∨∀i,vb.ownBlock=some i→¬B2 H D.files.length i)(hbl:b.length<1099511627776)(hL:DL D):
    Calls AaU 88 #[PQ H.g 0,St s,vb] w fun e w' =>∃H',e = .returned (NI (A0 D s b).2)∧DkT w0.heap.size w H D w' H' (A0 D s b).1:=by
  have hb:=hS.blk;have hgl:=(bl hb);have hgl0:=hS.lo.1;have hsz0:=h.size;have ag:=hS;have hgr:=Ace w (some H.g);refine gG (args:= [PQ H.g 0,St (s),vb]) Tryz.func88 rfl 35 rfl rfl ?_;have hE:=Ext.refl w;refine gS (Yz (vr (PQ H.g 0) rfl) rfl fun o w3 ak al u bk=> ?_);have bm:=hE.size;have bn:=h.size;have hgr:w.grownBy w3 (some H.g):=Ak hgr u.grown (fun _ e=>by cases e);have c:=al;clear al;have bo:o<w3.heap.size:=by omega
  refine gS (Yz (vr (St (s)) rfl) rfl fun p am x an l bp=> ?_);have hE:=hE.trans u;have h:=h.trans u;have bq:=hE.size;have br:=h.size;have hgr:w.grownBy am (some H.g):=Ak hgr l.grown (fun _ e=>by cases e);have f:=an;clear an;have bs:p<am.heap.size:=by omega
  have hE:=hE.trans l;refine gS (Yz (vr vb rfl) (RB.one (hrb.keep hE)).1 fun t ao m ap j bt=> ?_);have h:=h.trans l;have bu:=hE.size;have bv:=h.size;have hgr:w.grownBy ao (some H.g):=Ak hgr j.grown (fun _ e=>by cases e);have k:=ap;clear ap;have bw:t<ao.heap.size:=by omega
  have hq0:=hL.quota;have hq1:=hL.used;by_cases y:CA D s s≠0
  · have hV:A0 D s b=(D,CA D s s):=if_pos y;have aq:=Ar (bl c) x;have c:=eb l c;have ar:=Ar (bl c) m;have c:=eb j c;have au:=Ar (bl f) m;have f:=eb j f;refine gS (XJ TB rfl rfl (cellAt c rfl) (gS (XJ O7 rfl rfl (cellAt f rfl) (gS (Ye (a:=s) (enc:=CX) (vr (St (s)) rfl) rfl (fun w=>JN _ w) fun a1 a2 a3 av=> ?_)))));have hgr:w.grownBy a2 (some H.g):=Ak hgr av.grown (fun _ e=>by cases e);have hZ1:=j.trans av;have hE:=hE.trans hZ1;refine gS (XM JO rfl rfl ((Dv w0.heap.size _ H D (hS.keep hE) a1 [s] a3 (by simp)).mono ?_));rintro e a4 ⟨rfl,aw⟩;refine⟨_,rfl,?_⟩;have hgr:w.grownBy a4 (some H.g):=Ak hgr aw.grown (fun _ e=>by cases e);refine gS (XK (a:=(readyL D [s]:Nat)) (b:=(0:Nat)) rfl rfl (AX _ _ _ _) (kT (by rw[Gh];omega) (cT rfl (Bn rfl (vr (NI (readyL D [s])) rfl) ?_))));have hE:=hE.trans aw;exact⟨H,by rw[hV,Gh],by rw[hV];exact YH ag hE⟩
  have a5:CA D s s=0:=AeO.1 y;obtain⟨hdn,hs,-⟩:=Tz a5;by_cases hq:D.quota<usedD D+b.length
  · have hV:A0 D s b=({ D with refused:=D.refused+1 },8):=(if_neg y).trans (if_pos hq);have aq:=Ar (bl c) x;have c:=eb l c;have ar:=Ar (bl c) m;have c:=eb j c;have au:=Ar (bl f) m;have f:=eb j f;refine gS (XJ TB rfl rfl (cellAt c rfl) (gS (XJ O7 rfl rfl (cellAt f rfl) (gS (Ye (a:=s) (enc:=CX) (vr (St (s)) rfl) rfl (fun w=>JN _ w) fun a6 a7 ax ah=> ?_)))));have hgr:w.grownBy a7 (some H.g):=Ak hgr ah.grown (fun _ e=>by cases e);have hZ2:=j.trans ah;have hE:=hE.trans hZ2;refine gS (XM JO rfl rfl ((Dv w0.heap.size _ H D (hS.keep hE) a6 [s] ax (by simp)).mono ?_));rintro e a8 ⟨rfl,z⟩;refine⟨_,rfl,?_⟩;have hgr:w.grownBy a8 (some H.g):=Ak hgr z.grown (fun _ e=>by cases e);refine gS (XK (a:=(readyL D [s]:Nat)) (b:=(0:Nat)) rfl rfl (AX _ _ _ _) (kF (by rw[Gh];omega) (cF rfl (DV [0,1,2,3,4,5,6,7,8,9] [7] [1,3,4] [0,2,5] fun ay aa=> ?_))));have hgr:w.grownBy ay (some H.g):=Ak hgr aa.grown (fun _ e=>by cases e);have ab:=Ext.refl ay;have a9:=Ar (bl hb) ak;have hb:=eb u hb;have ba:=Ar (bl hb) x;have hb:=eb l hb;have bb:=Ar (bl hb) m;have hZ3:=(hZ2.trans z).trans aa;have hb:=eb hZ3 hb;have hZ4:=(ah.trans z).trans aa;have c:=eb hZ4 c;have k:=eb hZ4 k;have hZ5:=z.trans aa;have hE:=hE.trans hZ5;refine DQ ab ?_;refine yf (fun _ ⟨hZ,_⟩=>XJ F5 rfl rfl (cellAt (eb hZ k) rfl) zz) (yp (XS F5 (XP (hrb.keep hE) rfl) zz) (yf (fun _ ⟨hZ,_⟩=>XJ TB rfl rfl (cellAt (eb hZ c) rfl) zz) (yp (Yk.nilCheck rfl zz) (yp (Yk.fieldAt Jq rfl zz) (yf (fun _ ⟨hZ,_⟩=>XJ Tc rfl rfl (cellAt (eb hZ hb) rfl) zz) (ys (XJ TB rfl rfl (cellAt c rfl) zz) (yE (XQ NJ rfl ((K9 w0.heap.size _ H D (hS.keep hE) hL.used).mono ?_)))))))));rintro e bc ⟨rfl,ac⟩;refine⟨_,rfl,?_⟩;have hgr:w.grownBy bc (some H.g):=Ak hgr ac.grown (fun _ e=>by cases e);have ab:=ab.trans ac;refine⟨ab,?_⟩;have hb:=eb ac hb;have c:=eb ac c;refine ys (XL (xv:= .int .i64 (((D.quota:Nat):Int))) (yv:= .int .i64 (((usedD D:Nat):Int))) rfl rfl rfl (NH _ (((D.quota:Nat):Int)) (((usedD D:Nat):Int)) (by omega)) zz) (ys (XK rfl rfl (Pz _ .i64 ((b.length:Nat):Int) (((((D.quota:Nat):Int))-(((usedD D:Nat):Int))):Int)) zz) (kT (by omega) (cT rfl (gS (XJ TB rfl rfl (cellAt c rfl) (gS (Yk.nilCheck rfl (gS (Yk.fieldAt Jr rfl (gS (XJ Tc rfl rfl (cellAt hb rfl) (gS (XL (xv:=NI D.refused) (yv:=NI 1) rfl rfl rfl (Ai _ _ _ (by have:=hL.refused;omega)) (gS (Yk.nilCheck rfl (gS (Yk.fieldAt Jr rfl (gS (XY (i:=4) (v:=NI ((D.refused)+(1))) rfl rfl hb (Aa9 rfl) M5 rfl rfl fun bd az be bx=> ?_)))))))))))))))))));have hgr:w.grownBy bd (some H.g):=Ak hgr be (fun _ e=> .inl e);clear hE;clear ax;clear hb;have hb:=az;clear az;have bz:=bl hb;refine Bn rfl (vr (NI 8) rfl) ?_;exact⟨H,by rw[hV],by rw[hV];exact ag.setBlkT hgr hb⟩
  have hV:A0 D s b=DT D (fun d=>Cd d s b):=by unfold DT;exact(if_neg y).trans (if_neg hq)
  have aq:=Ar (bl c) x;have c:=eb l c;have ar:=Ar (bl c) m;have c:=eb j c;have au:=Ar (bl f) m;have f:=eb j f;refine gS (XJ TB rfl rfl (cellAt c rfl) (gS (XJ O7 rfl rfl (cellAt f rfl) (gS (Ye (a:=s) (enc:=CX) (vr (St (s)) rfl) rfl (fun w=>JN _ w) fun bf bg bh ai=> ?_)))));have hgr:w.grownBy bg (some H.g):=Ak hgr ai.grown (fun _ e=>by cases e);have hZ6:=j.trans ai;have hE:=hE.trans hZ6;refine gS (XM JO rfl rfl ((Dv w0.heap.size _ H D (hS.keep hE) bf [s] bh (by simp)).mono ?_));rintro e bi ⟨rfl,ad⟩;refine⟨_,rfl,?_⟩;have hgr:w.grownBy bi (some H.g):=Ak hgr ad.grown (fun _ e=>by cases e);refine gS (XK (a:=(readyL D [s]:Nat)) (b:=(0:Nat)) rfl rfl (AX _ _ _ _) (kF (by rw[Gh];omega) (cF rfl (DV [0,1,2,3,4,5,6,7,8,9] [7] [1,3,4] [0,2,5] fun a0 ae=> ?_))));have hgr:w.grownBy a0 (some H.g):=Ak hgr ae.grown (fun _ e=>by cases e);have af:=Ext.refl a0;have a9:=Ar (bl hb) ak;have hb:=eb u hb;have ba:=Ar (bl hb) x;have hb:=eb l hb;have bb:=Ar (bl hb) m;have hZ7:=(hZ6.trans ad).trans ae;have hb:=eb hZ7 hb;have hZ8:=(ai.trans ad).trans ae;have c:=eb hZ8 c;have k:=eb hZ8 k;have hZ9:=ad.trans ae;have hE:=hE.trans hZ9;refine DQ af ?_;refine yf (fun _ ⟨hZ,_⟩=>XJ F5 rfl rfl (cellAt (eb hZ k) rfl) zz) (yp (XS F5 (XP (hrb.keep hE) rfl) zz) (yf (fun _ ⟨hZ,_⟩=>XJ TB rfl rfl (cellAt (eb hZ c) rfl) zz) (yp (Yk.nilCheck rfl zz) (yp (Yk.fieldAt Jq rfl zz) (yf (fun _ ⟨hZ,_⟩=>XJ Tc rfl rfl (cellAt (eb hZ hb) rfl) zz) (ys (XJ TB rfl rfl (cellAt c rfl) zz) (yE (XQ NJ rfl ((K9 w0.heap.size _ H D (hS.keep hE) hL.used).mono ?_)))))))));rintro e bj ⟨rfl,n⟩;refine⟨_,rfl,?_⟩;have hgr:w.grownBy bj (some H.g):=Ak hgr n.grown (fun _ e=>by cases e);have af:=af.trans n;refine⟨af,?_⟩;have c:=eb n c;refine ys (XL (xv:= .int .i64 (((D.quota:Nat):Int))) (yv:= .int .i64 (((usedD D:Nat):Int))) rfl rfl rfl (NH _ (((D.quota:Nat):Int)) (((usedD D:Nat):Int)) (by omega)) zz) (ys (XK rfl rfl (Pz _ .i64 ((b.length:Nat):Int) (((((D.quota:Nat):Int))-(((usedD D:Nat):Int))):Int)) zz) (kF (by omega) (cF rfl (gS (XJ TB rfl rfl (cellAt c rfl) (gS (Ys (vs:= #[PQ o 0,PQ p 0,PQ t 0]) (by simp only[Abx,Abv,AbG];exact congrArg Acn (UU (vr (PQ o 0) rfl) (vr (PQ p 0) rfl) (vr (PQ t 0) rfl))) ?_)))))));have hE:=hE.trans n;have hEc:=hE;have hSc:=(hS.keep hE);have hTc:=YH ag hEc;have hZ10:=hZ7.trans n;have h:=h.trans hZ10;have hE0c:=h;have f:=eb (hZ8.trans n) f;have k:=eb n k;refine gS (XM JP rfl rfl ((NF w0 _ hE0c H D hSc hdn hL.arm (.func (.func 140) #[] #[PQ o 0,PQ p 0,PQ t 0]) 140 #[PQ o 0,PQ p 0,PQ t 0] (fun _ _=>by kernel_rfl) rfl (fun d=>Cd d s b) (VC w0 _ hE0c H D hSc o p t s b vb c f k (hrb.keep hE) (hoff.imp id fun q i hi r=>q i hi r) hs hbl hL.files hL.acts)).mono ?_));rintro e b0 ⟨H3,rfl,hT2⟩;refine⟨_,rfl,?_⟩;have hT3:=hTc.trans hT2;refine Bn rfl (vr (NI ((DT D (fun d=>Cd d s b)).2)) rfl) ?_;exact⟨H3,by rw[hV],by rw[hV];exact hT3⟩

theorem VD(w0 w:AaS)(c:Ext w0 w)(H:Dk)(D:Ae)(hS:DkS w0.heap.size w H D)(s:List UInt8)(hL:DL D):
    Calls AaU 90 #[PQ H.g 0,St s] w fun e w' =>∃H',e = .returned (NI (BB D s).2)∧DkT w0.heap.size w H D w' H' (BB D s).1:=by
  have hb:=hS.blk;have hgl:=(bl hb);have hgl0:=hS.lo.1;have hsz0:=c.size;have y:=hS;have hgr:=Ace w (some H.g);refine gG (args:= [PQ H.g 0,St (s)]) Tryz.func90 rfl 19 rfl rfl ?_;have hE:=Ext.refl w;refine gS (Yz (vr (PQ H.g 0) rfl) rfl fun f z ar aa n au=> ?_);have j:=Ext.refl w;have av:=hE.size;have aw:=c.size;have hgr:w.grownBy z (some H.g):=Ak hgr n.grown (fun _ e=>by cases e);have l:=aa;clear aa;have ax:f<z.heap.size:=by omega
  rcases hV0:Et D [] s with ce | k
  · have hV:BB D s=(D,ce):=by unfold BB;rw[Ha,hV0]
    have hce:=Lb hV0;have hE:=hE.trans n;refine gS (XJ TB rfl rfl (cellAt l rfl) (gS (X8 HC rfl rfl rfl (((show Calls _ _ _ _ (fun e w2=>e = .returned (.tuple #[.pointer none,NI ce])∧Ext _ w2)from by have h:=G9 w0.heap.size _ H D (hS.keep hE) s ((Aa0 none 0 0)) [] (.inl ⟨rfl,rfl⟩) (by simp);rw[hV0]at h;exact h)).mono ?_))));rintro e ak ⟨rfl,x⟩;refine⟨_,rfl,?_⟩;have hgr:w.grownBy ak (some H.g):=Ak hgr x.grown (fun _ e=>by cases e);refine gS (Yk.extract (vs:= [.pointer none,NI ce]) rfl rfl (gS (Yk.extract (vs:= [.pointer none,NI ce]) rfl rfl (gS (Yk.alloc So fun al ab ay ac ad az=> ?_)))));have hE:=hE.trans x;have hZ1:=n.trans x;have c:=c.trans hZ1;have j:=j.trans hZ1;have a0:=hE.size;have a1:=c.size;have am:=j.size;have hgr:w.grownBy ab (some H.g):=Ak hgr ad.grown (fun _ e=>by cases e);have q:=ac;clear ac;have a2:al<ab.heap.size:=by omega
    refine gS (XY (i:=0) (v:= .pointer none) rfl rfl q (Aa9 rfl) Qw rfl rfl fun an ae af a3=> ?_);have hgr:w.grownBy an (some H.g):=Ak hgr af (fun _ e=> .inr (by cases e;omega));clear q;have q:=ae;clear ae;have a4:=bl q;refine gS (XK (a:=(ce:Nat)) (b:=(0:Nat)) rfl rfl (AX _ _ _ _) (kT (by omega) (cT rfl (Bn rfl (vr (NI ce) rfl) ?_))));have hE:=hE.trans ad;have hE:=Ab hE af (AaV am (by omega));exact⟨H,by rw[hV],by rw[hV];exact YH y hE⟩
  have hV:BB D s=DT D (fun d=> { d with files:=d.files.set k ((AY d k).1,(AY d k).1.length),kept:=d.now,acts:= [] }):=by unfold BB;rw[Ha,hV0]
  obtain⟨hdn,hlk,hms⟩:=Lc hV0;have hkl:=hS.ok.now.look hlk;have hE:=hE.trans n;refine gS (XJ TB rfl rfl (cellAt l rfl) (gS (X8 HC rfl rfl rfl (((show Calls _ _ _ _ (fun e w2=>e = .returned (.tuple #[.pointer (some ⟨(H.F k),0,none⟩),NI 0])∧Ext _ w2)from by have h:=G9 w0.heap.size _ H D (hS.keep hE) s ((Aa0 none 0 0)) [] (.inl ⟨rfl,rfl⟩) (by simp);rw[hV0]at h;exact h)).mono ?_))));rintro e ag ⟨rfl,r⟩;refine⟨_,rfl,?_⟩;have hgr:w.grownBy ag (some H.g):=Ak hgr r.grown (fun _ e=>by cases e);refine gS (Yk.extract (vs:= [.pointer (some ⟨(H.F k),0,none⟩),NI 0]) rfl rfl (gS (Yk.extract (vs:= [.pointer (some ⟨(H.F k),0,none⟩),NI 0]) rfl rfl (gS (Yk.alloc So fun m ah a5 ai t a6=> ?_)))));have o:=Ext.refl ag;have hE:=hE.trans r;have hZ2:=n.trans r;have c:=c.trans hZ2;have j:=j.trans hZ2;have a7:=hE.size;have ao:=c.size;have ap:=j.size;have hgr:w.grownBy ah (some H.g):=Ak hgr t.grown (fun _ e=>by cases e);have p:=ai;clear ai;have a8:m<ah.heap.size:=by omega
  refine gS (XY (i:=0) (v:= .pointer (some ⟨(H.F k),0,none⟩)) rfl rfl p (Aa9 rfl) Qw rfl rfl fun aq aj u a9=> ?_);have hgr:w.grownBy aq (some H.g):=Ak hgr u (fun _ e=> .inr (by cases e;omega));clear p;have p:=aj;clear aj;have ba:=bl p;have o:=o.trans t;have o:=Ab o u (AaV (AaX _) (by omega));have l:=eb (r.trans o) l;refine gS (XK (a:=(0:Nat)) (b:=(0:Nat)) rfl rfl (AX _ _ _ _) (kF (by decide) (cF rfl (gS (XJ TB rfl rfl (cellAt l rfl) (gS (Ys (vs:= #[PQ m 0,PQ f 0]) (by simp only[Abx,Abv,AbG];exact congrArg Acn (FI (vr (PQ m 0) rfl) (vr (PQ f 0) rfl))) ?_)))))));have hE:=hE.trans t;have hE:=Ab hE u (AaV ap (by omega));have hEc:=hE;have hSc:=(hS.keep hE);have hTc:=YH y hEc;have c:=c.trans t;have c:=Ab c u (AaV ao (by omega));have hE0c:=c;refine gS (XM JP rfl rfl ((NF w0 _ hE0c H D hSc hdn hL.arm (.func (.func 142) #[] #[PQ m 0,PQ f 0]) 142 #[PQ m 0,PQ f 0] (fun _ _=>by kernel_rfl) rfl (fun d=> { d with files:=d.files.set k ((AY d k).1,(AY d k).1.length),kept:=d.now,acts:= [] }) (TL w0 _ hE0c H D hSc m f k p l hkl.1)).mono ?_));rintro e bb ⟨H3,rfl,hT2⟩;refine⟨_,rfl,?_⟩;have hT3:=hTc.trans hT2;refine Bn rfl (vr (NI ((DT D (fun d=> { d with files:=d.files.set k ((AY d k).1,(AY d k).1.length),kept:=d.now,acts:= [] })).2)) rfl) ?_;exact⟨H3,by rw[hV],by rw[hV];exact hT3⟩

theorem VE(w0 w:AaS)(f:Ext w0 w)(H:Dk)(D:Ae)(hS:DkS w0.heap.size w H D)(s:List UInt8)(hL:DL D):
    Calls AaU 52 #[PQ H.g 0,St s] w fun e w' =>∃H',e = .returned (NI (Bx D s).2)∧DkT w0.heap.size w H D w' H' (Bx D s).1:=by
  have hb:=hS.blk;have hgl:=(bl hb);have hgl0:=hS.lo.1;have hsz0:=f.size;have p:=hS;have hgr:=Ace w (some H.g);refine gG (args:= [PQ H.g 0,St (s)]) Tryz.func52 rfl 19 rfl rfl ?_;have hE:=Ext.refl w;refine gS (Yz (vr (PQ H.g 0) rfl) rfl fun i q ab r o ac=> ?_);have ad:=hE.size;have ae:=f.size;have hgr:w.grownBy q (some H.g):=Ak hgr o.grown (fun _ e=>by cases e);have c:=r;clear r;have af:i<q.heap.size:=by omega
  refine gS (Yz (vr (St (s)) rfl) rfl fun j t u v l ag=> ?_);have hE:=hE.trans o;have f:=f.trans o;have ah:=hE.size;have ai:=f.size;have hgr:w.grownBy t (some H.g):=Ak hgr l.grown (fun _ e=>by cases e);have m:=v;clear v;have aj:j<t.heap.size:=by omega
  rcases hV0:Et D [] s with ce | k
  · have hV:Bx D s=(D,ce):=by unfold Bx;rw[Ha,hV0]
    have hce:=Lb hV0;have y:=Ar (bl c) u;have c:=eb l c;have hE:=hE.trans l;refine gS (XJ TB rfl rfl (cellAt c rfl) (gS (XJ O7 rfl rfl (cellAt m rfl) (gS (X8 HC rfl rfl rfl (((show Calls _ _ _ _ (fun e w2=>e = .returned (.tuple #[.pointer none,NI ce])∧Ext _ w2)from by have h:=G9 w0.heap.size _ H D (hS.keep hE) s ((Aa0 none 0 0)) [] (.inl ⟨rfl,rfl⟩) (by simp);rw[hV0]at h;exact h)).mono ?_))))));rintro e z ⟨rfl,x⟩;refine⟨_,rfl,?_⟩;have hgr:w.grownBy z (some H.g):=Ak hgr x.grown (fun _ e=>by cases e);refine gS (Yk.extract (vs:= [.pointer none,NI ce]) rfl rfl (gS (Yk.extract (vs:= [.pointer none,NI ce]) rfl rfl (gS (XK (a:=(ce:Nat)) (b:=(0:Nat)) rfl rfl (AX _ _ _ _) (kT (by omega) (cT rfl (Bn rfl (vr (NI ce) rfl) ?_))))))));have hE:=hE.trans x;exact⟨H,by rw[hV],by rw[hV];exact YH p hE⟩
  have hV:Bx D s=DT D (fun d=>turnedD d ⟨s,[],k⟩):=by unfold Bx;rw[Ha,hV0]
  obtain⟨hdn,hlk,hms⟩:=Lc hV0;have hkl:=hS.ok.now.look hlk;have y:=Ar (bl c) u;have c:=eb l c;have hE:=hE.trans l;refine gS (XJ TB rfl rfl (cellAt c rfl) (gS (XJ O7 rfl rfl (cellAt m rfl) (gS (X8 HC rfl rfl rfl (((show Calls _ _ _ _ (fun e w2=>e = .returned (.tuple #[.pointer (some ⟨(H.F k),0,none⟩),NI 0])∧Ext _ w2)from by have h:=G9 w0.heap.size _ H D (hS.keep hE) s ((Aa0 none 0 0)) [] (.inl ⟨rfl,rfl⟩) (by simp);rw[hV0]at h;exact h)).mono ?_))))));rintro e aa ⟨rfl,n⟩;refine⟨_,rfl,?_⟩;have hgr:w.grownBy aa (some H.g):=Ak hgr n.grown (fun _ e=>by cases e);have c:=eb n c;refine gS (Yk.extract (vs:= [.pointer (some ⟨(H.F k),0,none⟩),NI 0]) rfl rfl (gS (Yk.extract (vs:= [.pointer (some ⟨(H.F k),0,none⟩),NI 0]) rfl rfl (gS (XK (a:=(0:Nat)) (b:=(0:Nat)) rfl rfl (AX _ _ _ _) (kF (by decide) (cF rfl (gS (XJ TB rfl rfl (cellAt c rfl) (gS (Ys (vs:= #[PQ i 0,PQ j 0]) (by simp only[Abx,Abv,AbG];exact congrArg Acn (FI (vr (PQ i 0) rfl) (vr (PQ j 0) rfl))) ?_)))))))))));have hE:=hE.trans n;have hEc:=hE;have hSc:=(hS.keep hE);have hTc:=YH p hEc;have hZ1:=l.trans n;have f:=f.trans hZ1;have hE0c:=f;have m:=eb n m;refine gS (XM JP rfl rfl ((NF w0 _ hE0c H D hSc hdn hL.arm (.func (.func 93) #[] #[PQ i 0,PQ j 0]) 93 #[PQ i 0,PQ j 0] (fun _ _=>by kernel_rfl) rfl (fun d=>turnedD d ⟨s,[],k⟩) (TM w0 _ hE0c H D hSc i j k s c m hkl.1 hkl.2 hL.acts)).mono ?_));rintro e ak ⟨H3,rfl,hT2⟩;refine⟨_,rfl,?_⟩;have hT3:=hTc.trans hT2;refine Bn rfl (vr (NI ((DT D (fun d=>turnedD d ⟨s,[],k⟩)).2)) rfl) ?_;exact⟨H3,by rw[hV],by rw[hV];exact hT3⟩
theorem AaI{P:Abo}{K:AaR→AaS→Prop}{ρ:Ad}{w:AaS}{d:Option Tmp}{ty:AaZ}{pos:String}{af:Array AbP}{gd:Option (Nat × Bool)}{x y:Aa5}{n:Int}(hx:Aa ρ x = .int .i64 n)(hy:Aa ρ y=NI 0)(hk:K (NI n.toNat) w):Yk P K ((execOp (Aa ρ) ⟨d, .call ⟨.builtin .max,#[x,y],#[3,3]⟩,ty,pos,af,gd⟩).run P w):=by
 refine Yk.value (v:=NI n.toNat) (w' :=w) ?_ hk;have he:(if(0:Int)>n then(0:Int)else n)=(n.toNat:Int):=by split <;> omega
 have hr:=run_max_int2 (P:=P) w #[3,3] ty .i64 .i64 n 0;rw[he]at hr;unfold execOp;simp only[resolve,invoke,builtin,Aa7,Abb,Aa3,Abx,Abv,AbG,hx,hy,hr,show(NI 0:AaR) = .int .i64 0 from rfl]
def Qx(D:Ae):Nat:=if D.down=true then 0 else usedD D
theorem TN:Plain AaU 59:=fun _ _=>by kernel_rfl
theorem TO:Plain AaU 58:=fun _ _=>by kernel_rfl
theorem VF(w0 w:AaS)(H:Dk)(D:Ae)(hS:DkS w0.heap.size w H D)(s:List UInt8)(hL:DL D):
  Calls AaU 42 #[PQ H.g 0,St s] w fun e w' =>∃v,e = .returned (.tuple #[v,NI (An D s).2])∧w'.ownsRow w.heap.size 5 1 v (An D s).1.length (AaT (An D s).1)∧Ext w w' :=by
 have hb:=hS.blk;have hgl:=(bl hb);have c:=hS;refine gG (args:= [PQ H.g 0,St (s)]) Tryz.func42 rfl 22 rfl rfl ?_;have hE:=Ext.refl w;rcases hV0:Et D [] s with ce | k
 ·have hV:An D s=([],ce):=by unfold An;rw[Ha,hV0]
  have hce:=Lb hV0;refine gS (X8 HC rfl rfl rfl (((show Calls _ _ _ _ (fun e w2=>e = .returned (.tuple #[.pointer none,NI ce])∧Ext _ w2)from by have h:=G9 w0.heap.size _ H D (hS.keep hE) s ((Aa0 none 0 0)) [] (.inl ⟨rfl,rfl⟩) (by simp);rw[hV0]at h;exact h)).mono ?_));rintro e n ⟨rfl,j⟩;refine⟨_,rfl,?_⟩;refine gS (Yk.extract (vs:= [.pointer none,NI ce]) rfl rfl (gS (Yk.extract (vs:= [.pointer none,NI ce]) rfl rfl (gS (XK (a:=(ce:Nat)) (b:=(0:Nat)) rfl rfl (AX _ _ _ _) (kT (by omega) (cT rfl (By rfl (vr (Aa0 none 0 0) rfl) (vr (NI ce) rfl) ?_))))))));have hE:=hE.trans j;exact⟨_,by rw[hV],by rw[hV];exact AbO _ _ _ 1,hE⟩
 have hV:An D s=((AY D k).1,0):=by unfold An;rw[Ha,hV0]
 obtain⟨hdn,hlk,hms⟩:=Lc hV0;have hkl:=(c.ok.now.look hlk).1;have hfa:=c.files.at_ k hkl;have hfb:=hfa.blk;have hfr:RB w (H.V k) (D.files.getD k ([],0)).1:=X3 hfa.row;have hlb:=hL.files _ (GC (d:=([],0)) hkl);refine gS (X8 HC rfl rfl rfl (((show Calls _ _ _ _ (fun e w2=>e = .returned (.tuple #[.pointer (some ⟨(H.F k),0,none⟩),NI 0])∧Ext _ w2)from by have h:=G9 w0.heap.size _ H D (hS.keep hE) s ((Aa0 none 0 0)) [] (.inl ⟨rfl,rfl⟩) (by simp);rw[hV0]at h;exact h)).mono ?_));rintro e o ⟨rfl,f⟩;refine⟨_,rfl,?_⟩;have hE:=hE.trans f;refine gS (Yk.extract (vs:= [.pointer (some ⟨(H.F k),0,none⟩),NI 0]) rfl rfl (gS (Yk.extract (vs:= [.pointer (some ⟨(H.F k),0,none⟩),NI 0]) rfl rfl (gS (XK (a:=(0:Nat)) (b:=(0:Nat)) rfl rfl (AX _ _ _ _) (kF (by decide) (cF rfl (gS (Yk.nilCheck rfl (gS (Yk.fieldAt OC rfl (gS (XJ F5 rfl rfl (cellAt (eb hE hfb) rfl) (gS (XQ Sa rfl ((LM _ (H.V k) ((D.files.getD k ([],0)).1) (hfr.keep hE) (by omega)).mono ?_))))))))))))))));rintro e p ⟨l,rfl,i⟩;refine⟨_,rfl,?_⟩;have q:=hE.size;have hb:=eb f hb;have m:=i.own;refine By rfl (vr l rfl) (vr (NI 0) rfl) ?_;have hE:=hE.trans i.ext;exact⟨_,by rw[hV],by rw[hV];exact BH m (by omega),hE⟩

theorem Xz(base:Nat)(w:AaS)(H:Dk)(D:Ae)(hS:DkS base w H D)(hU:usedD D<4611686018427387904):
  Calls AaU 25 #[PQ H.g 0] w fun e w' =>e = .returned (NI (Qx D))∧Ext w w' :=by
 have hb:=hS.blk;have hgl:=(bl hb);refine gG (args:= [PQ H.g 0]) Tryz.func25 rfl 8 rfl rfl ?_;have hE:=Ext.refl w;cases hdn:D.down
 ·have hV:Qx D=usedD D:=if_neg (by rw[hdn];decide);have hr:readyL D []=0:=IC hdn rfl;refine gS (XM JO rfl rfl ((Dv base _ H D (hS.keep hE) (Aa0 none 0 0) [] (RG.nil _ _ _) (by simp)).mono ?_));rintro e i ⟨rfl,c⟩;refine⟨_,rfl,?_⟩;have hE:=hE.trans c;refine gS (XK (a:=(readyL D []:Nat)) (b:=(0:Nat)) rfl rfl (AX _ _ _ _) (kF (by omega) (cF rfl (gS (XQ NJ rfl ((K9 base _ H D (hS.keep hE) hU).mono ?_))))));rintro e j ⟨rfl,f⟩;refine⟨_,rfl,?_⟩;refine Bn rfl (vr (NI (usedD D)) rfl) ?_;have hE:=hE.trans f;exact⟨by rw[hV],hE⟩
 have hV:Qx D=0:=if_pos hdn;have hr:readyL D []=9:=GO hdn;refine gS (XM JO rfl rfl ((Dv base _ H D (hS.keep hE) (Aa0 none 0 0) [] (RG.nil _ _ _) (by simp)).mono ?_));rintro e k ⟨rfl,h⟩;refine⟨_,rfl,?_⟩;refine gS (XK (a:=(readyL D []:Nat)) (b:=(0:Nat)) rfl rfl (AX _ _ _ _) (kT (by omega) (cT rfl (Bn rfl (vr (NI 0) rfl) ?_))));have hE:=hE.trans h;exact⟨by rw[hV],hE⟩

theorem TP(base:Nat)(w:AaS)(H:Dk)(D:Ae)(hS:DkS base w H D):
  Calls AaU 40 #[PQ H.g 0] w fun e w' =>e = .returned (.bool D.down)∧Ext w w' :=by
 have hb:=hS.blk;have hgl:=(bl hb);refine gG (args:= [PQ H.g 0]) Tryz.func40 rfl 11 rfl rfl ?_;have hE:=Ext.refl w;refine gS (Z7 TB rfl (gS (Yk.nilCheck rfl (gS (Yk.fieldAt Oz rfl (gS (XJ JI rfl rfl (cellAt hb rfl) (gS (XR rfl rfl (Bn rfl (vr (.bool (D.down)) rfl) ?_))))))))));exact⟨rfl,hE⟩

theorem VG(base:Nat)(w:AaS)(H:Dk)(D:Ae)(hS:DkS base w H D)(hlen:D.now.length<1099511627776):
  Calls AaU 27 #[PQ H.g 0] w fun e w' =>∃v,e = .returned v∧OG w.heap.size 9 1 CX w' v (Ba D)∧Ext w w' :=by
 have hb:=hS.blk;have hgl:=(bl hb);have i:=hS;refine gG (args:= [PQ H.g 0]) Tryz.func27 rfl 12 rfl rfl ?_;have hE:=Ext.refl w;cases hdn:D.down
 ·have hV:Ba D=D.now.map Abq:=if_neg (by rw[hdn];decide);have hr:readyL D []=0:=IC hdn rfl;refine gS (XM JO rfl rfl ((Dv base _ H D (hS.keep hE) (Aa0 none 0 0) [] (RG.nil _ _ _) (by simp)).mono ?_));rintro e c ⟨rfl,f⟩;refine⟨_,rfl,?_⟩;have hb:=eb f hb;refine gS (XK (a:=(readyL D []:Nat)) (b:=(0:Nat)) rfl rfl (AX _ _ _ _) (kF (by omega) (cF rfl (gS (Yk.nilCheck rfl (gS (Yk.fieldAt OA rfl (gS (XJ LO rfl rfl (cellAt hb rfl) ?_)))))))));have hE:=hE.trans f;have hm1:=(hS.keep hE).now;refine gS (XQ TN rfl ((TG _ _).mono ?_));rintro e h ⟨rfl,hwk⟩;refine⟨_,rfl,?_⟩;have hxk:Ext c h:=by rw[hwk];exact(AbJ _ _).alloc (AaX _) _
  refine gS (XQ TO rfl ((Qu c h hwk hm1 i.ok.now hlen).mono ?_));rintro e n ⟨j,rfl,k,l⟩;refine⟨_,rfl,?_⟩;have hE:=hE.trans hxk;have o:=hE.size;refine Bn rfl (vr j rfl) ?_;have hE:=hE.trans l;exact⟨_,rfl,by rw[hV];exact OG.low k (by omega),hE⟩
 have hV:Ba D= []:=if_pos hdn;have hr:readyL D []=9:=GO hdn;refine gS (XM JO rfl rfl ((Dv base _ H D (hS.keep hE) (Aa0 none 0 0) [] (RG.nil _ _ _) (by simp)).mono ?_));rintro e p ⟨rfl,m⟩;refine⟨_,rfl,?_⟩;refine gS (XK (a:=(readyL D []:Nat)) (b:=(0:Nat)) rfl rfl (AX _ _ _ _) (kT (by omega) (cT rfl (Bn rfl (vr (Aa0 none 0 0) rfl) ?_))));have hE:=hE.trans m;exact⟨_,rfl,by rw[hV];exact OG.nil _ _ _ _ _,hE⟩

theorem RG.kept{α:Type}{k:Nat}{enc:α→List AaR}{w w' :AaS}{v:AaR}{l:List α}(h:RG k enc w v l){row:Option Nat}(hg:w.grownBy w' row)(hv:v.ownBlock=none∨v.ownBlock≠row):RG k enc w' v l:=by
 refine⟨h.1,?_⟩;obtain⟨h1,ao,cap,rfl,h2,h3,h4,h5⟩:=h.2;refine⟨h1,ao,cap,rfl,h2,h3,h4,fun a ha j u hu=> ?_⟩;have hc:=h5 a ha j u hu;subst ha;have hlt:=Ach w _ hc;have hbl:(a.add j).block=a.block:=by unfold AcU;split <;> rfl
 have hne:(some a.block)≠row:=by
  rcases hv with hv | hv
  ·cases hv
  ·exact hv
 rw[hbl]at hlt;rw[Ago (w:=w) (by rw[hbl];exact hg.block a.block hlt hne)];exact hc
theorem Sq(t:AaZ)(a b:Int)(hb:b≠0):Abt .rem t (.int .i64 a) (.int .i64 b)=pure (.int .i64 (Ac9 a b)):=by
 unfold Abt;simp only[ne_eq,not_true_eq_false,if_false,Op.intDiv];rw[if_neg hb]
theorem VH(x:Int)(m:Nat): -(m:Int)≤Ac9 x ((m+1:Nat):Int)∧Ac9 x ((m+1:Nat):Int)≤m:=by
 have h1:=Int.tmod_lt_of_pos x (show(0:Int)<((m+1:Nat):Int) by omega);have h2:=Int.lt_tmod_of_pos x (show(0:Int)<((m+1:Nat):Int) by omega);omega
def Fa(q:Nat):Ae:=⟨q,[],[],[],[],0,0,false⟩
theorem VI(q:Nat):DOk (Fa q):=⟨DirOk.nil _,DirOk.nil _,fun a h=>(by cases h),fun x h=>(by cases h)⟩
theorem Aan{P:Abo}{K:AaR→AaS→Prop}{ρ:Ad}{w:AaS}{d:Option Tmp}{t ty:AaZ}{pos:String}{af:Array AbP}{gd:Option (Nat × Bool)}{i0 i1 i2:Nat}{x0 x1 x2:Aa5}{a b c v:AaR}(h0:Aa ρ x0=a)(h1:Aa ρ x1=b)(h2:Aa ρ x2=c)(hr:∀w:AaS,(AcJ t #[(i0,a),(i1,b),(i2,c)]).run P w = .ok v w)(hk:K v w):Yk P K ((execOp (Aa ρ) ⟨d, .build t #[(i0,x0),(i1,x1),(i2,x2)],ty,pos,af,gd⟩).run P w):=
 Yk.build (by simp[h0,h1,h2]) hr hk
theorem VJ(q:Int)(a b:Nat)(w:AaS):(AcJ 107 #[(0, .int .i64 q),(1, .map (some a)),(2, .map (some b))]).run AaU w = .ok (.agg #[.int .i64 q, .map (some a), .map (some b), .slice none 0 0,NI 0,NI 0, .bool false]) w:=by kernel_rfl
theorem WG(w:AaS)(q:Nat)(hq:q≤1073741824):
  Calls AaU 21 #[NI q] w fun e w' =>∃H,e = .returned (PQ H.g 0)∧DkS w.heap.size w' H (Fa q)∧Ext w w' :=by
 refine gG (args:= [NI q]) Tryz.func21 rfl 14 rfl rfl ?_;have hE:=Ext.refl w;refine gS (XK (a:=(q:Nat)) (b:=(0:Nat)) rfl rfl (AL _ _ _ _) (kF (by omega) (gS (XK (a:=(q:Nat)) (b:=(1073741824:Nat)) rfl rfl (Bj _ _ _ _) (kF (by omega) (gS (XV rfl rfl (cF rfl ?_))))))));have v:=hE.size;refine gS (YD St (pF (fun _=>0)) Nm fun c p x hm8 r y=> ?_);have z:c<p.heap.size:=by omega
 have hE:=hE.trans r;have aa:=hE.size;refine gS (YD St (pF (fun _=>0)) Nm fun f s ab hm16 m ac=> ?_);have ad:f<s.heap.size:=by omega
 refine gS (Aan (vr (NI q) rfl) (vr (.map (some c)) rfl) (vr (.map (some f)) rfl) (fun w=>VJ _ _ _ w) (gS (Yk.box (vr (.agg (Jn q c f (.slice none 0 0) 0 0 false).toArray) rfl) fun h t n o l ae=> ?_)));have hE:=hE.trans m;have af:=hE.size;have hm8:=hm8.keep m;have ag:=Ar hm8.lt n;have ah:=Ar hm16.lt n;have u:=o;clear o;have ai:h<t.heap.size:=by omega
 refine Bn rfl (vr (PQ h 0) rfl) ?_;have hE:=hE.trans l;have hm8:=hm8.keep l;have hm16:=hm16.keep l;exact⟨⟨h,c,f, .slice none 0 0,fun _=>0,fun _=> .slice none 0 0⟩,rfl,⟨u,hm8,hm16,by show c≠f;omega,⟨[],AbO _ _ _ 1,rfl,fun i hi=>absurd hi (Acx _)⟩,⟨fun k hk=>absurd hk (Acx _),fun i j hi=>absurd hi (Acx _),fun i j hi=>absurd hi (Acx _)⟩,VI q,by show _≤h∧_≤c∧_≤f;omega⟩,hE⟩

section
variable {base : Nat} {w w' : AaS} {H : Dk} {D : Ae}
theorem FilesAt.low{F:Nat→Nat}{V:Nat→AaR}{fs:List (List UInt8 × Nat)}(h:FilesAt base w F V fs){b' :Nat}(hb:b' ≤base):FilesAt b' w F V fs:=⟨fun k hk=>⟨(h.at_ k hk).blk,BH (h.at_ k hk).row hb,AaV hb (h.at_ k hk).lo⟩,h.inj,h.apart⟩
end
structure DBd (n : Nat) (D : Ae) : Prop where
  quota:D.quota≤1073741824
  refused:D.refused≤n
  arm:D.arm≤9223372036854775807
  acts:D.kept.length+D.acts.length≤n
  now:D.now.length≤n
  files:∀x∈D.files,x.1.length≤300*n
theorem DBd.file{n:Nat}{D:Ae}(h:DBd n D)(k:Nat):(AY D k).1.length≤300*n:=by
  by_cases hk:k<D.files.length
  · exact h.files _ (IB hk)
  · unfold AY;rw[AaW,Ab3 (by omega)];exact Abs _
theorem Qy{l:List Nat}{m:Nat}(h:∀x∈l,x≤m):l.sum≤l.length*m:=by
  induction l with
  | nil=>simp
  | cons a r ih=>
    have h1:=h a AbZ;have h2:=ih fun x hx=>h x (Ab1 _ hx);rw[List.sum_cons,Abp,Nat.succ_mul];omega
theorem DBd.used{n:Nat}{D:Ae}(h:DBd n D):usedD D≤n*(300*n):=by
  unfold usedD;have h1:=Qy (l:=D.now.map fun e=>(AY D e.2).1.length) (m:=300*n) fun x hx=>by
    obtain⟨e,_,rfl⟩:=AbD.1 hx;exact h.file e.2
  rw[Abh]at h1;exact AaV h1 (Aee _ h.now)
theorem DBd.lt{n:Nat}{D:Ae}(h:DBd n D)(hn:n≤100000):DL D:=by
  have h1:=h.used;have h2:n*(300*n)≤100000*(300*100000):=Afl hn (AdM _ hn);have h3:=h.acts;have h4:=h.now;have h5:=h.refused;have h6:=h.arm;exact⟨h.quota,by omega,by omega,by omega,by omega,by omega,by omega,fun x hx=>by have:=h.files x hx;omega⟩
theorem DBd.mono{n m:Nat}{D:Ae}(h:DBd n D)(hn:n≤m):DBd m D:=
  ⟨h.quota,AaV h.refused hn,h.arm,AaV h.acts hn,AaV h.now hn,fun x hx=>AaV (h.files x hx) (AdM _ hn)⟩
theorem DBd.new{q:Nat}(hq:q≤1073741824):DBd 0 (Fa q):=⟨hq,AaX _,Abs _,AaX _,AaX _,fun x h=>by cases h⟩
theorem DBd.armed{n:Nat}{D:Ae}(h:DBd n D):DBd n (CS D).1:=by
  unfold CS;split
  · exact h
  · have:=h.arm;exact⟨h.quota,h.refused,by show D.arm-1≤_;omega,h.acts,h.now,h.files⟩
theorem DBd.turned{n:Nat}{D:Ae}(h:DBd n D)(a:CR):DBd (n+1) (turnedD D a):=by
  have h1:=Tx D.now a;have h2:=h.acts;have h3:=h.now;refine⟨h.quota,Ac1 h.refused,h.arm,?_,?_,fun x hx=>AaV (h.files x hx) (AdM _ (AeT n))⟩
  · show D.kept.length+(D.acts++ [a]).length≤n+1;rw[AaY,Abj];omega
  · show(turnD D.now a).length≤n+1;omega
theorem DBd.add{n:Nat}{D:Ae}(h:DBd n D)(s:List UInt8){b:List UInt8}(hb:b.length≤300):DBd (n+1) (Cd D s b):=by
  unfold Cd;split
  · rename_i k _
    refine⟨h.quota,Ac1 h.refused,h.arm,Ac1 h.acts,Ac1 h.now,fun x hx=> ?_⟩;rcases AdD hx with hx | rfl
    · have:=h.files x hx;omega
    · have:=h.file k;show((AY D k).1++b).length≤_;rw[AaY];omega
  · have h1:=h.turned ⟨[],s,D.files.length⟩;refine⟨h1.quota,h1.refused,h1.arm,h1.acts,h1.now,fun x hx=> ?_⟩;rcases Abk.1 hx with hx | hx
    · have:=h.files x hx;omega
    · rw[Aa6.1 hx];show b.length≤_;omega
theorem DBd.did{n:Nat}{D:Ae}(h:DBd n D){f:Ae→Ae}(hf:∀E,DBd n E→DBd (n+1) (f E)):DBd (n+1) (DT D f).1:=by
  unfold DT;split
  · exact h.armed.mono (AeT n)
  · exact hf _ h.armed
theorem DBd.append{n:Nat}{D:Ae}(h:DBd n D)(s:List UInt8){b:List UInt8}(hb:b.length≤300):DBd (n+1) (A0 D s b).1:=by
  unfold A0;split
  · exact h.mono (AeT n)
  · split
    · exact⟨h.quota,Nat.succ_le_succ h.refused,h.arm,Ac1 h.acts,Ac1 h.now,fun x hx=>AaV (h.files x hx) (AdM _ (AeT n))⟩
    · exact h.did (f:=fun d=>Cd d s b) fun E hE=>hE.add s hb
theorem DBd.sync{n:Nat}{D:Ae}(h:DBd n D)(s:List UInt8):DBd (n+1) (BB D s).1:=by
  unfold BB;split
  · exact h.mono (AeT n)
  · rename_i k _
    refine h.did fun E hE=>⟨hE.quota,Ac1 hE.refused,hE.arm,?_,Ac1 hE.now,fun x hx=> ?_⟩
    · have:=hE.now;show E.now.length+0≤_;omega
    · rcases AdD hx with hx | rfl
      · have:=hE.files x hx;omega
      · have:=hE.file k;show(AY E k).1.length≤_;omega
theorem DBd.drop{n:Nat}{D:Ae}(h:DBd n D)(s:List UInt8):DBd (n+1) (Bx D s).1:=by
  unfold Bx;split
  · exact h.mono (AeT n)
  · exact h.did fun E hE=>hE.turned _
section
variable {base : Nat} {w w' wb : AaS} {g : Nat} {H H' : Dk} {D D' : Ae}
theorem DkS.low(h:DkS base w H D){b' :Nat}(hb:b' ≤base):DkS b' w H D:=by
  obtain⟨vs,hv⟩:=h.acts;exact⟨h.blk,h.now,h.kept,h.ne,⟨vs,BH hv.row hb,hv.len,hv.at_⟩,h.files.low hb,h.ok,⟨AaV hb h.lo.1,AaV hb h.lo.2.1,AaV hb h.lo.2.2⟩⟩
structure DkG (wb w : AaS) (g : Nat) (H : Dk) (D : Ae) : Prop where
  ext:Ext wb w
  st:DkS wb.heap.size w H D
  hg:H.g=g
theorem DkG.keep(h:DkG wb w g H D)(k:Ext w w'):DkG wb w' g H D:=⟨h.ext.trans k,h.st.keep k,h.hg⟩
theorem DkG.step(h:DkG wb w g H D)(k:DkT wb.heap.size w H D w' H' D'):DkG wb w' g H' D' :=⟨k.chg.ext h.ext (fun i q=>(h.st.foot q).2.2),k.st,k.g.trans h.hg⟩
theorem DkG.box(h:DkG wb w g H D)(hc:Chg (B2 H D.files.length) w w'){b:Nat}{cs:Array AaR}{t:AaZ}{fr:Nat × Nat}(hb:w.heap[b]? =some (.cells cs t fr))(h1:t≠107)(h2:t≠133)(h3:t≠5)(h4:t≠131):w'.heap[b]? =some (.cells cs t fr):=
  (hc.blk b (bl hb) (h.st.offT hb h1 h2 h3 h4)).trans hb
theorem DkG.read(h:DkG wb w g H D)(s:List UInt8)(hL:DL D):
    Calls AaU 42 #[PQ g 0,St s] w fun e w' =>∃v,e = .returned (.tuple #[v,NI (An D s).2])∧w'.ownsRow w.heap.size 5 1 v (An D s).1.length (AaT (An D s).1)∧Ext w w' :=by
  rw[←h.hg];exact VF wb w H D h.st s hL
theorem DkG.list(h:DkG wb w g H D)(hL:DL D):
    Calls AaU 27 #[PQ g 0] w fun e w' =>∃v,e = .returned v∧OG w.heap.size 9 1 CX w' v (Ba D)∧Ext w w' :=by
  rw[←h.hg];exact VG _ w H D h.st hL.now
theorem DkG.down(h:DkG wb w g H D):
    Calls AaU 40 #[PQ g 0] w fun e w' =>e = .returned (.bool D.down)∧Ext w w' :=by
  rw[←h.hg];exact TP _ w H D h.st
theorem Xf(wb w:AaS)(hE:Ext wb w)(q:Nat)(hq:q≤1073741824):
    Calls AaU 21 #[NI q] w fun e w' =>∃g H,e = .returned (PQ g 0)∧DkG wb w' g H (Fa q)∧Ext w w' :=
  (WG w q hq).mono fun e w' ⟨H,he,hS,hx⟩=>⟨H.g,H,he,⟨hE.trans hx,hS.low hE.size,rfl⟩,hx⟩
end
section
variable {base : Nat} {w w' wb : AaS} {g : Nat} {H H' : Dk} {D D' : Ae}
structure DkW (wb w : AaS) (g : Nat) (H : Dk) (D : Ae) (w' : AaS) (H' : Dk) (D' : Ae) : Prop where
  g:DkG wb w' g H' D'
  chg:Chg (B2 H D.files.length) w w'
  foot:∀i,B2 H' D'.files.length i→B2 H D.files.length i∨w.heap.size≤i
theorem DkG.stepW(h:DkG wb w g H D)(k:DkT wb.heap.size w H D w' H' D'):DkW wb w g H D w' H' D' :=⟨h.step k,k.chg,k.foot⟩
theorem DkG.appendW(h:DkG wb w g H D)(s:List UInt8)(vb:AaR)(b:List UInt8)(hrb:RB w vb b)(hoff:b= []∨∀i,vb.ownBlock=some i→¬B2 H D.files.length i)(hbl:b.length<1099511627776)(hL:DL D):
    Calls AaU 88 #[PQ g 0,St s,vb] w fun e w' =>∃H',e = .returned (NI (A0 D s b).2)∧DkW wb w g H D w' H' (A0 D s b).1:=by
  rw[←h.hg];exact(Sp wb w h.ext H D h.st s vb b hrb hoff hbl hL).mono fun e w' ⟨H',he,hT⟩=>⟨H',he,by rw[h.hg];exact h.stepW hT⟩
theorem DkG.syncW(h:DkG wb w g H D)(s:List UInt8)(hL:DL D):
    Calls AaU 90 #[PQ g 0,St s] w fun e w' =>∃H',e = .returned (NI (BB D s).2)∧DkW wb w g H D w' H' (BB D s).1:=by
  rw[←h.hg];exact(VD wb w h.ext H D h.st s hL).mono fun e w' ⟨H',he,hT⟩=>⟨H',he,by rw[h.hg];exact h.stepW hT⟩
theorem DkG.dropW(h:DkG wb w g H D)(s:List UInt8)(hL:DL D):
    Calls AaU 52 #[PQ g 0,St s] w fun e w' =>∃H',e = .returned (NI (Bx D s).2)∧DkW wb w g H D w' H' (Bx D s).1:=by
  rw[←h.hg];exact(VE wb w h.ext H D h.st s hL).mono fun e w' ⟨H',he,hT⟩=>⟨H',he,by rw[h.hg];exact h.stepW hT⟩
theorem ActAt.setT{F:Nat→Nat}{v:AaR}{a:CR}{g:Nat}{cs:Array AaR}{t:AaZ}{fr:Nat × Nat}(h:ActAt w F v a)(hc:Chg (fun i=>i=g) w w')(hb:w.heap[g]? =some (.cells cs t fr))(h1:t≠113)(h2:t≠9):ActAt w' F v a:=by
  have k:∀ {b:Nat} {cs' :Array AaR} {t' :AaZ} {fr' :Nat × Nat},w.heap[b]? =some (.cells cs' t' fr')→t' ≠t→w'.heap[b]? =some (.cells cs' t' fr'):=fun e hne=>(hc.blk _ (bl e) fun q=>by rw[q,hb]at e;cases e;exact hne rfl).trans e;rcases h with ⟨bf,bn,e,q1,q2,q3,q4⟩ | ⟨hm,bs,bf,bn,e,q1,q2,q3,q4⟩ | ⟨bn,e,q1,q2⟩
  · exact .inl ⟨bf,bn,e,k q1 (AeZ h1),k q2 (AeZ h2),q3,q4⟩
  · exact .inr (.inl ⟨hm,bs,bf,bn,e,k q1 (AeZ h2),k q2 (AeZ h1),k q3 (AeZ h2),q4⟩)
  · exact .inr (.inr ⟨bn,e,k q1 (AeZ h2),q2⟩)
theorem DkS.setT(h:DkS base w H D){g:Nat}{cs:Array AaR}{t:AaZ}{fr:Nat × Nat}(hg:w.grownBy w' (some g))(hb:w.heap[g]? =some (.cells cs t fr))(h1:t≠107)(h2:t≠133)(h3:t≠5)(h4:t≠131)(h5:t≠113)(h6:t≠9):DkS base w' H D:=by
  have hc:Chg (fun i=>i=g) w w' :=Yc hg fun i e=> .inl (AbB e).symm;have hB:∀i,B2 H D.files.length i→¬i=g:=fun i q e=>h.offT hb h1 h2 h3 h4 (e▸q);obtain⟨vs,hv⟩:=h.acts;exact⟨(hc.blk _ (bl h.blk) (hB _ (.inl rfl))).trans h.blk,h.now.chg hc (hB _ (.inr (.inl rfl))),h.kept.chg hc (hB _ (.inr (.inr (.inl rfl)))),h.ne,
    ⟨vs,Du hc hv.row (fun i hi=>hB i (.inr (.inr (.inr (.inl hi))))),hv.len,fun i hi=>(hv.at_ i hi).setT hc hb h5 h6⟩,
    h.files.chg hc (fun k hk=>⟨hB _ (.inr (.inr (.inr (.inr ⟨k,hk, .inl rfl⟩)))),fun i hi=>hB i (.inr (.inr (.inr (.inr ⟨k,hk, .inr hi⟩))))⟩),h.ok,h.lo⟩
theorem DkG.setT(h:DkG wb w g H D){b:Nat}{cs:Array AaR}{t:AaZ}{fr:Nat × Nat}(hg:w.grownBy w' (some b))(hb:w.heap[b]? =some (.cells cs t fr))(hw:wb.heap.size≤b)(h1:t≠107)(h2:t≠133)(h3:t≠5)(h4:t≠131)(h5:t≠113)(h6:t≠9):DkG wb w' g H D:=
  ⟨(show Chg (fun i=>i=b) w w' from Yc hg fun i e=> .inl (AbB e).symm).ext h.ext (fun i q=>by have q:i=b:=q;omega),h.st.setT hg hb h1 h2 h3 h4 h5 h6,h.hg⟩
end
def BAt(w w0:AaS)(b:Nat)(l:List UInt8):Prop:=w0.heap.size≤b∧∃p v,(p = .pointer none∨p = .pointer (some ⟨b,0,none⟩))∧w.heap[b]? =some (.cells ([p,v]:List AaR).toArray 219 (0,0))∧w.ownsRow w0.heap.size 5 1 v l.length (AaT l)∧v.ownBlock≠some b
theorem BAt.fresh{w w0:AaS}{b:Nat}(h0:w0.heap.size≤b)(h:w.heap[b]? =some (.cells ([.pointer none,(.slice none 0 0)]:List AaR).toArray 219 (0,0))):BAt w w0 b []:=
  ⟨h0,_,_, .inl rfl,h,AbO w _ _ 1,by simp[Aa1]⟩
theorem AaJ{w w0:AaS}{b:Nat}{l:List UInt8}(h:BAt w w0 b l):Lib.IsBuilder 219 5 w0.heap.size b (AaT l) w:=by
  obtain⟨h0,p,v,h1,h2,h3,h4⟩:=h;have h3' :w.ownsRow w0.heap.size 5 1 v (AaT l).length (AaT l):=by rw[Aa8];exact h3
  rcases h1 with rfl | rfl
  · exact .inl ⟨h0,v,h2,h3',h4⟩
  · exact .inr ⟨h0,v,h2,h3',h4⟩
section
variable {P : Abo} {K : AaR → AaS → Prop} {ρ : Ad} {w : AaS} {d : Option Tmp} {ty : AaZ} {pos : String} {af : Array AbP} {gd : Option (Nat × Bool)}
theorem Ld{t n:Nat}(hi:(P.info? t).map (·.size)=some n):∃j,P.info? t=some j∧j.size=n:=by
  cases h:P.info? t with
  | none=>simp[h]at hi
  | some j=>exact⟨j,rfl,by simpa [h] using hi⟩
theorem ZM{src dst t e:AaZ}{n:Nat}(hs:P.underlying src=some (.pointer t))(hd:P.underlying dst=some .unsafePointer)(hi:(P.info? t).map (·.size)=some n)(hn:n≠0){x:Aa5}{b o:Nat}{cs:Array AaR}{fr:Nat × Nat}(hx:Aa ρ x = .pointer (some ⟨b,o,none⟩))(hb:w.heap[b]? =some (.cells cs e fr))(ho:o<cs.size) 
    (hk:K (.pointer (some ⟨b,o,none⟩)) w):Yk P K ((execOp (Aa ρ) ⟨d, .convert src dst x,ty,pos,af,gd⟩).run P w):=by
  obtain⟨j,h1,h2⟩:=Ld hi;have hr:=Lib.run_to_unsafe (P:=P) w (⟨b,o,none⟩:Addr) hs hd h1 (by omega) (by show w.shape? b=_;unfold AgS;rw[hb]) ho;refine Yk.value (v:= .pointer (some ⟨b,o,none⟩)) (w' :=w) ?_ hk;unfold execOp;simp only[hx,hr,Aa7,Abb,Aa3]
theorem Zu{src dst u e:AaZ}{n m:Nat}(hs:P.underlying src=some .unsafePointer)(hd:P.underlying dst=some (.pointer u))(hi:(P.info? u).map (·.size)=some n){x:Aa5}{b o:Nat}{cs:Array AaR}{fr:Nat × Nat}(hx:Aa ρ x = .pointer (some ⟨b,o,none⟩))(hb:w.heap[b]? =some (.cells cs e fr))(hm:cs.size=m)(hl:liesAt P P.depth e (m/P.cellsOf e) o u 1=true) 
    (hk:K (.pointer (some ⟨b,o,none⟩)) w):Yk P K ((execOp (Aa ρ) ⟨d, .convert src dst x,ty,pos,af,gd⟩).run P w):=by
  obtain⟨j,h1,h2⟩:=Ld hi;have hr:=Lib.run_from_unsafe (P:=P) w (cells:=m) (⟨b,o,none⟩:Addr) hs hd h1 (by show w.shape? b=_;unfold AgS;rw[hb];simp[hm]) hl;refine Yk.value (v:= .pointer (some ⟨b,o,none⟩)) (w' :=w) ?_ hk;unfold execOp;simp only[hx,hr,Aa7,Abb,Aa3]
theorem Z4{t e ty2:AaZ}{n:Nat}(ht:P.underlying t=some (.pointer e))(hi:(P.info? e).map (·.size)=some n){x y:Aa5}{a:Addr}(hx:Aa ρ x = .pointer (some a))(hy:Aa ρ y = .pointer (some a))(hk:K (.bool false) w):Yk P K ((execOp (Aa ρ) ⟨d, .binOp .neq t x y ty2,ty,pos,af,gd⟩).run P w):=by
  obtain⟨j,h1,h2⟩:=Ld hi;have hr:=Lib.run_neq_ptr_same (P:=P) w a ht h1;refine Yk.value (v:= .bool false) (w' :=w) ?_ hk;unfold execOp;simp only[hx,hy];simp[eqGuard,hr]
end
theorem leb6_tyU305:Tryz.prog.underlying 305=some .unsafePointer:=by kernel_rfl
theorem leb6_ne(a:Option Addr)(w:AaS):(callFunc 213 #[.pointer a]).run AaU w = .ok (.value (.pointer a)) w:=by kernel_rfl
theorem VK:liesAt AaU Tryz.prog.depth 219 (2/Tryz.prog.cellsOf 219) 0 219 1=true:=by kernel_rfl
theorem leb6_fo219_0:A2 AaU 219 0 0:=fun b o w=>by simp[go_sem]
theorem leb6_ty217:Tryz.prog.underlying 217=some (.pointer 219):=by kernel_rfl
theorem leb6_isz219:(Tryz.prog.info? 219).map (·.size)=some 2:=by kernel_rfl
theorem OH:(Tryz.prog.info? 217).map (·.size)=some 1:=by kernel_rfl
theorem leb6_pl174:Plain AaU 174:=fun _ _=>by kernel_rfl
theorem IE:A2 AaU 219 1 1:=fun b o w=>by simp[go_sem]
theorem Le(w:AaS)(b:Nat)(v:AaR)(hb:w.heap[b]? =some (.cells ([.pointer none,v]:List AaR).toArray 219 (0,0))):
  Calls AaU 174 #[PQ b 0] w fun e w' =>e = .returned (.tuple #[])∧w'.heap[b]? =some (.cells ([PQ b 0,v]:List AaR).toArray 219 (0,0))∧w.grownBy w' (some b):=by
 have hgr:w.grownBy w (some b):=Ace _ _;refine gG (args:= [PQ b 0]) Tryz.func174 rfl 20 rfl rfl (gS (Yk.nilCheck rfl (gS (Yk.fieldAt leb6_fo219_0 rfl (gS (XJ leb6_ty217 rfl rfl (cellAt hb rfl) (gS (X5 leb6_ty217 rfl (cT rfl (gS (ZM leb6_ty217 leb6_tyU305 leb6_isz219 (by decide) rfl hb (Aa9 rfl) (gS (ZT rfl (leb6_ne _ _) (gS (Zu leb6_tyU305 leb6_ty217 leb6_isz219 rfl hb (m:=2) rfl VK (gS (Yk.nilCheck rfl (gS (Yk.fieldAt leb6_fo219_0 rfl (gS (XY (i:=0) (v:=PQ b 0) rfl rfl hb (Aa9 rfl) OH rfl rfl fun w2 a c f=> ?_)))))))))))))))))))));have hgr:w.grownBy w2 (some b):=Ak hgr c (fun _ e=> .inl e);clear hb;have hb:=a;clear a;have g:=bl hb;refine rt0 rfl ?_;exact⟨rfl,hb,hgr⟩

theorem Lf(w:AaS)(b:Nat)(v:AaR)(hb:w.heap[b]? =some (.cells ([PQ b 0,v]:List AaR).toArray 219 (0,0))):
  Calls AaU 174 #[PQ b 0] w fun e w' =>e = .returned (.tuple #[])∧w'.heap[b]? =some (.cells ([PQ b 0,v]:List AaR).toArray 219 (0,0))∧w.grownBy w' (some b):=by
 have hgr:w.grownBy w (some b):=Ace _ _;refine gG (args:= [PQ b 0]) Tryz.func174 rfl 20 rfl rfl (gS (Yk.nilCheck rfl (gS (Yk.fieldAt leb6_fo219_0 rfl (gS (XJ leb6_ty217 rfl rfl (cellAt hb rfl) (gS (X5 leb6_ty217 rfl (cF rfl (gS (Yk.nilCheck rfl (gS (Yk.fieldAt leb6_fo219_0 rfl (gS (XJ leb6_ty217 rfl rfl (cellAt hb rfl) (gS (Z4 leb6_ty217 leb6_isz219 rfl rfl (cF rfl (rt0 rfl ?_)))))))))))))))))));exact⟨rfl,hb,hgr⟩

theorem copyCheck_any(w:AaS)(b:Nat)(p v:AaR)(hp:p = .pointer none∨p=PQ b 0)(hb:w.heap[b]? =some (.cells ([p,v]:List AaR).toArray 219 (0,0))):
  Calls AaU 174 #[PQ b 0] w fun e w' =>e = .returned (.tuple #[])∧w'.heap[b]? =some (.cells ([PQ b 0,v]:List AaR).toArray 219 (0,0))∧w.grownBy w' (some b):=by
 rcases hp with rfl | rfl
 ·exact Le w b v hb
 ·exact Lf w b v hb

theorem HY(w0 w:AaS)(h0:Ext w0 w)(b:Nat)(l:List UInt8)(hB:BAt w w0 b l)(c:UInt8)(hl:l.length<140737488355328):
  Calls AaU 135 #[PQ b 0,B8 c] w fun e w' =>e = .returned .nilIface∧BAt w' w0 b (l++ [c])∧Ext w0 w' :=by
 obtain⟨k,p,v,hp,hb,ho,hne⟩:=hB;refine gG (args:= [PQ b 0,B8 (c)]) Tryz.func135 rfl 17 rfl rfl (gS (XQ leb6_pl174 rfl ((copyCheck_any _ b p v hp hb).mono ?_)));rintro e y ⟨rfl,m,n⟩;refine⟨_,rfl,?_⟩;clear hb;have hb:=m;clear m;refine gS (Yk.nilCheck rfl (gS (Yk.fieldAt IE rfl (gS (XJ F5 rfl rfl (cellAt hb rfl) (gS (YR (b:=c) Rm (vr (B8 (c)) rfl) fun o t f=> ?_)))))));have h0:=Ab h0 n (AaV (AaX _) k);have z:=h0.size;have ho:=BI ho n hne;have u:Ah v o:=Eh ho f.own;have h:=f.own;have h0:=h0.trans f.ext;have ho:=Stab.own _ _ _ _ _ _ _ _ ho f.ext;refine gS (Ya _ _ w0.heap.size (.int .u8 0) F5 MA rfl F5 (l) ([(c:UInt8)]) (CV ho (vr v rfl)) (XP (X3 h) (vr o rfl)) (by simp;omega) h0.size fun j x g a=> ?_);have a:Grew t x v j:=a;have hb:=eb f.ext hb;have q:OB j b:=Ao a hne (bl hb);have h0:=Av h0 a ho (AaX _);have hb:=Aq hb a hne;have h:=Dr h a u;clear ho;refine gS (Yk.nilCheck rfl (gS (Yk.fieldAt IE rfl (gS (XY (i:=1) (v:=j) rfl rfl hb (Aa9 rfl) Kh (B7 g).1 (B7 g).2 fun aa r s ab=> ?_)))));clear hb;have hb:=r;clear r;have ac:=bl hb;refine Bn rfl (vr (Value.nilIface) rfl) ?_;have h0:=Ab h0 s (AaV (AaX _) (by omega));have g:=BI g s q;exact⟨rfl,⟨k,_,_, .inr rfl,hb,g,q⟩,h0⟩
def digs:List UInt8:= [48,49,50,51,52,53,54,55,56,57,97,98,99,100,101,102]
def Qz(b:UInt8):List UInt8:= [digs.getD (b.toNat/16) 0,digs.getD (b.toNat%16) 0]
def hexOf(id:List UInt8):List UInt8:=id.flatMap Qz
theorem QA(id:List UInt8)(i:Nat)(hi:i<id.length):hexOf (id.take (i+1))=hexOf (id.take i)++Qz (id.getD i 0):=by
  rw[Abu hi,hexOf,AdL];simp[hexOf,hi]
theorem CN:∀id:List UInt8,(hexOf id).length=2*id.length
  | []=>rfl
  | b :: id=>by
    have:=CN id;simp only[hexOf,AbW,AaY,Abp]at *;simp only[Qz,Abp,Abw];omega
def dg(c:UInt8):Option Nat:=if 48≤c.toNat∧c.toNat≤57 then some (c.toNat-48)else if 97≤c.toNat∧c.toNat≤102 then some (c.toNat-87)else none
def E4(c:UInt8):Int:=match dg c with | some n=>(n:Int) | none=> -1
theorem U3{c:UInt8}{n:Nat}(h:dg c=some n):n<16:=by
  unfold dg at h;split at h
  · cases h;omega
  · split at h
    · cases h;omega
    · cases h
theorem Sr:∀n:Fin 256,Afz digs (AbQ n.val)=E4 (AbQ n.val):=by decide+kernel
theorem TQ(c:UInt8):Afz digs c=E4 c:=by
  have:=Sr ⟨c.toNat,c.toNat_lt⟩
  simpa using this
def FC(s:List UInt8)(j:Nat):Bool:=(dg (s.getD (2*j) 0)).isSome&&(dg (s.getD (2*j+1) 0)).isSome
def E0(s:List UInt8)(j:Nat):UInt8:=AbQ (16*(dg (s.getD (2*j) 0)).getD 0+(dg (s.getD (2*j+1) 0)).getD 0)
def DH(s:List UInt8):List UInt8 × Bool:=if s.length=64∧(Ab6 32).all (FC s)=true then((Ab6 32).map (E0 s),true)else(Aa4 32 0,false)
theorem IF(s:List UInt8):(DH s).1.length=32:=by
  unfold DH;split <;> simp
theorem JQ{s:List UInt8}(h:¬(s.length=64∧(Ab6 32).all (FC s)=true)):DH s=(Aa4 32 0,false):=if_neg h
theorem LR{s:List UInt8}(h1:s.length=64)(h2:∀j,j<32→FC s j=true):DH s=((Ab6 32).map (E0 s),true):=if_pos ⟨h1,by
  rw[AbE];intro j hj;exact h2 j (by simpa using hj)⟩
def pre(s:List UInt8)(i:Nat):List UInt8:=(Ab6 i).map (E0 s)++Aa4 (32-i) 0
theorem Do(s:List UInt8)(i:Nat)(hi:i≤32):(pre s i).length=32:=by
  unfold pre;simp;omega
theorem TR(s:List UInt8)(i:Nat)(hi:i<32):(pre s i).set i (E0 s i)=pre s (i+1):=by
  unfold pre;rw[Acg _ _ (by simp),List.range_succ,Acj];simp only[Abh,List.length_range,AcD,Abv,AbG,Abr]
  congr 1
  obtain⟨k,hk⟩:∃k,32-i=k+1:=⟨32-i-1,by omega⟩;rw[hk,AgG,AeE,show 32-(i+1)=k by omega];rfl
theorem VL(s:List UInt8):pre s 32=(Ab6 32).map (E0 s):=by simp[pre]
/-! ### There and back -/
theorem WH:∀n:Fin 16,dg (digs.getD n.val 0)=some n.val:=by decide+kernel
theorem Pa(n:Nat)(h:n<16):dg (digs.getD n 0)=some n:=WH ⟨n,h⟩
theorem LS:∀(id:List UInt8) (j:Nat),j<id.length→(hexOf id).getD (2*j) 0=digs.getD ((id.getD j 0).toNat/16) 0∧(hexOf id).getD (2*j+1) 0=digs.getD ((id.getD j 0).toNat%16) 0
  | [],j,h=>by simp at h
  | b :: id,0,_=>⟨rfl,rfl⟩
  | b :: id,j+1,h=>by
    have:=LS id j (by simpa using h);have e:hexOf (b :: id)=digs.getD (b.toNat/16) 0 :: digs.getD (b.toNat%16) 0 :: hexOf id:=rfl;rw[e,show 2*(j+1)=2*j+1+1 by omega];exact this
theorem Fk(id:List UInt8)(h:id.length=32):DH (hexOf id)=(id,true):=by
  have hg:=fun j (hj:j<32)=>LS id j (by omega);have hlt:=fun j=>(id.getD j 0).toNat_lt;have hd:∀j,j<32→dg ((hexOf id).getD (2*j) 0)=some ((id.getD j 0).toNat/16)∧dg ((hexOf id).getD (2*j+1) 0)=some ((id.getD j 0).toNat%16):=fun j hj=>by
    rw[(hg j hj).1,(hg j hj).2];exact⟨Pa _ (by have:=hlt j;omega),Pa _ (by omega)⟩
  rw[LR (by rw[CN,h]) (fun j hj=>by unfold FC;rw[(hd j hj).1,(hd j hj).2];rfl)]
  congr 1
  apply AeU (by simp[h])
  intro j h1 h2;have hj:j<32:=by simpa using h1
  simp only[Aeh,List.getElem_range,E0];rw[(hd j hj).1,(hd j hj).2];simp only[AbR];rw[Nat.div_add_mod];simp[h2]
def LT:Aea:=⟨fun | 169=>136 | n=>n,fun | 70=>217 | 9=>9 | 0=>0 | 72=>219 | 37=>27 | 127=>265 | 3=>3 | 5=>5 | n=>n,fun | n=>n⟩
theorem Xg:Go.Proofs.Lays.n169 AaU LT:= {
  mixed:=by kernel_rfl
  f169:=Tryz.func136.trans (congrArg some (by kernel_rfl))
  t0:=Aek
  a0:=Afr
  z0:=Afa
  v0:=Aet
  t3:=Af0
  a3:=Ag3
  z3:=AgY
  v3:=Af9
  t9:=Adl
  a9:=Aeq
  z9:=Aeb
  v9:=Ads
  t37:=Tryz.underlying27
  a37:=Tryz.isAgg27
  z37:=Tryz.sizeOf27
  v37:=Tryz.zeroValue27
  t70:=Tryz.underlying217
  a70:=Tryz.isAgg217
  z70:=Tryz.sizeOf217
  v70:=Tryz.zeroValue217
  t72:=Tryz.underlying219
  a72:=Tryz.isAgg219
  z72:=Tryz.sizeOf219
  v72:=Tryz.zeroValue219
  t127:=Tryz.underlying265
  a127:=Tryz.isAgg265
  z127:=Tryz.sizeOf265
  v127:=Tryz.zeroValue265 }
theorem OI:Builder.Extra AaU LT:= {
  sizeBuilder:=by kernel_rfl
  liesBuilder:=by kernel_rfl
  t5:=AdJ
  a5:=Ag4
  z5:=AgZ
  v5:=Aga
  infoByte:=by kernel_rfl
  cellsByte:=by kernel_rfl
  sizeByte:=by kernel_rfl
  neB5:=by decide }
theorem HE(B b:Nat)(l:List UInt8)(w:AaS)(h:Lib.IsBuilder 219 5 B b (AaT l) w)(hBw:B≤w.heap.size):
    Calls AaU 136 #[.pointer (some ⟨b,0,none⟩)] w fun e w' =>e = .returned (.string ⟨l.toArray⟩)∧Below B w w' :=Any.Builder_String_any Xg OI B b l w h hBw
theorem TS(t:AaZ)(c:UInt8):Abt .and t (.int .u8 ((c.toNat:Nat):Int)) (.int .u8 ((15:Nat):Int))=pure (.int .u8 ((c.toNat%16:Nat):Int)):=by
 rw[Wt t _ _ c.toNat_lt (by decide),Nat.and_two_pow_sub_one_eq_mod _ 4]
theorem TT(l:List UInt8)(b:UInt8):(l++ [([48,49,50,51,52,53,54,55,56,57,97,98,99,100,101,102]:List UInt8).getD (b.toNat/2^4) 0])++ [([48,49,50,51,52,53,54,55,56,57,97,98,99,100,101,102]:List UInt8).getD (b.toNat%16) 0]=l++Qz b:=by
 rw[Abr];rfl
theorem QB{d:Option Tmp}{ty:AaZ}{pos:String}{af:Array AbP}{gd:Option (Nat × Bool)}(σ:Aa5→AaR)(w:AaS):(execOp σ ⟨d, .alloc 219,ty,pos,af,gd⟩).run AaU w = .ok (.value (PQ w.heap.size 0)) (w.alloc (.cells ([.pointer none,(Aa0 none 0 0)]).toArray 219)):=by kernel_rfl
theorem KH:Plain AaU 135:=fun _ _=>by kernel_rfl
theorem QC:Plain AaU 136:=fun _ _=>by kernel_rfl
theorem Pb(w:AaS)(id:List UInt8)(hid:id.length=32):
  Calls AaU 80 #[AB id] w fun e w' =>e = .returned (St (hexOf id))∧Ext w w' :=by
 refine gG (args:= [AB id]) Tryz.func80 rfl 20 rfl rfl ?_;have hE:=Ext.refl w;refine gS (Yk.box (vr (AB id) rfl) fun o f ag p v ah=> ?_);have h:=p;clear p;have ai:o<f.heap.size:=by omega
 refine gS (Yk.alloc QB fun g q x r m aj=> ?_);have c:=Ext.refl f;have hE:=hE.trans v;have n:=hE;have ak:=hE.size;have y:=r;clear r;have al:g<q.heap.size:=by omega
 have s:BAt q f g []:=BAt.fresh (by omega) y;have am:=Ar (bl h) x;have h:=eb m h;have hE:=hE.trans m;have c:=c.trans m;refine gS (XO rfl h UY rfl (by rw[Abe,Aa8,hid];exact Rb) (gL (fun(ρ:Ad) (wz:AaS)=>∃i:Nat,ρ 0=(AB id:AaR)∧ρ 1=(PQ o 0:AaR)∧ρ 2=(St (([]:List UInt8)):AaR)∧ρ 3=(PQ g 0:AaR)∧ρ 6=(AB id:AaR)∧ρ 7=(NI i:AaR)∧Ext w wz∧Ext f wz∧BAt wz f g (hexOf (id.take i))∧(i≤32)∧True) (fun ρ _=>32-(intOf (ρ 7)).toNat) ⟨0,rfl,rfl,rfl,rfl,rfl,rfl,hE,c,s,Abs _,trivial⟩ ?_));clear h;clear s;clear hE;rintro z an ⟨i,T0,T1,T2,j,t,k,hE,c,hBi,hi,-⟩;have q7:=k;have hlt:=(id.getD i 0).toNat_lt;refine gS (XK (a:=(i:Nat)) (b:=(32:Nat)) k rfl (AL _ _ _ _) ?_);refine cD rfl (fun ad=> ?_) fun ad=> ?_
 ·refine gS (AaE (l:=id) (i:=i) UY u5 rfl PG t k (by omega) (hid) (gS (XL (xv:= .int .u8 (((id.getD (i) 0).toNat:Nat):Int)) (yv:= .int .u64 ((4:Nat):Int)) rfl rfl rfl (Ws _ _ _ _ (by omega)) (gS (Zc (l:=([48,49,50,51,52,53,54,55,56,57,97,98,99,100,101,102]:List UInt8)) (i:=((id.getD (i) 0).toNat)/2^(4)) O7 rfl rfl (by show _<16;omega) (gS (XM KH j rfl ((HY f _ c g (hexOf (id.take i)) hBi ((([48,49,50,51,52,53,54,55,56,57,97,98,99,100,101,102]:List UInt8):List UInt8).getD (((id.getD (i) 0).toNat)/2^(4)) 0) (by have:=CN (id.take i);simp at this ⊢;omega)).mono ?_))))))));rintro e ao ⟨rfl,u,hv33⟩;refine⟨_,rfl,?_⟩;have hE:=n.trans hv33;have c:=hv33;clear hBi;refine gS (XL (xv:= .int .u8 (((id.getD (i) 0).toNat:Nat):Int)) (yv:= .int .u8 ((15:Nat):Int)) rfl rfl rfl (TS _ (id.getD (i) 0)) (gS (Zc (l:=([48,49,50,51,52,53,54,55,56,57,97,98,99,100,101,102]:List UInt8)) (i:=(id.getD (i) 0).toNat%16) O7 rfl rfl (by show _<16;omega) (gS (XM KH j rfl ((HY f _ c g ((hexOf (id.take i):List UInt8)++ [(([48,49,50,51,52,53,54,55,56,57,97,98,99,100,101,102]:List UInt8):List UInt8).getD (((id.getD (i) 0).toNat)/2^(4)) 0]) u ((([48,49,50,51,52,53,54,55,56,57,97,98,99,100,101,102]:List UInt8):List UInt8).getD ((id.getD (i) 0).toNat%16) 0) (by have:=CN (id.take i);simp at this ⊢;omega)).mono ?_))))));rintro e ap ⟨rfl,ae,hv36⟩;refine⟨_,rfl,?_⟩;have hE:=n.trans hv36;have c:=hv36;clear u;refine gS (XL (xv:=NI i) (yv:=NI 1) k rfl rfl (Ai _ _ _ (by omega)) (gK (Aby ⟨i+1,T0,T1,T2,j,t,rfl,hE,c,(show BAt _ _ _ _ from by rw[QA id i (by omega),←TT];exact ae),by omega,trivial⟩ ?_)));show 32-(intOf (NI ((i)+(1)))).toNat<32-(intOf (z 7)).toNat;rw[q7];simp only[intOf,Aba];omega
 have af:id.take i=id:=AbK (by omega);refine gS (XQ QC j ((HE _ g (hexOf (id.take i)) _ (AaJ hBi) c.size).mono ?_));rintro e aq ⟨rfl,hv39⟩;refine⟨_,rfl,?_⟩;have hv39t:=Agc c hv39;have hE:=n.trans hv39t;have c:=hv39t;clear hBi;refine Bn rfl (vr (St (hexOf (id.take i))) rfl) ?_;exact⟨by rw[af],hE⟩
def Bi(p s:List UInt8):List UInt8 × Bool:=if p.length≤s.length∧s.take p.length=p then(s.drop p.length,true)else(s,false)
theorem WI{p s:List UInt8}(h:¬(p.length≤s.length∧s.take p.length=p)):(Bi p s).2=false:=by unfold Bi;rw[if_neg h]
theorem VM{p s:List UInt8}(h:p.length≤s.length):(Bi p s).2=decide ((s.drop 0).take (p.length-0)=p):=by
 unfold Bi;rw[Adk,AgR];by_cases q:s.take p.length=p
 ·rw[if_pos ⟨h,q⟩,decide_eq_true q]
 ·rw[if_neg (fun x=>q x.2),decide_eq_false q]
theorem Xh{p s:List UInt8}(h:(Bi p s).2=false):Bi p s=(s,false):=by
 unfold Bi at h ⊢;split
 ·rename_i q;rw[if_pos q]at h;cases h
 ·rfl
theorem Xi{p s:List UInt8}(h:(Bi p s).2=true):Bi p s=((s.drop p.length).take (s.length-p.length),true):=by
 unfold Bi at h ⊢;split
 ·rw[AbK (by rw[Abf];exact AaX _)]
 ·rename_i q;rw[if_neg q]at h;cases h
theorem VN{p s:List UInt8}(h:(Bi p s).2=true):p.length≤s.length:=by
 unfold Bi at h;split at h
 ·rename_i q;exact q.1
 ·cases h
def nmO(id:List UInt8):List UInt8:= [111,45]++hexOf id
theorem VO{id:List UInt8}(h:id.length=32):(nmO id).length=66:=by unfold nmO;rw[AaY,CN,h];rfl
theorem Ss:Plain AaU 169:=fun _ _=>by kernel_rfl
theorem Su:Plain AaU 124:=fun _ _=>by kernel_rfl
theorem TU:Plain AaU 80:=fun _ _=>by kernel_rfl
theorem Mr(w:AaS)(s p:List UInt8)(hs:s.length≤9223372036854775807):
  Calls AaU 169 #[St s,St p] w fun e w' =>e = .returned (.bool (Bi p s).2)∧Ext w w' :=by
 refine gG (args:= [St (s),St (p)]) Tryz.func169 rfl 18 rfl rfl ?_;have hE:=Ext.refl w;by_cases hl:p.length≤s.length
 ·refine gS (YC (l:=s) O7 rfl (gS (YC (l:=p) O7 rfl (gS (XK (a:=(s.length:Nat)) (b:=(p.length:Nat)) rfl rfl (EQ _ _ _ _) (kT (hl) (gS (YC (l:=p) O7 rfl (gS (Zg (l:=s) O7 (0) (p.length) rfl (.inl ⟨rfl,rfl⟩) (.inr ⟨.i64,congrArg some rfl⟩) (by omega) (by omega) (gS (YE (l:=(s.drop (0)).take ((p.length)-(0))) (m:=p) (.inl rfl) rfl rfl (decide ((s.drop (0)).take ((p.length)-(0))=p)) rfl (gS (XR rfl rfl (Bn rfl (vr (.bool (decide ((s.drop (0)).take ((p.length)-(0))=p))) rfl) ?_)))))))))))))));exact⟨by rw[VM hl],hE⟩
 refine gS (YC (l:=s) O7 rfl (gS (YC (l:=p) O7 rfl (gS (XK (a:=(s.length:Nat)) (b:=(p.length:Nat)) rfl rfl (EQ _ _ _ _) (kF (hl) (gS (XV rfl rfl (Bn rfl (vr (.bool (false)) rfl) ?_)))))))));exact⟨by rw[show(Bi p s).2=false from WI (fun q=>hl q.1)],hE⟩

theorem Lg(w:AaS)(s p:List UInt8)(hs:s.length≤9223372036854775807):
  Calls AaU 124 #[St s,St p] w fun e w' =>e = .returned (.tuple #[St (Bi p s).1, .bool (Bi p s).2])∧Ext w w' :=by
 refine gG (args:= [St (s),St (p)]) Tryz.func124 rfl 15 rfl rfl ?_;have hE:=Ext.refl w;refine gS (XM Ss rfl rfl ((Mr _ s p hs).mono ?_));rintro e c ⟨rfl,b⟩;refine⟨_,rfl,?_⟩;refine gS (Ym rfl ?_);refine cB (!((Bi p s).2)) rfl (fun a=> ?_) fun a=> ?_
 ·have hc:(Bi p s).2=false:=by simpa using a
  refine By rfl (vr (St (s)) rfl) (vr (.bool (false)) rfl) ?_;have hE:=hE.trans b;exact⟨by rw[Xh hc],hE⟩
 have hc:(Bi p s).2=true:=by simpa using a
 have hpl:=VN hc;refine gS (YC (l:=p) O7 rfl (gS (Zg (l:=s) O7 (p.length) (s.length) rfl (.inr ⟨.i64,congrArg some rfl⟩) (.inl ⟨rfl,rfl⟩) (by omega) (by omega) (By rfl (vr (St ((s.drop (p.length)).take ((s.length)-(p.length)))) rfl) (vr (.bool (true)) rfl) ?_))));have hE:=hE.trans b;exact⟨by rw[Xi hc],hE⟩

theorem Ms(w:AaS)(s p:List UInt8)(hs:s.length≤9223372036854775807):
  Calls AaU 75 #[St s,St p] w fun e w' =>e = .returned (.tuple #[St (Bi p s).1, .bool (Bi p s).2])∧Ext w w' :=by
 refine gG (args:= [St (s),St (p)]) Tryz.func75 rfl 11 rfl rfl ?_;have hE:=Ext.refl w;refine gS (XM Su rfl rfl ((Lg _ s p hs).mono ?_));rintro e b ⟨rfl,a⟩;refine⟨_,rfl,?_⟩;refine gS (Yk.extract (vs:= [St ((Bi p s).1), .bool ((Bi p s).2)]) rfl rfl (gS (Yk.extract (vs:= [St ((Bi p s).1), .bool ((Bi p s).2)]) rfl rfl (By rfl (vr (St ((Bi p s).1)) rfl) (vr (.bool ((Bi p s).2)) rfl) ?_))));have hE:=hE.trans a;exact⟨rfl,hE⟩

theorem NK(w:AaS)(id:List UInt8)(hid:id.length=32):
  Calls AaU 86 #[AB id] w fun e w' =>e = .returned (St (nmO id))∧Ext w w' :=by
 refine gG (args:= [AB id]) Tryz.func86 rfl 6 rfl rfl ?_;have hE:=Ext.refl w;refine gS (Yk.box (vr (AB id) rfl) fun b c i a f j=> ?_);have g:=a;clear a;have k:b<c.heap.size:=by omega
 refine gS (XO rfl g UY rfl (by exact Ac hid) (gS (XQ TU rfl ((Pb _ id hid).mono ?_))));rintro e n ⟨rfl,h⟩;refine⟨_,rfl,?_⟩;refine gS (Zy (l:=([111,45]:List UInt8)) (m:=hexOf id) rfl rfl (by rw[CN,hid];simp) (Bn rfl (vr (St ((([111,45]:List UInt8):List UInt8)++(hexOf id:List UInt8))) rfl) ?_));have hE:=hE.trans (f.trans h);exact⟨rfl,hE⟩
def En:List UInt8:=Aa4 32 0
inductive Stp where
  | add (b:List UInt8)
  | sync
  | rem
def CQ(D:Ae)(s:List UInt8):Stp→Ae × Nat
  | .add b=>A0 D s b
  | .sync=>BB D s
  | .rem=>Bx D s
def AR(D:Ae)(s:List UInt8):List Stp→Ae × Nat
  | []=>(D,0)
  | a :: r=>if(CQ D s a).2≠0 then CQ D s a else AR (CQ D s a).1 s r
theorem E1(D:Ae)(s:List UInt8)(a:Stp)(r:List Stp):AR D s (a :: r)=if(CQ D s a).2≠0 then CQ D s a else AR (CQ D s a).1 s r:=rfl
def C8(D:Ae)(id:List UInt8):List UInt8 × Nat:=
  if(An D (nmO id)).2=4∨((An D (nmO id)).2=0∧Sha.sum (An D (nmO id)).1≠id)then([],12)else An D (nmO id)
def DC(r:Ae × Nat)(id:List UInt8):Ae × List UInt8 × List UInt8 × Nat:=if r.2≠0 then(r.1,En,[],r.2)else(r.1,id,[],0)
def BO(D:Ae)(b:List UInt8):Ae × List UInt8 × List UInt8 × Nat:=
  if(An D (nmO (Sha.sum b))).2=4 then DC (AR D (nmO (Sha.sum b)) [.add b, .sync]) (Sha.sum b)
  else if(An D (nmO (Sha.sum b))).2≠0 then(D,En,[],(An D (nmO (Sha.sum b))).2)
  else if(An D (nmO (Sha.sum b))).1=b then DC (AR D (nmO (Sha.sum b)) [.sync]) (Sha.sum b)
  else if Sha.sum (An D (nmO (Sha.sum b))).1=Sha.sum b then(D,Sha.sum b,(An D (nmO (Sha.sum b))).1,7)
  else DC (AR D (nmO (Sha.sum b)) [.rem, .add b, .sync]) (Sha.sum b)
section
variable {P : Abo} {K : AaR → AaS → Prop} {ρ : Ad} {w : AaS} {d : Option Tmp} {ty : AaZ} {pos : String} {af : Array AbP} {gd : Option (Nat × Bool)}
theorem AaK{f:AcF}(hp:Plain P f){c:Aa5}{args:Array Aa5}{at_:Array AaZ}{bd caps:Array AaR}(hc:Aa ρ c = .func (.func f) bd caps)(vs:Array AaR)(hv:bd++args.map (Aa ρ)++caps=vs) 
    (h:Calls P f vs w fun e w' =>∃v,e = .returned v∧K v w'):Yk P K ((execOp (Aa ρ) ⟨d, .call ⟨.value c,args,at_⟩,ty,pos,af,gd⟩).run P w):=by
  subst hv;refine Yk.enter (f:=f) (args:=bd++args.map (Aa ρ)++caps) (w' :=w) ?_ h;unfold execOp;simp[resolve,hc,AdG,invoke,hp _ w]
theorem Aao{f:AcF}{c x:Aa5}{v y u:AaR}{bd caps:Array AaR}{R:Dk→AaS→Prop}{at_:Array AaZ}(hp:Plain P f)(hc:Aa ρ c=v)(hve:v = .func (.func f) bd caps)(hx:Aa ρ x=y) 
    (h:Calls P f (bd ++ #[y]++caps) w fun e w' =>∃H',e = .returned u∧R H' w') (hk:∀H' w',R H' w' →K u w'):Yk P K ((execOp (Aa ρ) ⟨d, .call ⟨.value c,#[x],at_⟩,ty,pos,af,gd⟩).run P w):=
  AaK hp (hc.trans hve) _ (by simp[hx]) (h.mono fun e w' ⟨H',q1,q2⟩=>⟨_,q1,hk H' w' q2⟩)
theorem YK{f:Fn}{x:Aa5}{v:AaR}(hx:Aa ρ x=v)(hk:K (.func f #[v] #[]) w):Yk P K ((execOp (Aa ρ) ⟨d, .makeFunc f #[x] #[],ty,pos,af,gd⟩).run P w):=by
  refine Yk.run (v:= .func f #[v] #[]) ?_ hk;unfold execOp;simp[hx,Instr.makeFunc]
end
section
variable {wb w w' : AaS} {g : Nat} {H H' : Dk} {D D' : Ae}
def StpAt(w:AaS)(g:Nat)(H:Dk)(n:Nat)(v:AaR):Stp→Prop
  | .add b=>∃bd bb vb,v = .func (.func 87) #[] #[PQ bd 0,PQ bb 0]∧w.heap[bd]? =some (.cells ([PQ g 0]).toArray 50 (0,0))∧w.heap[bb]? =some (.cells ([vb]).toArray 27 (0,0))∧RB w vb b∧(b= []∨∀i,vb.ownBlock=some i→¬B2 H n i)∧b.length≤300
  | .sync=>v = .func (.func 90) #[PQ g 0] #[]
  | .rem=>v = .func (.func 52) #[PQ g 0] #[]
theorem DkW.off(hW:DkW wb w g H D w' H' D'){v:AaR}{b:List UInt8}(hr:RB w v b)(ho:b= []∨∀i,v.ownBlock=some i→¬B2 H D.files.length i):b= []∨∀i,v.ownBlock=some i→¬B2 H' D'.files.length i:=by
  rcases ho with h0 | ho
  · exact .inl h0
  · by_cases hb:b= []
    · exact .inl hb
    · refine .inr fun i hi q=> ?_;rcases hW.foot i q with q | q
      · exact ho i hi q
      · have:=RB.lt hr (AgN.2 hb) hi;omega
theorem StpAt.step(hD:DkG wb w g H D)(hW:DkW wb w g H D w' H' D'){v:AaR}{a:Stp}(h:StpAt w g H D.files.length v a):StpAt w' g H' D'.files.length v a:=by
  cases a with
  | sync=>exact h
  | rem=>exact h
  | add b=>
    obtain⟨bd,bb,vb,e,h1,h2,h3,h4,h5⟩:=h;exact⟨bd,bb,vb,e,hD.box hW.chg h1 (by decide) (by decide) (by decide) (by decide),hD.box hW.chg h2 (by decide) (by decide) (by decide) (by decide),h3.chg hW.chg h4,hW.off h3 h4,h5⟩
theorem StpAt.ext{n:Nat}{v:AaR}{a:Stp}(h:StpAt w g H n v a)(k:Ext w w'):StpAt w' g H n v a:=by
  cases a with
  | sync=>exact h
  | rem=>exact h
  | add b=>
    obtain⟨bd,bb,vb,e,h1,h2,h3,h4,h5⟩:=h;exact⟨bd,bb,vb,e,Ext.blk' k h1,Ext.blk' k h2,h3.keep k,h4,h5⟩
theorem Yy(h:DkG wb w g H D)(k:Ext w w'):DkW wb w g H D w' H D:=⟨h.keep k,YP k,fun _ q=> .inl q⟩
theorem DkW.setT(h:DkW wb w g H D w' H' D'){w2:AaS}{b:Nat}{cs:Array AaR}{t:AaZ}{fr:Nat × Nat}(hg:w'.grownBy w2 (some b))(hb:w'.heap[b]? =some (.cells cs t fr))(hw:w.heap.size≤b)(h1:t≠107)(h2:t≠133)(h3:t≠5)(h4:t≠131)(h5:t≠113)(h6:t≠9)(hwb:wb.heap.size≤w.heap.size):DkW wb w g H D w2 H' D' :=
  ⟨h.g.setT hg hb (AaV hwb hw) h1 h2 h3 h4 h5 h6,Chg.set h.chg hg (.inr hw),h.foot⟩
theorem DkW.trans{w2:AaS}{H2:Dk}{D2:Ae}(h:DkW wb w g H D w' H' D')(k:DkW wb w' g H' D' w2 H2 D2):DkW wb w g H D w2 H2 D2:=
  ⟨k.g,h.chg.trans k.chg h.foot,fun i q=>(k.foot i q).elim (h.foot i) fun r=> .inr (AaV h.chg.size r)⟩
end
theorem HF{D:Ae}(h:DL D)(s:List UInt8):(An D s).1.length<1099511627776:=by
  unfold An;split
  · exact show(0:Nat)<1099511627776 by omega
  · rename_i k _
    show(AY D k).1.length<_;by_cases hk:k<D.files.length
    · exact h.files _ (IB hk)
    · unfold AY;rw[AaW,Ab3 (by omega)];decide
theorem DBd.step{n:Nat}{D:Ae}(h:DBd n D)(s:List UInt8):∀(a:Stp),(∀b,a = .add b→b.length≤300)→DBd (n+1) (CQ D s a).1
  | .add b,hb=>h.append s (hb b rfl)
  | .sync,_=>h.sync s
  | .rem,_=>h.drop s
def NewI(n:Nat)(w:AaS)(v:AaR):Prop:=∀k,v.ownBlock=some k→n≤k∧k<w.heap.size
theorem NewI.keep{n:Nat}{w w' :AaS}{v:AaR}(h:NewI n w v)(k:Ext w w'):NewI n w' v:=fun j hj=>⟨(h j hj).1,AbL (h j hj).2 k.size⟩
theorem NewI.nil(n:Nat)(w:AaS){a b:Nat}:NewI n w (.slice none a b):=fun k h=>by cases h
theorem NewI.low{n m:Nat}{w:AaS}{v:AaR}(h:NewI n w v)(hm:m≤n):NewI m w v:=fun j hj=>⟨AaV hm (h j hj).1,(h j hj).2⟩
theorem Y7{n z l:Nat}{e:AaZ}{w:AaS}{v:AaR}{xs:List AaR}(h:w.ownsRow n e z v l xs):NewI n w v:=fun k hk=>h.lt k hk
structure StpsAt (w : AaS) (g : Nat) (H : Dk) (n : Nat) (vs : List AaR) (ac : List Stp) : Prop where
 len:vs.length=ac.length
 at_:∀i,i<ac.length→StpAt w g H n (vs.getD i undef) (ac.getD i .sync)
theorem StpsAt.ext{w w' :AaS}{g n:Nat}{H:Dk}{vs:List AaR}{ac:List Stp}(h:StpsAt w g H n vs ac)(k:Ext w w'):StpsAt w' g H n vs ac:=⟨h.len,fun i hi=>(h.at_ i hi).ext k⟩
theorem StpsAt.step{wb w w' :AaS}{g:Nat}{H H' :Dk}{D D' :Ae}{vs:List AaR}{ac:List Stp}(h:StpsAt w g H D.files.length vs ac)(hD:DkG wb w g H D)(hW:DkW wb w g H D w' H' D'):StpsAt w' g H' D'.files.length vs ac:=⟨h.len,fun i hi=>(h.at_ i hi).step hD hW⟩
theorem DkW.keep{wb w w' w2:AaS}{g:Nat}{H H' :Dk}{D D' :Ae}(h:DkW wb w g H D w' H' D')(k:Ext w' w2):DkW wb w g H D w2 H' D' :=⟨h.g.keep k,h.chg.keep k,h.foot⟩
theorem LU{l:List Stp}{i:Nat}(h:i<l.length):l.drop i=l.getD i .sync :: l.drop (i+1):=by
 rw[AaW,Aa2 h];simp
theorem TV:Plain AaU 88:=fun _ _=>by kernel_rfl
theorem LV:Tryz.prog.underlying 231=some (.slice 101):=by kernel_rfl
theorem Sv:∀w' :AaS,(sizeOf 101).run AaU w' = .ok 1 w' :=fun _=>by kernel_rfl
theorem Sw:Tryz.prog.underlying 101=some (.func #[9] #[29] false):=by kernel_rfl
theorem Sx(wb w:AaS)(g:Nat)(H:Dk)(D:Ae)(hD:DkG wb w g H D)(s:List UInt8)(bd bb:Nat)(vb:AaR)(b:List UInt8)(hbd:w.heap[bd]? =some (.cells ([PQ g 0]).toArray 50 (0,0)))(hbb:w.heap[bb]? =some (.cells ([vb]).toArray 27 (0,0)))(hr:RB w vb b)(hoff:b= []∨∀i,vb.ownBlock=some i→¬B2 H D.files.length i)(hbl:b.length<1099511627776)(hL:DL D):
  Calls AaU 87 #[St s,PQ bd 0,PQ bb 0] w fun e w' =>∃H',e = .returned (NI (A0 D s b).2)∧DkW wb w g H D w' H' ((A0 D s b).1):=by
 refine gG (args:= [St (s),PQ bd 0,PQ bb 0]) Tryz.func87 rfl 9 rfl rfl ?_;have hE:=Ext.refl w;refine gS (XJ TB rfl rfl (cellAt hbd rfl) (gS (XJ F5 rfl rfl (cellAt hbb rfl) (gS (X8 TV rfl rfl rfl (((hD.keep hE).appendW s vb b (hr.keep hE) hoff hbl hL).mono ?_))))));rintro e a ⟨H2,rfl,hW⟩;refine⟨_,rfl,?_⟩;refine Bn rfl (vr (NI ((A0 D s b).2)) rfl) ?_;exact⟨H2,rfl,hW⟩

theorem TW{wb w:AaS}{g:Nat}{H:Dk}{D:Ae}(hD:DkG wb w g H D)(hL:DL D)(s:List UInt8){v:AaR}{a:Stp}(h:StpAt w g H D.files.length v a):
  ∃f bd caps,v = .func (.func f) bd caps∧Plain AaU f∧Calls AaU f (bd ++ #[St s]++caps) w fun e w' =>∃H',e = .returned (NI (CQ D s a).2)∧DkW wb w g H D w' H' (CQ D s a).1:=by
 cases a with
 | sync=>exact⟨_,_,_,h,fun _ _=>by kernel_rfl,hD.syncW s hL⟩
 | rem=>exact⟨_,_,_,h,fun _ _=>by kernel_rfl,hD.dropW s hL⟩
 | add b=>
  obtain⟨bd,bb,vb,e,h1,h2,h3,h4,h5⟩:=h;exact⟨_,_,_,e,fun _ _=>by kernel_rfl,Sx wb w g H D hD s bd bb vb b h1 h2 h3 h4 (by omega) hL⟩
theorem JR(wb w:AaS)(g:Nat)(H:Dk)(D:Ae)(hD:DkG wb w g H D)(s:List UInt8)(rb:Nat)(vs:List AaR)(ac:List Stp)(hrb:w.heap[rb]? =some (.cells vs.toArray 101 (0,0)))(k:StpsAt w g H D.files.length vs ac)(n:Nat)(hB:DBd n D)(hn:n+ac.length≤100000)(hbs:∀a∈ac,∀b,a = .add b→b.length≤300):
  Calls AaU 89 #[St s, .slice (some ⟨rb,0,none⟩) vs.length vs.length] w fun e w' =>∃H',e = .returned (NI (AR D s ac).2)∧DkW wb w g H D w' H' ((AR D s ac).1):=by
 have hal:=k.len;have hvm:vs.length≤maxLen:=by simp only[maxLen];omega
 refine gG (args:= [St (s), .slice (some ⟨rb,0,none⟩) vs.length vs.length]) Tryz.func89 rfl 21 rfl rfl ?_;have hE:=Ext.refl w;refine gS (YO LV rfl (gL (fun(ρ:Ad) (wz:AaS)=>∃i:Nat,∃Hi:Dk,∃Di:Ae,ρ 0=(St (s):AaR)∧ρ 1=(.slice (some ⟨rb,0,none⟩) vs.length vs.length:AaR)∧ρ 8=(.slice (some ⟨rb,0,none⟩) vs.length vs.length:AaR)∧ρ 9=(NI vs.length:AaR)∧ρ 10=(NI i:AaR)∧wz.heap[rb]? =some (.cells vs.toArray 101 (0,0))∧DkW wb w g H D wz Hi Di∧StpsAt wz g Hi Di.files.length vs ac∧(i≤ac.length)∧(AR D s ac=AR Di s (ac.drop i))∧(DBd (n+i) Di)∧True) (fun ρ _=>ac.length-(intOf (ρ 10)).toNat) ⟨0,H,D,rfl,rfl,rfl,rfl,rfl,hrb,Yy hD hE,k.ext hE,Abs _,rfl,hB,trivial⟩ ?_));clear hE;clear hrb;rintro p u ⟨i,Hi,Di,l,q,m,o,c,hrb,hW,hA,hi,hq,hBi,-⟩;have q10:=c;refine gS (XK (a:=(i:Nat)) (b:=(vs.length:Nat)) c o (AL _ _ _ _) ?_);refine cD rfl (fun f=> ?_) fun f=> ?_
 ·have hlt:i<ac.length:=by have h:=f;rw[hal]at h;exact h
  have hcell:vs[i]? =some (vs.getD i undef):=by rw[AaW,Aa2 (by rw[hal];exact hlt)];rfl
  refine gS (YU (i:=i) LV Sv m c (by rw[hal];exact hlt) (gS (XJ Sw rfl rfl (cellAt hrb hcell) ?_)));obtain⟨fi,bi,ci,hvi,hpl,hcl⟩:=TW hW.g (hBi.lt (by omega)) s (hA.at_ i hlt);refine gS (Aao hpl rfl hvi l hcl fun H2 v hW2=> ?_);have hW3:=hW.trans hW2;have hrb:=hW.g.box hW2.chg hrb (by decide) (by decide) (by decide) (by decide);have r:=hA.step hW.g hW2;refine gS (XK (a:=((CQ Di s (ac.getD i .sync)).2:Nat)) (b:=(0:Nat)) rfl rfl (AX _ _ _ _) ?_);refine cD rfl (fun j=> ?_) fun j=> ?_
  ·refine Bn rfl (vr (NI ((CQ Di s (ac.getD i .sync)).2)) rfl) ?_;have hV:AR D s ac=CQ Di s (ac.getD i .sync):=by rw[hq,LU hlt,E1,if_pos j]
   exact⟨H2,by rw[hV],by rw[hV];exact hW3⟩
  have hst:¬(CQ Di s (ac.getD i .sync)).2≠0:=j;have hq3:AR D s ac=AR (CQ Di s (ac.getD i .sync)).1 s (ac.drop (i+1)):=by rw[hq,LU hlt,E1,if_neg hst]
  have t:=hBi.step s (ac.getD i .sync) (hbs _ (AO .sync hlt));refine gS (XL (xv:=NI i) (yv:=NI 1) c rfl rfl (Ai _ _ _ (by omega)) (gK (Aby ⟨i+1,H2,(CQ Di s (ac.getD i .sync)).1,l,q,m,o,rfl,hrb,hW3,r,by omega,hq3,t,trivial⟩ ?_)));show ac.length-(intOf (NI ((i)+(1)))).toNat<ac.length-(intOf (p 10)).toNat;rw[q10];simp only[intOf,Aba];omega
 refine Bn rfl (vr (NI 0) rfl) ?_;have hie:i=ac.length:=by have h:=f;rw[hal]at h;omega
 have hV:AR D s ac=(Di,0):=by rw[hq,hie,List.drop_length];rfl
 exact⟨Hi,by rw[hV],by rw[hV];exact hW⟩
theorem Sz{E:Bs→Ent}{id:Bs}{s:HX}{e:Nat}(h:Db E id s = .error e):e=17∨e=6∨e=18∨e=2:=by
  unfold Db at h;split at h
  · cases h;exact .inl rfl
  · split at h
    · cases h;exact .inr (.inl rfl)
    · split at h
      · split at h
        · cases h
        · cases h;exact .inr (.inr (.inr rfl))
      · cases h;exact .inr (.inr (.inl rfl))
theorem Pc{E:Bs→Ent}{ids:List Bs}:∀ {n e:Nat},Dx E ids n = .error e→e=17∨e=6∨e=18∨e=2
  | 0,e,h=>by cases h
  | n+1,e,h=>by
    cases h1:Dx E ids n with
    | error a=>rw[Gx h1 1]at h;cases h;exact Pc h1
    | ok s=>rw[EY h1]at h;exact Sz h
theorem VP{b:Bs}{e:Nat}(h:Cu b = .error e):e=17∨e=6∨e=18∨e=2:=by
  unfold Cu at h;split at h
  · cases h;exact .inr (.inl rfl)
  · unfold I2 at h;split at h
    · split at h
      · unfold Hy at h;split at h
        · cases h;exact .inr (.inl rfl)
        · unfold Gz at h;split at h
          · cases h;exact .inr (.inl rfl)
          · unfold G5 at h;split at h
            · split at h
              · unfold Gy at h;split at h
                · cases h;exact Pc ‹_›
                · cases h
              · cases h;exact .inr (.inl rfl)
            · cases h;exact .inr (.inl rfl)
      · cases h;exact .inr (.inl rfl)
    · cases h;exact .inr (.inl rfl)
theorem VQ{b:Bs}{e:Nat}(h:BW b = .error e):e≠0:=by
  unfold BW at h;split at h
  · cases h;decide
  · split at h
    · cases h;decide
    · split at h
      · have:=VP h;omega
      · cases h;decide
structure WJ (ids : List Bs) (o : HX) : Prop where
  all:∀id∈ids,∃x d,o.O id=some (x,d)∧Sha.sum x=id∧x.length≤o.total
  any:∀id x,o.O id=some x→Sha.sum x.1=id∧x.1.length≤o.total∧id∈ids
  total:o.total≤4194304
theorem KI{E:Bs→Ent}{ids:List Bs}:∀ {n:Nat} {o:HX},n≤ids.length→Dx E ids n = .ok o→WJ (ids.take n) o
  | 0,o,_,h=>by
    cases h;exact⟨(fun id hid=>by simp at hid),(fun id x hx=>by cases hx),Abs _⟩
  | n+1,o,hn,h=>by
    cases h1:Dx E ids n with
    | error a=>rw[Gx h1 1]at h;cases h
    | ok s=>
      have ih:=KI (by omega) h1;rw[EY h1]at h;have ht:ids.take (n+1)=ids.take n++ [ids.getD n []]:=by
        rw[Abu (by omega),AaW,Aa2 (show n<ids.length by omega)];rfl
      cases hd:A6 E 50 (E (ids.getD n []))with
      | none=>rw[Kz hd]at h;cases h
      | some d=>
        cases hc:BL E (d+1) (ids.getD n [])with
        | none=>rw[LL hd hc]at h;cases h
        | some x=>
          rw[EX (b:=x.1) (k:=x.2) hd hc]at h;split at h
          · split at h
            · cases h
              rename_i hs hle
              refine⟨fun id hid=> ?_,fun id y hy=> ?_,hle⟩
              · rw[ht]at hid;by_cases e:id=ids.getD n []
                · exact⟨x.1,d,by show updM s.O _ _ id=_;unfold updM;rw[if_pos e],by rw[e];exact hs,by dsimp only;omega⟩
                · obtain⟨y,d',k1,k2,k3⟩:=ih.all id (by
                    rcases Abk.1 hid with q | q
                    · exact q
                    · exact absurd (Aa6.1 q) e)
                  exact⟨y,d',by show updM s.O _ _ id=_;unfold updM;rw[if_neg e];exact k1,k2,by dsimp only;omega⟩
              · have hy' :updM s.O (ids.getD n []) (some (x.1,d)) id=some y:=hy;unfold updM at hy';rw[ht];split at hy'
                · cases hy'
                  rename_i e
                  exact⟨by rw[e];exact hs,by dsimp only;omega,by rw[e];simp⟩
                · obtain⟨k1,k2,k3⟩:=ih.any id y hy';exact⟨k1,by dsimp only;omega,by simp[k3]⟩
            · cases h
          · cases h
structure NL (b : Bs) (p : AZ) : Prop where
  len:p.1.length≤b.length
  l32:∀id∈p.1,id.length=32
  all:∀id∈p.1,∃x d,p.2 id=some (x,d)∧Sha.sum x=id∧x.length≤4194304
  any:∀id x,p.2 id=some x→Sha.sum x.1=id∧x.1.length≤4194304∧id∈p.1
theorem QD{b:Bs}{p:AZ}(h36:36≤b.length)(h:Cu b = .ok p):NL b p:=by
  unfold Cu at h;split at h
  · cases h
  · rename_i x hx
    unfold I2 at h;split at h
    · rename_i hc
      split at h
      · rename_i hn
        unfold Hy at h;split at h
        · cases h
        · rename_i es hes
          have hel:=Iw hes (by omega);unfold Gz at h;split at h
          · cases h
          · rename_i s hs
            have hi:=I1 _ _ hs;unfold G5 at h;split at h
            · split at h
              · unfold Gy at h;split at h
                · cases h
                · rename_i o ho
                  cases h;have hg:=KI (AaX _) ho;rw[Acy]at hg;refine⟨?_,fun id hid=> ?_,fun id hid=> ?_,fun id y hy=> ?_⟩
                  · show s.ids.length≤_;rw[hi.len,hel.1];omega
                  · obtain⟨j,hj,rfl⟩:=hi.ids id hid;refine rowId_len (n:=x.1) ?_ (by rw[hel.1]at hj;exact hj);rw[Abg,Abf];omega
                  · obtain⟨y,d,k1,k2,k3⟩:=hg.all id hid;exact⟨y,d,k1,k2,AaV k3 hg.total⟩
                  · obtain⟨k1,k2,k3⟩:=hg.any id y hy;exact⟨k1,AaV k2 hg.total,k3⟩
              · cases h
            · cases h
      · cases h
    · cases h
theorem QE{b:Bs}{p:AZ}(h:BW b = .ok p):NL b p:=by
  unfold BW at h;split at h
  · cases h
  · split at h
    · cases h
    · split at h
      · exact QD (by omega) h
      · cases h
end Go.Proofs.YtfpekahfdalfkaaGreatDoor
