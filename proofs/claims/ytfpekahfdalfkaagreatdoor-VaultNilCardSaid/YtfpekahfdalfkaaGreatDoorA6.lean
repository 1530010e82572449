/- Part 6 of what stands behind these statements: laws and walks of the functions that are reached. Conditions: those that each theorem names. -/
import Derived.Test.YtfpekahfdalfkaaGreatDoorA5
set_option linter.unusedVariables false
set_option linter.unusedSimpArgs false
namespace Go.Proofs.YtfpekahfdalfkaaGreatDoor
open _root_.Go renaming World → AaS, Value → AaR, Program → Abo, TypeId → AaZ, Edge → AbP, Operand → Aa5, binOp → Abt
open _root_.Go.Instr renaming buildSlice → Abz, build → AcJ
open _root_.List renaming map_toArray → Abx, map_cons → Abv, map_nil → AbG, length_replicate → Abc, toArray → Acn, replicate → Aa4, getD_eq_getElem?_getD → AaW, mem_of_getElem? → Ab0, length_append → AaY, mem_append → Abk, mem_singleton → Aa6, mem_cons_self → AbZ, flatMap_cons → AbW, getElem?_append_left → AbN, getElem?_eq_getElem → Aa2, eq_nil_of_length_eq_zero → AbC, getElem?_eq_some_iff → Abn, mem_map_of_mem → Aer, mem_cons → AbF, lookup_cons → Acq, mem_cons_of_mem → Ab1, pairwise_cons → AbY, mem_map → AbD, size_toArray → Abe, append_toArray → Ac4, cons_append → AbS, nil_append → AbV, all_eq_true → AbE, pairwise_iff_getElem → Acs, mem_iff_getElem → Aeg, length_take → Abg, getElem_take → AeP, take_succ_eq_append_getElem → Abu, pairwise_append → Acd, length_cons → Abp, length_nil → Abw, take_length → Acy, length_drop → Abf, length_map → Abh, getElem?_map → AcB, getElem_mem → Acp, filter_append → AeB, filter_cons_of_pos → AeM, filter_cons_of_neg → AeL, length_filter_le → AcH, length_singleton → Abj, mem_filter → Acw, getElem_of_mem → Aco, filterMap_cons → Afh, filterMap_append → Agn, append_nil → AcK, nodup_iff_pairwise_ne → AfA, mem_or_eq_of_mem_set → AdD, drop_eq_getElem_cons → Ab8, mergeSort_of_pairwise → Afy, mem_filterMap → Adn, take_append_drop → Ad8, findSome?_cons → Afi, take_append → AfV, take_of_length_le → AbK, drop_append → AeX, drop_of_length_le → Ab4, append_assoc → Abr, drop_left → AcP, take_left → Ada, getElem?_append_right → AbH, map_append → Acj, nodup_append → Ac0, getElem?_cons_zero → Adh, zip_cons_cons → AcX, getElem?_cons_succ → Acr, nodup_cons → Ac2, drop_succ_cons → AdN, getElem?_take → AcV, getElem?_zip_eq_some → Aeu, drop_zero → Adk, length → AeR, not_mem_nil → AcN, getElem_map → Aeh, map_map → AdK
open _root_.Go.Sem renaming run_bind → Aa7, run_pure → Abb
open _root_.Go.Result renaming andThen_ok → Aa3
open _root_.Go.RowKit.Below renaming refl → AbJ
open _root_.Nat renaming le_refl → AaX, le_trans → AaV, zero_le → Abs, lt_of_lt_of_le → AbL, mul_comm → AfS, min_le_left → Ae8, le_add_right → Ac8, lt_of_le_of_lt → AeA, add_assoc → Ac5, sub_self → AcD, add_comm → AeD, not_lt_zero → Acx
open _root_.Go.Proofs.Tryz renaming prog → AaU, underlying3 → Af0, isAgg3 → Ag3, sizeOf3 → AgY, zeroValue3 → Af9, underlying5 → AdJ, isAgg5 → Ag4, sizeOf5 → AgZ, zeroValue5 → Aga, underlying9 → Adl, isAgg9 → Aeq, sizeOf9 → Aeb, zeroValue9 → Ads, underlying0 → Aek, isAgg0 → Afr, sizeOf0 → Afa, zeroValue0 → Aet, underlying4 → Aej, isAgg4 → Agf, sizeOf4 → AfY, zeroValue4 → Ae9, underlying111 → Afs, isAgg111 → AgB, sizeOf111 → Agm, zeroValue111 → AfE
open _root_.Go.Value renaming ownBlock → Aa1, slice → Aa0, int → AcM, bool → AbA
open _root_.Go.Lib renaming byteCells → AaT, indexByte → Afz, byteCells_length → Aa8, compareBytes → Abl, uvarint → Abd
open _root_.Int renaming emod → Ady, tmod → Ac9, toNat_natCast → Aba, natCast_nonneg → AdX
open _root_.Bool renaming or_eq_true → Adf, eq_false_or_eq_true → Af1
open _root_.Prod renaming fst → Abq
open _root_.Go.World renaming block_lt_of_cell? → Ach, cell? → Ade, ownsRow_nil → AbO
open _root_.Go.Addr renaming add → AcU
open _root_.Array renaming getElem?_eq_some_iff → Abm
open _root_.Go.Op renaming bytesLess → Ab2
open _root_.Option.some renaming inj → AbB, injEq → AcA
open _root_.Option renaming isSome_iff_exists → AeH, getD_some → AbR, map_some → Aca
open _root_.Go.Shelf renaming Ren → Aea
open _root_.UInt8 renaming ofNat → AbQ
open _root_.And renaming intro → Aby
open _root_.Classical renaming not_not → AeO
open _root_.List.Pairwise renaming nil → AcQ
open _root_.Go.Proofs.SlLaysZ renaming n7 → Agv
open _root_.Go.Fence renaming wide → AdZ
open _root_.Decidable renaming not_not → Adz, byContradiction → AfJ
open _root_.Exists renaming elim → AcL
open Go.RowKit
set_option maxRecDepth 100000
theorem stps1{w:AaS}{g n:Nat}{H:Dk}{v:AaR}{a:Stp}(h:StpAt w g H n v a):StpsAt w g H n [v] [a]:=⟨rfl,fun i hi=>by
 have:i=0:=by simp at hi;omega
 subst this;exact h⟩
theorem Xj{w:AaS}{g n:Nat}{H:Dk}{v b:AaR}{a a2:Stp}(h:StpAt w g H n v a)(h2:StpAt w g H n b a2):StpsAt w g H n [v,b] [a,a2]:=⟨rfl,fun i hi=>by
 match i,hi with
 | 0,_=>exact h
 | 1,_=>exact h2⟩
theorem Xk{w:AaS}{g n:Nat}{H:Dk}{v b c:AaR}{a a2 a3:Stp}(h:StpAt w g H n v a)(h2:StpAt w g H n b a2)(h3:StpAt w g H n c a3):StpsAt w g H n [v,b,c] [a,a2,a3]:=⟨rfl,fun i hi=>by
 match i,hi with
 | 0,_=>exact h
 | 1,_=>exact h2
 | 2,_=>exact h3⟩
section
variable {P : Abo} {K : AaR → AaS → Prop} {ρ : Ad} {w : AaS} {d : Option Tmp} {ty : AaZ} {pos : String} {af : Array AbP} {gd : Option (Nat × Bool)}
theorem Aax{t e:AaZ}{x0:Aa5}{a:AaR}(h0:Aa ρ x0=a)(hr:∀w:AaS,(Abz t 1 #[(0,a)]).run P w = .ok (.slice (some ⟨w.heap.size,0,none⟩) 1 1) (w.alloc (.cells #[a] e))) 
  (hk:∀n w',w.heap.size=n→w'.heap[n]? =some (.cells ([a]).toArray e (0,0))→Ext w w' →w'.heap.size=n+1→K (.slice (some ⟨n,0,none⟩) 1 1) w'):Yk P K ((execOp (Aa ρ) ⟨d, .buildSlice t 1 #[(0,x0)],ty,pos,af,gd⟩).run P w):=by
 have hr' :(execOp (Aa ρ) ⟨d, .buildSlice t 1 #[(0,x0)],ty,pos,af,gd⟩).run P w = .ok (.value (.slice (some ⟨w.heap.size,0,none⟩) 1 1)) (w.alloc (.cells #[a] e)):=by
  unfold execOp;simp only[Abx,Abv,AbG,h0,Aa7,hr,Aa3,Abb]
 rw[hr'];exact hk _ _ rfl (heap_alloc_new w _) ((AbJ _ _).alloc (AaX _) _) (by simp)
theorem Aay{t e:AaZ}{x0 x1:Aa5}{a b:AaR}(h0:Aa ρ x0=a)(h1:Aa ρ x1=b)(hr:∀w:AaS,(Abz t 2 #[(0,a),(1,b)]).run P w = .ok (.slice (some ⟨w.heap.size,0,none⟩) 2 2) (w.alloc (.cells #[a,b] e))) 
  (hk:∀n w',w.heap.size=n→w'.heap[n]? =some (.cells ([a,b]).toArray e (0,0))→Ext w w' →w'.heap.size=n+1→K (.slice (some ⟨n,0,none⟩) 2 2) w'):Yk P K ((execOp (Aa ρ) ⟨d, .buildSlice t 2 #[(0,x0),(1,x1)],ty,pos,af,gd⟩).run P w):=by
 have hr' :(execOp (Aa ρ) ⟨d, .buildSlice t 2 #[(0,x0),(1,x1)],ty,pos,af,gd⟩).run P w = .ok (.value (.slice (some ⟨w.heap.size,0,none⟩) 2 2)) (w.alloc (.cells #[a,b] e)):=by
  unfold execOp;simp only[Abx,Abv,AbG,h0,h1,Aa7,hr,Aa3,Abb]
 rw[hr'];exact hk _ _ rfl (heap_alloc_new w _) ((AbJ _ _).alloc (AaX _) _) (by simp)
theorem Aaz{t e:AaZ}{x0 x1 x2:Aa5}{a b c:AaR}(h0:Aa ρ x0=a)(h1:Aa ρ x1=b)(h2:Aa ρ x2=c)(hr:∀w:AaS,(Abz t 3 #[(0,a),(1,b),(2,c)]).run P w = .ok (.slice (some ⟨w.heap.size,0,none⟩) 3 3) (w.alloc (.cells #[a,b,c] e))) 
  (hk:∀n w',w.heap.size=n→w'.heap[n]? =some (.cells ([a,b,c]).toArray e (0,0))→Ext w w' →w'.heap.size=n+1→K (.slice (some ⟨n,0,none⟩) 3 3) w'):Yk P K ((execOp (Aa ρ) ⟨d, .buildSlice t 3 #[(0,x0),(1,x1),(2,x2)],ty,pos,af,gd⟩).run P w):=by
 have hr' :(execOp (Aa ρ) ⟨d, .buildSlice t 3 #[(0,x0),(1,x1),(2,x2)],ty,pos,af,gd⟩).run P w = .ok (.value (.slice (some ⟨w.heap.size,0,none⟩) 3 3)) (w.alloc (.cells #[a,b,c] e)):=by
  unfold execOp;simp only[Abx,Abv,AbG,h0,h1,h2,Aa7,hr,Aa3,Abb]
 rw[hr'];exact hk _ _ rfl (heap_alloc_new w _) ((AbJ _ _).alloc (AaX _) _) (by simp)
end
theorem Gi(w:AaS)(hG:Laid w)(v:AaR)(l:List UInt8)(h:RBs w v [l])(hl:l.length≤1099511627776):
  Calls AaU 45 #[v] w fun e w' =>e = .returned (AB (Sha.sum l))∧Ext w w' :=by
 have:=O6 w hG v [l] h (by simp;omega) (by simp)
 simpa using this
theorem TX:Plain AaU 86:=fun _ _=>by kernel_rfl
theorem TY:Plain AaU 42:=fun _ _=>by kernel_rfl
theorem VR(f0:Fn)(a0 c0:Array AaR)(f1:Fn)(a1 c1:Array AaR)(w:AaS):(Abz 231 2 #[(0, .func f0 a0 c0),(1, .func f1 a1 c1)]).run AaU w = .ok (.slice (some ⟨w.heap.size,0,none⟩) 2 2) (w.alloc (.cells #[.func f0 a0 c0, .func f1 a1 c1] 101)):=by kernel_rfl
theorem JS:Plain AaU 89:=fun _ _=>by kernel_rfl
theorem VS(f0:Fn)(a0 c0:Array AaR)(w:AaS):(Abz 231 1 #[(0, .func f0 a0 c0)]).run AaU w = .ok (.slice (some ⟨w.heap.size,0,none⟩) 1 1) (w.alloc (.cells #[.func f0 a0 c0] 101)):=by kernel_rfl
theorem VT(f0:Fn)(a0 c0:Array AaR)(f1:Fn)(a1 c1:Array AaR)(f2:Fn)(a2 c2:Array AaR)(w:AaS):(Abz 231 3 #[(0, .func f0 a0 c0),(1, .func f1 a1 c1),(2, .func f2 a2 c2)]).run AaU w = .ok (.slice (some ⟨w.heap.size,0,none⟩) 3 3) (w.alloc (.cells #[.func f0 a0 c0, .func f1 a1 c1, .func f2 a2 c2] 101)):=by kernel_rfl
set_option maxHeartbeats 1600000
theorem VU(wb w:AaS)(g:Nat)(H:Dk)(D:Ae)(hD:DkG wb w g H D)(hG:Laid wb)(vb:AaR)(b:List UInt8)(hr:RB w vb b)(hoff:b= []∨∀i,vb.ownBlock=some i→¬B2 H D.files.length i)(hbl:b.length≤300)(n:Nat)(hB:DBd n D)(hn:n≤99000):
  Calls AaU 47 #[PQ g 0,vb] w fun e w' =>∃H' vo,e = .returned (.tuple #[AB ((BO D b).2.1),vo,NI (BO D b).2.2.2])∧RB w' vo (BO D b).2.2.1∧DkW wb w g H D w' H' (BO D b).1∧∀k,Aa1 vo=some k→w.heap.size≤k:=by
 refine gG (args:= [PQ g 0,vb]) Tryz.func47 rfl 70 rfl rfl ?_;have hE:=Ext.refl w;refine gS (Yz (vr (PQ g 0) rfl) rfl fun p w3 cg ax bi ch=> ?_);have j:=ax;clear ax;have ci:p<w3.heap.size:=by omega
 have hE:=hE.trans bi;refine gS (Yz (vr vb rfl) (RB.one (hr.keep hE)).1 fun q bj cj ay az ck=> ?_);have t:=Ext.refl w3;have cl:=hE.size;have f:=ay;clear ay;have cm:q<bj.heap.size:=by omega
 refine gS (Yk.alloc Tf fun o a0 bk a1 aj cn=> ?_);have hE:=hE.trans az;have t:=t.trans az;have bm:=hE.size;have c:=a1;clear a1;have co:o<a0.heap.size:=by omega
 have hE:=hE.trans aj;have hW:DkW wb w g H D a0 H D:=Yy hD hE;have hwb:=hD.ext.size;have hrl:=HF (hB.lt (by omega)) (nmO (Sha.sum b));have cp:=Ar (bl f) bk;have f:=eb aj f;refine gS (XJ F5 rfl rfl (cellAt f rfl) (gS (XS F5 (XP (hr.keep hE) rfl) (gS (XK (a:=(b.length:Nat)) (b:=(262144:Nat)) rfl rfl (Bj _ _ _ _) (kF (by omega) (cF rfl (gS (XJ F5 rfl rfl (cellAt f rfl) (gS (Yu F8 (XP (hr.keep hE) (vr vb rfl)) fun bn bo a2 ak=> ?_)))))))))));have hW:DkW wb w g H (D) bo H (D):=(hW.keep ak);refine gS (XQ JG rfl ((Gi _ (hG.keep (hW).g.ext) bn b a2 (by omega)).mono ?_));rintro e bp ⟨rfl,al⟩;refine⟨_,rfl,?_⟩;have hW:DkW wb w g H (D) bp H (D):=(hW.keep al);have hZ1:=ak.trans al;have c:=eb hZ1 c;refine gS (XN (vr (PQ o 0) rfl) (vr (AB (Sha.sum b)) rfl) c (by exact Bv (Sha.sum_length _) Abc) (by exact Ac (Sha.sum_length _)) (Af _) fun bq a3 ad cq=> ?_);have hW:DkW wb w g H (D) bq H (D):=DkW.setT hW ad c (by omega) (by decide) (by decide) (by decide) (by decide) (by decide) (by decide) hwb;clear a2;clear c;have c:=a3;clear a3;have cr:=bl c;refine gS (XO rfl c UY rfl (by exact Ac (Sha.sum_length _)) (gS (XQ TX rfl ((NK _ (Sha.sum b) (Sha.sum_length _)).mono ?_))));rintro e br ⟨rfl,ac⟩;refine⟨_,rfl,?_⟩;have hW:DkW wb w g H (D) br H (D):=(hW.keep ac);have bs:=t.size;have hZ2:=(aj.trans ak).trans al;have t:=t.trans hZ2;have t:=Ab t ad (AaV bs (by omega));have t:=t.trans ac;have j:=eb t j;refine gS (Ys (vs:= #[PQ p 0,PQ q 0]) (by simp only[Abx,Abv,AbG];exact congrArg Acn (FI (vr (PQ p 0) rfl) (vr (PQ q 0) rfl))) (gS (XJ TB rfl rfl (cellAt j rfl) ?_)));have hE:=hE.trans hZ1;have hE:=Ab hE ad (AaV bm (by omega));have hE:=hE.trans ac;have hszr_:=(hE).size;refine gS (XM TY rfl rfl (((hW).g.read (nmO (Sha.sum b)) (hB.lt (by omega))).mono ?_));rintro e bt ⟨x,rfl,am,u⟩;refine⟨_,rfl,?_⟩;have f:=eb hZ1 f;have f:=kb ad f (by omega);have f:=eb ac f;have c:=eb ac c;have bu:OB x o:=EK am (bl c);have hW:DkW wb w g H (D) bt H (D):=(hW.keep u);have hvnew:∀k,Aa1 x=some k→w.heap.size≤k:=fun k hk=>AaV hszr_ (am.lt k hk).1;have r:=X3 am;refine gS (Yk.extract (vs:= [x,NI ((An D (nmO (Sha.sum b))).2)]) rfl rfl (gS (Yk.extract (vs:= [x,NI ((An D (nmO (Sha.sum b))).2)]) rfl rfl (gS (XK (a:=((An D (nmO (Sha.sum b))).2:Nat)) (b:=(4:Nat)) rfl rfl (AA _ _ _ _) ?_)))));refine cD rfl (fun y=> ?_) fun y=> ?_
 ·have hV:BO D b=DC (AR D (nmO (Sha.sum b)) [.add b, .sync]) (Sha.sum b):=by unfold BO;rw[if_pos y]
  have j:=eb u j;refine gS (XJ TB rfl rfl (cellAt j rfl) (gS (YK (vr (PQ g 0) rfl) (gS (Aay (vr (.func (.func 87) #[] #[PQ p 0,PQ q 0]) rfl) (vr (.func (.func 90) #[PQ g 0] #[]) rfl) (fun w=>VR _ _ _ _ _ _ w) fun b66 bv cs a4 an ct=> ?_)))));have hW:DkW wb w g H (D) bv H (D):=(hW.keep an);have hWc:=hW;have hZ3:=u.trans an;have hE:=hE.trans hZ3;have f:=eb hZ3 f;have j:=eb an j;refine gS (XM JS rfl rfl ((JR wb _ g H D hWc.g (nmO (Sha.sum b)) b66 [.func (.func 87) #[] #[PQ p 0,PQ q 0], .func (.func 90) #[PQ g 0] #[]] [.add b, .sync] a4 (Xj (show StpAt _ _ _ _ _ (.add b)from⟨p,q,vb,rfl,j,f,(hr.keep hE),hoff,hbl⟩) (show StpAt _ _ _ _ _ (.sync)from rfl)) n hB (by simp;omega) (by simp[hbl])).mono ?_));rintro e ao ⟨H72,rfl,hW73⟩;refine⟨_,rfl,?_⟩;have hWn:=hWc.trans hW73;have j:ao.heap[p]? =some (.cells (([PQ g 0]:List AaR)).toArray 50 (0,0)):=DkG.box hWc.g hW73.chg j (by decide) (by decide) (by decide) (by decide);have f:ao.heap[q]? =some (.cells (([vb]:List AaR)).toArray 27 (0,0)):=DkG.box hWc.g hW73.chg f (by decide) (by decide) (by decide) (by decide);have c:=eb hZ3 c;have c:ao.heap[o]? =some (.cells (AaT (Sha.sum b)).toArray 33 (0,0)):=DkG.box hWc.g hW73.chg c (by decide) (by decide) (by decide) (by decide);clear hE;clear hW;clear r;clear a4;have hW:=hWn;refine gS (XK (a:=((AR D (nmO (Sha.sum b)) [.add b, .sync]).2:Nat)) (b:=(0:Nat)) rfl rfl (AX _ _ _ _) ?_);refine cD rfl (fun s=> ?_) fun s=> ?_
  ·refine gS (Yk.run (v:=AB (Aa4 32 0)) (by kernel_rfl) (gS (XN (vr (PQ o 0) rfl) (vr (AB (Aa4 32 0)) rfl) c (by exact Bv Abc (Sha.sum_length _)) (by exact Ac Abc) (Af _) fun bw a5 bx cu=> ?_)));have hW:DkW wb w g H (D) bw H72 ((AR D (nmO (Sha.sum b)) [.add b, .sync]).1):=DkW.setT hW bx c (by omega) (by decide) (by decide) (by decide) (by decide) (by decide) (by decide) hwb;clear c;have c:=a5;clear a5;have cv:=bl c;refine HQ rfl (ResF.row rfl c UY rfl (by exact Ac Abc)) (vr (Aa0 none 0 0) rfl) (vr (NI ((AR D (nmO (Sha.sum b)) [.add b, .sync]).2)) rfl) ?_;have hF:DC (AR D (nmO (Sha.sum b)) [.add b, .sync]) (Sha.sum b)=((AR D (nmO (Sha.sum b)) [.add b, .sync]).1,En,[],(AR D (nmO (Sha.sum b)) [.add b, .sync]).2):=if_pos s;exact⟨H72,_,by rw[hV,hF];rfl,by rw[hV,hF];exact RB.nil _,by rw[hV,hF];exact hW,fun k h=>by cases h⟩
  refine gS (XO rfl c UY rfl (by exact Ac (Sha.sum_length _)) (gS (XN (vr (PQ o 0) rfl) (vr (AB (Sha.sum b)) rfl) c (by exact Bv (Sha.sum_length _) (Sha.sum_length _)) (by exact Ac (Sha.sum_length _)) (Af _) fun bz a6 b0 cw=> ?_)));have hW:DkW wb w g H (D) bz H72 ((AR D (nmO (Sha.sum b)) [.add b, .sync]).1):=DkW.setT hW b0 c (by omega) (by decide) (by decide) (by decide) (by decide) (by decide) (by decide) hwb;clear c;have c:=a6;clear a6;have cx:=bl c;refine HQ rfl (ResF.row rfl c UY rfl (by exact Ac (Sha.sum_length _))) (vr (Aa0 none 0 0) rfl) (vr (NI 0) rfl) ?_;have hF:DC (AR D (nmO (Sha.sum b)) [.add b, .sync]) (Sha.sum b)=((AR D (nmO (Sha.sum b)) [.add b, .sync]).1,(Sha.sum b),[],0):=if_neg s;exact⟨H72,_,by rw[hV,hF],by rw[hV,hF];exact RB.nil _,by rw[hV,hF];exact hW,fun k h=>by cases h⟩
 refine gS (XK (a:=((An D (nmO (Sha.sum b))).2:Nat)) (b:=(0:Nat)) rfl rfl (AX _ _ _ _) ?_);refine cD rfl (fun z=> ?_) fun z=> ?_
 ·have hV:BO D b=(D,En,[],(An D (nmO (Sha.sum b))).2):=by unfold BO;rw[if_neg y,if_pos z]
  have c:=eb u c;refine gS (XK (a:=((An D (nmO (Sha.sum b))).2:Nat)) (b:=(0:Nat)) rfl rfl (AX _ _ _ _) (kT (z) (cT rfl (gS (Yk.run (v:=AB (Aa4 32 0)) (by kernel_rfl) (gS (XN (vr (PQ o 0) rfl) (vr (AB (Aa4 32 0)) rfl) c (by exact Bv Abc (Sha.sum_length _)) (by exact Ac Abc) (Af _) fun b1 a7 b2 cy=> ?_)))))));have hW:DkW wb w g H (D) b1 H (D):=DkW.setT hW b2 c (by omega) (by decide) (by decide) (by decide) (by decide) (by decide) (by decide) hwb;clear c;have c:=a7;clear a7;have cz:=bl c;refine HQ rfl (ResF.row rfl c UY rfl (by exact Ac Abc)) (vr (Aa0 none 0 0) rfl) (vr (NI ((An D (nmO (Sha.sum b))).2)) rfl) ?_;exact⟨H,_,by rw[hV];rfl,by rw[hV];exact RB.nil _,by rw[hV];exact hW,fun k h=>by cases h⟩
 have hE:=hE.trans u;have f:=eb u f;refine gS (Yh F5 u5 O7 (XP r rfl) (gS (XJ F5 rfl rfl (cellAt f rfl) (gS (Yh F5 u5 O7 (XP (hr.keep hE) rfl) (gS (YE (l:=(An D (nmO (Sha.sum b))).1) (m:=b) (.inl rfl) rfl rfl (decide ((An D (nmO (Sha.sum b))).1=b)) rfl ?_)))))));refine cD rfl (fun ae=> ?_) fun ae=> ?_
 ·have hV:BO D b=DC (AR D (nmO (Sha.sum b)) [.sync]) (Sha.sum b):=by unfold BO;rw[if_neg y,if_neg z,if_pos ae]
  have j:=eb u j;refine gS (XJ TB rfl rfl (cellAt j rfl) (gS (YK (vr (PQ g 0) rfl) (gS (Aax (vr (.func (.func 90) #[PQ g 0] #[]) rfl) (fun w=>VS _ _ _ w) fun b99 b3 c0 a8 af c1=> ?_)))));have hW:DkW wb w g H (D) b3 H (D):=(hW.keep af);have hWc:=hW;refine gS (XM JS rfl rfl ((JR wb _ g H D hWc.g (nmO (Sha.sum b)) b99 [.func (.func 90) #[PQ g 0] #[]] [.sync] a8 (stps1 (show StpAt _ _ _ _ _ (.sync)from rfl)) n hB (by simp;omega) (by simp[hbl])).mono ?_));rintro e ap ⟨H105,rfl,hW106⟩;refine⟨_,rfl,?_⟩;have hWn:=hWc.trans hW106;have j:=eb af j;have j:ap.heap[p]? =some (.cells (([PQ g 0]:List AaR)).toArray 50 (0,0)):=DkG.box hWc.g hW106.chg j (by decide) (by decide) (by decide) (by decide);have f:=eb af f;have f:ap.heap[q]? =some (.cells (([vb]:List AaR)).toArray 27 (0,0)):=DkG.box hWc.g hW106.chg f (by decide) (by decide) (by decide) (by decide);have hZ4:=u.trans af;have c:=eb hZ4 c;have c:ap.heap[o]? =some (.cells (AaT (Sha.sum b)).toArray 33 (0,0)):=DkG.box hWc.g hW106.chg c (by decide) (by decide) (by decide) (by decide);clear hE;clear hW;clear r;clear a8;have hW:=hWn;refine gS (XK (a:=((AR D (nmO (Sha.sum b)) [.sync]).2:Nat)) (b:=(0:Nat)) rfl rfl (AX _ _ _ _) ?_);refine cD rfl (fun s=> ?_) fun s=> ?_
  ·refine gS (Yk.run (v:=AB (Aa4 32 0)) (by kernel_rfl) (gS (XN (vr (PQ o 0) rfl) (vr (AB (Aa4 32 0)) rfl) c (by exact Bv Abc (Sha.sum_length _)) (by exact Ac Abc) (Af _) fun b4 a9 b5 c2=> ?_)));have hW:DkW wb w g H (D) b4 H105 ((AR D (nmO (Sha.sum b)) [.sync]).1):=DkW.setT hW b5 c (by omega) (by decide) (by decide) (by decide) (by decide) (by decide) (by decide) hwb;clear c;have c:=a9;clear a9;have c3:=bl c;refine HQ rfl (ResF.row rfl c UY rfl (by exact Ac Abc)) (vr (Aa0 none 0 0) rfl) (vr (NI ((AR D (nmO (Sha.sum b)) [.sync]).2)) rfl) ?_;have hF:DC (AR D (nmO (Sha.sum b)) [.sync]) (Sha.sum b)=((AR D (nmO (Sha.sum b)) [.sync]).1,En,[],(AR D (nmO (Sha.sum b)) [.sync]).2):=if_pos s;exact⟨H105,_,by rw[hV,hF];rfl,by rw[hV,hF];exact RB.nil _,by rw[hV,hF];exact hW,fun k h=>by cases h⟩
  refine gS (XO rfl c UY rfl (by exact Ac (Sha.sum_length _)) (gS (XN (vr (PQ o 0) rfl) (vr (AB (Sha.sum b)) rfl) c (by exact Bv (Sha.sum_length _) (Sha.sum_length _)) (by exact Ac (Sha.sum_length _)) (Af _) fun b6 ba b7 c4=> ?_)));have hW:DkW wb w g H (D) b6 H105 ((AR D (nmO (Sha.sum b)) [.sync]).1):=DkW.setT hW b7 c (by omega) (by decide) (by decide) (by decide) (by decide) (by decide) (by decide) hwb;clear c;have c:=ba;clear ba;have c5:=bl c;refine HQ rfl (ResF.row rfl c UY rfl (by exact Ac (Sha.sum_length _))) (vr (Aa0 none 0 0) rfl) (vr (NI 0) rfl) ?_;have hF:DC (AR D (nmO (Sha.sum b)) [.sync]) (Sha.sum b)=((AR D (nmO (Sha.sum b)) [.sync]).1,(Sha.sum b),[],0):=if_neg s;exact⟨H105,_,by rw[hV,hF],by rw[hV,hF];exact RB.nil _,by rw[hV,hF];exact hW,fun k h=>by cases h⟩
 refine DV [0,3,1,2,4,5] [1,2] [] [3] fun bb ag=> ?_;have hW:DkW wb w g H (D) bb H (D):=(hW.keep ag);have ah:=Ext.refl bb;have hZ5:=u.trans ag;have c:=eb hZ5 c;have r:=r.keep ag;refine DQ ah ?_;refine yf (fun _ ⟨hZ,_⟩=>XO rfl (eb hZ c) UY rfl (by exact Ac (Sha.sum_length _)) zz) (yE (Yu F8 (XP r (vr x rfl)) fun b8 bc aq aa=> ?_));have hW:DkW wb w g H (D) bc H (D):=(hW.keep aa);have ah:=ah.trans aa;refine⟨ah,?_⟩;have ar:=Ext.refl bc;refine yE (XQ JG rfl ((Gi _ (hG.keep (hW).g.ext) b8 ((An D (nmO (Sha.sum b))).1) aq (by omega)).mono ?_));rintro e b9 ⟨rfl,ab⟩;refine⟨_,rfl,?_⟩;have hW:DkW wb w g H (D) b9 H (D):=(hW.keep ab);have ar:=ar.trans ab;refine⟨ar,?_⟩;refine ys (Zw (l1:=(Sha.sum ((An D (nmO (Sha.sum b))).1))) (l2:=(Sha.sum b)) UY u5 PG R3 rfl rfl ((Sha.sum_length _)) ((Sha.sum_length _)) zz) ?_;refine cD rfl (fun au=> ?_) fun au=> ?_
 ·have hV:BO D b=(D,(Sha.sum b),(An D (nmO (Sha.sum b))).1,7):=by unfold BO;rw[if_neg y,if_neg z,if_neg ae,if_pos au]
  have hZ6:=aa.trans ab;have c:=eb hZ6 c;refine gS (XO rfl c UY rfl (by exact Ac (Sha.sum_length _)) (gS (XN (vr (PQ o 0) rfl) (vr (AB (Sha.sum b)) rfl) c (by exact Bv (Sha.sum_length _) (Sha.sum_length _)) (by exact Ac (Sha.sum_length _)) (Af _) fun ca bd be c6=> ?_)));have hW:DkW wb w g H (D) ca H (D):=DkW.setT hW be c (by omega) (by decide) (by decide) (by decide) (by decide) (by decide) (by decide) hwb;clear aq;clear c;have c:=bd;clear bd;have c7:=bl c;refine HQ rfl (ResF.row rfl c UY rfl (by exact Ac (Sha.sum_length _))) (vr x rfl) (vr (NI 7) rfl) ?_;have r:=r.keep hZ6;have r:=RB.kept r be (.inr bu);exact⟨H,_,by rw[hV],by rw[hV];exact r,by rw[hV];exact hW,hvnew⟩
 have hV:BO D b=DC (AR D (nmO (Sha.sum b)) [.rem, .add b, .sync]) (Sha.sum b):=by unfold BO;rw[if_neg y,if_neg z,if_neg ae,if_neg au]
 have hZ7:=(hZ5.trans aa).trans ab;have j:=eb hZ7 j;refine gS (XJ TB rfl rfl (cellAt j rfl) (gS (YK (vr (PQ g 0) rfl) (gS (XJ TB rfl rfl (cellAt j rfl) (gS (YK (vr (PQ g 0) rfl) (gS (Aaz (vr (.func (.func 52) #[PQ g 0] #[]) rfl) (vr (.func (.func 87) #[] #[PQ p 0,PQ q 0]) rfl) (vr (.func (.func 90) #[PQ g 0] #[]) rfl) (fun w=>VT _ _ _ _ _ _ _ _ _ w) fun b140 cb c8 bf ai c9=> ?_)))))))));have hW:DkW wb w g H (D) cb H (D):=(hW.keep ai);have hWc:=hW;have hZ8:=((ag.trans aa).trans ab).trans ai;have hE:=hE.trans hZ8;have f:=eb hZ8 f;have j:=eb ai j;refine gS (XM JS rfl rfl ((JR wb _ g H D hWc.g (nmO (Sha.sum b)) b140 [.func (.func 52) #[PQ g 0] #[], .func (.func 87) #[] #[PQ p 0,PQ q 0], .func (.func 90) #[PQ g 0] #[]] [.rem, .add b, .sync] bf (Xk (show StpAt _ _ _ _ _ (.rem)from rfl) (show StpAt _ _ _ _ _ (.add b)from⟨p,q,vb,rfl,j,f,(hr.keep hE),hoff,hbl⟩) (show StpAt _ _ _ _ _ (.sync)from rfl)) n hB (by simp;omega) (by simp[hbl])).mono ?_));rintro e av ⟨H146,rfl,hW147⟩;refine⟨_,rfl,?_⟩;have hWn:=hWc.trans hW147;have j:av.heap[p]? =some (.cells (([PQ g 0]:List AaR)).toArray 50 (0,0)):=DkG.box hWc.g hW147.chg j (by decide) (by decide) (by decide) (by decide);have f:av.heap[q]? =some (.cells (([vb]:List AaR)).toArray 27 (0,0)):=DkG.box hWc.g hW147.chg f (by decide) (by decide) (by decide) (by decide);have hZ9:=(aa.trans ab).trans ai;have c:=eb hZ9 c;have c:av.heap[o]? =some (.cells (AaT (Sha.sum b)).toArray 33 (0,0)):=DkG.box hWc.g hW147.chg c (by decide) (by decide) (by decide) (by decide);clear hE;clear hW;clear r;clear aq;clear bf;have hW:=hWn;refine gS (XK (a:=((AR D (nmO (Sha.sum b)) [.rem, .add b, .sync]).2:Nat)) (b:=(0:Nat)) rfl rfl (AX _ _ _ _) ?_);refine cD rfl (fun s=> ?_) fun s=> ?_
 ·refine gS (Yk.run (v:=AB (Aa4 32 0)) (by kernel_rfl) (gS (XN (vr (PQ o 0) rfl) (vr (AB (Aa4 32 0)) rfl) c (by exact Bv Abc (Sha.sum_length _)) (by exact Ac Abc) (Af _) fun cc bg cd da=> ?_)));have hW:DkW wb w g H (D) cc H146 ((AR D (nmO (Sha.sum b)) [.rem, .add b, .sync]).1):=DkW.setT hW cd c (by omega) (by decide) (by decide) (by decide) (by decide) (by decide) (by decide) hwb;clear c;have c:=bg;clear bg;have db:=bl c;refine HQ rfl (ResF.row rfl c UY rfl (by exact Ac Abc)) (vr (Aa0 none 0 0) rfl) (vr (NI ((AR D (nmO (Sha.sum b)) [.rem, .add b, .sync]).2)) rfl) ?_;have hF:DC (AR D (nmO (Sha.sum b)) [.rem, .add b, .sync]) (Sha.sum b)=((AR D (nmO (Sha.sum b)) [.rem, .add b, .sync]).1,En,[],(AR D (nmO (Sha.sum b)) [.rem, .add b, .sync]).2):=if_pos s;exact⟨H146,_,by rw[hV,hF];rfl,by rw[hV,hF];exact RB.nil _,by rw[hV,hF];exact hW,fun k h=>by cases h⟩
 refine gS (XO rfl c UY rfl (by exact Ac (Sha.sum_length _)) (gS (XN (vr (PQ o 0) rfl) (vr (AB (Sha.sum b)) rfl) c (by exact Bv (Sha.sum_length _) (Sha.sum_length _)) (by exact Ac (Sha.sum_length _)) (Af _) fun ce bh cf dc=> ?_)));have hW:DkW wb w g H (D) ce H146 ((AR D (nmO (Sha.sum b)) [.rem, .add b, .sync]).1):=DkW.setT hW cf c (by omega) (by decide) (by decide) (by decide) (by decide) (by decide) (by decide) hwb;clear c;have c:=bh;clear bh;have dd:=bl c;refine HQ rfl (ResF.row rfl c UY rfl (by exact Ac (Sha.sum_length _))) (vr (Aa0 none 0 0) rfl) (vr (NI 0) rfl) ?_;have hF:DC (AR D (nmO (Sha.sum b)) [.rem, .add b, .sync]) (Sha.sum b)=((AR D (nmO (Sha.sum b)) [.rem, .add b, .sync]).1,(Sha.sum b),[],0):=if_neg s;exact⟨H146,_,by rw[hV,hF],by rw[hV,hF];exact RB.nil _,by rw[hV,hF];exact hW,fun k h=>by cases h⟩

theorem VV(wb w:AaS)(g:Nat)(H:Dk)(D:Ae)(hD:DkG wb w g H D)(hG:Laid wb)(hL:DL D)(id:List UInt8)(hid:id.length=32):
  Calls AaU 48 #[PQ g 0,AB id] w fun e w' =>∃v,e = .returned (.tuple #[v,NI (C8 D id).2])∧RB w' v (C8 D id).1∧Ext w w' ∧NewI w.heap.size w' v:=by
 refine gG (args:= [PQ g 0,AB id]) Tryz.func48 rfl 30 rfl rfl ?_;have hE:=Ext.refl w;refine gS (Yk.box (vr (AB id) rfl) fun u x ai r y aj=> ?_);have i:=r;clear r;have ak:u<x.heap.size:=by omega
 refine gS (XO rfl i UY rfl (by exact Ac hid) (gS (XQ TX rfl ((NK _ id hid).mono ?_))));rintro e al ⟨rfl,s⟩;refine⟨_,rfl,?_⟩;have hE:=hE.trans (y.trans s);have hszr_:=(hE).size;refine gS (XM TY rfl rfl (((hD.keep hE).read (nmO id) hL).mono ?_));rintro e am ⟨f,rfl,t,j⟩;refine⟨_,rfl,?_⟩;have hvn:=(Y7 t).low hszr_;have c:=X3 t;refine gS (Yk.extract (vs:= [f,NI ((An D (nmO id)).2)]) rfl rfl (gS (Yk.extract (vs:= [f,NI ((An D (nmO id)).2)]) rfl rfl ?_)));have hrl:=HF hL (nmO id);by_cases h4:(An D (nmO id)).2=4
 ·refine DV [0,1,2,3,4,5,6,9,7,8,10,11,12] [7,8] [] [9] fun z aa=> ?_;have ab:=Ext.refl z;refine DQ ab ?_;refine ys (XK (a:=((An D (nmO id)).2:Nat)) (b:=(4:Nat)) rfl rfl (AA _ _ _ _) zz) (kT (h4) (ys (XR rfl rfl zz) (cT rfl (By rfl (vr (Aa0 none 0 0) rfl) (vr (NI 12) rfl) ?_))));have hV:C8 D id=([],12):=if_pos (.inl h4);have hE:=hE.trans (j.trans aa);exact⟨_,by rw[hV],by rw[hV];exact RB.nil _,hE,NewI.nil _ _⟩
 by_cases h0:(An D (nmO id)).2=0
 ·refine DV [0,1,2,3,4,5,6,9,7,8,10,11,12] [7,8] [] [9] fun ac k=> ?_;have l:=Ext.refl ac;have i:=eb ((s.trans j).trans k) i;have c:=c.keep k;refine DQ l ?_;refine ys (XK (a:=((An D (nmO id)).2:Nat)) (b:=(4:Nat)) rfl rfl (AA _ _ _ _) zz) (kF (h4) (ys (XK (a:=((An D (nmO id)).2:Nat)) (b:=(0:Nat)) rfl rfl (AA _ _ _ _) zz) (kT (h0) (yf (fun _ ⟨hZ,_⟩=>XO rfl (eb hZ i) UY rfl (by exact Ac hid) zz) (yE (Yu F8 (XP c (vr f rfl)) fun ad ae af m=> ?_))))));have l:=l.trans m;refine⟨l,?_⟩;have n:=Ext.refl ae;have hE:=hE.trans ((j.trans k).trans m);refine yE (XQ JG rfl ((Gi _ (hG.keep ((hD.keep hE)).ext) ad ((An D (nmO id)).1) af (by omega)).mono ?_));rintro e an ⟨rfl,h⟩;refine⟨_,rfl,?_⟩;have n:=n.trans h;refine⟨n,?_⟩;refine ys (Zx (l1:=(Sha.sum ((An D (nmO id)).1))) (l2:=id) UY u5 PG R3 rfl rfl ((Sha.sum_length _)) (hid) zz) (ys (XR rfl rfl zz) (ys (XV rfl rfl zz) ?_));refine cD rfl (fun o=> ?_) fun o=> ?_
  ·refine By rfl (vr (Aa0 none 0 0) rfl) (vr (NI 12) rfl) ?_;have hV:C8 D id=([],12):=if_pos (.inr ⟨h0,o⟩);have hE:=hE.trans h;exact⟨_,by rw[hV],by rw[hV];exact RB.nil _,hE,NewI.nil _ _⟩
  refine By rfl (vr f rfl) (vr (NI ((An D (nmO id)).2)) rfl) ?_;have hV:C8 D id=(An D (nmO id)):=if_neg (fun q=>q.elim h4 fun q=>o q.2);have hvn:=hvn.keep ((k.trans m).trans h);have hZ1:=m.trans h;have c:=c.keep hZ1;have hE:=hE.trans h;exact⟨_,by rw[hV],by rw[hV];exact c,hE,hvn⟩
 refine DV [0,1,2,3,4,5,6,9,7,8,10,11,12] [7,8] [] [9] fun ag p=> ?_;have ah:=Ext.refl ag;refine DQ ah ?_;refine ys (XK (a:=((An D (nmO id)).2:Nat)) (b:=(4:Nat)) rfl rfl (AA _ _ _ _) zz) (kF (h4) (ys (XK (a:=((An D (nmO id)).2:Nat)) (b:=(0:Nat)) rfl rfl (AA _ _ _ _) zz) (kF (h0) (ys (XV rfl rfl zz) (ys (XV rfl rfl zz) (cF rfl (By rfl (vr f rfl) (vr (NI ((An D (nmO id)).2)) rfl) ?_)))))));have hV:C8 D id=(An D (nmO id)):=if_neg (fun q=>q.elim h4 fun q=>h0 q.1);have hE:=hE.trans (j.trans p);have hvn:=hvn.keep p;have c:=c.keep p;exact⟨_,by rw[hV],by rw[hV];exact c,hE,hvn⟩

structure Er where
  at_:Nat
  total:Nat
  depths:List Int
  packs:List Int
  bases:List Int
def KJ(s:Er):Bool:=decide (1024≤s.depths.length)||decide (131072≤s.total)
def turnPk(s:Er):Er:=if KJ s=true then⟨s.at_+1,0,[],s.packs,s.bases⟩else s
def FT(ch:List Int)(i k:Nat):Int:=if 0<ch.length then Ady (ch.getD (i%ch.length) 0) ((k+1:Nat):Int)-1 else -1
def Lh(s:Er)(b:Int):Int:=if 0≤b then s.depths.getD b.toNat 0+1 else 0
def Gj(z:Int):Nat:=min z.toNat 131072
def I6(b:Int)(d:Int)(z:Int)(s:Er):Er:=
  if 50<d then⟨s.at_,s.total+Gj z,s.depths++ [0],s.packs++ [(s.at_:Int)],s.bases++ [-1]⟩
  else⟨s.at_,s.total+Gj z,s.depths++ [d],s.packs++ [(s.at_:Int)],s.bases++ [b]⟩
def Dp(ch:List Int)(i:Nat)(z:Int)(s:Er):Er:=I6 (FT ch i s.depths.length) (Lh s (FT ch i s.depths.length)) z s
def planGo(ch sizes:List Int):Nat→Er
  | 0=>⟨0,0,[],[],[]⟩
  | i+1=>Dp ch i (sizes.getD i 0) (turnPk (planGo ch sizes i))
theorem IG(ch sizes:List Int)(i:Nat):planGo ch sizes (i+1)=Dp ch i (sizes.getD i 0) (turnPk (planGo ch sizes i)):=rfl
theorem JT(ch:List Int)(i k:Nat): -1≤FT ch i k∧FT ch i k<k:=by
  unfold FT;split
  · have h1:=Int.emod_nonneg (ch.getD (i%ch.length) 0) (show((k+1:Nat):Int)≠0 by omega);have h2:=Int.emod_lt_of_pos (ch.getD (i%ch.length) 0) (show(0:Int)<((k+1:Nat):Int) by omega);have h1:0≤Ady (ch.getD (i%ch.length) 0) ((k+1:Nat):Int):=h1;have h2:Ady (ch.getD (i%ch.length) 0) ((k+1:Nat):Int)<((k+1:Nat):Int):=h2;omega
  · omega
theorem SA(c:Int)(k:Nat):Ac9 (Ac9 c ((k+1:Nat):Int)+(k:Int)+1) ((k+1:Nat):Int)=Ady c ((k+1:Nat):Int):=by
  have hk:(0:Int)<((k+1:Nat):Int):=by omega
  have h0: -((k+1:Nat):Int)<Ac9 c ((k+1:Nat):Int):=Int.lt_tmod_of_pos c hk;have h1:0≤Ac9 c ((k+1:Nat):Int)+(k:Int)+1:=by omega
  rw[Int.tmod_eq_emod_of_nonneg h1];have e:Ac9 c ((k+1:Nat):Int)+(k:Int)+1=Ac9 c ((k+1:Nat):Int)+((k+1:Nat):Int):=by omega
  show Ady _ _=_;rw[e];show(Ac9 c ((k+1:Nat):Int)+((k+1:Nat):Int))%((k+1:Nat):Int)=c%((k+1:Nat):Int);rw[Int.add_emod_right];rw[Int.tmod_def];rw[Int.sub_mul_emod_self_left]
theorem Pd(z:Int):Gj z≤131072:=by unfold Gj;omega
structure NM (i : Nat) (s : Er) : Prop where
  lp:s.packs.length=i
  lb:s.bases.length=i
  ld:s.depths.length≤1024
  dp:∀d∈s.depths,0≤d∧d≤50
  at_:s.at_≤i
  tot:s.total≤262144
theorem LW{i:Nat}{s:Er}(h:NM i s):NM (i+1) { turnPk s with packs:=s.packs++ [0],bases:=s.bases++ [0] } ∧ (turnPk s).depths.length<1024∧(turnPk s).total<131072∧(turnPk s).packs=s.packs∧(turnPk s).bases=s.bases:=by
  have h1:=h.lp;have h2:=h.lb;have h3:=h.ld;have h4:=h.at_;have h5:=h.tot;unfold turnPk;by_cases q:KJ s=true
  · rw[if_pos q];exact⟨⟨by simp[h1],by simp[h2],by simp,by simp,by show s.at_+1≤_;omega,by simp⟩,by simp,by simp,rfl,rfl⟩
  · rw[if_neg q];have hq:s.depths.length<1024∧s.total<131072:=by
      unfold KJ at q;simp only[Adf,decide_eq_true_eq,not_or,Nat.not_le]at q;exact q
    exact⟨⟨by simp[h1],by simp[h2],h3,h.dp,by show s.at_≤_;omega,h5⟩,hq.1,hq.2,rfl,rfl⟩
theorem Pe{l:List Int}(h:∀d∈l,0≤d∧d≤50)(i:Nat):0≤l.getD i 0∧l.getD i 0≤50:=by
  rw[AaW];cases e:l[i]? with
  | none=>simp
  | some x=>exact h x (Ab0 e)
theorem QG{ch:List Int}{i:Nat}{z b d:Int}{s:Er}(hb:FT ch i s.depths.length=b)(hd:Lh s b=d)(h:¬50<d):Dp ch i z s=⟨s.at_,s.total+Gj z,s.depths++ [d],s.packs++ [(s.at_:Int)],s.bases++ [b]⟩:=by
  unfold Dp I6;rw[hb,hd,if_neg h]
theorem TZ{ch:List Int}{i:Nat}{z b d:Int}{s:Er}(hb:FT ch i s.depths.length=b)(hd:Lh s b=d)(h:50<d):Dp ch i z s=⟨s.at_,s.total+Gj z,s.depths++ [0],s.packs++ [(s.at_:Int)],s.bases++ [-1]⟩:=by
  unfold Dp I6;rw[hb,hd,if_pos h]
theorem Pf{s:Er}(h:¬1024≤s.depths.length)(h2:¬131072≤s.total):turnPk s=s:=if_neg (by unfold KJ;simp;omega)
theorem SB{ch:List Int}{i:Nat}{z:Int}{s:Er}(h:NM i s):NM (i+1) (Dp ch i z (turnPk s)):=by
  obtain⟨h1,h2,h3,h4,h5⟩:=LW h;have hl:=h.lp;have a:=h.lb;have ha:(turnPk s).at_≤i+1:=h1.at_;have hd:∀d∈(turnPk s).depths,0≤d∧d≤50:=h1.dp;have hc:=Pd z;unfold Dp I6;split
  · refine⟨by simp[h4,hl],by simp[h5,a],by rw[AaY];simp;omega,fun d hdm=> ?_,ha,by show(turnPk s).total+_≤_;omega⟩;rcases Abk.1 hdm with hdm | hdm
    · exact hd d hdm
    · rw[Aa6.1 hdm];omega
  · rename_i q
    refine⟨by simp[h4,hl],by simp[h5,a],by rw[AaY];simp;omega,fun d hdm=> ?_,ha,by show(turnPk s).total+_≤_;omega⟩;rcases Abk.1 hdm with hdm | hdm
    · exact hd d hdm
    · rw[Aa6.1 hdm];refine⟨?_,by omega⟩;unfold Lh;split
      · have:=Pe hd (FT ch i (turnPk s).depths.length).toNat;omega
      · omega
theorem Eo(ch sizes:List Int):∀i,NM i (planGo ch sizes i)
  | 0=>⟨rfl,rfl,Abs _,(fun _ h=>by cases h),AaX _,Abs _⟩
  | i+1=>SB (Eo ch sizes i)
def Ax(b:Bs):Bs:= [112,45]++hexOf (Sha.sum b)
def DR(sg s:Bs):Bool:=(Bi sg s).2&&(DH (Bi sg s).1).2
def Au(D:Ae)(sg:Bs):List Bs:=(Ba D).filter (DR sg)
def Hb(D:Ae)(s:Bs):Option AZ:=match BW (An D s).1 with
  | .ok p=>if Ax (An D s).1=s then some p else none
  | .error _=>none
abbrev AP:=List (Bs × AZ)
def Ep(D:Ae)(s:Bs):Option (Bs × AZ):=(Hb D s).map fun p=>(s,p)
def GD(D:Ae):AP:=(Au D [112,45]).filterMap (Ep D)
def Ay(L:AP)(id:Bs):Option Bs:=L.findSome? fun e=>(e.2.2 id).map Abq
def getV(D:Ae)(L:AP)(id:Bs):Bs × Nat:=match Ay L id with
  | some b=>(b,0)
  | none=>C8 D id
def Ea(D:Ae)(L:AP)(b:Bs):Ae × Bs × Bs × Nat:=
  if 262144<b.length then(D,En,[],2)
  else match Ay L (Sha.sum b)with
    | some was=>if was=b then(D,Sha.sum b,[],0)else(D,Sha.sum b,was,7)
    | none=>BO D b
def SlP(Q:Nat→Prop)(w:AaS)(v:AaR)(n:Nat):Prop:=n=0∨∀k,v.ownBlock=some k→k<w.heap.size∧Q k
theorem SlP.keep{Q:Nat→Prop}{w w' :AaS}{v:AaR}{n:Nat}(h:SlP Q w v n)(k:Ext w w'):SlP Q w' v n:=h.imp id fun q j hj=>⟨AbL (q j hj).1 k.size,(q j hj).2⟩
theorem WK{w:AaS}{v:AaR}{l:Bs}(h:RB w v l):l.length=0∨∀k,v.ownBlock=some k→k<w.heap.size:=by
  obtain⟨h1,ao,cap,rfl,h2,h3,h4,h5⟩:=h;cases l with
  | nil=>exact .inl rfl
  | cons x l=>
    refine .inr fun k hk=> ?_;cases ao with
    | none=>cases hk
    | some a=>
      have:=h5 a rfl 0 (B8 x) rfl;have:=Ach w _ this;obtain⟨a1,a2,a3⟩:=a;cases hk
      simpa [AcU] using this
theorem WL{w:AaS}{v:AaR}{l:List Bs}(h:RG 32 AaT w v l):l.length=0∨∀k,v.ownBlock=some k→k<w.heap.size:=by
  obtain⟨h0,h1,ao,cap,rfl,h2,h3,h4,h5⟩:=h;cases l with
  | nil=>exact .inl rfl
  | cons x l=>
    refine .inr fun k hk=> ?_;cases ao with
    | none=>cases hk
    | some a=>
      have hx:=h0 x AbZ;have hc:0<(AaT x).length:=by rw[hx];decide
      have:=h5 a rfl 0 ((AaT x)[0]) (by rw[AbW,AbN hc,Aa2 hc]);have:=Ach w _ this;obtain⟨a1,a2,a3⟩:=a;cases hk
      simpa [AcU] using this
theorem RB.chgV{B:Nat→Prop}{w w' :AaS}{v:AaR}{l:Bs}(h:RB w v l)(hc:Chg B w w')(hB:l.length=0∨∀k,v.ownBlock=some k→¬B k):RB w' v l:=h.chg hc (hB.imp AbC id)
def PackP(Q:Nat→Prop)(w:AaS)(v:AaR)(p:AZ):Prop:=∃g vi bo O,v = .pointer (some ⟨g,0,none⟩)∧p.2=(fun k=>(O k).map Abq)∧w.heap[g]? =some (.cells ([vi, .map (some bo)]).toArray 163 (0,0))∧RG 32 AaT w vi p.1∧MapF rk Ch (fun id:List UInt8=>id.length=32) w bo O∧OOk w O∧Q g∧Q bo∧SlP Q w vi p.1.length∧∀id x,O id=some x→SlP Q w x.2 x.1.1.length
theorem PackP.at_{Q:Nat→Prop}{w:AaS}{v:AaR}{p:AZ}(h:PackP Q w v p):PackAt w v p:=by
  obtain⟨g,vi,bo,O,h1,h2,h3,h4,h5,h6,-⟩:=h;exact⟨g,vi,bo,O,h1,h2,h3,h4,h5,h6⟩
theorem PackP.opt{Q:Nat→Prop}{w:AaS}{v:AaR}{p:AZ}(h:PackP Q w v p):PackO w v (some p):=h.at_
theorem PackP.keep{Q:Nat→Prop}{w w' :AaS}{v:AaR}{p:AZ}(h:PackP Q w v p)(k:Ext w w'):PackP Q w' v p:=by
  obtain⟨g,vi,bo,O,h1,h2,h3,h4,h5,h6,h7,h8,h9,h10⟩:=h;exact⟨g,vi,bo,O,h1,h2,Ext.blk' k h3,h4.keep k,h5.keep k,h6.keep k,h7,h8,h9.keep k,fun id x hx=>(h10 id x hx).keep k⟩
theorem Za{Q:Nat→Prop}{n:Nat}{w:AaS}{v:AaR}{p:AZ}(h:PackNew n w v p)(hQ:∀k,n≤k→k<w.heap.size→Q k):PackP Q w v p:=by
  obtain⟨g,vi,bo,O,h1,h2,h3,h4,h5,h6,h7,h8,h9,h10⟩:=h;exact⟨g,vi,bo,O,h1,h2,h3,h4,h5,h6,hQ _ h7 (Abm.1 h3).1,hQ _ h8 h5.lt,(WL h4).imp id fun q k hk=>⟨q k hk,hQ k (h9 k hk) (q k hk)⟩,fun j x hx=>(WK (h6 j x hx)).imp id fun q k hk=>⟨q k hk,hQ k (h10 j x hx k hk) (q k hk)⟩⟩
theorem PackP.chg{Q Q' B:Nat→Prop}{w w' :AaS}{v:AaR}{p:AZ}(h:PackP Q w v p)(hc:Chg B w w')(hB:∀k,k<w.heap.size→Q k→¬B k∧Q' k):PackP Q' w' v p:=by
  obtain⟨g,vi,bo,O,h1,h2,h3,h4,h5,h6,h7,h8,h9,h10⟩:=h;have hg:=(Abm.1 h3).1;have sl:∀ {v:AaR} {n:Nat},SlP Q w v n→SlP Q' w' v n:=fun q=>q.imp id fun z k hk=>⟨AbL (z k hk).1 hc.size,(hB k (z k hk).1 (z k hk).2).2⟩;have off:∀ {v:AaR} {n:Nat},SlP Q w v n→n=0∨∀k,v.ownBlock=some k→¬B k:=fun q=>q.imp id fun z k hk=>(hB k (z k hk).1 (z k hk).2).1;refine⟨g,vi,bo,O,h1,h2,(hc.blk g hg (hB g hg h7).1).trans h3,?_,h5.chg hc (hB bo h5.lt h8).1,fun id x hx=>(h6 id x hx).chgV hc (off (h10 id x hx)),(hB g hg h7).2,(hB bo h5.lt h8).2,sl h9,fun id x hx=>sl (h10 id x hx)⟩;obtain⟨q0,q1,ao,cap,rfl,q2,q3,q4,q5⟩:=h4;refine⟨q0,q1,ao,cap,rfl,q2,q3,q4,fun a ha j u hu=> ?_⟩;have hl:=q5 a ha j u hu;have hlt:=Ach w _ hl;have hbl:(a.add j).block=a.block:=by unfold AcU;split <;> rfl
  have hn:¬B (a.add j).block:=by
    rcases off h9 with z | z
    · have h1:=(Abn.1 hu).1;rw[q1,z]at h1;omega
    · refine z _ ?_;rw[ha,hbl];rfl
  have hb:=hc.blk _ hlt hn;unfold Ade at hl ⊢;rw[hb];exact hl
def pkG(L:AP)(ptr:Bs→Nat)(s:Bs):Option Nat:=(L.lookup s).map fun _=>ptr s
def SortS(l:List Bs):Prop:=l.Pairwise fun a b=>Ab2 a b=true
abbrev pN(n:Nat):AaR:= .pointer (some ⟨n,0,none⟩)
def PksAt(Q:Nat→Prop)(w:AaS)(L:AP)(ptr:Bs→Nat):Prop:=∀e∈L,PackP Q w (pN (ptr e.1)) e.2
theorem PksAt.keep{Q:Nat→Prop}{w w' :AaS}{L:AP}{ptr:Bs→Nat}(h:PksAt Q w L ptr)(k:Ext w w'):PksAt Q w' L ptr:=fun e he=>(h e he).keep k
theorem PksAt.chg{Q Q' B:Nat→Prop}{w w' :AaS}{L:AP}{ptr:Bs→Nat}(h:PksAt Q w L ptr)(hc:Chg B w w')(hB:∀k,k<w.heap.size→Q k→¬B k∧Q' k):PksAt Q' w' L ptr:=fun e he=>(h e he).chg hc hB
theorem PksAt.set{Q:Nat→Prop}{w w' :AaS}{L:AP}{ptr:Bs→Nat}(h:PksAt Q w L ptr){b:Nat}(hg:w.grownBy w' (some b))(hne:∀k,Q k→k≠b):PksAt Q w' L ptr:=
  h.chg (B:=fun k=>k=b) (Yc hg fun i e=> .inl (AbB e).symm) fun k _ q=>⟨hne k q,q⟩
theorem PksAt.nil(Q:Nat→Prop)(w:AaS)(ptr:Bs→Nat):PksAt Q w [] ptr:=fun e he=>by cases he
def updP(ptr:Bs→Nat)(s:Bs)(g:Nat)(x:Bs):Nat:=if x=s then g else ptr x
theorem Zi{Q:Nat→Prop}{w:AaS}{L:AP}{ptr:Bs→Nat}(h:PksAt Q w L ptr){s:Bs}{p:AZ}{g:Nat}(hs:s∉L.map Abq)(hp:PackP Q w (pN g) p):PksAt Q w (L++ [(s,p)]) (updP ptr s g):=fun e he=>by
  rcases Abk.1 he with he | he
  · rw[show updP ptr s g e.1=ptr e.1 from if_neg (fun(q:e.1=s)=>hs (q▸Aer he))];exact h e he
  · rw[Aa6.1 he,show updP ptr s g s=g from if_pos rfl];exact hp
theorem NN{L:AP}{s:Bs}(h:s∉L.map Abq):L.lookup s=none:=by
  induction L with
  | nil=>rfl
  | cons x r ih=>
    rw[Abv,AbF,not_or]at h;rw[Acq,show(s==x.1)=false by simpa using h.1];exact ih h.2
theorem JU{L:AP}{ptr:Bs→Nat}{s:Bs}{p:AZ}{g:Nat}(hs:s∉L.map Abq):updM (pkG L ptr) s (some g)=pkG (L++ [(s,p)]) (updP ptr s g):=by
  funext x
  unfold updM pkG updP;rw[List.lookup_append];by_cases e:x=s
  · subst e;rw[if_pos rfl,NN hs];simp
  · rw[if_neg e,if_neg e];rw[show([(s,p)]:AP).lookup x=none by rw[Acq,show(x==s)=false by simpa using e];rfl,Option.or_none]
structure VtAt (n : Nat) (Q : Nat → Prop) (w : AaS) (g gd bm : Nat) (L : AP) (ptr : Bs → Nat) : Prop where
  blk:w.heap[g]? =some (.cells ([PQ gd 0, .map (some bm)]).toArray 86 (0,0))
  map:MapF St pN Nm w bm (pkG L ptr)
  pk:PksAt (fun k=>Q k∧k≠g∧k≠bm) w L ptr
  sort:SortS (L.map Abq)
  g0:Q g
  b0:Q bm
  lo:n≤g
theorem VtAt.keep{n:Nat}{Q:Nat→Prop}{w w' :AaS}{g gd bm:Nat}{L:AP}{ptr:Bs→Nat}(h:VtAt n Q w g gd bm L ptr)(k:Ext w w'):VtAt n Q w' g gd bm L ptr:=
  ⟨Ext.blk' k h.blk,h.map.keep k,h.pk.keep k,h.sort,h.g0,h.b0,h.lo⟩
theorem VtAt.chg{n:Nat}{Q Q' B:Nat→Prop}{w w' :AaS}{g gd bm:Nat}{L:AP}{ptr:Bs→Nat}(h:VtAt n Q w g gd bm L ptr)(hc:Chg B w w')(hB:∀k,k<w.heap.size→Q k→¬B k∧Q' k):VtAt n Q' w' g gd bm L ptr:=by
  have hg:=(Abm.1 h.blk).1;exact⟨(hc.blk g hg (hB g hg h.g0).1).trans h.blk,h.map.chg hc (hB bm h.map.lt h.b0).1,h.pk.chg hc (fun k hk q=>⟨(hB k hk q.1).1,(hB k hk q.1).2,q.2⟩),h.sort,(hB g hg h.g0).2,(hB bm h.map.lt h.b0).2,h.lo⟩
abbrev Cg(H:Dk)(D:Ae)(k:Nat):Prop:=¬B2 H D.files.length k
theorem VtAt.step{n:Nat}{wb w w' :AaS}{g gd bm:Nat}{H H' :Dk}{D D' :Ae}{L:AP}{ptr:Bs→Nat}(h:VtAt n (Cg H D) w g gd bm L ptr)(hW:DkW wb w gd H D w' H' D'):VtAt n (Cg H' D') w' g gd bm L ptr:=
  h.chg hW.chg fun k hk q=>⟨q,fun z=>(hW.foot k z).elim q fun z=>by omega⟩
theorem KK{α β:Type}[BEq α][LawfulBEq α]{l:List (α × β)}{s:α}{p:β}(h:l.lookup s=some p):(s,p)∈l:=by
  induction l with
  | nil=>cases h
  | cons e r ih=>
    rw[Acq]at h;split at h
    · rename_i q
      cases h;rw[beq_iff_eq]at q;rw[q];exact AbZ
    · exact Ab1 _ (ih h)
theorem LX{L:AP}(hs:SortS (L.map Abq)){e:Bs × AZ}(h:e∈L):L.lookup e.1=some e.2:=by
  induction L with
  | nil=>cases h
  | cons x r ih=>
    rw[Abv]at hs;obtain⟨h1,h2⟩:=AbY.1 hs;rw[Acq];rcases AbF.1 h with rfl | h
    · simp
    · have:=h1 e.1 (Aer h);have hne:¬e.1=x.1:=fun q=>by rw[q,Fx]at this;cases this
      rw[show(e.1==x.1)=false by simpa using hne];exact ih h2 h
theorem SortS.nodup{l:List Bs}(h:SortS l):l.Nodup:=h.imp fun hab e=>by rw[e,Fx]at hab;cases hab
theorem WM{L:AP}{ptr:Bs→Nat}(hs:SortS (L.map Abq)){i:Nat}(hi:i<L.length){d:Bs × AZ}:pkG L ptr (L.getD i d).1=some (ptr (L.getD i d).1):=by
  unfold pkG;rw[LX hs (AO d hi)];rfl
theorem OJ{L:AP}{x:Bs × AZ}(hx:x∈L):L.lookup x.1≠none:=by
  induction L with
  | nil=>cases hx
  | cons y r ih=>
    intro e;rw[Acq]at e;split at e
    · cases e
    · rename_i q
      rcases AbF.1 hx with rfl | hx
      · simp at q
      · exact ih hx e
theorem pkG_iff{L:AP}{ptr:Bs→Nat}(s:Bs):(pkG L ptr s).isSome=true↔s∈L.map Abq:=by
  unfold pkG;rw[Option.isSome_map];constructor
  · intro h;obtain⟨p,hp⟩:=AeH.1 h;exact AbD.2 ⟨(s,p),KK hp,rfl⟩
  · intro h;obtain⟨x,hx,rfl⟩:=AbD.1 h;cases e:L.lookup x.1 with
    | some p=>rfl
    | none=>exact absurd e (OJ hx)
open Go.Shelf Go.RowKit
def SC:Aea:=⟨fun | 137=>126 | 217=>170 | 266=>209 | n=>n,fun | 9=>9 | 5=>5 | 3=>3 | n=>n,fun | n=>n⟩
theorem Xl:Go.Proofs.Lays.n137 AaU SC:= {
  mixed:=by kernel_rfl
  f137:=Tryz.func126.trans (congrArg some (by kernel_rfl))
  f217:=Tryz.func170.trans (congrArg some (by kernel_rfl))
  f266:=Tryz.func209.trans (congrArg some (by kernel_rfl))
  t3:=Af0
  a3:=Ag3
  z3:=AgY
  v3:=Af9
  t5:=AdJ
  a5:=Ag4
  z5:=AgZ
  v5:=Aga
  t9:=Adl
  a9:=Aeq
  z9:=Aeb
  v9:=Ads }
theorem KM(s:ByteArray)(c:Int)(w:AaS):
    Calls AaU 126 #[.string s, .int .u8 c] w fun e w' =>e = .returned (.int .i64 (Afz s.data.toList c.toNat.toUInt8))∧w' =w:=Any.strings_IndexByte Xl s c w
theorem QH(w:AaS)(c:UInt8):Calls AaU 126 #[St ([48,49,50,51,52,53,54,55,56,57,97,98,99,100,101,102]:List UInt8),B8 c] w fun e w' =>e = .returned (.int .i64 (E4 c))∧w' =w:=by
 have h:=KM (⟨([48,49,50,51,52,53,54,55,56,57,97,98,99,100,101,102]:List UInt8).toArray⟩:ByteArray) (c.toNat:Int) w;have e:Afz (⟨([48,49,50,51,52,53,54,55,56,57,97,98,99,100,101,102]:List UInt8).toArray⟩:ByteArray).data.toList ((c.toNat:Int).toNat.toUInt8)=E4 c:=by
  rw[←TQ c];simp[digs]
 rw[e]at h;exact h
theorem SD{s:List UInt8}{i k1 k2:Nat}(h1:dg (s.getD (2*i) 0)=some k1)(h2:dg (s.getD (2*i+1) 0)=some k2)(_:k2<16):E0 s i=AbQ (16*k1+k2):=by
 unfold E0;rw[h1,h2];rfl
theorem SE{s:List UInt8}{i k1 k2:Nat}(h1:dg (s.getD (2*i) 0)=some k1)(h2:dg (s.getD (2*i+1) 0)=some k2)(hn:k2<16):E0 s i=AbQ (k1*2^4|||k2):=by
 rw[SD h1 h2 hn,J9 _ _ _ hn,AfS]
theorem VW{s:List UInt8}{i k1 k2:Nat}(h:∀j,j<i→FC s j=true)(h1:dg (s.getD (2*i) 0)=some k1)(h2:dg (s.getD (2*i+1) 0)=some k2):∀j,j<i+1→FC s j=true:=fun j hj=>by
 by_cases he:j=i
 ·subst he;unfold FC;rw[h1,h2];rfl
 ·exact h j (by omega)
theorem QI:Plain AaU 126:=fun _ _=>by kernel_rfl
theorem KN:Plain AaU 125:=fun _ _=>by kernel_rfl
theorem LY(w:AaS)(b:Nat)(s:List UInt8)(hb:w.heap[b]? =some (.cells ([St s]:List AaR).toArray 9 (0,0)))(i:Nat)(hi:i<s.length):
  Calls AaU 125 #[NI i,PQ b 0] w fun e w' =>e = .returned (.int .i64 (E4 (s.getD i 0)))∧Ext w w' :=by
 refine gG (args:= [NI i,PQ b 0]) Tryz.func125 rfl 8 rfl rfl ?_;have hE:=Ext.refl w;refine gS (XJ O7 rfl rfl (cellAt hb rfl) (gS (Zc (l:=s) (i:=i) O7 rfl rfl (hi) (gS (XM QI rfl rfl ((QH _ (s.getD (i) 0)).mono ?_))))));rintro e a ⟨rfl,hq⟩;refine⟨_,rfl,?_⟩;refine Bn rfl (vr (.int .i64 (E4 (s.getD (i) 0):Int)) rfl) ?_;have hE:=hE.trans (show Ext w a from by rw[hq];exact Ext.refl _);exact⟨rfl,hE⟩

theorem SF(w:AaS)(s:List UInt8)(hs:s.length≤9223372036854775807):
  Calls AaU 76 #[St s] w fun e w' =>e = .returned (.tuple #[AB ((DH s).1), .bool (DH s).2])∧Ext w w' :=by
 refine gG (args:= [St (s)]) Tryz.func76 rfl 42 rfl rfl ?_;have hE:=Ext.refl w;refine gS (Yz (vr (St (s)) rfl) rfl fun g w3 bb ak av bc=> ?_);have f:=ak;clear ak;have bd:g<w3.heap.size:=by omega
 refine gS (Yk.alloc Tf fun t ae aw al af be=> ?_);have k:=Ext.refl w3;have hE:=hE.trans av;have u:=hE.size;have c:=al;clear al;have bf:t<ae.heap.size:=by omega
 refine gS (Yk.alloc Tf fun ag ax ah am n bg=> ?_);have m:=Ext.refl ae;have hE:=hE.trans af;have k:=k.trans af;have ay:=hE.size;have az:=k.size;have an:=am;clear am;have bh:ag<ax.heap.size:=by omega
 have bi:=Ar (bl f) aw;have f:=eb af f;have bj:=Ar (bl f) ah;have f:=eb n f;refine gS (XJ O7 rfl rfl (cellAt f rfl) (gS (YC (l:=s) O7 rfl (gS (XK (a:=(s.length:Nat)) (b:=(64:Nat)) rfl rfl (AX _ _ _ _) ?_)))));refine cD rfl (fun h64=> ?_) fun h64=> ?_
 ·have hun:=JQ (s:=s) (fun h=>h64 h.1);have a0:=Ar (bl c) ah;have c:=eb n c;refine gS (Yk.run (v:=AB (Aa4 32 0)) (by kernel_rfl) (gS (XN (vr (PQ t 0) rfl) (vr (AB (Aa4 32 0)) rfl) c (by first | rfl | (rw[Abe,Aa8,Abc];rfl)) (by rw[Abe,Aa8,Abc];exact Rb) (Af _) fun bk ao a1 bm=> ?_)));clear c;have c:=ao;clear ao;have bn:=bl c;have hE:=hE.trans n;have hE:=Ab hE a1 (AaV u (by omega));refine MV rfl (ResF.row rfl c UY rfl (by rw[Abe,Aa8];first | (rw[Abc];exact Rb) | (rw[Do _ _ (by omega)];exact Rb))) (vr (.bool (false)) rfl) ?_;refine⟨?_,hE⟩;rw[hun]
 have a2:s.length=64:=by omega
 have a0:=Ar (bl c) ah;have c:=eb n c;have hE:=hE.trans n;have k:=k.trans n;have m:=m.trans n;refine gS (Ys (vs:= #[PQ g 0]) (by simp only[Abx,Abv,AbG];exact congrArg Acn (PB (vr (PQ g 0) rfl))) (gL (fun(ρ:Ad) (wz:AaS)=>∃i:Nat,ρ 0=(St (s):AaR)∧ρ 1=(PQ g 0:AaR)∧ρ 2=(PQ t 0:AaR)∧ρ 4=(PQ ag 0:AaR)∧ρ 5=(.func (.func 125) #[] #[PQ g 0]:AaR)∧ρ 14=(NI i:AaR)∧Ext w wz∧wz.heap[g]? =some (.cells (([St (s)]:List AaR)).toArray 9 (0,0))∧Ext w3 wz∧wz.heap[t]? =some (.cells (AaT (Aa4 32 0)).toArray 33 (0,0))∧Ext ae wz∧wz.heap[ag]? =some (.cells (AaT (pre s i)).toArray 33 (0,0))∧(i≤32)∧(∀j,j<i→FC s j=true)∧True) (fun ρ _=>32-(intOf (ρ 14)).toNat) ⟨0,rfl,rfl,rfl,rfl,rfl,rfl,hE,f,k,c,m,AV an (rfl),Abs _,fun j hj=>by omega,trivial⟩ ?_));clear an;clear hE f c;rintro a3 bo ⟨i,T0,T1,o,T4,T5,p,hE,f,k,c,m,hb36l,hi,hall,-⟩;have q14:=p;have hpl:=Do s i hi;refine gS (XK (a:=(i:Nat)) (b:=(32:Nat)) p rfl (AL _ _ _ _) ?_);refine cD rfl (fun a6=> ?_) fun a6=> ?_
 ·refine gS (XL (xv:=NI 2) (yv:=NI i) rfl p rfl (Ci _ _ _ (by omega)) (gS (YN KN (caps:= #[PQ g 0]) T5 #[NI ((2)*(i)),PQ g 0] (by simp only[Abx,Abv,AbG,Ac4,AbS,AbV];exact congrArg Acn (FI rfl rfl)) ((LY _ g s f ((2)*(i)) (by omega)).mono ?_))));rintro e bp ⟨rfl,y⟩;refine⟨_,rfl,?_⟩;have f:=eb y f;refine gS (XL (xv:=NI 2) (yv:=NI i) rfl p rfl (Ci _ _ _ (by omega)) (gS (XL (xv:=NI ((2)*(i))) (yv:=NI 1) rfl rfl rfl (Ai _ _ _ (by omega)) (gS (YN KN (caps:= #[PQ g 0]) T5 #[NI (((2)*(i))+(1)),PQ g 0] (by simp only[Abx,Abv,AbG,Ac4,AbS,AbV];exact congrArg Acn (FI rfl rfl)) ((LY _ g s f (((2)*(i))+(1)) (by omega)).mono ?_))))));rintro e bq ⟨rfl,z⟩;refine⟨_,rfl,?_⟩;obtain⟨x1,aa⟩:∃x,x=dg (s.getD (2*i) 0):=⟨_,rfl⟩;obtain⟨x2,ab⟩:∃x,x=dg (s.getD (2*i+1) 0):=⟨_,rfl⟩;rcases x1 with _ | k1
  ·have hno:FC s i=false:=by unfold FC;rw[←aa];rfl
   have q:=(vr (.int .i64 (E4 (s.getD (2*i) 0):Int)) rfl).trans (show AcM .i64 (E4 (s.getD (2*i) 0)) = .int .i64 (-1) by unfold E4;rw[←aa]);have hZ1:=y.trans z;have c:=eb hZ1 c;refine gS (XK q rfl (FH _ .i64 (-1:Int) ((0:Nat):Int)) (kT (by decide) (gS (XR rfl rfl (cT rfl (gS (Yk.run (v:=AB (Aa4 32 0)) (by kernel_rfl) (gS (XN o (vr (AB (Aa4 32 0)) rfl) c (by first | rfl | (rw[Abe,Aa8,Abc];rfl)) (by rw[Abe,Aa8,Abc];exact Rb) (Af _) fun br ap a7 bs=> ?_)))))))));clear m;clear c;have c:=ap;clear ap;have bt:=bl c;have hun:=JQ (s:=s) (fun h=>by have:=AbE.1 h.2 i (by simp;omega);rw[hno]at this;cases this);have hE:=hE.trans hZ1;have hE:=Ab hE a7 (AaV u (by omega));refine MV rfl (ResF.row o c UY rfl (by rw[Abe,Aa8];first | (rw[Abc];exact Rb) | (rw[Do _ _ (by omega)];exact Rb))) (vr (.bool (false)) rfl) ?_;refine⟨?_,hE⟩;rw[hun]
  have hd1:=aa.symm;have bu:=U3 hd1;have q:=(vr (.int .i64 (E4 (s.getD (2*i) 0):Int)) rfl).trans (show AcM .i64 (E4 (s.getD (2*i) 0))=NI k1 by unfold E4;rw[←aa]);rcases x2 with _ | k2
  ·have hno:FC s i=false:=by unfold FC;rw[←ab];simp
   have T8:=(vr (.int .i64 (E4 (s.getD (2*i+1) 0):Int)) rfl).trans (show AcM .i64 (E4 (s.getD (2*i+1) 0)) = .int .i64 (-1) by unfold E4;rw[←ab]);have hZ2:=y.trans z;have c:=eb hZ2 c;refine gS (XK (a:=(k1:Nat)) (b:=(0:Nat)) q rfl (AL _ _ _ _) (kF (by omega) (gS (XK T8 rfl (FH _ .i64 (-1:Int) ((0:Nat):Int)) (kT (by decide) (gS (XV rfl rfl (cT rfl (gS (Yk.run (v:=AB (Aa4 32 0)) (by kernel_rfl) (gS (XN o (vr (AB (Aa4 32 0)) rfl) c (by first | rfl | (rw[Abe,Aa8,Abc];rfl)) (by rw[Abe,Aa8,Abc];exact Rb) (Af _) fun bv aq a8 bw=> ?_))))))))))));clear m;clear c;have c:=aq;clear aq;have bx:=bl c;have hun:=JQ (s:=s) (fun h=>by have:=AbE.1 h.2 i (by simp;omega);rw[hno]at this;cases this);have hE:=hE.trans hZ2;have hE:=Ab hE a8 (AaV u (by omega));refine MV rfl (ResF.row o c UY rfl (by rw[Abe,Aa8];first | (rw[Abc];exact Rb) | (rw[Do _ _ (by omega)];exact Rb))) (vr (.bool (false)) rfl) ?_;refine⟨?_,hE⟩;rw[hun]
  have hd2:=ab.symm;have a9:=U3 hd2;have T8:=(vr (.int .i64 (E4 (s.getD (2*i+1) 0):Int)) rfl).trans (show AcM .i64 (E4 (s.getD (2*i+1) 0))=NI k2 by unfold E4;rw[←ab]);have hZ3:=y.trans z;have hb36l:=eb hZ3 hb36l;refine gS (XK (a:=(k1:Nat)) (b:=(0:Nat)) q rfl (AL _ _ _ _) (kF (by omega) (gS (XK (a:=(k2:Nat)) (b:=(0:Nat)) T8 rfl (AL _ _ _ _) (kF (by omega) (gS (XV rfl rfl (cF rfl (gS (XL (xv:=NI k1) (yv:= .int .u64 ((4:Nat):Int)) q rfl rfl (IY _ _ _ _ (by omega) (by omega)) (gS (XL (xv:=NI ((k1)*2^(4))) (yv:=NI k2) rfl T8 rfl (J8 _ _ _ (by omega) (by omega)) (gS (Yn Tc u5 rfl (GX (((k1)*2^(4))|||(k2))) (gS (XX (i:=i) UY PG T4 p (by omega) (gS (YM (i:=i) (v:=AbQ (((k1)*2^(4))|||(k2))) rfl rfl hb36l (by rw[hpl];omega) Wx fun bz ar r b0=> ?_))))))))))))))))));clear hb36l;have hb36l:=ar;clear ar;have b1:=bl hb36l;have hE:=hE.trans hZ3;have hE:=Ab hE r (AaV ay (by omega));have k:=k.trans hZ3;have k:=Ab k r (AaV az (by omega));have c:=eb hZ3 c;have c:=kb r c (by omega);have m:=m.trans hZ3;have m:=Ab m r (AaV (AaX _) (by omega));have f:=eb z f;have f:=kb r f (by omega);refine gS (XL (xv:=NI i) (yv:=NI 1) p rfl rfl (Ai _ _ _ (by omega)) (gK (Aby ⟨i+1,T0,T1,o,T4,T5,rfl,hE,f,k,c,m,AV hb36l (congrArg AaT (by rw[←TR s i (by omega),SE hd1 hd2 a9])),by omega,VW hall hd1 hd2,trivial⟩ ?_)));show 32-(intOf (NI ((i)+(1)))).toNat<32-(intOf (a3 14)).toNat;rw[q14];simp only[intOf,Aba];omega
 have hi32:i=32:=by omega
 have hun:DH s=(pre s i,true):=by rw[hi32,VL];exact LR a2 (fun j hj=>hall j (by omega))
 refine gS (XO T4 hb36l UY rfl (by rw[Abe,Aa8,Do _ _ (by omega)];exact Rb) (gS (XN o (vr (AB (pre s i)) rfl) c (by first | rfl | (rw[Abe,Aa8,Do _ _ (by omega)];rfl)) (by rw[Abe,Aa8,Do _ _ (by omega)];exact Rb) (Af _) fun b2 au ba b3=> ?_)));clear m;clear c;have c:=au;clear au;have b4:=bl c;have hE:=Ab hE ba (AaV u (by omega));refine MV rfl (ResF.row o c UY rfl (by rw[Abe,Aa8];first | (rw[Abc];exact Rb) | (rw[Do _ _ (by omega)];exact Rb))) (vr (.bool (true)) rfl) ?_;refine⟨?_,hE⟩;rw[hun]

def GP(l:List Bs):Prop:=l.Pairwise fun a b=>Abl a b<0
theorem WN{a:Int}(h:a≤0)(h2:a≠0):a<0:=by omega
theorem getD_mem'{l:List Bs}{i:Nat}(hi:i<l.length):l.getD i []∈l:=AO [] hi
theorem Eb{l:List Bs}{i:Nat}(hi:i<l.length):l.getD i []=l[i]:=by rw[AaW,Aa2 hi];rfl
theorem WO{l:List Bs}(h:C1 l){i j:Nat}(hij:i<j)(hj:j<l.length):Abl (l.getD i []) (l.getD j [])≤0:=by
  rw[Eb (by omega),Eb hj];exact Acs.1 h i j (by omega) hj hij
theorem VX{l:List Bs}(h:GP l){i j:Nat}(hij:i<j)(hj:j<l.length):Abl (l.getD i []) (l.getD j [])<0:=by
  rw[Eb (by omega),Eb hj];exact Acs.1 h i j (by omega) hj hij
theorem SG{l:List Bs}{i:Nat}{x:Bs}(h:x∈l.take i):∃j,j<i∧j<l.length∧x=l.getD j []:=by
  obtain⟨j,hj,rfl⟩:=Aeg.1 h;rw[Abg]at hj;exact⟨j,by omega,by omega,by rw[AeP,Eb]⟩
theorem LZ{l:List Bs}{i:Nat}{x:Bs}(hi:i<l.length):x∈l.take (i+1)↔x∈l.take i∨x=l.getD i []:=by
  rw[Abu hi,Abk,Aa6,Eb hi]
section
variable {m o : List Bs} {i : Nat}
theorem NO(hm:C1 m)(hi:i<m.length)(hS:GP o)(hmem:∀x,x∈o↔x∈m.take i)(h:o.length=0∨o.getD (o.length-1) []≠m.getD i []):GP (o++ [m.getD i []]):=by
  refine Acd.2 ⟨hS,by simp,fun a ha b hb=> ?_⟩;rw[Aa6.1 hb];have hle:∀c∈o,Abl c (m.getD i [])≤0:=fun c hc=>by
    obtain⟨j,h1,h2,rfl⟩:=SG ((hmem c).1 hc);exact WO hm h1 hi
  refine WN (hle a ha) fun e=> ?_;have e:=Hl e;obtain⟨k,hk,hka⟩:=Aeg.1 ha;rcases h with h | h
  · omega
  · by_cases hkl:k=o.length-1
    · refine h ?_;rw[Eb (by omega),←e,←hka]
      congr 1
      omega
    · have h1:=VX hS (i:=k) (j:=o.length-1) (by omega) (by omega);rw[Eb hk,hka,e]at h1;have h2:=hle _ (getD_mem' (l:=o) (i:=o.length-1) (by omega));have h3:=GZ (m.getD i []) (o.getD (o.length-1) []);omega
theorem L0(hi:i<m.length)(hmem:∀x,x∈o↔x∈m.take i):∀x,x∈o++ [m.getD i []]↔x∈m.take (i+1):=fun x=>by
  rw[LZ hi,Abk,Aa6,hmem]
theorem SH(hi:i<m.length)(hmem:∀x,x∈o↔x∈m.take i)(h0:¬o.length=0)(h:¬o.getD (o.length-1) []≠m.getD i []):∀x,x∈o↔x∈m.take (i+1):=fun x=>by
  rw[LZ hi,←hmem];constructor
  · exact .inl
  · rintro(h1 | rfl)
    · exact h1
    · rw[←AeO.1 h];exact getD_mem' (by omega)
end
theorem setK_lg42:∀(cs:Array AaR),cs.size=32→∀w:AaS,(Abz 42 1 #[(0, .agg cs)]).run AaU w = .ok (.slice (some ⟨w.heap.size,0,none⟩) 1 1) (w.alloc (.cells cs 33))
 | ⟨[c0,c1,c2,c3,c4,c5,c6,c7,c8,c9,c10,c11,c12,c13,c14,c15,c16,c17,c18,c19,c20,c21,c22,c23,c24,c25,c26,c27,c28,c29,c30,c31]⟩,_,w=>Th c0 c1 c2 c3 c4 c5 c6 c7 c8 c9 c10 c11 c12 c13 c14 c15 c16 c17 c18 c19 c20 c21 c22 c23 c24 c25 c26 c27 c28 c29 c30 c31 w
theorem VY(w:AaS)(v:AaR)(l:List Bs)(hr:RG 32 AaT w v l)(hl:l.length≤100000):
  Calls AaU 23 #[v] w fun e w' =>∃v' o,e = .returned v' ∧OG w.heap.size 33 32 AaT w' v' o∧GP o∧(∀x,x∈o↔x∈l)∧o.length≤l.length∧Ext w w' :=by
 refine gG (args:= [v]) Tryz.func23 rfl 32 rfl rfl ?_;have hE:=Ext.refl w;refine gS (XQ To rfl ((M7 _ v l (by omega) hr).mono ?_));rintro e k ⟨v5,rfl,n,au⟩;refine⟨_,rfl,?_⟩;have n:=XW n;obtain⟨m,hm⟩:∃m,m=AJ l:=⟨_,rfl⟩;rw[←hm]at n;have hml:m.length=l.length:=by rw[hm,Gs]
 have hma:C1 m:=by rw[hm];exact Gr l
 have hmm:∀x,x∈m↔x∈l:=fun x=>by rw[hm];exact(sortB_perm l).mem_iff
 refine gS (X1 M4 (XU n rfl) ?_);have c:=Ext.refl k;have hE:=hE.trans au;have z:=hE.size;have hrow0:OG k.heap.size 33 32 AaT k (Aa0 none 0 0) ([]:List Bs):=OG.nil _ _ _ _ _;refine gL (fun(ρ:Ad) (wz:AaS)=>∃i:Nat,∃o:List Bs,∃vo:AaR,ρ 0=(v:AaR)∧ρ 2=((Aa0 none 0 0):AaR)∧ρ 7=(v5:AaR)∧ρ 8=(NI m.length:AaR)∧ρ 9=(NI i:AaR)∧ρ 3=(vo:AaR)∧Ext w wz∧Ext k wz∧OG k.heap.size 33 32 (AaT) wz vo (o)∧(i≤m.length)∧(GP o)∧(∀x,x∈o↔x∈m.take i)∧(o.length≤i)∧True) (fun ρ _=>m.length-(intOf (ρ 9)).toNat) ⟨0,[],(Aa0 none 0 0),rfl,rfl,rfl,rfl,rfl,rfl,hE,c,Bz hrow0 (rfl),Abs _,AcQ,(fun x=>by simp),AaX _,trivial⟩ ?_;clear hrow0;clear hE;rintro aa av ⟨i,o,vo,T0,T2,t,u,p,h,hE,c,hr_vo,hi,hS,hmem,hol,-⟩;have q9:=p;refine gS (XK (a:=(i:Nat)) (b:=(m.length:Nat)) p u (AL _ _ _ _) ?_);refine cD rfl (fun ah=> ?_) fun ah=> ?_
 ·have hlt:i<m.length:=ah;have j:(AaT (m.getD (i) ([]:List UInt8))).length=32:=(RG.elem (n.keep c) ([]:List UInt8) (by omega));refine gS (X4 M4 Rs (by decide) ([]:List UInt8) (XU (n.keep c) t) p (by omega) fun a8 ai=>(gS (X9 (Yb ai rfl) UY rfl (by rw[j];exact Rb) (gS (Yk.alloc Tf fun ad aw a9 aj ax ba=> ?_)))));have g:=Ext.refl av;have bb:=hE.size;have bc:=c.size;have ak:OB vo ad:=A7 hr_vo.2 (by omega);have f:=aj;clear aj;have bd:ad<aw.heap.size:=by omega
  refine gS (XN (vr (PQ ad 0) rfl) (vr (AB (m.getD (i) ([]:List UInt8))) rfl) f (by exact Bv (AC (j)) Abc) (by exact Ac (AC (j))) (Af _) fun be al ay bf=> ?_);clear f;have f:=al;clear al;have bg:=bl f;clear ai;have g:=g.trans ax;have g:=Ab g ay (AaV (AaX _) (by omega));have c:=c.trans g;have hxl:(m.getD i []).length=32:=AC ((n.keep c).1 _ (AO [] hlt));by_cases h0:o.length=0
  ·refine CC [0,1,2,3,4,5,6,7,8,9,10,11,12] [] [] fun bh ae=> ?_;have g:=g.trans ae;have hr_vo:=hr_vo.keep g;have f:=eb ae f;refine ys (X1 M4 (XU (XW hr_vo) h) zz) (ys (XK (a:=(o.length:Nat)) (b:=(0:Nat)) rfl rfl (AA _ _ _ _) zz) (kT (h0) (ys (XR rfl rfl zz) (cT rfl (gS (XO rfl f UY rfl (by exact Ac (AC (j))) (gS (Yo (a:=(m.getD (i) ([]:List UInt8))) (enc:=AaT) (vr (AB (m.getD (i) ([]:List UInt8))) rfl) (by rw[Aa8];exact(AC (j))) setK_lg42 fun az a0 am y=> ?_))))))));have c:=c.trans (ae.trans y);have hr_vo:=hr_vo.keep y;refine gS (X2 _ _ k.heap.size _ 32 M4 pk6_ig33.choose_spec.1 pk6_ig33.choose_spec.2 M4 (o) ([(m.getD (i) ([]:List UInt8))]) (OG.of hr_vo h) (XU am (vr az rfl)) (fun _ _=>Af _) (by simp only[Abp,Abw];omega) (by simp only[Abp,Abw];omega) c.size fun an a1 a2 q=> ?_);have q:Grew a0 a1 vo an:= .eqv h q;have f:=eb y f;have g:=g.trans y;have hE:=hE.trans g;have hE:=Av hE q hr_vo.2 z;have c:=Av c q hr_vo.2 (AaX _);have f:=Aq f q ak;clear am;clear hr_vo;have hq:o.length=0∨o.getD (o.length-1) []≠m.getD i []:= .inl h0;refine gS (XL (xv:=NI i) (yv:=NI 1) p rfl rfl (Ai _ _ _ (by omega)) (gK (Aby ⟨i+1,o++ [m.getD i []],an,T0,T2,t,u,rfl,rfl,hE,c,Bz a2 (rfl),by omega,NO hma hlt hS hmem hq,L0 hlt hmem,(by simp only[AaY,Abp,Abw];omega),trivial⟩ ?_)));show m.length-(intOf (NI ((i)+(1)))).toNat<m.length-(intOf (aa 9)).toNat;rw[q9];simp only[intOf,Aba];omega
  have hr_vo:=hr_vo.keep g;have hyl:(o.getD (o.length-1) []).length=32:=AC (hr_vo.1 _ (AO [] (by omega)));refine CC [0,1,2,3,4,5,6,7,8,9,10,11,12] [] [] fun bi r=> ?_;have hr_vo:=hr_vo.keep r;refine ys (X1 M4 (XU (XW hr_vo) h) zz) (ys (XK (a:=(o.length:Nat)) (b:=(0:Nat)) rfl rfl (AA _ _ _ _) zz) (kF (h0) (ys (X1 M4 (XU (XW hr_vo) h) zz) (ys (XL (xv:=NI o.length) (yv:=NI 1) rfl rfl rfl (BJ _ _ _ (by omega) (by omega)) zz) ?_))));have a3:(AaT (o.getD ((o.length)-(1)) ([]:List UInt8))).length=32:=(RG.elem (XW hr_vo) ([]:List UInt8) (by omega));have f:=eb r f;refine yA (X4 M4 Rs (by decide) ([]:List UInt8) (XU (XW hr_vo) h) rfl (by omega) fun bj ao=>(ys (X9 (Yb ao rfl) UY rfl (by rw[a3];exact Rb) zz) (ys (XO rfl f UY rfl (by exact Ac (AC (j))) zz) (ys (Zx (l1:=(o.getD ((o.length)-(1)) ([]:List UInt8))) (l2:=(m.getD (i) ([]:List UInt8))) UY u5 PG R3 rfl rfl (hyl) (hxl) zz) (ys (XV rfl rfl zz) ?_)))));clear ao;refine cD rfl (fun af=> ?_) fun af=> ?_
  ·have hq:o.length=0∨o.getD (o.length-1) []≠m.getD i []:= .inr af;refine gS (XO rfl f UY rfl (by exact Ac (AC (j))) (gS (Yo (a:=(m.getD (i) ([]:List UInt8))) (enc:=AaT) (vr (AB (m.getD (i) ([]:List UInt8))) rfl) (by rw[Aa8];exact(AC (j))) setK_lg42 fun a4 a5 ap ag=> ?_)));have hZ1:=r.trans ag;have c:=c.trans hZ1;have hr_vo:=hr_vo.keep ag;refine gS (X2 _ _ k.heap.size _ 32 M4 pk6_ig33.choose_spec.1 pk6_ig33.choose_spec.2 M4 (o) ([(m.getD (i) ([]:List UInt8))]) (OG.of hr_vo h) (XU ap (vr a4 rfl)) (fun _ _=>Af _) (by simp only[Abp,Abw];omega) (by simp only[Abp,Abw];omega) c.size fun aq a6 a7 s=> ?_);have s:Grew a5 a6 vo aq:= .eqv h s;have f:=eb ag f;have g:=g.trans hZ1;have hE:=hE.trans g;have hE:=Av hE s hr_vo.2 z;have c:=Av c s hr_vo.2 (AaX _);have f:=Aq f s ak;clear ap;clear hr_vo;refine gS (XL (xv:=NI i) (yv:=NI 1) p rfl rfl (Ai _ _ _ (by omega)) (gK (Aby ⟨i+1,o++ [m.getD i []],aq,T0,T2,t,u,rfl,rfl,hE,c,Bz a7 (rfl),by omega,NO hma hlt hS hmem hq,L0 hlt hmem,(by simp only[AaY,Abp,Abw];omega),trivial⟩ ?_)));show m.length-(intOf (NI ((i)+(1)))).toNat<m.length-(intOf (aa 9)).toNat;rw[q9];simp only[intOf,Aba];omega
  have hq:¬o.getD (o.length-1) []≠m.getD i []:=af;have g:=g.trans r;have hE:=hE.trans g;have c:=c.trans r;refine gS (XL (xv:=NI i) (yv:=NI 1) p rfl rfl (Ai _ _ _ (by omega)) (gK (Aby ⟨i+1,o,vo,T0,T2,t,u,rfl,h,hE,c,Bz hr_vo (rfl),by omega,hS,SH hlt hmem h0 hq,by omega,trivial⟩ ?_)));show m.length-(intOf (NI ((i)+(1)))).toNat<m.length-(intOf (aa 9)).toNat;rw[q9];simp only[intOf,Aba];omega
 refine Bn rfl h ?_;rw[show i=m.length by omega,Acy]at hmem;exact⟨_,o,rfl,OG.low hr_vo (by have:=z;omega),hS,fun x=>(hmem x).trans (hmm x),by omega,hE⟩
theorem WP(p s:List UInt8):(Bi p s).1.length≤s.length:=by
 unfold Bi;split
 ·show(s.drop p.length).length≤_;rw[Abf];omega
 ·exact AaX _
theorem NP{D:Ae}(h:DOk D){i:Nat}(hi:i<(Ba D).length):((Ba D).getD i []).length≤80:=by
 unfold Ba at hi ⊢;split
 ·rename_i q;rw[if_pos q]at hi;cases hi
 ·rename_i q
  rw[if_neg q,Abh]at hi;rw[AaW,AcB,Aa2 hi];exact(Cv (h.now.may _ (Acp hi))).2
theorem Pg{α:Type}{l:List α}{p:α→Bool}{i:Nat}{d:α}(h:i<l.length)(hp:p (l.getD i d)=true):(l.take i).filter p++ [l.getD i d]=(l.take (i+1)).filter p:=by
 rw[Abu h,AeB];rw[AaW,Aa2 h,AbR]at hp ⊢;rw[AeM hp];rfl
theorem SI{α:Type}{l:List α}{p:α→Bool}{i:Nat}{d:α}(h:i<l.length)(hp:p (l.getD i d)=false):(l.take i).filter p=(l.take (i+1)).filter p:=by
 rw[Abu h,AeB];rw[AaW,Aa2 h,AbR]at hp;rw[AeL (by rw[hp];decide)];simp
theorem Ua:Plain AaU 75:=fun _ _=>by kernel_rfl
theorem Ub:Plain AaU 76:=fun _ _=>by kernel_rfl
theorem Uc:Plain AaU 27:=fun _ _=>by kernel_rfl
theorem Ud:Plain AaU 74:=fun _ _=>by kernel_rfl
theorem va1_ig9:∃z,(Tryz.prog.info? 9).map (fun i=>(i.zero,i.size,i.bytes))=some (some z,1,16)∧z.cells.size=1:=E6 (by kernel_rfl)
theorem Ue(w:AaS)(sg s:List UInt8)(hs:s.length≤9223372036854775807)(bd:Nat)(hbd:w.heap[bd]? =some (.cells ([St sg]).toArray 9 (0,0))):
  Calls AaU 74 #[St s,PQ bd 0] w fun e w' =>e = .returned (.bool (DR sg s))∧Ext w w' :=by
 refine UX (args:= [St (s),PQ bd 0]) Tryz.func74 rfl 23 rfl rfl ?_;have hE:=Ext.refl w;refine gS (XJ O7 rfl rfl (cellAt hbd rfl) (gS (XM Ua rfl rfl ((Ms _ s sg hs).mono ?_))));rintro e m ⟨rfl,j⟩;refine⟨_,rfl,?_⟩;refine gS (Yk.extract (vs:= [St ((Bi sg s).1), .bool ((Bi sg s).2)]) rfl rfl (gS (Yk.extract (vs:= [St ((Bi sg s).1), .bool ((Bi sg s).2)]) rfl rfl (gS (XQ Ub rfl ((SF _ (Bi sg s).1 (AaV (WP _ _) hs)).mono ?_))))));rintro e n ⟨rfl,k⟩;refine⟨_,rfl,?_⟩;refine gS (Yk.extract (vs:= [AB ((DH (Bi sg s).1).1), .bool ((DH (Bi sg s).1).2)]) rfl rfl (gS (Yk.extract (vs:= [AB ((DH (Bi sg s).1).1), .bool ((DH (Bi sg s).1).2)]) rfl rfl (gS (Yk.alloc Tf fun b l o c f p=> ?_)))));have hZ1:=j.trans k;have hE:=hE.trans hZ1;have g:=hE.size;have a:=c;clear c;have q:b<l.heap.size:=by omega
 refine gS (XN (vr (PQ b 0) rfl) (vr (AB ((DH (Bi sg s).1).1)) rfl) a (by exact Bv (IF _) Abc) (by exact Ac (IF _)) (Af _) fun r h i t=> ?_);clear a;have a:=h;clear h;have u:=bl a;rcases Af1 (Bi sg s).2 with hc | hc
 ·refine gY rfl (vr (.bool (true)) ((show _=AbA (Bi sg s).2 from rfl).trans (congrArg AbA hc))) (gS (XR (vr (.bool (true)) ((show _=AbA (Bi sg s).2 from rfl).trans (congrArg AbA hc))) rfl (Bn rfl (vr (.bool ((DH (Bi sg s).1).2)) rfl) ?_)));have hE:=hE.trans f;have hE:=Ab hE i (AaV g (by omega));exact⟨by unfold DR;rw[hc,Bool.true_and],hE⟩
 refine gN rfl rfl (vr (.bool (false)) ((show _=AbA (Bi sg s).2 from rfl).trans (congrArg AbA hc))) rfl (gS (XV (vr (.bool (false)) ((show _=AbA (Bi sg s).2 from rfl).trans (congrArg AbA hc))) rfl (Bn rfl (vr (.bool (false)) rfl) ?_)));have hE:=hE.trans f;have hE:=Ab hE i (AaV g (by omega));exact⟨by unfold DR;rw[hc,Bool.false_and],hE⟩

theorem JV(wb w:AaS)(g:Nat)(H:Dk)(D:Ae)(hD:DkG wb w g H D)(hL:DL D)(sg:List UInt8)(hnm:(Ba D).length≤100000):
  Calls AaU 41 #[PQ g 0,St sg] w fun e w' =>∃v,e = .returned v∧OG w.heap.size 9 1 CX w' v (Au D sg)∧Ext w w' :=by
 refine gG (args:= [PQ g 0,St (sg)]) Tryz.func41 rfl 26 rfl rfl ?_;have hE:=Ext.refl w;refine gS (Yz (vr (St (sg)) rfl) rfl fun j w3 ay ab al az=> ?_);have c:=ab;clear ab;have a0:j<w3.heap.size:=by omega
 refine gS (Ys (vs:= #[PQ j 0]) (by simp only[Abx,Abv,AbG];exact congrArg Acn (PB (vr (PQ j 0) rfl))) ?_);have hE:=hE.trans al;have a1:=hE.size;refine gS (XQ Uc rfl (((hD.keep hE).list hL).mono ?_));rintro e k ⟨am,rfl,an,ac⟩;refine⟨_,rfl,?_⟩;have p:=XW an;refine gS (X1 ND (XU p rfl) ?_);have f:=Ext.refl k;have hE:=hE.trans ac;have ao:=hE.size;have hrow0:OG k.heap.size 9 1 (CX) k (Aa0 none 0 0) ([]:List (List UInt8)):=OG.nil _ _ _ _ _;have ap:Aa1 (Aa0 none 0 0)≠some j:=fun e_=>by cases e_
 have hDk:=hD;have hL100:=hnm;have hE1_:=hE.size;have c:=eb ac c;refine gL (fun(ρ:Ad) (wz:AaS)=>∃i:Nat,∃r:AaR,ρ 0=(PQ g 0:AaR)∧ρ 1=(St (sg):AaR)∧ρ 3=(PQ j 0:AaR)∧ρ 4=((Aa0 none 0 0):AaR)∧ρ 5=(.func (.func 74) #[] #[PQ j 0]:AaR)∧ρ 11=(am:AaR)∧ρ 12=(NI (((Ba D)).length):AaR)∧ρ 13=(NI i:AaR)∧ρ 6=(r:AaR)∧Ext w wz∧wz.heap[j]? =some (.cells (([St (sg)]:List AaR)).toArray 9 (0,0))∧Ext k wz∧OG k.heap.size 9 1 (CX) wz r (((Ba D).take i).filter (DR sg))∧(i≤(Ba D).length)∧(OB r j)∧True) (fun ρ _=>(Ba D).length-(intOf (ρ 13)).toNat) ⟨0,(Aa0 none 0 0),rfl,rfl,rfl,rfl,rfl,rfl,rfl,rfl,rfl,hE,c,f,Bz hrow0 (rfl),Abs _,ap,trivial⟩ ?_;clear hrow0;clear hE c;rintro ad a2 ⟨i,r,T0,T1,T3,T4,q,s,t,m,o,hE,c,f,hr_r,hil,hap_r_n2,-⟩;have q13:=m;refine gS (XK (a:=(i:Nat)) (b:=(((Ba D)).length:Nat)) m t (AL _ _ _ _) ?_);refine cD rfl (fun x=> ?_) fun x=> ?_
 ·have hlt:i<(Ba D).length:=x;have hel:=NP hDk.st.ok hlt;have hfl:(((Ba D).take i).filter (DR sg)).length≤i:=AaV (AcH _ _) (by rw[Abg];exact Ae8 _ _);have a3:(CX (((Ba D)).getD (i) ([]:List UInt8))).length=1:=(RG.elem (p.keep f) ([]:List UInt8) (hlt));refine gS (X4 ND TC (by decide) ([]:List UInt8) (XU (p.keep f) s) m (hlt) fun a4 ai=>(gS (X0 O7 rfl (PR.cell (Yb ai rfl) rfl) ?_)));clear ai;refine gS (YN Ud (caps:= #[PQ j 0]) q #[St (((Ba D)).getD (i) ([]:List UInt8)),PQ j 0] (by simp only[Abx,Abv,AbG,Ac4,AbS,AbV];exact congrArg Acn (FI rfl rfl)) ((Ue _ sg ((Ba D).getD (i) ([]:List UInt8)) (by omega) j c).mono ?_));rintro e a5 ⟨rfl,n⟩;refine⟨_,rfl,?_⟩;refine cB (DR sg ((Ba D).getD (i) ([]:List UInt8))) rfl (fun z=> ?_) fun z=> ?_
  ·refine gS (Ye (a:=((Ba D)).getD (i) ([]:List UInt8)) (enc:=CX) (vr (St (((Ba D)).getD (i) ([]:List UInt8))) rfl) rfl (fun w=>JN _ w) fun aq ar aj au=> ?_);have hZ1:=n.trans au;have f:=f.trans hZ1;have hr_r:=hr_r.keep hZ1;refine gS (X2 _ _ k.heap.size _ 16 ND va1_ig9.choose_spec.1 va1_ig9.choose_spec.2 ND (((Ba D).take i).filter (DR sg)) ([((Ba D)).getD (i) ([]:List UInt8)]) (OG.of hr_r o) (XU aj (vr aq rfl)) (fun y hy u hu=>by rw[Aa6.1 hu];rfl) (by simp only[Abj];omega) (by simp only[Abj];omega) f.size fun aa av aw l=> ?_);have l:Grew ar av r aa:= .eqv o l;have c:=eb hZ1 c;have ax:OB aa j:=Ao l hap_r_n2 (bl c);have hE:=hE.trans hZ1;have hE:=Av hE l hr_r.2 ao;have c:=Aq c l hap_r_n2;have f:=Av f l hr_r.2 (AaX _);clear aj;clear hr_r;refine gS (XL (xv:=NI i) (yv:=NI 1) m rfl rfl (Ai _ _ _ (by omega)) (gK (Aby ⟨i+1,aa,T0,T1,T3,T4,q,s,t,rfl,rfl,hE,c,f,Bz aw ((Pg hlt z)),by omega,ax,trivial⟩ ?_)));show(Ba D).length-(intOf (NI ((i)+(1)))).toNat<(Ba D).length-(intOf (ad 13)).toNat;rw[q13];simp only[intOf,Aba];omega
  have hE:=hE.trans n;have c:=eb n c;have f:=f.trans n;have hr_r:=hr_r.keep n;refine gS (XL (xv:=NI i) (yv:=NI 1) m rfl rfl (Ai _ _ _ (by omega)) (gK (Aby ⟨i+1,r,T0,T1,T3,T4,q,s,t,rfl,o,hE,c,f,Bz hr_r ((SI hlt z)),by omega,hap_r_n2,trivial⟩ ?_)));show(Ba D).length-(intOf (NI ((i)+(1)))).toNat<(Ba D).length-(intOf (ad 13)).toNat;rw[q13];simp only[intOf,Aba];omega
 have hie:i=(Ba D).length:=by have h:=x;omega
 refine Bn rfl o ?_;exact⟨_,rfl,OG.low (Bz hr_r (by rw[hie,Acy];rfl)) hE1_,hE⟩

theorem Ec(w:AaS)(hG:Laid w)(v:AaR)(b:List UInt8)(hr:RB w v b)(hb:b.length≤1099511627776):
  Calls AaU 44 #[v] w fun e w' =>e = .returned (St (Ax b))∧Ext w w' :=by
 refine gG (args:= [v]) Tryz.func44 rfl 8 rfl rfl ?_;have hE:=Ext.refl w;refine gS (Yu F8 (XP (hr.keep hE) (vr v rfl)) fun a i c f=> ?_);have hE:=hE.trans f;refine gS (XQ JG rfl ((Gi _ (hG.keep hE) a b c (by omega)).mono ?_));rintro e j ⟨rfl,g⟩;refine⟨_,rfl,?_⟩;refine gS (XQ TU rfl ((Pb _ (Sha.sum b) (Sha.sum_length _)).mono ?_));rintro e k ⟨rfl,h⟩;refine⟨_,rfl,?_⟩;refine gS (Zy (l:=([112,45]:List UInt8)) (m:=hexOf (Sha.sum b)) rfl rfl (by rw[CN,Sha.sum_length];simp) (Bn rfl (vr (St ((([112,45]:List UInt8):List UInt8)++(hexOf (Sha.sum b):List UInt8))) rfl) ?_));have hZ1:=g.trans h;have hE:=hE.trans hZ1;exact⟨rfl,hE⟩
theorem QJ:∀u:AaS,(zeroValue 89).run AaU u = .ok (.pointer none) u:=fun _=>by kernel_rfl
theorem DkG.offN{wb w:AaS}{g:Nat}{H:Dk}{D:Ae}(h:DkG wb w g H D){k:Nat}(hk:w.heap.size≤k):Cg H D k:=fun q=>by
  have:=(h.st.foot q).2.1;omega
theorem OpenNew.okV{n:Nat}{w:AaS}{v:AaR}{r:Except Nat AZ}{p:AZ}{c:Nat}(h:OpenNew n w v r c)(e:r = .ok p):c=0∧PackNew n w v p:=by subst e;exact h
theorem Zb{n:Nat}{w:AaS}{v:AaR}{r:Except Nat AZ}{p:AZ}{c:Nat}(h:OpenNew n w v r c)(e:r = .ok p):∃gp,v=pN gp:=by
  obtain⟨g,-,-,-,h1,-⟩:=(h.okV e).2;exact⟨g,h1⟩
theorem OpenNew.bad{n:Nat}{w:AaS}{v:AaR}{b:Bs}{e c:Nat}(h:OpenNew n w v (BW b) c)(he:BW b = .error e):c≠0:=by
  have:=VQ he;rw[he]at h;rw[h.1];exact this
theorem PackP.set{Q:Nat→Prop}{w w' :AaS}{v:AaR}{p:AZ}(h:PackP Q w v p){b:Nat}(hg:w.grownBy w' (some b))(hne:∀k,Q k→k≠b):PackP Q w' v p:=
  h.chg (B:=fun k=>k=b) (Yc hg fun i e=> .inl (AbB e).symm) fun k _ q=>⟨hne k q,q⟩
theorem QK{D:Ae}(h:DOk D):SortS (Ba D):=by
  unfold Ba;split
  · exact AcQ
  · exact List.pairwise_map.2 h.now.sort
theorem FU{D:Ae}(h:DOk D)(sg:Bs):SortS (Au D sg):=(QK h).filter _
theorem SJ{D:Ae}{sg s:Bs}(h:s∈Au D sg):s∈Ba D:=(Acw.1 h).1
theorem L1{D:Ae}(h:DOk D){sg:Bs}{i:Nat}(hi:i<(Au D sg).length):((Au D sg).getD i ([]:List UInt8)).length≤80:=by
  have hm:=SJ (AO ([]:Bs) hi);obtain⟨k,hk,e⟩:=Aco hm;have:=NP h hk;rw[AaW,Aa2 hk,AbR,e]at this;exact this
theorem Js(D:Ae)(l:List Bs):(l.filterMap (Ep D)).map Abq=l.filter fun s=>(Hb D s).isSome:=by
  induction l with
  | nil=>rfl
  | cons s r ih=>
    rw[Afh,List.filter_cons];unfold Ep;cases Hb D s with
    | none=>exact ih
    | some p=>exact congrArg (s :: ·) ih
theorem QL{D:Ae}(h:DOk D):SortS ((GD D).map Abq):=by
  unfold GD;rw[Js];exact(FU h _).filter _
theorem VZ{D:Ae}{l:List Bs}{L:AP}{i:Nat}{pk:AZ}(hlt:i<l.length)(hLe:L=(l.take i).filterMap (Ep D))(hv:Hb D (l.getD i ([]:List UInt8))=some pk):L++ [(l.getD i ([]:List UInt8),pk)]=(l.take (i+1)).filterMap (Ep D):=by
  rw[AaW,Aa2 hlt,AbR]at hv ⊢;rw[Abu hlt,Agn,hLe];unfold Ep;rw[Afh,hv];rfl
theorem SK{D:Ae}{l:List Bs}{L:AP}{i:Nat}(hlt:i<l.length)(hLe:L=(l.take i).filterMap (Ep D))(hv:Hb D (l.getD i ([]:List UInt8))=none):L=(l.take (i+1)).filterMap (Ep D):=by
  rw[AaW,Aa2 hlt,AbR]at hv;rw[Abu hlt,Agn,hLe];unfold Ep;rw[Afh,hv];exact(AcK _).symm
theorem V0{D:Ae}(h:DOk D){sg:Bs}{L:AP}{i:Nat}(hlt:i<(Au D sg).length)(hLe:L=((Au D sg).take i).filterMap (Ep D)):(Au D sg).getD i ([]:List UInt8)∉L.map Abq:=by
  rw[hLe,Js];intro q;have hm:=(Acw.1 q).1;obtain⟨k,hk,e⟩:=Aco hm;rw[Abg]at hk;rw[AeP,AaW,Aa2 hlt,AbR]at e;have:=(AfA.1 (FU h sg).nodup);have h2:=Acs.1 this k i (by omega) hlt (by omega);exact h2 e
theorem DBd.addK{n k:Nat}{D:Ae}(h:DBd n D)(s:List UInt8){b:List UInt8}(hk:1≤k)(hb:b.length≤300*k):DBd (n+k) (Cd D s b):=by
  unfold Cd;split
  · rename_i j _
    refine⟨h.quota,AaV h.refused (Ac8 _ _),h.arm,AaV h.acts (Ac8 _ _),AaV h.now (Ac8 _ _),fun x hx=> ?_⟩;rcases AdD hx with hx | rfl
    · have:=h.files x hx;omega
    · have:=h.file j;show((AY D j).1++b).length≤_;rw[AaY];omega
  · have h1:=(h.turned ⟨[],s,D.files.length⟩).mono (show n+1≤n+k by omega);refine⟨h1.quota,h1.refused,h1.arm,h1.acts,h1.now,fun x hx=> ?_⟩;rcases Abk.1 hx with hx | hx
    · have:=h.files x hx;omega
    · rw[Aa6.1 hx];show b.length≤_;omega
theorem DBd.appendK{n k:Nat}{D:Ae}(h:DBd n D)(s:List UInt8){b:List UInt8}(hk:1≤k)(hb:b.length≤300*k):DBd (n+k) (A0 D s b).1:=by
  unfold A0;split
  · exact h.mono (Ac8 _ _)
  · split
    · have h2:=h.mono (Ac8 n k);have:=h.refused;exact⟨h2.quota,by show D.refused+1≤_;omega,h2.arm,h2.acts,h2.now,h2.files⟩
    · split
      · exact h.armed.mono (Ac8 _ _)
      · exact h.armed.addK s hk hb
theorem L2{l:List Bs}{i:Nat}(h:i<l.length):l.drop i=l.getD i ([]:List UInt8) :: l.drop (i+1):=by
  rw[AaW,Aa2 h,AbR];exact Ab8 h
def BM(D:Ae):List Bs→Ae × Nat
  | []=>(D,0)
  | s :: r=>if(Bx D s).2≠0 then Bx D s else BM (Bx D s).1 r
theorem FV(D:Ae)(s:Bs)(r:List Bs):BM D (s :: r)=if(Bx D s).2≠0 then Bx D s else BM (Bx D s).1 r:=rfl
theorem DBd.drops{m:Nat}{D:Ae}(h:DBd m D)(l:List Bs):DBd (m+l.length) (BM D l).1:=by
  induction l generalizing m D with
  | nil=>exact h
  | cons s r ih=>
    rw[FV,Abp];have h1:=h.drop s;split
    · exact h1.mono (by omega)
    · exact(ih h1).mono (by omega)
def FD(D:Ae)(b:Bs):Ae × Bool × Nat:=
  if(A0 D (Ax b) b).2≠0 then((A0 D (Ax b) b).1,false,(A0 D (Ax b) b).2)
  else((BB (A0 D (Ax b) b).1 (Ax b)).1,true,(BB (A0 D (Ax b) b).1 (Ax b)).2)
def Gk(x:Ae × Nat)(b:Bs):Ae × Bool × Nat:=if x.2≠0∧x.2≠4 then(x.1,false,x.2)else FD x.1 b
def AE(D:Ae)(b:Bs):Ae × Bool × Nat:=
  if(An D (Ax b)).2=0∧(An D (Ax b)).1=b then((BB D (Ax b)).1,false,(BB D (Ax b)).2)
  else if(An D (Ax b)).2=0∧Ax (An D (Ax b)).1=Ax b then(D,false,7)
  else Gk (if(An D (Ax b)).2=0 then Bx D (Ax b)else(D,(An D (Ax b)).2)) b
section
variable {D : Ae} {b : Bs}
theorem QM(h0:(An D (Ax b)).2=0)(h1:(An D (Ax b)).1=b):AE D b=((BB D (Ax b)).1,false,(BB D (Ax b)).2):=if_pos ⟨h0,h1⟩
theorem QN(h1:¬(An D (Ax b)).1=b)(h0:(An D (Ax b)).2=0)(h2:Ax (An D (Ax b)).1=Ax b):AE D b=(D,false,7):=(if_neg fun q=>h1 q.2).trans (if_pos ⟨h0,h2⟩)
theorem E2(h1:¬(An D (Ax b)).1=b)(h0:(An D (Ax b)).2=0)(h2:¬Ax (An D (Ax b)).1=Ax b):AE D b=Gk (Bx D (Ax b)) b:=((if_neg fun q=>h1 q.2).trans (if_neg fun q=>h2 q.2)).trans (congrArg (Gk · b) (if_pos h0))
theorem FW(h0:¬(An D (Ax b)).2=0):AE D b=Gk (D,(An D (Ax b)).2) b:=((if_neg fun q=>h0 q.1).trans (if_neg fun q=>h0 q.1)).trans (congrArg (Gk · b) (if_neg h0))
end
def L3:Aea:=⟨fun | 7=>84 | 10=>138 | n=>n,fun | 23=>84 | 26=>9 | 3=>89 | 28=>111 | 0=>0 | 27=>110 | 33=>139 | 4=>4 | n=>n,fun | n=>n⟩
theorem U4:Agv AaU L3:= {
  mixed:=by kernel_rfl
  f7:=⟨Tryz.f84.name,by decide,Tryz.func84.trans (congrArg some (by kernel_rfl))⟩
  f10:=⟨Tryz.f138.name,by decide,Tryz.func138.trans (congrArg some (by kernel_rfl))⟩
  t0:=Aek
  a0:=Afr
  z0:=Afa
  v0:=Aet
  t4:=Aej
  a4:=Agf
  z4:=AfY
  v4:=Ae9
  t23:=Tryz.underlying84
  a23:=Tryz.isAgg84
  z23:=Tryz.sizeOf84
  v23:=Tryz.zeroValue84
  t26:=Adl
  a26:=Aeq
  z26:=Aeb
  v26:=Ads
  t27:=Tryz.underlying110
  a27:=Tryz.isAgg110
  z27:=Tryz.sizeOf110
  v27:=Tryz.zeroValue110
  t28:=Afs
  a28:=AgB
  z28:=Agm
  v28:=AfE
  t33:=Tryz.underlying139
  a33:=Tryz.isAgg139
  z33:=Tryz.sizeOf139
  v33:=Tryz.zeroValue139 }
open Go.RowKit Go.Shelf
theorem SL(w:AaS)(b:Nat):Calls AaU 84 #[.map (some b)] w fun e w' =>e = .returned (.func (.func 138) #[] #[.pointer (some ⟨w.heap.size,0,none⟩)])∧w' =w.alloc (.cells #[.map (some b)] 84):=by
  have h:=AnyZ.keys_in U4 AdZ 5 trivial rfl (some b) w;exact callsIn_wide.1 h
theorem NQ{l ss:List (List UInt8)}(h:SortS l)(hp:ss.Perm l):ss.mergeSort (fun x y=>decide (x≤y))=l:=by
  have h1:=mergeSort_of_perm hp;refine h1.trans (Afy ?_);refine List.Pairwise.imp (fun {a b} q=> ?_) h;rw[bytesLess_eq,decide_eq_true_eq]at q;simp only[decide_eq_true_eq];exact List.le_of_lt q
set_option maxHeartbeats 1000000 in
theorem OL(w w2:AaS){b:Nat}{ev:Nat→AaR}{G:List UInt8→Option Nat}{l:List (List UInt8)}(hw:w2=w.alloc (.cells #[.map (some b)] 84))(h:MapF St ev Nm w b G)(hl:SortS l)(hG:∀s,(G s).isSome=true↔s∈l)(hlen:l.length<1099511627776):
    Calls AaU 58 #[.func (.func 138) #[] #[.pointer (some ⟨w.heap.size,0,none⟩)]] w2 fun e w' =>∃v,e = .returned v∧OG w2.heap.size 9 1 CX w' v l∧Ext w2 w' :=by
  subst hw;obtain⟨D0,hown,hperm,hsize⟩:=h.owns (P:=AaU) (k:=9) (by kernel_rfl) (fun a q=>AaV q (by decide)) (keys:=l) (SortS.nodup hl) hG (by simp only[maxLen];omega);have hbl:=hown.lt;have hseq:SeqGives AdZ 2 AaU 138 #[.pointer (some ⟨w.heap.size,0,none⟩)] encStr (fun ss=>ss.Perm (strKeys D0)) (Maps.size D0) (w.alloc (.cells #[.map (some b)] 84)):=
    AnyZ.keys_gives (ρ:=L3) { U4 with } AdZ _ trivial rfl (by omega) w.heap.size b _ D0 _ (by simp) (by simp) (by
      obtain⟨es,clock,hb,Ft,hs,hD⟩:=hown;exact⟨es,clock,(Below.heap_alloc _ _ b hbl).trans hb,Ft,hs,hD⟩)
  have hS:=AnyZ.sorted_in O9 AdZ 5 trivial trivial trivial trivial rfl (by omega) (Sn _) (enters_of Tryz.func103 (by kernel_rfl) rfl) 138 #[.pointer (some ⟨w.heap.size,0,none⟩)] trivial (enters_of Tryz.func138 (by kernel_rfl) rfl) _ _ (by rw[hsize];simp only[maxLen];omega) (by rw[hsize];omega) _ hseq;refine(callsIn_wide.1 hS).mono fun e w' q=> ?_;obtain⟨v,ss,he,hp,hrow,-,hB⟩:=q;refine⟨v,he,⟨fun _ _=>rfl,?_⟩,hB⟩;have hs:=NQ hl (hp.trans hperm);rw[hs]at hrow;rw[NB];have hlen:ss.length=l.length:=(hp.trans hperm).length_eq;rw[hlen]at hrow;exact hrow
def dPkL:Bs × AZ:=([],[],fun _=>none)
def GoodL(L:AP):Prop:=∀e∈L,∃b,BW b = .ok e.2∧e.1=Ax b
theorem QO(D:Ae):GoodL (GD D):=fun e he=>by
 unfold GD at he;obtain⟨s,hs,h⟩:=Adn.1 he;cases hv:Hb D s with
 | none=>rw[Ep,hv]at h;cases h
 | some p=>
  have a:e=(s,p):=by rw[Ep,hv]at h;exact(AbB h).symm
  subst a;unfold Hb at hv;split at hv
  ·rename_i p1 ho
   split at hv
   ·rename_i q
    cases hv;exact⟨_,ho,q.symm⟩
   ·cases hv
  ·cases hv
theorem GoodL.at_{L:AP}(h:GoodL L){i:Nat}(hi:i<L.length)(id:Bs):(Cq (some (L.getD i dPkL).2) id).1.1.length≤4194304:=by
 obtain⟨b,hb,-⟩:=h _ (AO dPkL hi);have g:=QE hb;show(match (L.getD i dPkL).2.2 id with | none=>_ | some x=>_:(Bs × Nat)× Nat).1.1.length≤_;cases e:(L.getD i dPkL).2.2 id with
 | none=>exact Abs _
 | some x=>exact(g.any id x e).2.1
theorem NR{L:AP}{i:Nat}(hi:i<L.length):(L.map Abq).getD (i) ([]:List UInt8)=(L.getD i dPkL).1:=by
 rw[AaW,AaW,AcB,Aa2 hi];rfl
theorem Li(b:Bs):(Ax b).length=66:=by
 unfold Ax;rw[AaY,CN,Sha.sum_length];rfl
theorem GoodL.nm{L:AP}(h:GoodL L){i:Nat}(hi:i<L.length):((L.map Abq).getD (i) ([]:List UInt8)).length≤80:=by
 rw[NR hi];obtain⟨b,-,hb⟩:=h _ (AO dPkL hi);rw[hb,Li];decide
theorem V1{L:AP}{ptr:Bs→Nat}(hs:SortS (L.map Abq)){i:Nat}(hi:i<L.length):pkG L ptr ((L.map Abq).getD (i) ([]:List UInt8))=some (ptr ((L.map Abq).getD (i) ([]:List UInt8))):=by
 rw[NR hi];exact WM hs hi
theorem PksAt.idx{Q:Nat→Prop}{w:AaS}{L:AP}{ptr:Bs→Nat}(h:PksAt Q w L ptr){i:Nat}(hi:i<L.length):PackP Q w (pN (ptr ((L.map Abq).getD (i) ([]:List UInt8)))) (L.getD i dPkL).2:=by
 rw[NR hi];exact h _ (AO dPkL hi)
theorem Jt(L M:AP)(id:Bs)(h:Ay L id=none):Ay (L++M) id=Ay M id:=by
 unfold Ay at h ⊢;rw[List.findSome?_append,h];rfl
theorem Mt{L:AP}{i:Nat}(hi:i<L.length)(id:Bs)(h:Ay (L.take i) id=none):Ay L id=Ay (L.getD i dPkL :: L.drop (i+1)) id:=by
 have e:L=L.take i++(L.getD i dPkL :: L.drop (i+1)):=by
  rw[AaW,Aa2 hi,AbR,←Ab8 hi,Ad8]
 rw[show Ay L id=Ay (L.take i++(L.getD i dPkL :: L.drop (i+1))) id from congrArg (Ay · id) e];exact Jt _ _ id h
theorem SM{p:AZ}{id:Bs}(h:¬(Cq (some p) id).2=0):p.2 id=none:=by
 cases e:p.2 id with
 | none=>rfl
 | some x=>exact absurd (show(match p.2 id with | none=>_ | some x=>_:(Bs × Nat)× Nat).2=0 by rw[e]) h
theorem SN{p:AZ}{id:Bs}(h:(Cq (some p) id).2=0):∃x,p.2 id=some x∧(Cq (some p) id).1=x:=by
 cases e:p.2 id with
 | none=>
  have:(Cq (some p) id).2=12:=show(match p.2 id with | none=>_ | some x=>_:(Bs × Nat)× Nat).2=12 by rw[e]
  rw[this]at h;cases h
 | some x=>exact⟨x,rfl,show(match p.2 id with | none=>_ | some x=>_:(Bs × Nat)× Nat).1=x by rw[e]⟩
theorem WQ{L:AP}{i:Nat}{id:Bs}(h:Ay (L.take i) id=none)(hi:i<L.length)(hg:(Cq (some (L.getD i dPkL).2) id).2=0):Ay L id=some (Cq (some (L.getD i dPkL).2) id).1.1:=by
 obtain⟨x,h1,h2⟩:=SN hg;rw[Mt hi id h,h2];unfold Ay;rw[Afi,h1];rfl
theorem V2{L:AP}{i:Nat}{id:Bs}(h:Ay (L.take i) id=none)(hi:i<L.length)(hg:¬(Cq (some (L.getD i dPkL).2) id).2=0):Ay (L.take (i+1)) id=none:=by
 rw[Abu hi,Jt _ _ id h];have e:=SM hg;rw[AaW,Aa2 hi,AbR]at e;unfold Ay;rw[Afi,e];rfl
theorem Ph{D:Ae}{L:AP}{id:Bs}(h:(Ay L id).isSome=true):getV D L id=((Ay L id).getD [],0):=by
 unfold getV;cases e:Ay L id with
 | none=>rw[e]at h;cases h
 | some b=>rfl
theorem NS{D:Ae}{L:AP}{id:Bs}(h:(Ay L id).isSome=false):getV D L id=C8 D id:=by
 unfold getV;cases e:Ay L id with
 | none=>rfl
 | some b=>rw[e]at h;cases h
theorem Lj{D:Ae}{b:List UInt8}{r:Ae × List UInt8 × List UInt8 × Nat}(h:BO D b=r):r.2.1.length=32:=by
 have hf:∀x:Ae × Nat,(DC x (Sha.sum b)).2.1.length=32:=fun x=>by
  unfold DC;split
  ·rfl
  ·exact Sha.sum_length b
 subst h;unfold BO;split
 ·exact hf _
 split
 ·rfl
 split
 ·exact hf _
 split
 ·exact Sha.sum_length b
 ·exact hf _
theorem V3{D:Ae}{L:AP}{b:Bs}(h:b.length≤300)(hc:(Ay L (Sha.sum b)).isSome=true)(hn:(Ay L (Sha.sum b)).getD []≠b):Ea D L b=(D,Sha.sum b,(Ay L (Sha.sum b)).getD [],7):=by
 unfold Ea;rw[if_neg (by omega)];cases e:Ay L (Sha.sum b)with
 | none=>rw[e]at hc;cases hc
 | some x=>rw[e]at hn;exact if_neg hn
theorem V4{D:Ae}{L:AP}{b:Bs}(h:b.length≤300)(hc:(Ay L (Sha.sum b)).isSome=true)(hn:¬(Ay L (Sha.sum b)).getD []≠b):Ea D L b=(D,Sha.sum b,[],0):=by
 unfold Ea;rw[if_neg (by omega)];cases e:Ay L (Sha.sum b)with
 | none=>rw[e]at hc;cases hc
 | some x=>rw[e]at hn;exact if_pos (Adz.1 hn)
theorem Uf{D:Ae}{L:AP}{b:Bs}(h:b.length≤300)(hc:(Ay L (Sha.sum b)).isSome=false):Ea D L b=BO D b:=by
 unfold Ea;rw[if_neg (by omega)];cases e:Ay L (Sha.sum b)with
 | none=>rfl
 | some x=>rw[e]at hc;cases hc
theorem KO:A2 AaU 86 1 1:=fun b o w=>by simp[go_sem]
theorem JW:Tryz.prog.underlying 84=some (.map 9 89):=by kernel_rfl
theorem Ug:Plain AaU 84:=fun _ _=>by kernel_rfl
theorem Uh:Plain AaU 85:=fun _ _=>by kernel_rfl
theorem NT:Tryz.prog.underlying 28=some (.pointer 86):=by kernel_rfl
theorem NU:Plain AaU 46:=fun _ _=>by kernel_rfl
theorem KP:A2 AaU 86 0 0:=fun b o w=>by simp[go_sem]
theorem Ui:Plain AaU 48:=fun _ _=>by kernel_rfl
theorem Uj:Plain AaU 15:=fun _ _=>by kernel_rfl
theorem Uk:Plain AaU 47:=fun _ _=>by kernel_rfl
theorem L4(w:AaS)(n:Nat)(Q:Nat→Prop)(gv gd bm:Nat)(L:AP)(ptr:Bs→Nat)(hV:VtAt n Q w gv gd bm L ptr)(hgL:GoodL L)(hLn:L.length≤100000)(id:List UInt8)(hid:id.length=32):
  Calls AaU 46 #[PQ gv 0,AB id] w fun e w' =>∃v,e = .returned (.tuple #[v, .bool (Ay L id).isSome])∧w'.ownsRow w.heap.size 5 1 v ((Ay L id).getD []).length (AaT ((Ay L id).getD []))∧Ext w w' :=by
 have hvb:=hV.blk;have hvm:=hV.map;have hpk:=hV.pk;have hsrt:=hV.sort;have hV0:=hV;refine gG (args:= [PQ gv 0,AB id]) Tryz.func46 rfl 36 rfl rfl ?_;have hE:=Ext.refl w;refine gS (Yk.box (vr (AB id) rfl) fun l m t u o al=> ?_);have am:=Ar hvm.lt t;have c:=u;clear u;have an:l<m.heap.size:=by omega
 have ao:=Ar (bl hvb) t;have hvb:=eb o hvb;refine gS (Yk.nilCheck rfl (gS (Yk.fieldAt KO rfl (gS (XJ JW rfl rfl (cellAt hvb rfl) ?_)))));have hvm:=hvm.keep o;have hm1:=hvm;refine gS (XQ Ug rfl ((SL _ _).mono ?_));rintro e x ⟨rfl,hwk⟩;refine⟨_,rfl,?_⟩;have hxk:Ext m x:=by rw[hwk];exact(AbJ _ _).alloc (AaX _) _
 refine gS (XQ TO rfl ((OL m x hwk hm1 hsrt pkG_iff (by rw[Abh];omega)).mono ?_));rintro e ap ⟨y,rfl,ag,aa⟩;refine⟨_,rfl,?_⟩;have hE:=hE.trans (o.trans hxk);have aq:=hE.size;have f:=XW ag;have hZ1:=hxk.trans aa;have hvb:=eb hZ1 hvb;have hvm:=hvm.keep hZ1;have c:=eb hZ1 c;have hE:=hE.trans aa;refine gS (X1 ND (XU f rfl) (gL (fun(ρ:Ad) (wz:AaS)=>∃i:Nat,ρ 0=(PQ gv 0:AaR)∧ρ 1=(AB id:AaR)∧ρ 3=(PQ l 0:AaR)∧ρ 15=(y:AaR)∧ρ 16=(NI (((L.map Abq)).length):AaR)∧ρ 17=(NI i:AaR)∧wz.heap[gv]? =some (.cells ([PQ gd 0, .map (some bm)]).toArray 86 (0,0))∧MapF St pN Nm wz bm (pkG L ptr)∧Ext w wz∧wz.heap[l]? =some (.cells (AaT id).toArray 33 (0,0))∧RG 1 (CX) wz y (L.map Abq)∧(i≤L.length)∧(Ay (L.take i) id=none)∧True) (fun ρ _=>L.length-(intOf (ρ 17)).toNat) ⟨0,rfl,rfl,rfl,rfl,rfl,rfl,hvb,hvm,hE,c,f,Abs _,rfl,trivial⟩ ?_));clear hvb hvm hE c f;rintro ah ar ⟨i,T0,T1,T3,ad,ae,k,hvb,hvm,hE,c,f,hil,hno,-⟩;have q17:=k;refine gS (XK (a:=(i:Nat)) (b:=(((L.map Abq)).length:Nat)) k ae (AL _ _ _ _) ?_);refine cD rfl (fun p=> ?_) fun p=> ?_
 ·have hlt:i<(L.map Abq).length:=p;have hli:i<L.length:=by rw[Abh]at hlt;exact hlt
  have hgd:=hgL.at_ hli id;have au:(CX (((L.map Abq)).getD (i) ([]:List UInt8))).length=1:=(RG.elem f ([]:List UInt8) (hlt));refine gS (X4 ND TC (by decide) ([]:List UInt8) (XU f ad) k (hlt) fun av af=>(gS (X0 O7 rfl (PR.cell (Yb af rfl) rfl) ?_)));clear af;refine CC [0,1,2,3,4,5,6,7,8,9,10,11,12] [7] [] fun aj j=> ?_;have hvb:=eb j hvb;have hvm:=hvm.keep j;have c:=eb j c;refine ys (Yk.nilCheck T0 zz) (ys (Yk.fieldAt KO rfl zz) (ys (XJ JW rfl rfl (cellAt hvb rfl) zz) (ys (YG (ek:=St) (ev:=pN) (D:=Nm) E9 Em (fun _ _=>C7) JW (z:= .pointer none) QJ rfl rfl hvm (hgL.nm hli) (V1 hsrt hli) zz) (ys (XO T3 c UY rfl (by exact Ac hid) zz) ?_))));have hE:=hE.trans j;have hsz_:=(hE).size;refine yC (XM Uh rfl rfl ((Tt _ (pN (ptr ((L.map Abq).getD (i) ([]:List UInt8)))) (some (L.getD i dPkL).2) (PksAt.idx (hpk.keep hE) hli).opt id hid (AeA hgd (by decide))).mono ?_));rintro e aw ⟨q,rfl,ak,g⟩;refine⟨_,rfl,?_⟩;have r:=Ext.refl aj;have ax:=hE.size;refine ys (Yk.extract (vs:= [q,NI ((Cq (some (L.getD i dPkL).2) id).2)]) rfl rfl zz) (ys (Yk.extract (vs:= [q,NI ((Cq (some (L.getD i dPkL).2) id).2)]) rfl rfl zz) (gS (XK (a:=((Cq (some (L.getD i dPkL).2) id).2:Nat)) (b:=(0:Nat)) rfl rfl (AA _ _ _ _) ?_)));refine cD rfl (fun s=> ?_) fun s=> ?_
  ·have hpP:=WQ hno hli s;refine By rfl (vr q rfl) (vr (.bool (true)) rfl) ?_;have hE:=hE.trans g;exact⟨_,by rw[hpP];rfl,by rw[hpP];exact BH ak (by omega),hE⟩
  have f:=f.keep j;have hvb:=eb g hvb;have hvm:=hvm.keep g;have hE:=hE.trans g;have c:=eb g c;have r:=r.trans g;refine gS (XL (xv:=NI i) (yv:=NI 1) k rfl rfl (Ai _ _ _ (by omega)) (gK (Aby ⟨i+1,T0,T1,T3,ad,ae,rfl,hvb,hvm,hE,c,(f.keep r),by omega,V2 hno hli s,trivial⟩ ?_)));show L.length-(intOf (NI ((i)+(1)))).toNat<L.length-(intOf (ah 17)).toNat;rw[q17];simp only[intOf,Aba];omega
 have hie:i=L.length:=by have h:=p;rw[Abh]at h;omega
 have hpP:Ay L id=none:=by rw[hie,Acy]at hno;exact hno
 refine By rfl (vr (Aa0 none 0 0) rfl) (vr (.bool (false)) rfl) ?_;exact⟨_,by rw[hpP];rfl,by rw[hpP];exact AbO _ _ _ 1,hE⟩

theorem Lk(wb w:AaS)(g:Nat)(H:Dk)(D:Ae)(hD:DkG wb w g H D)(hG:Laid wb)(hL:DL D)(n:Nat)(gv bm:Nat)(L:AP)(ptr:Bs→Nat)(hV:VtAt n (Cg H D) w gv g bm L ptr)(hgL:GoodL L)(hLn:L.length≤100000)(id:List UInt8)(hid:id.length=32):
  Calls AaU 15 #[PQ gv 0,AB id] w fun e w' =>∃v,e = .returned (.tuple #[v,NI (getV D L id).2])∧RB w' v (getV D L id).1∧Ext w w' ∧NewI w.heap.size w' v:=by
 have hvb:=hV.blk;have hvm:=hV.map;have hpk:=hV.pk;have hsrt:=hV.sort;have hV0:=hV;refine gG (args:= [PQ gv 0,AB id]) Tryz.func15 rfl 26 rfl rfl ?_;have hE:=Ext.refl w;refine gS (Yk.box (vr (AB id) rfl) fun p j l m f x=> ?_);have y:=Ar hvm.lt l;have b:=m;clear m;have z:p<j.heap.size:=by omega
 refine gS (X5 NT rfl (cF rfl (gS (XO rfl b UY rfl (by exact Ac hid) ?_))));have hE:=hE.trans f;have hszp_:=(hE).size;refine gS (XM NU rfl rfl ((L4 _ n (Cg H D) gv g bm L ptr (hV0.keep hE) hgL hLn id hid).mono ?_));rintro e aa ⟨c,rfl,h,o⟩;refine⟨_,rfl,?_⟩;have ab:=Ar (bl hvb) l;have hvb:=eb f hvb;have hvm:=hvm.keep f;have hpnew:∀k,Aa1 c=some k→j.heap.size≤k:=fun k hk=>(h.lt k hk).1;have hpn:=(Y7 h).low hszp_;have q:=X3 h;refine gS (Yk.extract (vs:= [c, .bool ((Ay L id).isSome)]) rfl rfl (gS (Yk.extract (vs:= [c, .bool ((Ay L id).isSome)]) rfl rfl ?_)));refine cB ((Ay L id).isSome) rfl (fun a=> ?_) fun a=> ?_
 ·refine By rfl (vr c rfl) (vr (NI 0) rfl) ?_;have hE:=hE.trans o;exact⟨_,by rw[Ph a],by rw[Ph a];exact q,hE,hpn⟩
 refine CC [0,1,2,3,4,5,6,7,8,9] [5] [] fun ac r=> ?_;have hZ1:=o.trans r;have hvb:=eb hZ1 hvb;have b:=eb hZ1 b;refine ys (Yk.nilCheck rfl zz) (ys (Yk.fieldAt KP rfl zz) (ys (XJ TB rfl rfl (cellAt hvb rfl) zz) (ys (XO rfl b UY rfl (by exact Ac hid) zz) ?_)));have hE:=hE.trans hZ1;have hszl_:=(hE).size;refine yC (XM Ui rfl rfl ((VV wb _ g H D (hD.keep hE) hG hL id hid).mono ?_));rintro e ad ⟨i,rfl,s,t,u⟩;refine⟨_,rfl,?_⟩;have hvn:=NewI.low u hszl_;refine ys (Yk.extract (vs:= [i,NI ((C8 D id).2)]) rfl rfl zz) (ys (Yk.extract (vs:= [i,NI ((C8 D id).2)]) rfl rfl zz) (By rfl (vr i rfl) (vr (NI ((C8 D id).2)) rfl) ?_));have hE:=hE.trans t;exact⟨_,by rw[NS a],by rw[NS a];exact s,hE,hvn⟩

theorem V5(wb w:AaS)(g:Nat)(H:Dk)(D:Ae)(hD:DkG wb w g H D)(hG:Laid wb)(hL:DL D)(n:Nat)(gv bm:Nat)(L:AP)(ptr:Bs→Nat)(hV:VtAt n (Cg H D) w gv g bm L ptr)(hgL:GoodL L)(hLn:L.length≤100000)(id:List UInt8)(hid:id.length=32):
  Calls AaU 17 #[PQ gv 0,AB id] w fun e w' =>e = .returned (.bool (decide ((getV D L id).2=0)))∧Ext w w' :=by
 have hvb:=hV.blk;have hvm:=hV.map;have hpk:=hV.pk;have hsrt:=hV.sort;have hV0:=hV;refine gG (args:= [PQ gv 0,AB id]) Tryz.func17 rfl 15 rfl rfl ?_;have hE:=Ext.refl w;refine gS (Yk.box (vr (AB id) rfl) fun h i j c k o=> ?_);have p:=Ar hvm.lt j;have l:=c;clear c;have q:h<i.heap.size:=by omega
 have hE:=hE.trans k;refine gS (XO rfl l UY rfl (by exact Ac hid) (gS (XM Uj rfl rfl ((Lk wb _ g H D (hD.keep hE) hG hL n gv bm L ptr (hV0.keep hE) hgL hLn id hid).mono ?_))));rintro e r ⟨f,rfl,s,m,-⟩;refine⟨_,rfl,?_⟩;refine gS (Yk.extract (vs:= [f,NI ((getV D L id).2)]) rfl rfl (gS (Yk.extract (vs:= [f,NI ((getV D L id).2)]) rfl rfl (gS (XK (a:=((getV D L id).2:Nat)) (b:=(0:Nat)) rfl rfl (AA _ _ _ _) (Bn rfl (vr (.bool (decide (((getV D L id).2:Nat)=(0)))) rfl) ?_))))));have hE:=hE.trans m;exact⟨rfl,hE⟩

theorem V6(wb w:AaS)(g:Nat)(H:Dk)(D:Ae)(hD:DkG wb w g H D)(hG:Laid wb)(hL:DL D)(n:Nat)(gv bm:Nat)(L:AP)(ptr:Bs→Nat)(hV:VtAt n (Cg H D) w gv g bm L ptr)(hgL:GoodL L)(hLn:L.length≤100000)(vb:AaR)(b:List UInt8)(hr:RB w vb b)(hoff:b= []∨∀i,vb.ownBlock=some i→¬B2 H D.files.length i)(hbl:b.length≤300)(m:Nat)(hB:DBd m D)(hm:m≤99000):
  Calls AaU 14 #[PQ gv 0,vb] w fun e w' =>∃H' vo,e = .returned (.tuple #[AB ((Ea D L b).2.1),vo,NI (Ea D L b).2.2.2])∧RB w' vo (Ea D L b).2.2.1∧DkW wb w g H D w' H' (Ea D L b).1∧∀k,Aa1 vo=some k→w.heap.size≤k:=by
 have hvb:=hV.blk;have hvm:=hV.map;have hpk:=hV.pk;have hsrt:=hV.sort;have hV0:=hV;refine UX (args:= [PQ gv 0,vb]) Tryz.func14 rfl 50 rfl rfl ?_;have hE:=Ext.refl w;refine gS (Yk.alloc Tf fun f w3 z aa ab au=> ?_);have av:=Ar hvm.lt z;have c:=aa;clear aa;have aw:f<w3.heap.size:=by omega
 have hwb:=hD.ext.size;have hE:=hE.trans ab;refine gS (X5 NT rfl (cF rfl (gS (XS F5 (XP (hr.keep hE) rfl) (gS (XK (a:=(b.length:Nat)) (b:=(262144:Nat)) rfl rfl (Bj _ _ _ _) (kF (by omega) (cF rfl (gS (Yu F8 (XP (hr.keep hE) (vr vb rfl)) fun am ax ac s=> ?_))))))))));have hE:=hE.trans s;refine gS (XQ JG rfl ((Gi _ (hG.keep ((hD.keep hE)).ext) am b ac (by omega)).mono ?_));rintro e ay ⟨rfl,t⟩;refine⟨_,rfl,?_⟩;have c:=eb (s.trans t) c;refine gS (XN (vr (PQ f 0) rfl) (vr (AB (Sha.sum b)) rfl) c (by exact Bv (Sha.sum_length _) Abc) (by exact Ac (Sha.sum_length _)) (Af _) fun an ad u az=> ?_);have hZ1:=(ab.trans s).trans t;have hvm:=hvm.keep hZ1;have hvm:=MapF.other hvm u (Am (by omega));clear ac;clear c;have c:=ad;clear ad;have a0:=bl c;refine gS (XO rfl c UY rfl (by exact Ac (Sha.sum_length _)) ?_);have hE:=hE.trans t;have hE:=Ab hE u (AaV (AaX _) (by omega));have hszp_:=(hE).size;refine gS (XM NU rfl rfl ((L4 _ n (Cg H D) gv g bm L ptr (hV0.keep hE) hgL hLn (Sha.sum b) (Sha.sum_length _)).mono ?_));rintro e ao ⟨j,rfl,r,h⟩;refine⟨_,rfl,?_⟩;have a1:=Ar (bl hvb) z;have hvb:=eb hZ1 hvb;have hvb:=kb u hvb (by omega);have ap:OB j f:=EK r (bl c);have hpnew:∀k,Aa1 j=some k→an.heap.size≤k:=fun k hk=>(r.lt k hk).1;have hpn:=(Y7 r).low hszp_;have o:=X3 r;refine gS (Yk.extract (vs:= [j, .bool ((Ay L (Sha.sum b)).isSome)]) rfl rfl (gS (Yk.extract (vs:= [j, .bool ((Ay L (Sha.sum b)).isSome)]) rfl rfl ?_)));rcases Af1 (Ay L (Sha.sum b)).isSome with hc | hc
 ·have hE:=hE.trans h;refine gY rfl (vr (.bool (true)) ((show _=AbA (Ay L (Sha.sum b)).isSome from rfl).trans (congrArg AbA hc))) (gY rfl (vr (.bool (true)) ((show _=AbA (Ay L (Sha.sum b)).isSome from rfl).trans (congrArg AbA hc))) (gS (Yh F5 u5 O7 (XP o rfl) (gY rfl (vr (.bool (true)) ((show _=AbA (Ay L (Sha.sum b)).isSome from rfl).trans (congrArg AbA hc))) (gY rfl (vr (.bool (true)) ((show _=AbA (Ay L (Sha.sum b)).isSome from rfl).trans (congrArg AbA hc))) (gS (Yh F5 u5 O7 (XP (hr.keep hE) rfl) (gY rfl (vr (.bool (true)) ((show _=AbA (Ay L (Sha.sum b)).isSome from rfl).trans (congrArg AbA hc))) (gS (YE (l:=((Ay L (Sha.sum b)).getD [])) (m:=b) (.inr rfl) rfl rfl (decide (((Ay L (Sha.sum b)).getD [])≠b)) rfl (gS (XR (vr (.bool (true)) ((show _=AbA (Ay L (Sha.sum b)).isSome from rfl).trans (congrArg AbA hc))) rfl ?_))))))))))));refine cD rfl (fun v=> ?_) fun v=> ?_
  ·have c:=eb h c;refine gS (XO rfl c UY rfl (by exact Ac (Sha.sum_length _)) (gS (XN (vr (PQ f 0) rfl) (vr (AB (Sha.sum b)) rfl) c (by exact Bv (Sha.sum_length _) (Sha.sum_length _)) (by exact Ac (Sha.sum_length _)) (Af _) fun a2 ae x a3=> ?_)));have hvm:=hvm.keep h;have hvm:=MapF.other hvm x (Am (by omega));clear hpn;clear c;have c:=ae;clear ae;have a4:=bl c;refine HQ rfl (ResF.row rfl c UY rfl (by exact Ac (Sha.sum_length _))) (vr j rfl) (vr (NI 7) rfl) ?_;have hV:Ea D L b=(D,Sha.sum b,((Ay L (Sha.sum b)).getD []),7):=V3 hbl hc v;have hE:=Ab hE x (AaV (AaX _) (by omega));have o:=RB.kept o x (.inr ap);exact⟨H,_,by rw[hV],by rw[hV];exact o,by rw[hV];exact Yy hD hE,fun k hk=>by have:=hpnew k hk;omega⟩
  have c:=eb h c;refine cT (vr (.bool (true)) ((show _=AbA (Ay L (Sha.sum b)).isSome from rfl).trans (congrArg AbA hc))) (gS (XO rfl c UY rfl (by exact Ac (Sha.sum_length _)) (gS (XN (vr (PQ f 0) rfl) (vr (AB (Sha.sum b)) rfl) c (by exact Bv (Sha.sum_length _) (Sha.sum_length _)) (by exact Ac (Sha.sum_length _)) (Af _) fun a5 af ag a6=> ?_))));have hvm:=hvm.keep h;have hvm:=MapF.other hvm ag (Am (by omega));clear hpn;clear c;have c:=af;clear af;have a7:=bl c;refine HQ rfl (ResF.row rfl c UY rfl (by exact Ac (Sha.sum_length _))) (vr (Aa0 none 0 0) rfl) (vr (NI 0) rfl) ?_;have hV:Ea D L b=(D,Sha.sum b,[],0):=V4 hbl hc v;have hE:=Ab hE ag (AaV (AaX _) (by omega));exact⟨H,_,by rw[hV],by rw[hV];exact RB.nil _,by rw[hV];exact Yy hD hE,fun k hk=>by cases hk⟩
 have hvb:=eb h hvb;refine gN rfl rfl (vr (.bool (false)) ((show _=AbA (Ay L (Sha.sum b)).isSome from rfl).trans (congrArg AbA hc))) rfl (gN rfl rfl (vr (.bool (false)) ((show _=AbA (Ay L (Sha.sum b)).isSome from rfl).trans (congrArg AbA hc))) rfl (gN rfl rfl (vr (.bool (false)) ((show _=AbA (Ay L (Sha.sum b)).isSome from rfl).trans (congrArg AbA hc))) rfl (gN rfl rfl (vr (.bool (false)) ((show _=AbA (Ay L (Sha.sum b)).isSome from rfl).trans (congrArg AbA hc))) rfl (gN rfl rfl (vr (.bool (false)) ((show _=AbA (Ay L (Sha.sum b)).isSome from rfl).trans (congrArg AbA hc))) rfl (gS (XV (vr (.bool (false)) ((show _=AbA (Ay L (Sha.sum b)).isSome from rfl).trans (congrArg AbA hc))) rfl (cF rfl (cF (vr (.bool (false)) ((show _=AbA (Ay L (Sha.sum b)).isSome from rfl).trans (congrArg AbA hc))) (gS (Yk.nilCheck rfl (gS (Yk.fieldAt KP rfl (gS (XJ TB rfl rfl (cellAt hvb rfl) ?_))))))))))))));have hE:=hE.trans h;have hWc:DkW wb w g H D ao H D:=Yy hD hE;have c:=eb h c;have hl4_:=bl c;have hszc_:=(hE).size;refine gS (XM Uk rfl rfl ((VU wb _ g H D hWc.g hG vb b (hr.keep hE) hoff hbl m hB hm).mono ?_));rintro e ah ⟨H55,p,rfl,y,hW58,ai⟩;refine⟨_,rfl,?_⟩;have hWn:=hWc.trans hW58;have hnw_:=ai;have hvb:ah.heap[gv]? =some (.cells ([PQ g 0, .map (some bm)]).toArray 86 (0,0)):=DkG.box hWc.g hW58.chg hvb (by decide) (by decide) (by decide) (by decide);have c:ah.heap[f]? =some (.cells (AaT (Sha.sum b)).toArray 33 (0,0)):=DkG.box hWc.g hW58.chg c (by decide) (by decide) (by decide) (by decide);clear hvm;clear hE;clear hpn;clear o;have hW:=hWn;have aq:OB p f:=fun q=>by have:=ai _ q;omega
 refine gS (Yk.extract (vs:= [AB ((BO D b).2.1),p,NI ((BO D b).2.2.2)]) rfl rfl (gS (Yk.extract (vs:= [AB ((BO D b).2.1),p,NI ((BO D b).2.2.2)]) rfl rfl (gS (Yk.extract (vs:= [AB ((BO D b).2.1),p,NI ((BO D b).2.2.2)]) rfl rfl (gS (XN (vr (PQ f 0) rfl) (vr (AB ((BO D b).2.1)) rfl) c (by exact Bv (Lj rfl) (Sha.sum_length _)) (by exact Ac (Lj rfl)) (Af _) fun ar aj ak a8=> ?_)))))));have hW:DkW wb w g H (D) ar H55 ((BO D b).1):=DkW.setT hW ak c (by omega) (by decide) (by decide) (by decide) (by decide) (by decide) (by decide) hwb;clear c;have c:=aj;clear aj;have a9:=bl c;refine HQ rfl (ResF.row rfl c UY rfl (by exact Ac (Lj rfl))) (vr p rfl) (vr (NI ((BO D b).2.2.2)) rfl) ?_;have hV:Ea D L b=BO D b:=Uf hbl hc;have y:=RB.kept y ak (.inr aq);exact⟨H55,_,by rw[hV],by rw[hV];exact y,by rw[hV];exact hW,fun k hk=>by have:=hnw_ k hk;omega⟩
theorem Fb{α:Type}(A X:List α)(n:Nat)(h:A.length≤n):(A++X).take n=A++X.take (n-A.length):=by
  rw[AfV,AbK h]
theorem HH{α:Type}(A X:List α)(n:Nat):(A++X).drop (A.length+n)=X.drop n:=by
  rw[AeX,Ab4 (by omega),AbV,show A.length+n-A.length=n by omega]
theorem SO(s:Bs):(Bk s).length=(Abd s.length).length+s.length:=by simp[Bk]
theorem L5(A s X:Bs)(fin:Nat)(hs:s.length≤1048576)(h1:A.length+(Bk s).length≤fin):BV (A++(Bk s++X)) A.length fin=some (s,A.length+(Bk s).length):=by
  have hl:=SO s;have ht:(A++(Bk s++X)).take fin=A++(Abd s.length++(s++X.take (fin-A.length-(Bk s).length))):=by
    rw[Fb _ _ _ (by omega),Fb _ _ _ (by omega)];simp only[Bk,Abr]
  unfold BV;rw[ht,AcP,DZ _ (by omega)]
  dsimp only
  rw[if_neg (by omega),if_neg (by simp only[AaY];omega)]
  congr 1
  rw[HH,AcP,Ada];rw[hl,Ac5]
def entB(ps:List Pt)(i:Nat)(s:BS):Ent:=
  if(ps.getD i Az).base<0 then⟨s.b.length,false,Aa4 32 0,(ps.getD i Az).bytes⟩
  else⟨s.b.length,true,s.ids.getD (ps.getD i Az).base.toNat [],BU (ps.getD (ps.getD i Az).base.toNat Az).bytes (ps.getD i Az).bytes⟩
def Ed(ps:List Pt)(i:Nat)(s:BS):Bs:=
  if(ps.getD i Az).base<0 then [0]++Bk (ps.getD i Az).bytes
  else [1]++s.ids.getD (ps.getD i Az).base.toNat []++Bk (BU (ps.getD (ps.getD i Az).base.toNat Az).bytes (ps.getD i Az).bytes)
theorem Pi(ps:List Pt)(i:Nat)(s:BS):(bnext ps (ps.getD i Az) s).b=s.b++Ed ps i s:=by
  unfold bnext Ed
  dsimp only
  split <;> simp only[Abr]
theorem QP{ps:List Pt}(hL:Cl ps){i:Nat}(hi:i<ps.length){s:BS}(h:BOk i s)(hb:(ps.getD i Az).base<i)(X:Bs)(fin:Nat)(hf:s.b.length+(Ed ps i s).length≤fin):
    entOne (s.b++(Ed ps i s++X)) fin s.b.length=some (entB ps i s,s.b.length+(Ed ps i s).length):=by
  have hp:=hL.2 _ (AO Az hi);by_cases hbase:(ps.getD i Az).base<0
  · have hc:Ed ps i s= [0]++Bk (ps.getD i Az).bytes:=if_pos hbase;have he:entB ps i s=⟨s.b.length,false,Aa4 32 0,(ps.getD i Az).bytes⟩:=if_pos hbase;rw[hc]at hf ⊢;rw[he];have hg:(s.b++([0]++Bk (ps.getD i Az).bytes++X)).getD s.b.length 0=0:=by
      rw[AaW,AbH (AaX _),AcD];rfl
    have ht:=L5 (s.b++ [0]) (ps.getD i Az).bytes X fin (by omega) (by simp only[AaY]at hf ⊢;omega);have e:s.b++ [0]++(Bk (ps.getD i Az).bytes++X)=s.b++([0]++Bk (ps.getD i Az).bytes++X):=by simp only[Abr]
    rw[e,AaY,Abj]at ht;unfold entOne;rw[hg,if_pos ⟨by simp only[AaY,Abj]at hf;omega,by decide⟩,if_neg (by decide),ht,Aca];simp only[AaY,Abj,Ac5]
  · have hc:Ed ps i s= [1]++s.ids.getD (ps.getD i Az).base.toNat []++Bk (BU (ps.getD (ps.getD i Az).base.toNat Az).bytes (ps.getD i Az).bytes):=if_neg hbase;have he:entB ps i s=⟨s.b.length,true,s.ids.getD (ps.getD i Az).base.toNat [],BU (ps.getD (ps.getD i Az).base.toNat Az).bytes (ps.getD i Az).bytes⟩:=if_neg hbase;have a:(ps.getD i Az).base.toNat<s.ids.length:=by rw[h.ids];omega
    have h32:=h.len _ (AO [] a);have hq:=hL.2 _ (AO Az (l:=ps) (i:=(ps.getD i Az).base.toNat) (by rw[h.ids]at a;omega));have hm:=Il (ps.getD (ps.getD i Az).base.toNat Az).bytes (ps.getD i Az).bytes (by omega) (by omega);rw[hc]at hf ⊢;rw[he]
    generalize BU (ps.getD (ps.getD i Az).base.toNat Az).bytes (ps.getD i Az).bytes=m at hm hf ⊢
    generalize s.ids.getD (ps.getD i Az).base.toNat []=id at h32 hf ⊢
    have hg:(s.b++([1]++id++Bk m++X)).getD s.b.length 0=1:=by
      rw[AaW,AbH (AaX _),AcD];rfl
    have ht:=L5 (s.b++ [1]++id) m X fin (by omega) (by simp only[AaY]at hf ⊢;omega);have e:s.b++ [1]++id++(Bk m++X)=s.b++([1]++id++Bk m++X):=by simp only[Abr]
    rw[e,AaY,AaY,Abj,h32]at ht;have hd:((s.b++([1]++id++Bk m++X)).take fin).drop (s.b.length+1)=id++(Bk m++X.take (fin-s.b.length-1-id.length-(Bk m).length)):=by
      simp only[AaY,Abj]at hf;have c:s.b++([1]++id++Bk m++X)=s.b++([1]++(id++(Bk m++X))):=by simp only[Abr]
      rw[c,Fb _ _ _ (by omega),Fb [1] _ _ (by simp only[Abj];omega),Fb id _ _ (by simp only[Abj];omega),Fb (Bk m) _ _ (by simp only[Abj];omega),HH];rfl
    unfold entOne;rw[hg,if_pos ⟨by simp only[AaY,Abj]at hf;omega,by decide⟩,if_pos rfl,if_neg (by simp only[AaY,Abj]at hf;omega),ht,Aca,hd,←h32,Ada];simp only[AaY,Abj,Ac5]
structure BInv (ps : List Pt) (i : Nat) (s : BS) (es : List Ent) : Prop where
  ok:BOk i s
  len:es.length=i
  ids:s.ids=(ps.take i).map fun p=>Sha.sum p.bytes
  nodup:s.ids.Nodup
  pos:es.map Ent.pos=s.places
  asc:s.places.Pairwise (· < ·)
  top:∀p∈s.places,p<s.b.length
  ent:∀X fin,s.b.length≤fin→C9 (s.b++X) fin (1+(Abd ps.length).length) i=some (es,s.b.length)
  flat:∀j,j<i→(ps.getD j Az).base<0→(es.getD j dEnt.1).based=false∧(es.getD j dEnt.1).bytes=(ps.getD j Az).bytes∧s.depths.getD j 0=0
  upon:∀j,j<i→¬(ps.getD j Az).base<0→(ps.getD j Az).base.toNat<j∧(es.getD j dEnt.1).based=true∧(es.getD j dEnt.1).base=s.ids.getD (ps.getD j Az).base.toNat []∧(es.getD j dEnt.1).bytes=BU (ps.getD (ps.getD j Az).base.toNat Az).bytes (ps.getD j Az).bytes∧s.depths.getD j 0=s.depths.getD (ps.getD j Az).base.toNat 0+1
theorem E3{α:Type}(l m:List α)(d:α){i:Nat}(h:i<l.length):(l++m).getD i d=l.getD i d:=by
  rw[AaW,AaW,AbN h]
theorem GE{α:Type}(l:List α)(x d:α){i:Nat}(h:l.length=i):(l++ [x]).getD i d=x:=by
  rw[AaW,AbH (by omega),h,AcD];rfl
theorem Ll{ps:List Pt}(hL:Cl ps):∀(i:Nat) (s:BS),i≤ps.length→CW ps i = .ok s→∃es,BInv ps i s es
  | 0,s,hi,h=>by
    have hk:=Ir hL 0 s hi h;cases h;refine⟨[],hk,rfl,rfl,List.nodup_nil,rfl,AcQ,(fun p hp=>by cases hp),fun X fin hf=> ?_,(fun j hj=>by omega),(fun j hj=>by omega)⟩;show some ([],_)=some ([],_);rw[Abp,AeD]
  | i+1,s,hi,h=>by
    have hk:=Ir hL (i+1) s hi h;cases hb:CW ps i with
    | error e=>rw[E8 hb 1]at h;cases h
    | ok s0=>
      rw[EJ hb]at h;obtain⟨es,I⟩:=Ll hL i s0 (by omega) hb;unfold ED at h;split at h
      · cases h
      · split at h
        · cases h
        · split at h
          · cases h
          · rename_i h1 h2 h3
            cases h;have hbase:(ps.getD i Az).base<i:=by omega
            have hl:s0.ids.length=i:=I.ok.ids;have hd:s0.depths.length=i:=I.ok.depths;have hbn:=Pi ps i s0;have hcl:1≤(Ed ps i s0).length:=by unfold Ed;split <;> simp only[AaY,Abj] <;> omega
            refine⟨es++ [entB ps i s0],hk,by rw[AaY,I.len];rfl,?_,?_,?_,?_,?_,?_,?_,?_⟩
            · show s0.ids++ [_]=_;rw[I.ids,Abu (by omega),Acj,List.map_singleton];rw[AaW,Aa2 (show i<ps.length by omega)];rfl
            · show(s0.ids++ [_]).Nodup;rw[Ac0];refine⟨I.nodup,by simp,fun a ha b hb e=> ?_⟩;rw[Aa6.1 hb]at e;exact h2 (e▸ha)
            · show _=s0.places++ [_];rw[Acj,I.pos]
              congr 1
              unfold entB;split <;> rfl
            · show(s0.places++ [_]).Pairwise _;rw[Acd];exact⟨I.asc,by simp,fun a ha b hb=>by rw[Aa6.1 hb];exact I.top a ha⟩
            · intro p hp;rw[hbn,AaY];rcases Abk.1 (show p∈s0.places++ [_]from hp)with hp | hp
              · have:=I.top p hp;omega
              · rw[Aa6.1 hp];omega
            · intro X fin hf;rw[hbn,AaY]at hf ⊢;rw[Abr,Hs (I.ent (Ed ps i s0++X) fin (by omega)),QP hL (by omega) I.ok hbase X fin hf];rfl
            · intro j hj hjb;by_cases e:j=i
              · subst e;rw[GE _ _ _ I.len];have he:entB ps j s0=⟨s0.b.length,false,Aa4 32 0,(ps.getD j Az).bytes⟩:=if_pos hjb;rw[he];refine⟨rfl,rfl,?_⟩;show(s0.depths++ [_]).getD j 0=0;rw[GE _ _ _ hd];exact if_pos hjb
              · rw[E3 _ _ _ (by rw[I.len];omega)];have:=I.flat j (by omega) hjb;refine⟨this.1,this.2.1,?_⟩;show(s0.depths++ [_]).getD j 0=0;rw[E3 _ _ _ (by omega)];exact this.2.2
            · intro j hj hjb;have f:∀k,k<i→(bnext ps (ps.getD i Az) s0).ids.getD k []=s0.ids.getD k []:=fun k hk=>E3 _ _ _ (by omega);have c:∀k,k<i→(bnext ps (ps.getD i Az) s0).depths.getD k 0=s0.depths.getD k 0:=fun k hk=>E3 _ _ _ (by omega);by_cases e:j=i
              · subst e;rw[GE _ _ _ I.len];have he:entB ps j s0=⟨s0.b.length,true,s0.ids.getD (ps.getD j Az).base.toNat [],BU (ps.getD (ps.getD j Az).base.toNat Az).bytes (ps.getD j Az).bytes⟩:=if_neg hjb;rw[he];have hlt:(ps.getD j Az).base.toNat<j:=by omega
                refine⟨hlt,rfl,(f _ hlt).symm,rfl,?_⟩;rw[c _ hlt];show(s0.depths++ [_]).getD j 0=_;rw[GE _ _ _ hd];exact if_neg hjb
              · rw[E3 _ _ _ (by rw[I.len];omega)];have:=I.upon j (by omega) hjb;have hlt:=this.1;refine⟨hlt,this.2.1,?_,this.2.2.2.1,?_⟩
                · rw[f _ (by omega)];exact this.2.2.1
                · rw[c _ (by omega),c _ (by omega)];exact this.2.2.2.2
theorem FE{α β:Type}[BEq α][LawfulBEq α]:∀(l:List α) (m:List β) (j:Nat) (x:α) (y:β),l.Nodup→l[j]? =some x→m[j]? =some y→(l.zip m).lookup x=some y
  | [],_,_,_,_,_,h,_=>by simp at h
  | _ :: _,[],_,_,_,_,_,h=>by simp at h
  | a :: l,b :: m,0,x,y,_,h1,h2=>by
    simp only[Adh,AcA]at h1 h2;rw[h1,h2,AcX,Acq];simp
  | a :: l,b :: m,j+1,x,y,hn,h1,h2=>by
    simp only[Acr]at h1 h2;have hn' :=Ac2.1 hn;have:(x==a)=false:=by
      simp only[beq_eq_false_iff_ne];intro e;exact hn'.1 (e▸Ab0 h1)
    rw[AcX,Acq,this];exact FE l m j x y hn'.2 h1 h2
theorem Hc{α β γ:Type}[BEq α](f:β→γ)(x:α):∀(l:List α) (m:List β),(l.zip (m.map f)).lookup x=((l.zip m).lookup x).map f
  | [],_=>by simp
  | _ :: _,[]=>by simp
  | a :: l,b :: m=>by
    rw[Abv,AcX,AcX,Acq,Acq,Hc f x l m];split <;> rfl
def HI(s:BS)(es:List Ent)(id:Bs):Option Ent:=(s.ids.zip es).lookup id
theorem Ee{α:Type}{l:List α}{i:Nat}(d:α)(h:i<l.length):l[i]? =some (l.getD i d):=by
  rw[AaW,Aa2 h];rfl
section
variable {ps : List Pt} {n : Nat} {s : BS} {es : List Ent}
theorem BInv.at_(I:BInv ps n s es){j:Nat}(hj:j<n):HI s es (s.ids.getD j [])=some (es.getD j dEnt.1):=
  FE _ _ j _ _ I.nodup (Ee [] (by rw[I.ok.ids];exact hj)) (Ee _ (by rw[I.len];exact hj))
theorem BInv.place(I:BInv ps n s es)(id:Bs):Bm s id=(HI s es id).map Ent.pos:=by
  unfold Bm HI;rw[←I.pos,Hc]
theorem BInv.ix(I:BInv ps n s es){id:Bs}(h:id∈s.ids):∃j,j<n∧s.ids.getD j []=id:=by
  obtain⟨j,hj,e⟩:=Aco h;refine⟨j,by rw[I.ok.ids]at hj;exact hj,?_⟩;rw[AaW,Aa2 hj];exact e
theorem BInv.miss(I:BInv ps n s es){id:Bs}(h:id∉s.ids):HI s es id=none:=CP _ _ _ h
theorem BInv.posj(I:BInv ps n s es){j:Nat}(hj:j<n):s.places.getD j 0=(es.getD j dEnt.1).pos:=by
  rw[←I.pos,AaW,AcB,Ee dEnt.1 (by rw[I.len];exact hj)];rfl
theorem BInv.lt(I:BInv ps n s es){i j:Nat}(hi:i<j)(hj:j<n):(es.getD i dEnt.1).pos<(es.getD j dEnt.1).pos:=by
  rw[←I.posj (by omega),←I.posj hj];have h1:i<s.places.length:=by rw[I.ok.places];omega
  have h2:j<s.places.length:=by rw[I.ok.places];omega
  have:=Acs.1 I.asc i j h1 h2 hi;rw[AaW,Aa2 h1,AaW,Aa2 h2];exact this
theorem BInv.inj(I:BInv ps n s es){i j:Nat}(hi:i<n)(hj:j<n)(h:(es.getD i dEnt.1).pos=(es.getD j dEnt.1).pos):i=j:=by
  rcases Nat.lt_trichotomy i j with h1 | h1 | h1
  · have:=I.lt h1 hj;omega
  · exact h1
  · have:=I.lt h1 hi;omega
theorem BInv.placeGo(I:BInv ps n s es):∀(i j:Nat),j<i→i≤n→DO Ent.pos dEnt.1 es i (es.getD j dEnt.1).pos=some (es.getD j dEnt.1)
  | 0,_,h,_=>by omega
  | i+1,j,h,hi=>by
    show updM (Go.Proofs.YtfpekahfdalfkaaGreatDoor.DO Ent.pos dEnt.1 es i) _ _ _=_;unfold updM;by_cases e:j=i
    · subst e;rw[if_pos rfl]
    · rw[if_neg (fun q=>e (I.inj (by omega) (by omega) q))];exact I.placeGo i j (by omega) (by omega)
end
def JX(s:BS)(id:Bs):Bs:=id++A3 ((Bm s id).getD 0)
def CZ(s:BS):Bs:=(AJ s.ids).flatMap (JX s)
theorem IH{α:Type}(g:α→Bs)(k:Nat):∀(l:List α) (i:Nat),(∀x∈l,(g x).length=k)→(l.flatMap g).drop (k*i)=(l.drop i).flatMap g
  | [],i,_=>by simp
  | a :: l,0,_=>by simp
  | a :: l,i+1,h=>by
    rw[AbW,AdN,show k*(i+1)=(g a).length+k*i by rw[h a (by simp),Nat.mul_succ,AeD],HH];exact IH g k l i fun x hx=>h x (by simp[hx])
theorem L6{α:Type}{l:List α}{i:Nat}(d:α)(h:i<l.length):l.drop i=l.getD i d :: l.drop (i+1):=by
  rw[Ab8 h,AaW,Aa2 h];rfl
section
variable {ps : List Pt} {n : Nat} {s : BS} {es : List Ent}
theorem BInv.sortlen(I:BInv ps n s es):(AJ s.ids).length=n:=by rw[Gs,I.ok.ids]
theorem BInv.sortnd(I:BInv ps n s es):(AJ s.ids).Nodup:=(sortB_perm s.ids).nodup_iff.2 I.nodup
theorem Fc{l:List Bs}{x:Bs}:x∈AJ l↔x∈l:=(sortB_perm l).mem_iff
theorem BInv.row(I:BInv ps n s es){i:Nat}(hi:i<n):(CZ s).drop (36*i)=JX s ((AJ s.ids).getD i [])++((AJ s.ids).drop (i+1)).flatMap (JX s):=by
  unfold CZ;rw[IH (JX s) 36 _ i (fun x hx=>by unfold JX;rw[AaY,Gt,I.ok.len x (Fc.1 hx)]),L6 [] (by rw[I.sortlen];exact hi),AbW]
theorem BInv.sorted_mem(I:BInv ps n s es){i:Nat}(hi:i<n):(AJ s.ids).getD i []∈s.ids:=Fc.1 (AO [] (by rw[I.sortlen];exact hi))
theorem BInv.rowId(I:BInv ps n s es){i:Nat}(hi:i<n):BP (CZ s) i=(AJ s.ids).getD i []:=by
  unfold Go.Proofs.YtfpekahfdalfkaaGreatDoor.BP;have h32:=I.ok.len _ (I.sorted_mem hi);rw[I.row hi];unfold JX;rw[Abr,←h32,Ada]
theorem BInv.rowAt(hL:Cl ps)(hn:n≤ps.length)(I:BInv ps n s es){i:Nat}(hi:i<n):EE (CZ s) i=(Bm s ((AJ s.ids).getD i [])).getD 0:=by
  unfold Go.Proofs.YtfpekahfdalfkaaGreatDoor.EE;have hm:=I.sorted_mem hi;have h32:=I.ok.len _ hm;rw[I.row hi];unfold JX;rw[Abr,←h32,AcP];refine Hm _ ?_ _;obtain⟨j,hj,e⟩:=I.ix hm;rw[←e,I.place,I.at_ hj,Aca,AbR,←I.posj hj];have h1:=I.ok.pl _ (AO 0 (l:=s.places) (i:=j) (by rw[I.ok.places];exact hj));have:=hL.1;omega
theorem BInv.fresh(I:BInv ps n s es){i:Nat}(hi:i<n):(AJ s.ids).getD i []∉(AJ s.ids).take i:=by
  intro h;obtain⟨j,hj,e⟩:=Aco h;rw[Abg,I.sortlen]at hj;have hlen:=I.sortlen;have:=Acs.1 I.sortnd j i (by omega) (by omega) (by omega)
  apply this
  rw[AeP]at e;rw[e,AaW,Aa2 (by omega)];rfl
theorem BInv.index(hL:Cl ps)(hn:n≤ps.length)(I:BInv ps n s es):∀i,i≤n→∃S,DA Ent.pos dEnt.1 (CZ s) es i=some S∧S.ids=(AJ s.ids).take i∧(∀id∈s.ids,id∉(AJ s.ids).take i→S.G ((Bm s id).getD 0)=HI s es id)∧∀id,S.M id=if id∈(AJ s.ids).take i then HI s es id else none
  | 0,_=>by
    refine⟨_,rfl,rfl,fun id hid _=> ?_,fun id=>by simp⟩;obtain⟨j,hj,rfl⟩:=I.ix hid;rw[I.place,I.at_ hj,Aca,AbR,I.len];exact I.placeGo n j hj (AaX _)
  | i+1,hi=>by
    obtain⟨S,h1,h2,h3,h4⟩:=I.index hL hn i (by omega);have hlen:=I.sortlen;have hx:=I.sorted_mem (show i<n by omega);have hf:=I.fresh (show i<n by omega);obtain⟨j,hj,e⟩:=I.ix hx;have hc:HI s es ((AJ s.ids).getD i [])=some (es.getD j dEnt.1):=by rw[←e];exact I.at_ hj
    have ht:(AJ s.ids).take (i+1)=(AJ s.ids).take i++ [(AJ s.ids).getD i []]:=by
      rw[Abu (by omega),AaW,Aa2 (show i<(AJ s.ids).length by omega)];rfl
    have hG:S.G (Go.Proofs.YtfpekahfdalfkaaGreatDoor.EE (CZ s) i)=some (es.getD j dEnt.1):=by
      rw[I.rowAt hL hn (by omega),h3 _ hx hf,hc]
    have ho:i=0∨Abl (S.ids.getD (i-1) []) (Go.Proofs.YtfpekahfdalfkaaGreatDoor.BP (CZ s) i)<0:=by
      rcases Nat.eq_zero_or_pos i with h0 | h0
      · exact .inl h0
      · refine .inr ?_;rw[I.rowId (by omega),h2];have g1:((AJ s.ids).take i).getD (i-1) []=(AJ s.ids)[i-1]'(by omega):=by
          rw[AaW,AcV,if_pos (by omega),Aa2 (by omega)];rfl
        have g2:(AJ s.ids).getD i []=(AJ s.ids)[i]'(by omega):=by
          rw[AaW,Aa2 (by omega)];rfl
        rw[g1,g2];have a1:=Acs.1 (Gr s.ids) (i-1) i (by omega) (by omega) (by omega);have a2:=Acs.1 I.sortnd (i-1) i (by omega) (by omega) (by omega);have a3:Abl ((AJ s.ids)[i-1]'(by omega)) ((AJ s.ids)[i]'(by omega))≠0:=fun q=>a2 (Hl q);omega
    refine⟨DK Ent.pos (CZ s) i S (es.getD j dEnt.1),?_,?_,?_,?_⟩
    · rw[Fv h1];unfold Dl;rw[hG];exact if_pos ho
    · show S.ids++ [_]=_;rw[h2,I.rowId (by omega),ht]
    · intro id hid hni;rw[ht]at hni;simp only[Abk,Aa6,not_or]at hni;obtain⟨k,hk,rfl⟩:=I.ix hid;have hne:(Bm s (s.ids.getD k [])).getD 0≠(es.getD j dEnt.1).pos:=by
        rw[I.place,I.at_ hk,Aca,AbR];intro q;have:=I.inj hk hj q;subst this;exact hni.2 e
      show updM S.G _ none _=_;unfold updM;rw[if_neg hne];exact h3 _ hid hni.1
    · intro id;show updM S.M _ _ _=_;unfold updM;rw[I.rowId (by omega),ht,h4];by_cases q:id=(AJ s.ids).getD i []
      · rw[if_pos q,if_pos (by rw[q];simp),q,hc]
      · rw[if_neg q];by_cases q2:id∈(AJ s.ids).take i
        · rw[if_pos q2,if_pos (by simp[q2])]
        · rw[if_neg q2,if_neg (by simp only[Abk,Aa6,not_or];exact⟨q2,q⟩)]
def JY(s:BS)(es:List Ent)(k:Bs):Ent:=(HI s es k).getD dEnt.1
theorem BInv.E(I:BInv ps n s es){j:Nat}(hj:j<n):JY s es (s.ids.getD j [])=es.getD j dEnt.1:=by unfold JY;rw[I.at_ hj];rfl
theorem BInv.depth(I:BInv ps n s es):∀(m j:Nat),j<n→s.depths.getD j 0≤m→A6 (JY s es) m (es.getD j dEnt.1)=some (s.depths.getD j 0)
  | m,j,hj,hm=>by
    by_cases hb:(ps.getD j Az).base<0
    · have:=I.flat j hj hb;rw[D6 this.1,this.2.2]
    · obtain⟨h1,h2,h3,h4,h5⟩:=I.upon j hj hb;cases m with
      | zero=>omega
      | succ m=>
        rw[DB h2,h3,I.E (by omega),I.depth m _ (by omega) (by omega),h5];rfl
theorem BInv.chain(hL:Cl ps)(hn:n≤ps.length)(I:BInv ps n s es):∀(m j:Nat),j<n→s.depths.getD j 0=m→BL (JY s es) (m+1) (s.ids.getD j [])=some ((ps.getD j Az).bytes,m)
  | m,j,hj,hm=>by
    have hp:=hL.2 _ (AO Az (l:=ps) (i:=j) (by omega));by_cases hb:(ps.getD j Az).base<0
    · obtain⟨h1,h2,h3⟩:=I.flat j hj hb;rw[Ge (by rw[I.E hj];exact h1),I.E hj,h2,if_pos (by omega)];rw[h3]at hm;rw[hm]
    · obtain⟨h1,h2,h3,h4,h5⟩:=I.upon j hj hb;have hq:=hL.2 _ (AO Az (l:=ps) (i:=(ps.getD j Az).base.toNat) (by omega));cases m with
      | zero=>omega
      | succ m=>
        rw[FA (by rw[I.E hj];exact h2),I.E hj,h3,I.chain hL hn m _ (by omega) (by omega),h4];show(if _ then(if _ then some (_,m+1)else none)else none)=_
        dsimp only
        rw[P2 _ _ (by omega) (by omega),if_pos rfl,if_pos (by dsimp only;omega)]
def NV(ps:List Pt)(s:BS)(id:Bs):Option (Bs × Nat):=(s.ids.zip ((ps.map Pt.bytes).zip s.depths)).lookup id
theorem BInv.obj(hL:Cl ps)(hn:n=ps.length)(I:BInv ps n s es){j:Nat}(hj:j<n):NV ps s (s.ids.getD j [])=some ((ps.getD j Az).bytes,s.depths.getD j 0):=
  FE _ _ j _ _ I.nodup (Ee [] (by rw[I.ok.ids];exact hj)) (by
    rw[Aeu]
    dsimp only
    exact⟨by rw[AcB,Ee Az (by omega)];rfl,Ee 0 (by rw[I.ok.depths];exact hj)⟩)
theorem BInv.sum(hn:n≤ps.length)(I:BInv ps n s es){j:Nat}(hj:j<n):Sha.sum (ps.getD j Az).bytes=s.ids.getD j []:=by
  have:s.ids[j]? =some (Sha.sum (ps.getD j Az).bytes):=by
    rw[I.ids,AcB,AcV,if_pos hj,Ee Az (by omega)];rfl
  rw[show s.ids.getD j []=(s.ids[j]?).getD []from AaW,this];rfl
theorem BInv.objs(hL:Cl ps)(hn:n=ps.length)(I:BInv ps n s es):∀i,i≤n→∃o,Dx (JY s es) (AJ s.ids) i = .ok o∧o.total≤200*i∧∀id,o.O id=if id∈(AJ s.ids).take i then NV ps s id else none
  | 0,_=>⟨_,rfl,AaX _,fun id=>by simp⟩
  | i+1,hi=>by
    obtain⟨o,h1,h2,h3⟩:=I.objs hL hn i (by omega);have hlen:=I.sortlen;have hx:=I.sorted_mem (show i<n by omega);obtain⟨j,hj,e⟩:=I.ix hx;have hp:=hL.2 _ (AO Az (l:=ps) (i:=j) (by omega));have h60:=hL.1;have hd:=I.ok.dp _ (AO 0 (l:=s.depths) (i:=j) (by rw[I.ok.depths];exact hj));have ht:(AJ s.ids).take (i+1)=(AJ s.ids).take i++ [(AJ s.ids).getD i []]:=by
      rw[Abu (by omega),AaW,Aa2 (show i<(AJ s.ids).length by omega)];rfl
    have g:Db (JY s es) ((AJ s.ids).getD i []) o = .ok ⟨o.total+(ps.getD j Az).bytes.length,updM o.O ((AJ s.ids).getD i []) (some ((ps.getD j Az).bytes,s.depths.getD j 0))⟩:=by
      rw[←e,EX (by rw[I.E hj];exact I.depth 50 j hj hd) (I.chain hL (by omega) _ j hj rfl),if_pos (I.sum (by omega) hj),if_pos (by omega)]
    refine⟨_,by rw[EY h1];exact g,by dsimp only;omega,fun id=> ?_⟩
    dsimp only
    unfold updM;rw[ht,h3];by_cases q:id=(AJ s.ids).getD i []
    · rw[if_pos q,if_pos (by rw[q];simp),q,←e,I.obj hL hn hj]
    · rw[if_neg q];by_cases q2:id∈(AJ s.ids).take i
      · rw[if_pos q2,if_pos (by simp[q2])]
      · rw[if_neg q2,if_neg (by simp only[Abk,Aa6,not_or];exact⟨q2,q⟩)]
theorem countP_perm{l m:List Bs}(h:l.Perm m)(p:Bs→Bool):l.countP p=m.countP p:=h.countP_eq p
theorem fanL_sort(l:List Bs):A8 (AJ l)=A8 l:=by
  unfold A8
  congr 1
  funext c
  exact countP_perm (sortB_perm l) _
theorem flat4_drop(l:List Nat)(X:Bs)(i:Nat)(hi:i<l.length)(hv:∀x∈l,x<2^32):DX ((l.flatMap A3++X).drop (4*i))=l.getD i 0:=by
  have hl:=Km l;rw[AeX,IH A3 4 l i (fun _ _=>rfl),L6 0 hi,AbW,Abr];exact Hm _ (hv _ (AO 0 hi)) _
theorem KQ(hL:Cl ps)(h:CW ps ps.length = .ok s):BW (AU ps).1 = .ok (AJ s.ids,NV ps s):=by
  obtain⟨es,I⟩:=Ll hL ps.length s (AaX _) h;have h60:=hL.1;have hB:=I.ok.b;have hbl:=GN I.ok s.b.length;have hsl:∀x,(Sha.sum x).length=32:=Sha.sum_length;have f:(AU ps).1=s.b++Cm s s.b.length++Sha.sum (s.b++Cm s s.b.length):=by unfold AU;rw[h]
  have hlen:(AU ps).1.length=s.b.length+(1028+36*ps.length)+32:=by rw[f,AaY,AaY,hbl,hsl]
  have hbeh:Cm s s.b.length=(A8 s.ids).flatMap A3++CZ s++A3 s.b.length:=rfl;have hfan:((A8 s.ids).flatMap A3).length=1024:=by rw[Km,BQ]
  have hrows:(CZ s).length=36*ps.length:=by
    have:=Nc (fun id=>(Bm s id).getD 0) (AJ s.ids) (fun x hx=>I.ok.len x (Fc.1 hx));rw[I.sortlen]at this;exact this
  have huv:=UZ (n:=ps.length) (by omega)
  generalize hC:(AU ps).1=c at f hlen ⊢
  unfold BW;rw[if_neg (by omega),if_neg (by omega),if_pos (by
    rw[f,AaY,hsl,Nat.add_sub_cancel,Ada,AcP])]
  -- the head
  obtain⟨r,hr⟩:∃r,s.b=80 :: Abd ps.length++r:=by
    have:∀i t,CW ps i = .ok t→∃r,t.b=80 :: Abd ps.length++r:=by
      intro i
      induction i with
      | zero=>intro t ht;cases ht;exact⟨[],by simp⟩
      | succ i ih=>
        intro t ht;cases hb:CW ps i with
        | error e=>rw[E8 hb 1]at ht;cases ht
        | ok t0=>
          obtain⟨r,hr⟩:=ih t0 hb;rw[EJ hb]at ht;unfold ED at ht;split at ht
          · cases ht
          · split at ht
            · cases ht
            · split at ht
              · cases ht
              · cases ht;exact⟨r++Ed ps i t0,by rw[Pi,hr,Abr]⟩
    exact this _ _ h
  have hd1:c.drop 1=Abd ps.length++(r++Cm s s.b.length++Sha.sum (s.b++Cm s s.b.length)):=by
    rw[f,hr];simp only[AbS,Abr,AdN,Adk]
  have h80:c.getD 0 0=80:=by rw[f,hr];rfl
  have hat:DX (c.drop (c.length-36))=s.b.length:=by
    have g:c=(s.b++(A8 s.ids).flatMap A3++CZ s)++(A3 s.b.length++Sha.sum (s.b++Cm s s.b.length)):=by rw[f,hbeh];simp only[Abr]
    have l:c.length-36=(s.b++(A8 s.ids).flatMap A3++CZ s).length:=by rw[hlen];simp only[AaY,hfan,hrows];omega
    rw[l,g,AcP];exact Hm _ (by omega) _
  have hfirst:1+(Abd ps.length).length≤s.b.length:=by rw[hr];simp only[AbS,Abp,AaY];omega
  have hent:Ct c ps.length (1+(Abd ps.length).length) s.b.length=some es:=by
    unfold Ct;rw[f,Abr,I.ent _ _ (AaX _)];show(if s.b.length=s.b.length then some es else none)=_;rw[if_pos rfl]
  obtain⟨S,g1,g2,g3,g4⟩:=I.index hL (AaX _) ps.length (AaX _);have htake:(AJ s.ids).take ps.length=AJ s.ids:=AbK (by rw[I.sortlen];exact AaX _);rw[htake]at g2 g4;have hM:S.M=HI s es:=by
    funext id
    rw[g4];split
    · rfl
    · rename_i q
      exact(I.miss (fun q2=>q (Fc.2 q2))).symm
  have hE:Ky S.M=JY s es:=by rw[hM];rfl
  obtain⟨o,o1,o2,o3⟩:=I.objs hL rfl ps.length (AaX _);have hO:o.O=NV ps s:=by
    funext id
    rw[o3,htake];split
    · rfl
    · rename_i q
      exact(CP _ _ _ (fun q2=>q (Fc.2 q2))).symm
  have ht:(c.drop (s.b.length+1024)).take (c.length-36-(s.b.length+1024))=CZ s:=by
    have g:c=(s.b++(A8 s.ids).flatMap A3)++(CZ s++(A3 s.b.length++Sha.sum (s.b++Cm s s.b.length))):=by rw[f,hbeh];simp only[Abr]
    have l:s.b.length+1024=(s.b++(A8 s.ids).flatMap A3).length:=by rw[AaY,hfan]
    rw[g,l,AcP,show ∀a:Nat,a-(s.b++(A8 s.ids).flatMap A3).length=a-(s.b.length+1024)from fun a=>by rw[l],←g,hlen,show s.b.length+(1028+36*ps.length)+32-36-(s.b.length+1024)=(CZ s).length by rw[hrows];omega,Ada]
  unfold Cu;rw[hd1,DZ _ (by omega)]
  dsimp only
  rw[hat];unfold I2;rw[if_pos ⟨h80,hfirst,by omega,by omega⟩,if_pos (by omega)];unfold Hy;rw[hent];show Gz c s.b.length es=_;unfold Gz;rw[ht,I.len,g1];show G5 c s.b.length es S=_;unfold G5;rw[if_pos (fanB_of fun i hi=>by
    rw[g2,fanL_sort,f,hbeh];have g:s.b++((A8 s.ids).flatMap A3++CZ s++A3 s.b.length)++Sha.sum (s.b++((A8 s.ids).flatMap A3++CZ s++A3 s.b.length))=s.b++((A8 s.ids).flatMap A3++(CZ s++(A3 s.b.length++Sha.sum (s.b++((A8 s.ids).flatMap A3++CZ s++A3 s.b.length))))):=by simp only[Abr]
    rw[g,HH];refine flat4_drop _ _ i (by rw[BQ];exact hi) fun x hx=> ?_;obtain⟨k,hk,rfl⟩:=Aco hx;have:=IZ s.ids k;rw[AaW,Aa2 hk,I.ok.ids]at this;have:(A8 s.ids)[k]≤ps.length:=this;omega),if_pos (by
    refine AbE.2 fun e he=> ?_;obtain⟨j,hj,rfl⟩:=Aco he;rw[I.len]at hj;have ej:es[j]=es.getD j dEnt.1:=by rw[AaW,Aa2];rfl
    rw[ej,hM];by_cases hb:(ps.getD j Az).base<0
    · rw[(I.flat j hj hb).1];rfl
    · obtain⟨k1,k2,k3,-⟩:=I.upon j hj hb;rw[k2,k3,I.at_ (by omega)];rfl)]
  rw[hE,g2,Nq (o:=o) (by rw[I.sortlen];exact o1),hO]
end
def Es(p:Pt):Bs × Int:=(p.bytes,p.base)
theorem Lm{ps qs:List Pt}(h:qs.map Es=ps.map Es)(i:Nat):(qs.getD i Az).bytes=(ps.getD i Az).bytes∧(qs.getD i Az).base=(ps.getD i Az).base:=by
  have h1:(qs.map Es)[i]? =(ps.map Es)[i]? :=by rw[h]
  rw[AcB,AcB]at h1;rw[AaW,AaW];cases ha:qs[i]? <;> cases hb:ps[i]? <;> rw[ha,hb]at h1
  · exact⟨rfl,rfl⟩
  · cases h1
  · cases h1
  · injection h1 with h1
    exact⟨congrArg Abq h1,congrArg Prod.snd h1⟩
theorem I7{ps qs:List Pt}(h:qs.map Es=ps.map Es):qs.length=ps.length:=by simpa using congrArg AeR h
theorem L7{ps qs:List Pt}(h:qs.map Es=ps.map Es):∀i,CW qs i=CW ps i
  | 0=>by unfold CW;rw[I7 h]
  | i+1=>by
    have ih:=L7 h i;have hi:=Lm h i;cases hb:CW ps i with
    | error e=>rw[E8 hb 1,E8 (ih.trans hb) 1]
    | ok s=>
      rw[EJ hb,EJ (ih.trans hb)];have hd:Dj (qs.getD i Az) s=Dj (ps.getD i Az) s:=by unfold Dj;rw[hi.2]
      have hn:bnext qs (qs.getD i Az) s=bnext ps (ps.getD i Az) s:=by
        unfold bnext;rw[hd,hi.1,hi.2,(Lm h (ps.getD i Az).base.toNat).1]
      unfold ED;rw[hi.1,hi.2,hd,hn]
theorem NW{ps qs:List Pt}(h:qs.map Es=ps.map Es):AU qs=AU ps:=by
  unfold AU;rw[I7 h,L7 h]
theorem OM{ps qs:List Pt}(h:qs.map Es=ps.map Es)(hL:Cl ps):Cl qs:=by
  refine⟨by rw[I7 h];exact hL.1,fun p hp=> ?_⟩;obtain⟨i,hi,rfl⟩:=Aco hp;have h1:=(Lm h i).1;rw[AaW,Aa2 hi]at h1;have h2:=hL.2 _ (AO Az (l:=ps) (i:=i) (by rw[←I7 h];exact hi));have h3:(qs[i]).bytes=(ps.getD i Az).bytes:=h1;rw[h3];exact h2
theorem Ln(w:AaS)(hG:Laid w)(v:AaR)(ps qs:List Pt)(hr:RG 2 partC w v qs)(hps:K5 w qs)(hq:qs.map Es=ps.map Es)(hL:Cl ps):
    Calls AaU 91 #[v] w fun e w' =>∃v',e = .returned (.tuple #[v',NI (AU ps).2])∧w'.ownsRow w.heap.size 5 1 v' (AU ps).1.length (AaT (AU ps).1)∧Ext w w' :=by
  have h:=RW w hG v qs hr hps (OM hq hL);rw[NW hq]at h;exact h
def PartsIn(w:AaS)(va:AaR)(qs:List Pt):Prop:=∀x∈qs,RB w x.v x.bytes∧(-9223372036854775808≤x.base∧x.base≤9223372036854775807)∧∀k,x.v.ownBlock=some k→k<w.heap.size∧va.ownBlock≠some k
theorem PartsIn.keep{w w' :AaS}{va:AaR}{qs:List Pt}(h:PartsIn w va qs)(k:Ext w w'):PartsIn w' va qs:=fun x hx=>
  ⟨(h x hx).1.keep k,(h x hx).2.1,fun j hj=>⟨AbL ((h x hx).2.2 j hj).1 k.size,((h x hx).2.2 j hj).2⟩⟩
theorem PartsIn.nil(w:AaS)(va:AaR):PartsIn w va []:=fun x hx=>by cases hx
theorem ZF{w:AaS}{va:AaR}{qs:List Pt}(h:PartsIn w va qs){x:Pt}(h1:RB w x.v x.bytes)(h2: -9223372036854775808≤x.base∧x.base≤9223372036854775807)(h3:∀k,x.v.ownBlock=some k→k<w.heap.size∧va.ownBlock≠some k):PartsIn w va (qs++ [x]):=fun y hy=>by
  rcases Abk.1 hy with hy | hy
  · exact h y hy
  · rw[Aa6.1 hy];exact⟨h1,h2,h3⟩
theorem PartsIn.grew{w w' :AaS}{va va' :AaR}{qs:List Pt}(h:PartsIn w va qs)(g:Grew w w' va va'):PartsIn w' va' qs:=fun x hx=>
  ⟨Ht (h x hx).1 (fun k hk=>((h x hx).2.2 k hk).2) g,(h x hx).2.1,fun j hj=>⟨AbL ((h x hx).2.2 j hj).1 g.by_.size,fun e=>(g.fresh j e).elim (fun q=>((h x hx).2.2 j hj).2 q) (fun q=>by have:=((h x hx).2.2 j hj).1;omega)⟩⟩
theorem PartsIn.ok{w:AaS}{va:AaR}{qs:List Pt}(h:PartsIn w va qs):K5 w qs:=fun x hx=>⟨(h x hx).1,(h x hx).2.1⟩
theorem V7{ps:List Pt}{i e:Nat}{s:BS}(h:ED ps i s = .error e):e≠0:=by
  unfold ED at h;split at h
  · cases h;decide
  · split at h
    · cases h;decide
    · split at h
      · cases h;decide
      · cases h
theorem U5{ps:List Pt}:∀ {i e:Nat},CW ps i = .error e→e≠0
  | 0,e,h=>by cases h
  | i+1,e,h=>by
    cases hb:CW ps i with
    | error a=>rw[E8 hb 1]at h;cases h;exact U5 hb
    | ok s=>rw[EJ hb]at h;exact V7 h
theorem NX{ps:List Pt}{e:Nat}(h:CW ps ps.length = .error e):AU ps=([],e):=by unfold AU;rw[h]
theorem SP{ps:List Pt}{s:BS}(h:CW ps ps.length = .ok s):(AU ps).2=0:=by unfold AU;rw[h]
structure AllIn (w : AaS) (R : List AaR) (us : List AaR) (bs : List Bs) : Prop where
  len:us.length=bs.length
  rb:∀i,i<bs.length→RB w (us.getD i undef) (bs.getD i [])
  lt:∀i,i<bs.length→∀k,(us.getD i undef).ownBlock=some k→k<w.heap.size
  off:∀i,i<bs.length→∀k,(us.getD i undef).ownBlock=some k→∀v∈R,v.ownBlock≠some k
theorem AllIn.keep{w w' :AaS}{R us:List AaR}{bs:List Bs}(h:AllIn w R us bs)(k:Ext w w'):AllIn w' R us bs:=
  ⟨h.len,fun i hi=>(h.rb i hi).keep k,fun i hi j hj=>AbL (h.lt i hi j hj) k.size,h.off⟩
theorem AllIn.nil(w:AaS)(R:List AaR):AllIn w R [] []:=⟨rfl,fun i hi=>absurd hi (Acx _),fun i hi=>absurd hi (Acx _),fun i hi=>absurd hi (Acx _)⟩
theorem getD_snocV{α:Type}{l:List α}{d x:α}{i:Nat}(hi:i<l.length+1):(l++ [x]).getD i d=if i<l.length then l.getD i d else x:=by
  by_cases h:i<l.length
  · rw[if_pos h];simp only[AaW,AbN h]
  · have:i=l.length:=by omega
    subst this;rw[if_neg h];simp
theorem Zj{w:AaS}{R us:List AaR}{bs:List Bs}(h:AllIn w R us bs){v:AaR}{x:Bs}(hr:RB w v x)(hl:∀k,v.ownBlock=some k→k<w.heap.size∧∀u∈R,u.ownBlock≠some k):AllIn w R (us++ [v]) (bs++ [x]):=by
  have e:=h.len;have key:∀i,i<(bs++ [x]).length→((us++ [v]).getD i undef=us.getD i undef∧(bs++ [x]).getD i []=bs.getD i []∧i<bs.length)∨((us++ [v]).getD i undef=v∧(bs++ [x]).getD i []=x):=fun i hi=>by
    rw[AaY,Abj]at hi;rw[getD_snocV (by rw[e];exact hi),getD_snocV hi,e];by_cases q:i<bs.length
    · rw[if_pos q,if_pos q];exact .inl ⟨rfl,rfl,q⟩
    · rw[if_neg q,if_neg q];exact .inr ⟨rfl,rfl⟩
  refine⟨by simp[e],fun i hi=> ?_,fun i hi=> ?_,fun i hi=> ?_⟩
  · rcases key i hi with ⟨h1,h2,h3⟩ | ⟨h1,h2⟩
    · rw[h1,h2];exact h.rb i h3
    · rw[h1,h2];exact hr
  · rcases key i hi with ⟨h1,h2,h3⟩ | ⟨h1,h2⟩
    · rw[h1];exact h.lt i h3
    · rw[h1];exact fun k hk=>(hl k hk).1
  · rcases key i hi with ⟨h1,h2,h3⟩ | ⟨h1,h2⟩
    · rw[h1];exact h.off i h3
    · rw[h1];exact fun k hk=>(hl k hk).2
theorem AllIn.grew{w w' :AaS}{R us:List AaR}{bs:List Bs}{v v' :AaR}(h:AllIn w (v :: R) us bs)(g:Grew w w' v v'):AllIn w' (v' :: R) us bs:=
  ⟨h.len,fun i hi=>Ht (h.rb i hi) (fun k hk=>h.off i hi k hk v AbZ) g,fun i hi k hk=>AbL (h.lt i hi k hk) g.by_.size,fun i hi k hk u hu=>by
    rcases AbF.1 hu with rfl | hu
    · exact fun e=>(g.fresh k e).elim (fun q=>h.off i hi k hk v AbZ q) fun q=>by have:=h.lt i hi k hk;omega
    · exact h.off i hi k hk u (Ab1 _ hu)⟩
theorem AllIn.sub{w:AaS}{R S us:List AaR}{bs:List Bs}(h:AllIn w R us bs)(hs:∀v∈S,v∈R∨v.ownBlock=none):AllIn w S us bs:=
  ⟨h.len,h.rb,h.lt,fun i hi k hk v hv=>(hs v hv).elim (fun q=>h.off i hi k hk v q) fun q e=>by rw[q]at e;cases e⟩
theorem AllIn.swap{w:AaS}{u v:AaR}{us:List AaR}{bs:List Bs}(h:AllIn w [u,v] us bs):AllIn w [v,u] us bs:=
  h.sub fun x hx=> .inl (by simp only[AbF,AcN,or_false]at hx ⊢;exact hx.symm)
def Bu(D:Ae)(L:AP)(ids:List Bs):List Bs:=ids.map fun id=>(getV D L id).1
def szV(D:Ae)(L:AP)(ids:List Bs):List Int:=(Bu D L ids).map fun b=>((b.length:Nat):Int)
def BG(D:Ae)(L:AP)(ids:List Bs)(ch:List Int):Er:=planGo ch (szV D L ids) (szV D L ids).length
def AM(D:Ae)(L:AP)(ids:List Bs)(ch:List Int):List Pt:=((Bu D L ids).zip (BG D L ids ch).bases).map fun x=>⟨.slice none 0 0,x.1,x.2⟩
def DU(D:Ae)(L:AP)(ids:List Bs):Prop:=∃id∈ids,(getV D L id).2≠0
instance (D:Ae) (L:AP) (ids:List Bs):Decidable (DU D L ids):=List.decidableBEx _ _
def AK(D:Ae)(L:AP)(ids:List Bs)(ch:List Int):List Bs × Nat:=
  if DU D L ids then([],12)else if ids= []then([],0)else if(AU (AM D L ids ch)).2=0 then([(AU (AM D L ids ch)).1],0)else([],(AU (AM D L ids ch)).2)
theorem JZ(ch:List Int){sz:List Int}(h:∀z∈sz,0≤z∧z≤200):∀i,i≤60→(planGo ch sz i).at_=0∧(planGo ch sz i).total≤200*i∧(planGo ch sz i).depths.length=i∧(∀p∈(planGo ch sz i).packs,p=0)∧∀b∈(planGo ch sz i).bases,-1≤b∧b≤60
  | 0,_=>⟨rfl,Abs _,rfl,(fun _ h=>by cases h),fun _ h=>by cases h⟩
  | i+1,hi=>by
    obtain⟨h1,h2,h3,h4,h5⟩:=JZ ch h i (by omega);have ht:turnPk (planGo ch sz i)=planGo ch sz i:=Pf (by omega) (by omega);have hz:Gj (sz.getD i 0)≤200:=by
      have:sz.getD i 0≤200:=by
        rw[AaW];cases e:sz[i]? with
        | none=>simp
        | some x=>exact(h x (Ab0 e)).2
      unfold Gj;omega
    rw[IG,ht];have hb:=JT ch i (planGo ch sz i).depths.length;unfold Dp I6;split
    · refine⟨h1,by show _+_≤_;omega,by simp[h3],fun p hp=> ?_,fun b a=> ?_⟩
      · rcases Abk.1 hp with hp | hp
        · exact h4 p hp
        · rw[Aa6.1 hp,h1];rfl
      · rcases Abk.1 a with a | a
        · exact h5 b a
        · rw[Aa6.1 a];omega
    · refine⟨h1,by show _+_≤_;omega,by simp[h3],fun p hp=> ?_,fun b a=> ?_⟩
      · rcases Abk.1 hp with hp | hp
        · exact h4 p hp
        · rw[Aa6.1 hp,h1];rfl
      · rcases Abk.1 a with a | a
        · exact h5 b a
        · rw[Aa6.1 a];omega
def goneV(D:Ae)(M:AP):List Bs:=(Au D [112,45]).filter (fun s=>(M.lookup s).isNone)++Au D [111,45]
def EF(D:Ae)(L M:AP):Ae × AP × List Bs × Nat:=
  if(BM D (goneV D M)).2≠0 then((BM D (goneV D M)).1,L,[],(BM D (goneV D M)).2)else((BM D (goneV D M)).1,M,[],0)
def Ez(L:AP)(b:Bs)(p:AZ)(x:Ae × Bool × Nat):Ae × AP × List Bs × Nat:=
  if x.2.2=8 then
    (if(BM x.1 (if x.2.1=true then [Ax b]else [])).2≠0 then((BM x.1 (if x.2.1=true then [Ax b]else [])).1,L,[],(BM x.1 (if x.2.1=true then [Ax b]else [])).2)
    else((BM x.1 (if x.2.1=true then [Ax b]else [])).1,L,[],8))
  else if x.2.2=7 then(x.1,L,[b,(An x.1 (Ax b)).1],7)
  else if x.2.2≠0 then(x.1,L,[],x.2.2)
  else EF x.1 L [(Ax b,p)]
def KR(D:Ae)(L:AP)(b:Bs):Ae × AP × List Bs × Nat:=match BW b with
  | .ok p=>Ez L b p (AE D b)
  | .error _=>(D,L,[],0)
def BC(D:Ae)(L:AP)(o:List Bs)(ch:List Int):Ae × AP × List Bs × Nat:=
  if(AK D L o ch).2≠0 then(D,L,[],(AK D L o ch).2)else match (AK D L o ch).1 with
    | []=>EF D L []
    | b :: _=>KR D L b
theorem QS{D:Ae}{L:AP}{o:List Bs}{ch:List Int}(hL:Cl (AM D L o ch))(h0:(AK D L o ch).2=0):(AK D L o ch).1= []∨∃p,(AK D L o ch).1= [(AU (AM D L o ch)).1]∧BW (AU (AM D L o ch)).1 = .ok p:=by
  unfold AK at h0 ⊢;split
  · exact .inl rfl
  · split
    · exact .inl rfl
    · split
      · rename_i q
        cases e:CW (AM D L o ch) (AM D L o ch).length with
        | error x=>
          rw[NX e]at q;exact absurd q (U5 e)
        | ok s=>exact .inr ⟨_,rfl,KQ hL e⟩
      · exact .inl rfl
theorem Ul{D:Ae}{L:AP}{o:List Bs}{ch:List Int}(h:(AK D L o ch).2≠0):BC D L o ch=(D,L,[],(AK D L o ch).2):=if_pos h
theorem II{D:Ae}{L:AP}{o:List Bs}{ch:List Int}(h:¬(AK D L o ch).2≠0)(h1:(AK D L o ch).1= []):BC D L o ch=EF D L []:=by
  unfold BC;rw[if_neg h,h1]
theorem J0{D:Ae}{L:AP}{o:List Bs}{ch:List Int}{b:Bs}{p:AZ}(h:¬(AK D L o ch).2≠0)(h1:(AK D L o ch).1= [b])(h2:BW b = .ok p):BC D L o ch=Ez L b p (AE D b):=by
  unfold BC;rw[if_neg h,h1];show KR D L b=_;unfold KR;rw[h2]
theorem QT{α:Type}{l:List α}{i:Nat}(d:α)(h:i<l.length):l.take (i+1)=l.take i++ [l.getD i d]:=by
  rw[Abu h,AaW,Aa2 h];rfl
theorem Fd{α:Type}{l:List α}{i:Nat}(d:α)(h:i<l.length):l.getD i d=l[i]:=by
  rw[AaW,Aa2 h,AbR]
theorem IJ(ch:List Int){sz:List Int}(h:∀z∈sz,0≤z∧z≤200){i:Nat}(hi:i<60):planGo ch sz (i+1)=Dp ch i (sz.getD i 0) (planGo ch sz i)∧(planGo ch sz i).depths.length=i:=by
  obtain⟨h1,h2,h3,-,-⟩:=JZ ch h i (by omega);rw[IG,Pf (by omega) (by omega)];exact⟨rfl,h3⟩
theorem KS(ch:List Int)(i:Nat)(z:Int)(s:Er):∃b d:Int,(Dp ch i z s).bases=s.bases++ [b]∧(Dp ch i z s).depths=s.depths++ [d] ∧ -1≤b∧b<s.depths.length∧d≤50∧d=(if 0≤b then s.depths.getD b.toNat 0+1 else 0):=by
  have hb:=JT ch i s.depths.length;unfold Dp I6;split
  · exact⟨-1,0,rfl,rfl,by omega,by omega,by omega,(if_neg (by decide)).symm⟩
  · rename_i q
    exact⟨_,_,rfl,rfl,hb.1,hb.2,by omega,rfl⟩
theorem L8(ch:List Int){sz:List Int}(hz:∀z∈sz,0≤z∧z≤200){i:Nat}:∀ {n:Nat},n≤60→i<n→(planGo ch sz n).bases.getD i 0=(planGo ch sz (i+1)).bases.getD i 0
  | 0,_,h=>absurd h (Acx _)
  | n+1,hn,h=>by
    by_cases q:i=n
    · rw[q]
    · obtain⟨p1,-⟩:=IJ ch hz (i:=n) (by omega);obtain⟨b,d,q1,-⟩:=KS ch n (sz.getD n 0) (planGo ch sz n);have hl:=(Eo ch sz n).lb;rw[←L8 ch hz (n:=n) (by omega) (by omega),p1,q1,AaW,AbN (by omega),←AaW]
theorem NY{ps:List Pt}{ch sz:List Int}{ids:List Bs}(hz:∀z∈sz,0≤z∧z≤200)(h60:ids.length≤60)(hb:∀i,i<ids.length→(ps.getD i Az).base=(planGo ch sz ids.length).bases.getD i 0)(hs:∀i,i<ids.length→Sha.sum (ps.getD i Az).bytes=ids.getD i [])(hn:ids.Nodup):
    ∀i,i≤ids.length→∃s,CW ps i = .ok s∧s.depths.map (fun d=>((d:Nat):Int))=(planGo ch sz i).depths∧s.ids=ids.take i
  | 0,_=>⟨_,rfl,rfl,rfl⟩
  | i+1,hi=>by
    obtain⟨s,e,hd,hids⟩:=NY hz h60 hb hs hn i (by omega);obtain⟨b,d,q1,q2,q3,q4,q5,q6⟩:=KS ch i (sz.getD i 0) (planGo ch sz i);obtain⟨p1,p2⟩:=IJ ch hz (i:=i) (by omega);rw[p2]at q4;have hbase:(ps.getD i Az).base=b:=by
      have hl:=(Eo ch sz i).lb;rw[hb i (by omega),L8 ch hz h60 (by omega),p1,q1,AaW,AbH (by omega),hl,AcD];rfl
    have hlen:s.depths.length=i:=by
      have:=congrArg AeR hd;rw[Abh,p2]at this;exact this
    have hdep:((Dj (ps.getD i Az) s:Nat):Int)=d:=by
      unfold Dj;rw[hbase,q6];by_cases q:b<0
      · rw[if_pos q,if_neg (by omega)];rfl
      · rw[if_neg q,if_pos (by omega),←hd];have hlt:b.toNat<s.depths.length:=by omega
        have a:b.toNat<(s.depths.map fun d=>((d:Nat):Int)).length:=by rw[Abh];exact hlt
        rw[Fd _ hlt,Fd _ a,Aeh];rfl
    have hni:Sha.sum (ps.getD i Az).bytes∉s.ids:=by
      rw[hs i (by omega),hids];intro hm;obtain⟨k,hk,he⟩:=Aco hm;rw[Abg]at hk;rw[AeP,Fd _ (show i<ids.length by omega)]at he;exact Acs.1 (AfA.1 hn) k i (by omega) (by omega) (by omega) he
    refine⟨bnext ps (ps.getD i Az) s,?_,?_,?_⟩
    · rw[EJ e];unfold ED;rw[if_neg (by rw[hbase];omega),if_neg hni,if_neg (by omega)]
    · show(s.depths++ [Dj _ s]).map _=_;rw[Acj,hd,p1,q2,List.map_singleton,hdep]
    · show s.ids++ [Sha.sum _]=_;rw[hids,hs i (by omega),QT ([]:Bs) (show i<ids.length by omega)]
section
variable {D : Ae} {L : AP} {o : List Bs} {ch : List Int}
def I8(D:Ae)(L:AP)(o:List Bs):Prop:=∀id∈o,(getV D L id).2=0∧(getV D L id).1.length≤200∧Sha.sum (getV D L id).1=id
theorem XG(h:I8 D L o):∀z∈szV D L o,0≤z∧z≤200:=fun z hz=>by
  unfold szV Bu at hz;rw[AdK]at hz;obtain⟨id,hid,rfl⟩:=AbD.1 hz;have:=(h id hid).2.1;show(0:Int)≤(((getV D L id).1.length:Nat):Int)∧(((getV D L id).1.length:Nat):Int)≤200;omega
theorem IK(h60:o.length≤60){i:Nat}(hi:i<o.length):((AM D L o ch).getD i Az).base=(planGo ch (szV D L o) o.length).bases.getD i 0∧((AM D L o ch).getD i Az).bytes=(getV D L (o.getD i [])).1:=by
  have hl:(szV D L o).length=o.length:=by unfold szV Bu;rw[Abh,Abh]
  have h2:i<(BG D L o ch).bases.length:=by unfold BG;rw[(Eo ch (szV D L o) _).lb,hl];exact hi
  have h1:i<(Bu D L o).length:=by unfold Bu;rw[Abh];exact hi
  have e:(AM D L o ch).getD i Az=⟨.slice none 0 0,(Bu D L o)[i],(BG D L o ch).bases[i]⟩:=by
    unfold AM;rw[AaW,AcB,(Aeu (z:=((Bu D L o)[i],(BG D L o ch).bases[i]))).2 ⟨Aa2 h1,Aa2 h2⟩];rfl
  rw[e];refine⟨?_,?_⟩
  · show(BG D L o ch).bases[i]=_;rw[←Fd 0 h2];unfold BG;rw[hl]
  · have a:(Bu D L o)[i]=(getV D L o[i]).1:=Aeh ..;show(Bu D L o)[i]=_;rw[a,Fd _ hi]
theorem partsK_len:(AM D L o ch).length=o.length:=by
  have hl:(szV D L o).length=o.length:=by unfold szV Bu;rw[Abh,Abh]
  have h2:(BG D L o ch).bases.length=o.length:=by unfold BG;rw[(Eo ch (szV D L o) _).lb,hl]
  unfold AM;rw[Abh,List.length_zip,h2];unfold Bu;rw[Abh,Nat.min_self]
theorem IL(h:I8 D L o)(h60:o.length≤60):Cl (AM D L o ch):=by
  refine⟨by rw[partsK_len];exact h60,fun p hp=> ?_⟩;unfold AM at hp;obtain⟨x,hx,rfl⟩:=AbD.1 hp;have h1:=(List.of_mem_zip hx).1;unfold Bu at h1;obtain⟨id,hid,h2⟩:=AbD.1 h1;show x.1.length≤200;rw[←h2];exact(h id hid).2.1
theorem KT(h:I8 D L o):¬DU D L o:=fun⟨id,hid,q⟩=>q (h id hid).1
theorem L9{ps:List Pt}(hL:Cl ps){s:BS}(h:CW ps ps.length = .ok s):(AU ps).1.length≤40000:=by
  have hk:=Ir hL ps.length s (AaX _) h;have h1:=hk.b;have h2:=GN hk s.b.length;have h3:=hL.1;have e:(AU ps).1=s.b++Cm s s.b.length++Sha.sum (s.b++Cm s s.b.length):=by unfold AU;rw[h]
  rw[e,AaY,AaY,Sha.sum_length,h2];omega
theorem SQ(h:I8 D L o)(h60:o.length≤60)(hn:o.Nodup)(hne:o≠ []):∃b p,AK D L o ch=([b],0)∧BW b = .ok p∧b.length≤40000∧(∀id,id∈p.1↔id∈o)∧(∀id∈o,∃d,p.2 id=some ((getV D L id).1,d))∧∀id,id∉o→p.2 id=none:=by
  have hsz:=XG h;obtain⟨s,e,-,hids⟩:=NY (ps:=AM D L o ch) (ch:=ch) hsz h60 (fun i hi=>(IK h60 hi).1) (fun i hi=>by rw[(IK h60 hi).2];exact(h _ (AO _ hi)).2.2) hn o.length (AaX _);rw[Acy]at hids;have hL:=IL (ch:=ch) h h60;have a:CW (AM D L o ch) (AM D L o ch).length = .ok s:=by rw[partsK_len];exact e
  have hop:=KQ hL a;obtain⟨es,I⟩:=Ll hL (AM D L o ch).length s (AaX _) a;refine⟨(AU (AM D L o ch)).1,(AJ s.ids,NV (AM D L o ch) s),?_,hop,L9 hL a,fun id=>by rw[←hids];exact Fc,fun id hid=> ?_,fun id hid=> ?_⟩
  · unfold AK;rw[if_neg (KT h),if_neg hne,if_pos (SP a)]
  · obtain⟨j,hj,ej⟩:=Aco hid;have hjp:j<(AM D L o ch).length:=by rw[partsK_len];exact hj
    have h1:=I.obj hL rfl hjp;have c:s.ids.getD j []=id:=by rw[hids,Fd _ hj,ej]
    rw[c,(IK h60 hj).2,Fd _ hj,ej]at h1;exact⟨_,h1⟩
  · rw[←hids]at hid;exact CP _ _ _ hid
end
theorem AaP{wb w w' :AaS}{g:Nat}{H:Dk}{D:Ae}(h:DkG wb w g H D)(hc:Chg (B2 H D.files.length) w w'){α:Type}{b k:Nat}{t:AaZ}{enc:α→List AaR}{v:AaR}{l:List α}(hr:OG b t k enc w v l)(h1:t≠107)(h2:t≠133)(h3:t≠5)(h4:t≠131):OG b t k enc w' v l:=by
  refine⟨hr.1,Du hc hr.2 fun i hi q=> ?_⟩;have ht:=K8 hr.2 hi;rcases(h.st.foot q).1 with ⟨es,c,e⟩ | ⟨cs,t',fr,e,ht'⟩
  · unfold CT at ht;rw[e]at ht;cases ht
  · have:=Co e;rw[this]at ht;have ht:t' =t:=by simpa using ht
    subst ht;rcases ht' with q | q | q | q
    · exact h1 q
    · exact h2 q
    · exact h3 q
    · exact h4 q
theorem Lo{D:Ae}{s:List UInt8}{k:Nat}(hd:D.down=false)(hm:Bh s=true)(h:Aw D.now s=some k):An D s=((AY D k).1,0):=by
  have h0:CA D s s=0:=by
    unfold CA;rw[if_neg (by rw[hd];decide),if_pos ⟨hm,hm⟩]
  unfold An FB;rw[if_neg (by rw[h0];exact fun q=>q rfl),h]
structure VtK (wb w : AaS) (n g gv : Nat) (H : Dk) (D : Ae) (w' : AaS) (H' : Dk) (D' : Ae) (L' : AP) : Prop where
  dk:DkG wb w' g H' D'
  v:∃bm ptr,VtAt n (Cg H' D') w' gv g bm L' ptr
  chg:Chg (fun k=>B2 H D.files.length k∨k=gv∧n≤gv) w w'
  foot:∀i,B2 H' D'.files.length i→B2 H D.files.length i∨w.heap.size≤i
theorem Chg.monoV{B C:Nat→Prop}{w w' :AaS}(h:Chg B w w')(hB:∀k,B k→C k):Chg C w w' :=⟨h.os,h.tape,h.output,h.size,fun k hk hn=>h.blk k hk fun q=>hn (hB k q)⟩
theorem YS{wb w w' :AaS}{n g gv bm:Nat}{H H' :Dk}{D D' :Ae}{L:AP}{ptr:Bs→Nat}(h:VtAt n (Cg H D) w gv g bm L ptr)(hW:DkW wb w g H D w' H' D'):VtK wb w n g gv H D w' H' D' L:=
  ⟨hW.g,⟨bm,ptr,h.step hW⟩,hW.chg.monoV fun k q=> .inl q,hW.foot⟩
theorem WR{s:Er}(h:(decide (1024≤s.depths.length)||decide (131072≤s.total))=true):⟨s.at_+1,0,[],s.packs,s.bases⟩=turnPk s:=(if_pos h).symm
theorem WS{s:Er}(h:(decide (1024≤s.depths.length)||decide (131072≤s.total))=false):s=turnPk s:=(if_neg (by unfold KJ;rw[h];decide)).symm
theorem V8{s:Er}{b:Int}{n:Nat}(h:b=((n:Nat):Int)):Lh s b=s.depths.getD (n) 0+1:=by
 subst h;exact if_pos (AdX _)
theorem V9(t:AaZ)(x:Int)(m:Nat)(y:Int)(hy:y=Ac9 x ((m+1:Nat):Int)+m+1):Abt .rem t (.int .i64 y) (NI (m+1))=pure (.int .i64 (Ady x ((m+1:Nat):Int))):=by
 have h:=Sq t y ((m+1:Nat):Int) (by omega);rw[hy,SA]at h;rw[hy];exact h
theorem Wa(x:Int)(m:Nat):0≤Ady x ((m+1:Nat):Int)∧Ady x ((m+1:Nat):Int)≤m:=by
 have h1:0≤Ady x ((m+1:Nat):Int):=Int.emod_nonneg _ (by omega);have h2:Ady x ((m+1:Nat):Int)<((m+1:Nat):Int):=Int.emod_lt_of_pos _ (by omega);omega
theorem AaL{P:Abo}{K:AaR→AaS→Prop}{ρ:Ad}{w:AaS}{d:Option Tmp}{ty:AaZ}{pos:String}{af:Array AbP}{gd:Option (Nat × Bool)}{t1 t2:AaZ}{x y:Aa5}{n m:Nat}(hx:Aa ρ x=NI n)(hy:Aa ρ y=NI m)(hk:K (NI (min n m)) w):Yk P K ((execOp (Aa ρ) ⟨d, .call ⟨.builtin .min,#[x,y],#[t1,t2]⟩,ty,pos,af,gd⟩).run P w):=by
 refine Yk.value (v:=NI (min n m)) (w' :=w) ?_ hk;have he:(if((m:Nat):Int)<((n:Nat):Int)then((m:Nat):Int)else((n:Nat):Int))=((min n m:Nat):Int):=by split <;> omega
 have hr:=run_min_int2 (P:=P) w #[t1,t2] ty .i64 .i64 n m;rw[he]at hr;unfold execOp;simp only[resolve,invoke,builtin,Aa7,Abb,Aa3,Abx,Abv,AbG,hx,hy,hr]
theorem va5_ig3:∃z,(Tryz.prog.info? 3).map (fun i=>(i.zero,i.size,i.bytes))=some (some z,1,8)∧z.cells.size=1:=E6 (by kernel_rfl)
theorem Um(w:AaS)(vz vc:AaR)(sz ch:List Int)(hz:RG 1 B5 w vz sz)(hc:RG 1 B5 w vc ch)(hzl:sz.length≤100000)(hcl:ch.length≤1099511627776):
  Calls AaU 9 #[vz,vc] w fun e w' =>∃va vb,e = .returned (.tuple #[va,vb])∧OG w.heap.size 3 1 B5 w' va (planGo ch sz sz.length).packs∧OG w.heap.size 3 1 B5 w' vb (planGo ch sz sz.length).bases∧Ext w w' :=by
 refine UX (args:= [vz,vc]) Tryz.func9 rfl 83 rfl rfl ?_;have hE:=Ext.refl w;have hw_:=hE.size;refine AcL (⟨_,rfl⟩:∃v:AaR,(Aa0 none 0 0)=v) fun nv4 hnv4=> ?_;have hrow4:OG w.heap.size 3 1 B5 w nv4 ([]:List Int):=hnv4▸OG.nil _ _ _ _ _;refine AcL (⟨_,rfl⟩:∃v:AaR,(Aa0 none 0 0)=v) fun nv5 hnv5=> ?_;have hrow5:OG w.heap.size 3 1 B5 w nv5 ([]:List Int):=hnv5▸OG.nil _ _ _ _ _;have a9:Ah nv5 nv4:=fun k h=>by rw[←hnv5]at h;cases h
 have ba:Ah nv4 nv5:=fun k _ h=>by rw[←hnv5]at h;cases h
 refine AcL (⟨_,rfl⟩:∃v:AaR,(Aa0 none 0 0)=v) fun nv8 hnv8=> ?_;have hrow8:OG w.heap.size 3 1 B5 w nv8 ([]:List Int):=hnv8▸OG.nil _ _ _ _ _;have bc:Ah nv8 nv4:=fun k h=>by rw[←hnv8]at h;cases h
 have bd:Ah nv4 nv8:=fun k _ h=>by rw[←hnv8]at h;cases h
 have be:Ah nv8 nv5:=fun k h=>by rw[←hnv8]at h;cases h
 have bf:Ah nv5 nv8:=fun k _ h=>by rw[←hnv8]at h;cases h
 refine gS (X1 LA (XU (hz.keep hE) rfl) (gL (fun(ρ:Ad) (wz:AaS)=>∃i:Nat,∃s:Er,∃r4:AaR,∃r5:AaR,∃r8:AaR,ρ 0=(vz:AaR)∧ρ 1=(vc:AaR)∧ρ 15=(vz:AaR)∧ρ 16=(NI sz.length:AaR)∧ρ 17=(NI i:AaR)∧ρ 6=(NI s.at_:AaR)∧ρ 7=(NI s.total:AaR)∧ρ 4=(r4:AaR)∧ρ 5=(r5:AaR)∧ρ 8=(r8:AaR)∧Ext w wz∧OG w.heap.size 3 1 (B5) wz r4 (s.packs)∧OG w.heap.size 3 1 (B5) wz r5 (s.bases)∧OG w.heap.size 3 1 (B5) wz r8 (s.depths)∧(i≤sz.length)∧(s=planGo ch sz i)∧(Ah r4 r5)∧(Ah r4 r8)∧(Ah r5 r4)∧(Ah r5 r8)∧(Ah r8 r4)∧(Ah r8 r5)∧True) (fun ρ _=>sz.length-(intOf (ρ 17)).toNat) ⟨0,(planGo ch sz 0),nv4,nv5,nv8,rfl,rfl,rfl,rfl,rfl,rfl,rfl,((show _=(Aa0 none 0 0)from rfl).trans hnv4),((show _=(Aa0 none 0 0)from rfl).trans hnv5),((show _=(Aa0 none 0 0)from rfl).trans hnv8),hE,Bz hrow4 (rfl),Bz hrow5 (rfl),Bz hrow8 (rfl),Abs _,rfl,ba,bd,a9,bf,bc,be,trivial⟩ ?_));clear hrow4;clear hrow5;clear hrow8;clear hE;rintro bg bh ⟨i,s,r4,r5,r8,t,g,p,q,f,r,x,l,o,j,hE,hr_r4,hr_r5,hr_r8,hil,hs,hap_r4_r5,hap_r4_r8,hap_r5_r4,hap_r5_r8,hap_r8_r4,hap_r8_r5,-⟩;have q17:=f;refine gS (XK (a:=(i:Nat)) (b:=(sz.length:Nat)) f q (AL _ _ _ _) ?_);refine cD rfl (fun aq=> ?_) fun aq=> ?_
 ·have hlt:i<sz.length:=aq;have hok:=Eo ch sz i;rw[←hs]at hok;have bi:=hok.lp;have bj:=hok.lb;have b8:=hok.ld;have b9:=hok.at_;have ca:=hok.tot;have cb:(B5 (sz.getD (i) (0:Int))).length=1:=(RG.elem (hz.keep hE) (0:Int) (hlt));refine gS (X4 LA G1 (by decide) (0:Int) (XU (hz.keep hE) p) f (hlt) fun cc av=>(gS (X0 Tc rfl (PR.cell (Yb av rfl) rfl) ?_)));clear av;refine gJ (fun ρ wz=>∃x8:AaR,∃s1:Er,ρ 0=(vz:AaR)∧ρ 1=(vc:AaR)∧ρ 4=(r4:AaR)∧ρ 5=(r5:AaR)∧ρ 9=(NI i:AaR)∧ρ 10=(.int .i64 (sz.getD (i) (0:Int):Int):AaR)∧ρ 15=(vz:AaR)∧ρ 16=(NI sz.length:AaR)∧ρ 17=(NI i:AaR)∧ρ 8=(x8:AaR)∧ρ 6=(NI s1.at_:AaR)∧ρ 7=(NI s1.total:AaR)∧Ext w wz∧OG w.heap.size 3 1 (B5) wz r4 (s.packs)∧OG w.heap.size 3 1 (B5) wz r5 (s.bases)∧OG w.heap.size 3 1 B5 wz x8 s1.depths∧(s1=turnPk s)∧(Ah x8 r4)∧(Ah x8 r5)∧(Ah r4 x8)∧(Ah r5 x8)∧True) 1 rfl ?_ fun hJK21=> ?_
  ·clear hE hr_r4 hr_r5;rintro cd ce ⟨x8,s1,t,g,l,o,T9,ab,p,q,f,j,r,x,hE,hr_r4,hr_r5,c,aw,ha84,ha85,ha48,ha58,-⟩;have hok1:=LW hok;rw[←aw]at hok1;have hj1:=hok1.2.1;have hj2:=hok1.2.2.1;have hj3:s1.at_≤i+1:=hok1.1.at_;have hj4:s1.packs=s.packs:=hok1.2.2.2.1;have hj5:s1.bases=s.bases:=hok1.2.2.2.2;have hj7:s1.packs.length=i:=by rw[hj4];exact bi
   have hj8:s1.bases.length=i:=by rw[hj5];exact bj
   have hj6:∀d∈s1.depths,0≤d∧d≤50:=hok1.1.dp;refine gS (X1 LA (XU (XW c) j) ?_);refine gJ (fun ρ wz=>∃bz:Int,ρ 0=(vz:AaR)∧ρ 1=(vc:AaR)∧ρ 4=(r4:AaR)∧ρ 5=(r5:AaR)∧ρ 6=(NI s1.at_:AaR)∧ρ 7=(NI s1.total:AaR)∧ρ 8=(x8:AaR)∧ρ 9=(NI i:AaR)∧ρ 10=(.int .i64 (sz.getD (i) (0:Int):Int):AaR)∧ρ 11=(NI ((s1.depths).length):AaR)∧ρ 15=(vz:AaR)∧ρ 16=(NI sz.length:AaR)∧ρ 17=(NI i:AaR)∧ρ 12=(.int .i64 (bz:Int):AaR)∧Ext w wz∧OG w.heap.size 3 1 (B5) wz r4 (s.packs)∧OG w.heap.size 3 1 (B5) wz r5 (s.bases)∧OG w.heap.size 3 1 B5 wz x8 s1.depths∧(FT ch i s1.depths.length=bz)∧True) 1 rfl ?_ fun hJK27=> ?_
   ·clear hE hr_r4 hr_r5 c;rintro cf cg ⟨bz,t,g,l,o,r,x,j,T9,ab,ai,p,q,f,ad,hE,hr_r4,hr_r5,c,hbz,-⟩;have hbl:=JT ch i s1.depths.length;rw[hbz]at hbl;refine gJ (fun ρ wz=>∃d0:Int,ρ 0=(vz:AaR)∧ρ 1=(vc:AaR)∧ρ 4=(r4:AaR)∧ρ 5=(r5:AaR)∧ρ 6=(NI s1.at_:AaR)∧ρ 7=(NI s1.total:AaR)∧ρ 8=(x8:AaR)∧ρ 9=(NI i:AaR)∧ρ 10=(.int .i64 (sz.getD (i) (0:Int):Int):AaR)∧ρ 11=(NI ((s1.depths).length):AaR)∧ρ 12=(.int .i64 (bz:Int):AaR)∧ρ 15=(vz:AaR)∧ρ 16=(NI sz.length:AaR)∧ρ 17=(NI i:AaR)∧ρ 14=(.int .i64 (d0:Int):AaR)∧Ext w wz∧OG w.heap.size 3 1 (B5) wz r4 (s.packs)∧OG w.heap.size 3 1 (B5) wz r5 (s.bases)∧OG w.heap.size 3 1 B5 wz x8 s1.depths∧(Lh s1 bz=d0)∧True) 1 rfl ?_ fun hJK32=> ?_
    ·clear hE hr_r4 hr_r5 c;rintro ci cj ⟨d0,t,g,l,o,r,x,j,T9,ab,ai,ad,p,q,f,am,hE,hr_r4,hr_r5,c,hd0,-⟩;refine gJ (fun ρ wz=>∃bb:Int,∃dd:Int,ρ 0=(vz:AaR)∧ρ 1=(vc:AaR)∧ρ 4=(r4:AaR)∧ρ 5=(r5:AaR)∧ρ 6=(NI s1.at_:AaR)∧ρ 7=(NI s1.total:AaR)∧ρ 8=(x8:AaR)∧ρ 9=(NI i:AaR)∧ρ 10=(.int .i64 (sz.getD (i) (0:Int):Int):AaR)∧ρ 11=(NI ((s1.depths).length):AaR)∧ρ 15=(vz:AaR)∧ρ 16=(NI sz.length:AaR)∧ρ 17=(NI i:AaR)∧ρ 12=(.int .i64 (bb:Int):AaR)∧ρ 14=(.int .i64 (dd:Int):AaR)∧Ext w wz∧OG w.heap.size 3 1 (B5) wz r4 (s.packs)∧OG w.heap.size 3 1 (B5) wz r5 (s.bases)∧OG w.heap.size 3 1 B5 wz x8 s1.depths∧(Dp ch i (sz.getD i 0) s1=⟨s1.at_,s1.total+Gj (sz.getD i 0),s1.depths++ [dd],s1.packs++ [(s1.at_:Int)],s1.bases++ [bb]⟩)∧True) 1 rfl ?_ fun hJK36=> ?_
     ·clear hE hr_r4 hr_r5 c;rintro ck cl ⟨bb,dd,t,g,l,o,r,x,j,T9,ab,ai,p,q,f,ad,am,hE,hr_r4,hr_r5,c,hst,-⟩;refine gS (Ye (a:=s1.at_) (enc:=B5) r rfl (fun w=>PV _ w) fun bk bm ax an=> ?_);have hE:=hE.trans an;have hr_r4:=hr_r4.keep an;refine gS (X2 _ _ w.heap.size _ 8 LA va5_ig3.choose_spec.1 va5_ig3.choose_spec.2 LA (s.packs) ([s1.at_]) (OG.of hr_r4 l) (XU ax (vr bk rfl)) (fun y hy u hu=>by rw[Aa6.1 hu];rfl) (by simp only[Abj];omega) (by simp only[Abj];omega) hE.size fun ac bo z af=> ?_);have af:Grew bm bo r4 ac:= .eqv l af;have hr_r5:=hr_r5.keep an;have bp:Ah ac r5:=AG af hap_r4_r5 hr_r5.2;have ay:Ah r5 ac:=fun k h1 h2=>bp k h2 h1;have c:=c.keep an;have bq:Ah ac x8:=AG af ha48 c.2;have az:Ah x8 ac:=fun k h1 h2=>bq k h2 h1;have hE:=Av hE af hr_r4.2 (AaX _);have hr_r5:=Bb hr_r5 af hap_r4_r5;have c:=Bb c af ha48;clear ax;clear hr_r4;refine gS (Ye (a:=bb) (enc:=B5) ad rfl (fun w=>PV _ w) fun br bs a0 ao=> ?_);have hE:=hE.trans ao;have hr_r5:=hr_r5.keep ao;refine gS (X2 _ _ w.heap.size _ 8 LA va5_ig3.choose_spec.1 va5_ig3.choose_spec.2 LA (s.bases) ([bb]) (OG.of hr_r5 o) (XU a0 (vr br rfl)) (fun y hy u hu=>by rw[Aa6.1 hu];rfl) (by simp only[Abj];omega) (by simp only[Abj];omega) hE.size fun ae bt aj ag=> ?_);have ag:Grew bs bt r5 ae:= .eqv o ag;have c:=c.keep ao;have bu:Ah ae x8:=AG ag ha58 c.2;have a1:Ah x8 ae:=fun k h1 h2=>bu k h2 h1;have z:=z.keep ao;have a2:Ah ae ac:=AG ag ay z.2;have bv:Ah ac ae:=fun k h1 h2=>a2 k h2 h1;have hE:=Av hE ag hr_r5.2 (AaX _);have c:=Bb c ag ha58;have z:=Bb z ag ay;clear a0;clear hr_r5;refine gS (Ye (a:=dd) (enc:=B5) am rfl (fun w=>PV _ w) fun bw bx a3 ap=> ?_);have hE:=hE.trans ap;have c:=c.keep ap;refine gS (X2 _ _ w.heap.size _ 8 LA va5_ig3.choose_spec.1 va5_ig3.choose_spec.2 LA (s1.depths) ([dd]) (OG.of c j) (XU a3 (vr bw rfl)) (fun y hy u hu=>by rw[Aa6.1 hu];rfl) (by simp only[Abj];omega) (by simp only[Abj];omega) hE.size fun ak b0 b1 ah=> ?_);have ah:Grew bx b0 x8 ak:= .eqv j ah;have z:=z.keep ap;have a4:Ah ak ac:=AG ah az z.2;have b2:Ah ac ak:=fun k h1 h2=>a4 k h2 h1;have aj:=aj.keep ap;have a5:Ah ak ae:=AG ah a1 aj.2;have b3:Ah ae ak:=fun k h1 h2=>a5 k h2 h1;have hE:=Av hE ah c.2 (AaX _);have z:=Bb z ah az;have aj:=Bb aj ah a1;clear a3;clear c;refine gS (AaI ab rfl (gS (AaL (n:=(sz.getD i 0).toNat) (m:=131072) rfl rfl (gS (XL (xv:=NI s1.total) (yv:=NI (Gj (sz.getD i 0))) x rfl rfl (Ai _ _ _ (by have:=Pd (sz.getD i 0);omega)) (gS (XL (xv:=NI i) (yv:=NI 1) f rfl rfl (Ai _ _ _ (by omega)) (gK (Aby ⟨i+1,⟨s1.at_,s1.total+Gj (sz.getD i 0),s1.depths++ [dd],s1.packs++ [(s1.at_:Int)],s1.bases++ [bb]⟩,ac,ae,ak,t,g,p,q,rfl,r,rfl,rfl,rfl,rfl,hE,Bz z ((congrArg (· ++ [(s1.at_:Int)]) hj4.symm)),Bz aj ((congrArg (· ++ [bb]) hj5.symm)),Bz b1 (rfl),by omega,by rw[IG,←hs,←aw,hst],bv,b2,a2,b3,a4,a5,trivial⟩ ?_)))))))));show sz.length-(intOf (NI ((i)+(1)))).toNat<sz.length-(intOf (bg 17)).toNat;rw[q17];simp only[intOf,Aba];omega
     refine gS (XK am rfl (Pz _ .i64 (d0:Int) ((50:Nat):Int)) ?_);refine cD rfl (fun a6=> ?_) fun a6=> ?_
     ·exact hJK36 _ _ ⟨-1,((0:Nat):Int),t,g,l,o,r,x,j,T9,ab,ai,p,q,f,rfl,rfl,hE,hr_r4,hr_r5,c,TZ hbz hd0 a6,trivial⟩
     exact hJK36 _ _ ⟨bz,d0,t,g,l,o,r,x,j,T9,ab,ai,p,q,f,ad,am,hE,hr_r4,hr_r5,c,QG hbz hd0 (by omega),trivial⟩
    refine gS (XK ad rfl (Mx _ .i64 (bz:Int) ((0:Nat):Int)) ?_);refine cD rfl (fun ar=> ?_) fun ar=> ?_
    ·refine AcL (Int.eq_ofNat_of_zero_le ar) fun bn hbn=> ?_;have hbl2:bn<s1.depths.length:=by omega
     have hnn:=Pe hj6 bn;have cm:(B5 ((s1.depths).getD (bn) (0:Int))).length=1:=(RG.elem (XW c) (0:Int) (hbl2));refine gS (X4 LA G1 (by decide) (0:Int) (XU (XW c) j) (vr (NI bn) (ad.trans (congrArg (AcM .i64) hbn))) (hbl2) fun cn a7=>(gS (X0 Tc rfl (PR.cell (Yb a7 rfl) rfl) (gS (XL (xv:= .int .i64 ((s1.depths).getD (bn) (0:Int))) (yv:= .int .i64 (((1:Nat):Int))) rfl rfl rfl (NG _ ((s1.depths).getD (bn) (0:Int)) (((1:Nat):Int)) (by omega)) ?_)))));clear a7;exact hJK32 _ _ ⟨(((s1.depths).getD (bn) (0:Int))+(((1:Nat):Int))),t,g,l,o,r,x,j,T9,ab,ai,ad,p,q,f,rfl,hE,hr_r4,hr_r5,c,V8 hbn,trivial⟩
    exact hJK32 _ _ ⟨((0:Nat):Int),t,g,l,o,r,x,j,T9,ab,ai,ad,p,q,f,rfl,hE,hr_r4,hr_r5,c,if_neg ar,trivial⟩
   refine gS (X1 LA (XU (hc.keep hE) g) (gS (XK (a:=(ch.length:Nat)) (b:=(0:Nat)) rfl rfl (Bj _ _ _ _) ?_)));refine cD rfl (fun al=> ?_) fun al=> ?_
   ·have hbd:=VH (ch.getD ((i)%(ch.length)) 0) s1.depths.length;have hbe:=Wa (ch.getD ((i)%(ch.length)) 0) s1.depths.length;refine gS (X1 LA (XU (hc.keep hE) g) (gS (XL (xv:=NI i) (yv:=NI ch.length) T9 rfl rfl (GW _ _ _ (by omega)) ?_)));have co:(B5 (ch.getD ((i)%(ch.length)) (0:Int))).length=1:=(RG.elem (hc.keep hE) (0:Int) (Nat.mod_lt _ al));refine gS (X4 LA G1 (by decide) (0:Int) (XU (hc.keep hE) g) rfl (Nat.mod_lt _ al) fun cp a8=>(gS (X0 Tc rfl (PR.cell (Yb a8 rfl) rfl) (gS (XL (xv:=NI ((s1.depths).length)) (yv:=NI 1) rfl rfl rfl (Ai _ _ _ (by omega)) (gS (XL (xv:= .int .i64 (ch.getD ((i)%(ch.length)) (0:Int))) (yv:=NI (((s1.depths).length)+(1))) rfl rfl rfl (Sq _ (ch.getD ((i)%(ch.length)) (0:Int)) _ (by omega)) ?_)))))));clear a8;refine gS (XL (xv:= .int .i64 ((Ac9 (ch.getD ((i)%(ch.length)) 0) ((s1.depths.length+1:Nat):Int)))) (yv:= .int .i64 ((((s1.depths).length:Nat):Int))) rfl rfl rfl (NG _ ((Ac9 (ch.getD ((i)%(ch.length)) 0) ((s1.depths.length+1:Nat):Int))) ((((s1.depths).length:Nat):Int)) (by omega)) (gS (XL (xv:= .int .i64 ((((Ac9 (ch.getD ((i)%(ch.length)) 0) ((s1.depths.length+1:Nat):Int)))+((((s1.depths).length:Nat):Int))))) (yv:= .int .i64 (((1:Nat):Int))) rfl rfl rfl (NG _ ((((Ac9 (ch.getD ((i)%(ch.length)) 0) ((s1.depths.length+1:Nat):Int)))+((((s1.depths).length:Nat):Int)))) (((1:Nat):Int)) (by omega)) (gS (XL (xv:=NI ((s1.depths).length)) (yv:=NI 1) rfl rfl rfl (Ai _ _ _ (by omega)) (gS (XL (xv:= .int .i64 ((((((Ac9 (ch.getD ((i)%(ch.length)) 0) ((s1.depths.length+1:Nat):Int)))+((((s1.depths).length:Nat):Int))))+(((1:Nat):Int))))) (yv:=NI (((s1.depths).length)+(1))) rfl rfl rfl (V9 _ (ch.getD ((i)%(ch.length)) 0) (s1.depths.length) _ rfl) (gS (XL (xv:= .int .i64 ((Ady (ch.getD ((i)%(ch.length)) 0) ((s1.depths.length+1:Nat):Int)))) (yv:= .int .i64 (((1:Nat):Int))) rfl rfl rfl (NH _ ((Ady (ch.getD ((i)%(ch.length)) 0) ((s1.depths.length+1:Nat):Int))) (((1:Nat):Int)) (by omega)) ?_)))))))));exact hJK27 _ _ ⟨(((Ady (ch.getD ((i)%(ch.length)) 0) ((s1.depths.length+1:Nat):Int)))-(((1:Nat):Int))),t,g,l,o,r,x,j,T9,ab,rfl,p,q,f,rfl,hE,hr_r4,hr_r5,c,if_pos al,trivial⟩
   exact hJK27 _ _ ⟨-1,t,g,l,o,r,x,j,T9,ab,rfl,p,q,f,rfl,hE,hr_r4,hr_r5,c,if_neg al,trivial⟩
  refine gS (X1 LA (XU (XW hr_r8) j) (gS (XK (a:=((s.depths).length:Nat)) (b:=(1024:Nat)) rfl rfl (EQ _ _ _ _) (gO fun _=>Fp (NI s.total) rfl rfl (gF rfl) (fun hG89=>Yk.move x ⟨rfl,rfl⟩) (Q8 (gO fun _=>Fp (.bool (decide ((131072)≤(s.total)))) rfl rfl (gF rfl) (fun hG90=>XK (a:=((s.total:Nat):Int)) (b:=((131072:Nat):Int)) (MO rfl hG90) rfl (EQ _ .i64 (s.total) (131072)) ⟨rfl,rfl⟩) (Q8 (gS (ZV rfl rfl (fun hA=>(MO rfl (W4 hA))) fun bb91 hbb92=> ?_)))))))));refine cB (bb91) rfl (fun au=> ?_) fun au=> ?_
  ·subst hbb92;refine gS (XL (xv:=NI s.at_) (yv:=NI 1) r rfl rfl (Ai _ _ _ (by omega)) (AcL (⟨_,rfl⟩:∃v:AaR,(Aa0 none 0 0)=v) fun nx8 hnx8=> ?_));have hx8n:OG w.heap.size 3 1 B5 bh nx8 ([]:List Int):=hnx8▸OG.nil _ _ _ _ _;have b4:Ah nx8 r4:=fun k h=>by rw[←hnx8]at h;cases h
   have b5:Ah r4 nx8:=fun k _ h=>by rw[←hnx8]at h;cases h
   have b6:Ah nx8 r5:=fun k h=>by rw[←hnx8]at h;cases h
   have b7:Ah r5 nx8:=fun k _ h=>by rw[←hnx8]at h;cases h
   exact hJK21 _ _ ⟨nx8,⟨s.at_+1,0,[],s.packs,s.bases⟩,t,g,l,o,f,rfl,p,q,f,((show _=(Aa0 none 0 0)from rfl).trans hnx8),rfl,rfl,hE,hr_r4,hr_r5,hx8n,WR au,b4,b6,b5,b7,trivial⟩
  subst hbb92;exact hJK21 _ _ ⟨r8,s,t,g,l,o,f,rfl,p,q,f,j,r,x,hE,hr_r4,hr_r5,hr_r8,WS au,hap_r8_r4,hap_r8_r5,hap_r4_r8,hap_r5_r8,trivial⟩
 refine By rfl l o ?_;have hie:i=sz.length:=by have h:=aq;omega
 rw[hie]at hs;exact⟨_,_,rfl,hs▸hr_r4,hs▸hr_r5,hE⟩
structure AllN (n : Nat) (w : AaS) (us : List AaR) (bs : List Bs) : Prop where
 len:us.length=bs.length
 rb:∀i,i<bs.length→RB w (us.getD i undef) (bs.getD i [])
 new:∀i,i<bs.length→NewI n w (us.getD i undef)
theorem AllN.keep{n:Nat}{w w' :AaS}{us:List AaR}{bs:List Bs}(h:AllN n w us bs)(k:Ext w w'):AllN n w' us bs:=⟨h.len,fun i hi=>(h.rb i hi).keep k,fun i hi=>(h.new i hi).keep k⟩
theorem AllN.nil(n:Nat)(w:AaS):AllN n w [] []:=⟨rfl,fun i hi=>absurd hi (Acx _),fun i hi=>absurd hi (Acx _)⟩
section
variable {D : Ae} {L : AP} {ids : List Bs} {i : Nat}
theorem HJ{α:Type}{l:List α}{i:Nat}(d:α)(h:i<l.length):l.take (i+1)=l.take i++ [l.getD i d]:=by
 rw[Abu h,AaW,Aa2 h];rfl
theorem Ma(h:i<ids.length):Bu D L (ids.take i)++ [(getV D L (ids.getD (i) ([]:List UInt8))).1]=Bu D L (ids.take (i+1)):=by
 unfold Bu;rw[HJ ([]:List UInt8) h,Acj];rfl
theorem Un(h:i<ids.length):szV D L (ids.take i)++ [(((getV D L (ids.getD (i) ([]:List UInt8))).1.length:Nat):Int)]=szV D L (ids.take (i+1)):=by
 unfold szV;rw[←Ma h,Acj];rfl
theorem Dq(D:Ae)(L:AP)(ids:List Bs):(Bu D L ids).length=ids.length:=Abh ..
theorem FZ(D:Ae)(L:AP)(ids:List Bs):(szV D L ids).length=ids.length:=by unfold szV;rw[Abh,Dq]
theorem Uo(D:Ae)(L:AP):¬DU D L (ids.take 0):=fun⟨id,h,_⟩=>by simp at h
theorem Wb(h:i<ids.length)(hn:¬DU D L (ids.take i))(hc:¬(getV D L (ids.getD (i) ([]:List UInt8))).2≠0):¬DU D L (ids.take (i+1)):=fun⟨id,h1,h2⟩=>by
 rw[HJ ([]:List UInt8) h]at h1;rcases Abk.1 h1 with h1 | h1
 ·exact hn ⟨id,h1,h2⟩
 ·rw[Aa6.1 h1]at h2;exact hc h2
theorem miss_yes(h:i<ids.length)(hc:(getV D L (ids.getD (i) ([]:List UInt8))).2≠0):DU D L ids:=⟨_,AO _ h,hc⟩
theorem SR(hs:∀id∈ids,(getV D L id).2=0→(getV D L id).1.length≤200)(hn:¬DU D L ids):∀z∈szV D L ids,0≤z∧z≤200:=fun z hz=>by
 unfold szV Bu at hz;rw[AdK]at hz;obtain⟨id,hid,rfl⟩:=AbD.1 hz;have h0:(getV D L id).2=0:=AfJ fun q=>hn ⟨id,hid,q⟩;have:=hs id hid h0;show(0:Int)≤(((getV D L id).1.length:Nat):Int)∧(((getV D L id).1.length:Nat):Int)≤200;omega
end
theorem Wc{w w' :AaS}{v v' x:AaR}{m:List UInt8}(h:RB w x m)(gr:Grew w w' v v')(ha:Ah v x):RB w' x m:=Ht h (fun k hk e=>ha k e hk) gr
theorem Xm{l:List Int}(h:∀p∈l,p=0)(i j:Nat):l.getD i 0=l.getD j 0:=by
 have k:∀i,l.getD i 0=0:=fun i=>by
  rw[AaW];cases e:l[i]? with
  | none=>rfl
  | some x=>exact h x (Ab0 e)
 rw[k,k]
theorem Wd{l:List Int}(h:∀b∈l,-1≤b∧b≤60)(i:Nat): -9223372036854775808≤l.getD (i) (0:Int)∧l.getD (i) (0:Int)≤9223372036854775807:=by
 rw[AaW];cases e:l[i]? with
 | none=>simp
 | some x=>have:=h x (Ab0 e);simp only[AbR];omega
section
variable {D : Ae} {L : AP} {ids : List Bs} {ch : List Int}
theorem FX(hbl:(BG D L ids ch).bases.length=ids.length):(AM D L ids ch).length=ids.length:=by
 unfold AM;rw[Abh,List.length_zip,Dq,hbl,Nat.min_self]
theorem QU{qs:List Pt}{us:List AaR}{j:Nat}(hbl:(BG D L ids ch).bases.length=ids.length)(hj:j<ids.length)(hq:qs.map Es=((AM D L ids ch).take j).map Es):(qs++ [(⟨us.getD (j) undef,(Bu D L ids).getD (j) ([]:List UInt8),(BG D L ids ch).bases.getD (j) (0:Int)⟩:Pt)]).map Es=((AM D L ids ch).take (j+1)).map Es:=by
 rw[HJ Az (by rw[FX hbl];exact hj),Acj,Acj,hq];have h1:j<(Bu D L ids).length:=by rw[Dq];exact hj
 have h2:j<(BG D L ids ch).bases.length:=by rw[hbl];exact hj
 have e:(AM D L ids ch).getD j Az=⟨.slice none 0 0,(Bu D L ids).getD (j) ([]:List UInt8),(BG D L ids ch).bases.getD (j) (0:Int)⟩:=by
  unfold AM;rw[AaW,AcB,(Aeu (z:=((Bu D L ids)[j],(BG D L ids ch).bases[j]))).2 ⟨Aa2 h1,Aa2 h2⟩,AaW,AaW,Aa2 h1,Aa2 h2];rfl
 rw[e];rfl
theorem IM(hbl:(BG D L ids ch).bases.length=ids.length)(hn:ids.length≤60)(hs:∀id∈ids,(getV D L id).2=0→(getV D L id).1.length≤200)(hm:¬DU D L ids):Cl (AM D L ids ch):=by
 refine⟨by rw[FX hbl];exact hn,fun p hp=> ?_⟩;unfold AM at hp;obtain⟨x,hx,rfl⟩:=AbD.1 hp;have h1:=(List.of_mem_zip hx).1;unfold Bu at h1;obtain⟨id,hid,h2⟩:=AbD.1 h1;show x.1.length≤200;rw[←h2];exact hs id hid (AfJ fun q=>hm ⟨id,hid,q⟩)
theorem Up(hm:¬DU D L ids)(hp:0<ids.length)(hc:(AU (AM D L ids ch)).2≠0):AK D L ids ch=([],(AU (AM D L ids ch)).2):=by
 unfold AK;rw[if_neg hm,if_neg (fun q=>by rw[q]at hp;cases hp),if_neg hc]
theorem SS{f:Nat}(hm:¬DU D L ids)(hf:f=0∨(f=ids.length∧0<ids.length∧(AU (AM D L ids ch)).2=0))(hfe:¬f<ids.length):AK D L ids ch=((if f=0 then []else [(AU (AM D L ids ch)).1]),0):=by
 unfold AK;rw[if_neg hm];rcases hf with h | ⟨h1,h2,h3⟩
 ·have:ids= []:=AbC (by omega);rw[if_pos this,if_pos h]
 ·rw[if_neg (fun q=>by rw[q]at h2;cases h2),if_pos h3,if_neg (by omega)]
end
theorem Uq{n:Nat}{w w0:AaS}{R:List AaR}{v:AaR}{b:Bs}(h:AllIn w R [v] [b])(hN:NewI n w0 v):AllN n w ([]++ [v]) [b]:=by
 refine⟨rfl,h.rb,fun i hi k hk=> ?_⟩;have h0:i=0:=by simp at hi;omega
 subst h0;exact⟨(hN k hk).1,h.lt 0 hi k hk⟩
theorem We{w w2:AaS}{v a b:AaR}{m1 m2 c f z1 z2:Nat}{g h:AaZ}{xs ys:List AaR}(hN:NewI w.heap.size w2 v)(ha:w.ownsRow m1 g z1 a c xs)(hb:w.ownsRow m2 h z2 b f ys):∀k,v.ownBlock=some k→∀u∈ [a,b],u.ownBlock≠some k:=fun k hk u hu e=>by
 have h1:=(hN k hk).1;simp only[AbF,AcN,or_false]at hu;rcases hu with rfl | rfl
 ·have:=(ha.lt k e).2;omega
 ·have:=(hb.lt k e).2;omega
theorem NZ(ao:Option Addr)(n:Nat)(c:Nat)(w:AaS):(Abz 38 1 #[(0, .slice ao n c)]).run AaU w = .ok (.slice (some ⟨w.heap.size,0,none⟩) 1 1) (w.alloc (.cells #[.slice ao n c] 27)):=by kernel_rfl
theorem va7_ig27:∃z,(Tryz.prog.info? 27).map (fun i=>(i.zero,i.size,i.bytes))=some (some z,1,24)∧z.cells.size=1:=E6 (by kernel_rfl)
theorem Wf:Plain AaU 9:=fun _ _=>by kernel_rfl
theorem Wg{v:AaR}(h:∃ao n c,v = .slice ao n c)(z:Int)(w:AaS):(AcJ 156 #[(0,v),(1, .int .i64 z)]).run AaU w = .ok (.agg ([v, .int .i64 z]:List AaR).toArray) w:=by obtain⟨_,_,_,rfl⟩:=h;kernel_rfl
theorem ST(c0 c1:AaR)(w:AaS):(Abz 154 1 #[(0, .agg #[c0,c1])]).run AaU w = .ok (.slice (some ⟨w.heap.size,0,none⟩) 1 1) (w.alloc (.cells #[c0,c1] 156)):=by kernel_rfl
theorem SU:∀(cs:Array AaR),cs.size=2→∀w:AaS,(Abz 154 1 #[(0, .agg cs)]).run AaU w = .ok (.slice (some ⟨w.heap.size,0,none⟩) 1 1) (w.alloc (.cells cs 156))
 | ⟨[c0,c1]⟩,_,w=>ST c0 c1 w
theorem va7_ig156:∃z,(Tryz.prog.info? 156).map (fun i=>(i.zero,i.size,i.bytes))=some (some z,2,32)∧z.cells.size=2:=E6 (by kernel_rfl)
theorem Ur:Plain AaU 91:=fun _ _=>by kernel_rfl
theorem Us(wb w:AaS)(g:Nat)(H:Dk)(D:Ae)(hD:DkG wb w g H D)(hG:Laid wb)(hL:DL D)(n:Nat)(gv bm:Nat)(L:AP)(ptr:Bs→Nat)(hV:VtAt n (Cg H D) w gv g bm L ptr)(hgL:GoodL L)(hLn:L.length≤100000)(vi:AaR)(ids:List Bs)(hid_:RG 32 AaT w vi ids)(hi32a:∀id∈ids,id.length=32)(bp:ids.length≤60)(hsmall:∀id∈ids,(getV D L id).2=0→(getV D L id).1.length≤200)(vc:AaR)(ch:List Int)(hch:RG 1 B5 w vc ch)(hchl:ch.length≤1099511627776):
  Calls AaU 49 #[PQ gv 0,vi,vc] w fun e w' =>∃v us,e = .returned (.tuple #[v,NI (AK D L ids ch).2])∧OG w.heap.size 27 1 EZ w' v us∧AllN w.heap.size w' us (AK D L ids ch).1∧Ext w w' :=by
 have hvb:=hV.blk;have hvm:=hV.map;have hpk:=hV.pk;have hsrt:=hV.sort;have hV0:=hV;refine gG (args:= [PQ gv 0,vi,vc]) Tryz.func49 rfl 100 rfl rfl ?_;have hE:=Ext.refl w;refine AcL (⟨_,rfl⟩:∃v:AaR,(Aa0 none 0 0)=v) fun nv8 hnv8=> ?_;have hrow8:OG w.heap.size 27 1 EZ w nv8 ([]:List AaR):=hnv8▸OG.nil _ _ _ _ _;have cf:OB nv8 gv:=fun e_=>by rw[←hnv8]at e_;cases e_
 have cg:OB nv8 bm:=fun e_=>by rw[←hnv8]at e_;cases e_
 refine AcL (⟨_,rfl⟩:∃v:AaR,(Aa0 none 0 0)=v) fun nv9 hnv9=> ?_;have hrow9:OG w.heap.size 3 1 B5 w nv9 ([]:List Int):=hnv9▸OG.nil _ _ _ _ _;have ci:Ah nv9 nv8:=fun k h=>by rw[←hnv9]at h;cases h
 have cj:Ah nv8 nv9:=fun k _ h=>by rw[←hnv9]at h;cases h
 have ck:OB nv9 gv:=fun e_=>by rw[←hnv9]at e_;cases e_
 have cl:OB nv9 bm:=fun e_=>by rw[←hnv9]at e_;cases e_
 refine gS (X1 M4 (XU (hid_.keep hE) rfl) (gL (fun(ρ:Ad) (wz:AaS)=>∃i:Nat,∃us:List AaR,∃r8:AaR,∃r9:AaR,ρ 0=(PQ gv 0:AaR)∧ρ 1=(vi:AaR)∧ρ 2=(vc:AaR)∧ρ 22=(vi:AaR)∧ρ 23=(NI ids.length:AaR)∧ρ 24=(NI i:AaR)∧ρ 8=(r8:AaR)∧ρ 9=(r9:AaR)∧wz.heap[gv]? =some (.cells ([PQ g 0, .map (some bm)]).toArray 86 (0,0))∧MapF St pN Nm wz bm (pkG L ptr)∧Ext w wz∧AllIn wz [r8,r9] us (Bu D L (ids.take i))∧OG w.heap.size 27 1 (EZ) wz r8 (us)∧OG w.heap.size 3 1 (B5) wz r9 (szV D L (ids.take i))∧(i≤ids.length)∧(¬DU D L (ids.take i))∧(OB r8 gv)∧(OB r8 bm)∧(Ah r8 r9)∧(Ah r9 r8)∧(OB r9 gv)∧(OB r9 bm)∧True) (fun ρ _=>ids.length-(intOf (ρ 24)).toNat) ⟨0,[],nv8,nv9,rfl,rfl,rfl,rfl,rfl,rfl,((show _=(Aa0 none 0 0)from rfl).trans hnv8),((show _=(Aa0 none 0 0)from rfl).trans hnv9),hvb,hvm,hE,AllIn.nil _ _,Bz hrow8 (rfl),Bz hrow9 (rfl),Abs _,Uo _ _,cf,cg,cj,ci,ck,cl,trivial⟩ ?_));clear hrow8;clear hrow9;clear hvb hvm hE;rintro cm aw ⟨i,us,r8,r9,T0,T1,T2,ao,ap,ac,r,T9,hvb,hvm,hE,hAl,hr_r8,hr_r9,hil,hnm,hap_r8_gv,hap_r8_bm,hap_r8_r9,hap_r9_r8,hap_r9_gv,hap_r9_bm,-⟩;have q24:=ac;refine gS (XK (a:=(i:Nat)) (b:=(ids.length:Nat)) ac ap (AL _ _ _ _) ?_);refine cD rfl (fun bf=> ?_) fun bf=> ?_
 ·have hlt:i<ids.length:=bf;have hi32:(ids.getD (i) ([]:List UInt8)).length=32:=hi32a _ (AO _ hlt);have hsl:(szV D L (ids.take i)).length=i:=by rw[FZ,Abg];omega
  have hul:us.length=i:=by rw[hAl.len,Dq,Abg];omega
  have a8:(AaT (ids.getD (i) ([]:List UInt8))).length=32:=(RG.elem (hid_.keep hE) ([]:List UInt8) (hlt));refine gS (X4 M4 Rs (by decide) ([]:List UInt8) (XU (hid_.keep hE) ao) ac (hlt) fun d6 bq=>(gS (X9 (Yb bq rfl) UY rfl (by rw[a8];exact Rb) (gS (Yk.alloc Tf fun a9 cn co br bs d7=> ?_)))));have aa:=Ext.refl aw;have d8:=hE.size;have d9:=Ar hvm.lt co;have cp:OB r8 a9:=A7 hr_r8.2 (by omega);have cq:OB r9 a9:=A7 hr_r9.2 (by omega);have q:=br;clear br;have ea:a9<cn.heap.size:=by omega
  refine gS (XN (vr (PQ a9 0) rfl) (vr (AB (ids.getD (i) ([]:List UInt8))) rfl) q (by exact Bv (AC (a8)) Abc) (by exact Ac (AC (a8))) (Af _) fun ec bt bu ed=> ?_);have hvm:=hvm.keep bs;have hvm:=MapF.other hvm bu (Am (by omega));clear q;have q:=bt;clear bt;have ee:=bl q;clear bq;have aa:=aa.trans bs;have aa:=Ab aa bu (AaV (AaX _) (by omega));have hE:=hE.trans aa;refine gS (XO rfl q UY rfl (by exact Ac (AC (a8))) (gS (XM Uj T0 rfl ((Lk wb _ g H D (hD.keep hE) hG hL n gv bm L ptr (hV0.keep hE) hgL hLn (ids.getD (i) ([]:List UInt8)) hi32).mono ?_))));rintro e ef ⟨ae,rfl,af,bv,bw⟩;refine⟨_,rfl,?_⟩;have hvb:=eb aa hvb;have hr_r8:=hr_r8.keep aa;have hr_r9:=hr_r9.keep aa;have hoff8:∀k,Aa1 ae=some k→∀u∈ [r8,r9],u.ownBlock≠some k:=We bw hr_r8.2 hr_r9.2;have hap8v:Ah r8 ae:=fun k h1 h2=>hoff8 k h2 _ AbZ h1;have hvn:=bw;refine gS (Yk.extract (vs:= [ae,NI ((getV D L (ids.getD (i) ([]:List UInt8))).2)]) rfl rfl (gS (Yk.extract (vs:= [ae,NI ((getV D L (ids.getD (i) ([]:List UInt8))).2)]) rfl rfl (gS (XK (a:=((getV D L (ids.getD (i) ([]:List UInt8))).2:Nat)) (b:=(0:Nat)) rfl rfl (AX _ _ _ _) ?_)))));refine cD rfl (fun ba=> ?_) fun ba=> ?_
  ·refine By rfl (vr (Aa0 none 0 0) rfl) (vr (NI 12) rfl) ?_;have hV:AK D L ids ch=([],12):=if_pos (miss_yes hlt ba);have hE:=hE.trans bv;exact⟨_,[],by rw[hV],OG.nil _ _ _ _ _,by rw[hV];exact AllN.nil _ _,hE⟩
  have hve:=RB.slice af;have hve1:=(RB.one af).2;have cr:(getV D L (ids.getD (i) ([]:List UInt8))).2=0:=Adz.1 ba;have hgb:=hsmall _ (AO _ hlt) cr;refine gS (Ye (a:=(ae)) (enc:=EZ) (vr ae rfl) rfl (fun w=>by obtain⟨_,_,_,rfl⟩:=hve;exact NZ _ _ _ w) fun cs ct bx bg=> ?_);have hZ1:=bv.trans bg;have aa:=aa.trans hZ1;have hvn:=hvn.keep bg;have af:=af.keep bg;have hAl:=Zj (hAl.keep aa) af (fun k hk=>⟨(hvn k hk).2,hoff8 k hk⟩);have hE:=hE.trans hZ1;have hr_r8:=hr_r8.keep hZ1;refine gS (X2 _ _ w.heap.size _ 24 LH va7_ig27.choose_spec.1 va7_ig27.choose_spec.2 LH (us) ([(ae)]) (OG.of hr_r8 r) (XU bx (vr cs rfl)) (fun y hy u hu=>by rw[Aa6.1 hu,Aa6.1 hy];exact hve1) (by simp only[Abj];omega) (by simp only[Abj];omega) hE.size fun ag cu ax s=> ?_);have hAl_:=hAl;have s:Grew ct cu r8 ag:= .eqv r s;have hvb:=eb hZ1 hvb;have cv:OB ag gv:=Ao s hap_r8_gv (bl hvb);have hvm:=hvm.keep hZ1;have cw:OB ag bm:=Ao s hap_r8_bm hvm.lt;have hr_r9:=hr_r9.keep hZ1;have cx:Ah ag r9:=AG s hap_r8_r9 hr_r9.2;have bz:Ah r9 ag:=fun k h1 h2=>cx k h2 h1;have q:=eb hZ1 q;have hvb:=Aq hvb s hap_r8_gv;have hvm:=MapF.grew hvm s hap_r8_bm;have hE:=Av hE s hr_r8.2 (AaX _);have hr_r9:=Bb hr_r9 s hap_r8_r9;have q:=Aq q s cp;clear hvn;have af:=Wc af s hap8v;clear bx;clear hr_r8;have hAl:=AllIn.swap (AllIn.grew hAl_ s);clear hAl_;refine gS (XS F5 (XP af rfl) (gS (Ye (a:=((getV D L (ids.getD (i) ([]:List UInt8))).1:List UInt8).length) (enc:=B5) (vr (NI (((getV D L (ids.getD (i) ([]:List UInt8))).1:List UInt8).length)) rfl) rfl (fun w=>PV _ w) fun cy b0 b1 au=> ?_)));have hAl:AllIn b0 [r9,ag] (us++ [ae]) (Bu D L (ids.take i)++ [(getV D L (ids.getD (i) ([]:List UInt8))).1]):=(hAl.keep au);have hAl:=hAl;have hE:=hE.trans au;have hr_r9:=hr_r9.keep au;refine gS (X2 _ _ w.heap.size _ 8 LA va5_ig3.choose_spec.1 va5_ig3.choose_spec.2 LA (szV D L (ids.take i)) ([((getV D L (ids.getD (i) ([]:List UInt8))).1:List UInt8).length]) (OG.of hr_r9 T9) (XU b1 (vr cy rfl)) (fun y hy u hu=>by rw[Aa6.1 hu];rfl) (by simp only[Abj];omega) (by simp only[Abj];omega) hE.size fun ay cz c0 ab=> ?_);have hAl_:=hAl;have ab:Grew b0 cz r9 ay:= .eqv T9 ab;have hvb:=eb au hvb;have c1:OB ay gv:=Ao ab hap_r9_gv (bl hvb);have hvm:=hvm.keep au;have c2:OB ay bm:=Ao ab hap_r9_bm hvm.lt;have q:=eb au q;have ax:=ax.keep au;have b2:Ah ay ag:=AG ab bz ax.2;have c3:Ah ag ay:=fun k h1 h2=>b2 k h2 h1;have hvb:=Aq hvb ab hap_r9_gv;have hvm:=MapF.grew hvm ab hap_r9_bm;have hE:=Av hE ab hr_r9.2 (AaX _);have q:=Aq q ab cq;clear af;have ax:=Bb ax ab bz;clear b1;clear hr_r9;have hAl:=AllIn.swap (AllIn.grew hAl_ ab);clear hAl_;refine gS (XL (xv:=NI i) (yv:=NI 1) ac rfl rfl (Ai _ _ _ (by omega)) (gK (Aby ⟨i+1,us++ [ae],ag,ay,T0,T1,T2,ao,ap,rfl,rfl,rfl,hvb,hvm,hE,(Ma (D:=D) (L:=L) hlt)▸hAl,Bz ax (rfl),Bz c0 ((Un hlt)),by omega,Wb hlt hnm ba,cv,cw,c3,b2,c1,c2,trivial⟩ ?_)));show ids.length-(intOf (NI ((i)+(1)))).toNat<ids.length-(intOf (cm 24)).toNat;rw[q24];simp only[intOf,Aba];omega
 have hie:i=ids.length:=by have h:=bf;omega
 rw[hie,Acy]at hAl hnm hr_r9;have hul:us.length=ids.length:=by rw[hAl.len,Dq]
 have hzr:=JZ ch (SR hsmall hnm) _ (show(szV D L ids).length≤60 by rw[FZ];exact bp);have hbl:(BG D L ids ch).bases.length=ids.length:=(Eo ch (szV D L ids) (szV D L ids).length).lb.trans (FZ D L ids);have hpl:(BG D L ids ch).packs.length=ids.length:=(Eo ch (szV D L ids) (szV D L ids).length).lp.trans (FZ D L ids);refine gS (XM Wf T9 T2 ((Um _ r9 vc (szV D L ids) ch (XW hr_r9) (hch.keep hE) (by rw[FZ];omega) hchl).mono ?_));rintro e c4 ⟨t,z,rfl,c,l,az⟩;refine⟨_,rfl,?_⟩;have bh:=Ext.refl aw;have eg:=hE.size;refine gS (Yk.extract (vs:= [t,z]) rfl rfl (gS (Yk.extract (vs:= [t,z]) rfl rfl (AcL (⟨_,rfl⟩:∃v:AaR,(Aa0 none 0 0)=v) fun nv16 hnv16=> ?_))));have hrow16:OG w.heap.size 27 1 EZ c4 nv16 ([]:List AaR):=hnv16▸OG.nil _ _ _ _ _;have c5:Ah nv16 r8:=fun k h=>by rw[←hnv16]at h;cases h
 have c6:Ah nv16 r9:=fun k h=>by rw[←hnv16]at h;cases h
 have c7:Ah nv16 t:=fun k h=>by rw[←hnv16]at h;cases h
 have c8:Ah nv16 z:=fun k h=>by rw[←hnv16]at h;cases h
 have c9:OB nv16 gv:=fun e_=>by rw[←hnv16]at e_;cases e_
 have da:OB nv16 bm:=fun e_=>by rw[←hnv16]at e_;cases e_
 have bh:=bh.trans az;have b3:=((hAl.keep bh)).sub (S:= [nv16]) (fun v hv=> .inr (by rw[Aa6.1 hv,←hnv16];rfl));have hvb:=eb az hvb;have hvm:=hvm.keep az;have hE:=hE.trans az;have hr_r8:=hr_r8.keep az;have hr_r9:=hr_r9.keep az;refine gL (fun(ρ:Ad) (wz:AaS)=>∃f:Nat,∃ou:List AaR,∃r16:AaR,ρ 0=(PQ gv 0:AaR)∧ρ 1=(vi:AaR)∧ρ 2=(vc:AaR)∧ρ 8=(r8:AaR)∧ρ 9=(r9:AaR)∧ρ 14=(t:AaR)∧ρ 15=(z:AaR)∧ρ 22=(vi:AaR)∧ρ 23=(NI ids.length:AaR)∧ρ 24=(NI i:AaR)∧ρ 17=(NI f:AaR)∧ρ 16=(r16:AaR)∧wz.heap[gv]? =some (.cells ([PQ g 0, .map (some bm)]).toArray 86 (0,0))∧MapF St pN Nm wz bm (pkG L ptr)∧Ext w wz∧OG w.heap.size 27 1 (EZ) wz r8 (us)∧OG w.heap.size 3 1 (B5) wz r9 (szV D L ids)∧OG aw.heap.size 3 1 B5 wz t (BG D L ids ch).packs∧OG aw.heap.size 3 1 B5 wz z (BG D L ids ch).bases∧AllIn wz [r16] us (Bu D L ids)∧AllN w.heap.size wz ou (if f=0 then []else [(AU (AM D L ids ch)).1])∧OG w.heap.size 27 1 (EZ) wz r16 (ou)∧(f=0∨(f=ids.length∧0<ids.length∧(AU (AM D L ids ch)).2=0))∧(Ah r16 r8)∧(Ah r16 r9)∧(Ah r16 t)∧(Ah r16 z)∧(OB r16 gv)∧(OB r16 bm)∧True) (fun ρ _=>ids.length-(intOf (ρ 17)).toNat) ⟨0,[],nv16,T0,T1,T2,r,T9,rfl,rfl,ao,ap,ac,rfl,((show _=(Aa0 none 0 0)from rfl).trans hnv16),hvb,hvm,hE,hr_r8,hr_r9,c,l,b3,AllN.nil _ _,Bz hrow16 (rfl), .inl rfl,c5,c6,c7,c8,c9,da,trivial⟩ ?_;clear hrow16;clear b3;clear hvb hvm hE hr_r8 hr_r9 c l;rintro db dc ⟨f,ou,r16,T0,T1,T2,r,T9,a0,a4,ao,ap,ac,av,a1,hvb,hvm,hE,hr_r8,hr_r9,c,l,bi,hO,hr_r16,hf,hap_r16_r8,hap_r16_r9,hap_r16_v80,hap_r16_v81,hap_r16_gv,hap_r16_bm,-⟩;have q17:=av;refine gS (X1 LH (XU (XW hr_r8) r) (gS (XK (a:=(f:Nat)) (b:=(us.length:Nat)) av rfl (AL _ _ _ _) ?_)));refine cD rfl (fun bb=> ?_) fun bb=> ?_
 ·have hf0:f=0:=by rcases hf with h | h;exact h;(have:=bb;omega)
  have hpos:0<ids.length:=by have:=bb;omega
  have hou:ou= []:=by have h:=(hO).len;rw[if_pos hf0]at h;exact AbC h
  refine AcL (⟨_,rfl⟩:∃v:AaR,(Aa0 none 0 0)=v) fun nv19 hnv19=> ?_;have hrow19:OG w.heap.size 156 2 partC dc nv19 ([]:List Pt):=hnv19▸OG.nil _ _ _ _ _;have dd:Ah nv19 r8:=fun k h=>by rw[←hnv19]at h;cases h
  have de:Ah nv19 r9:=fun k h=>by rw[←hnv19]at h;cases h
  have df:Ah nv19 t:=fun k h=>by rw[←hnv19]at h;cases h
  have dh:Ah nv19 z:=fun k h=>by rw[←hnv19]at h;cases h
  have di:Ah nv19 r16:=fun k h=>by rw[←hnv19]at h;cases h
  have dj:OB nv19 gv:=fun e_=>by rw[←hnv19]at e_;cases e_
  have dk:OB nv19 bm:=fun e_=>by rw[←hnv19]at e_;cases e_
  have b4:=(bi).sub (S:= [nv19,r16]) (fun v hv=>by rcases AbF.1 hv with h | h;(exact .inr (by rw[h,←hnv19];rfl));exact .inl h);refine gL (fun(ρ:Ad) (wz:AaS)=>∃j:Nat,∃qs:List Pt,∃r19:AaR,ρ 0=(PQ gv 0:AaR)∧ρ 1=(vi:AaR)∧ρ 2=(vc:AaR)∧ρ 8=(r8:AaR)∧ρ 9=(r9:AaR)∧ρ 14=(t:AaR)∧ρ 15=(z:AaR)∧ρ 16=(r16:AaR)∧ρ 17=(NI 0:AaR)∧ρ 22=(vi:AaR)∧ρ 23=(NI ids.length:AaR)∧ρ 24=(NI i:AaR)∧ρ 18=(NI j:AaR)∧ρ 19=(r19:AaR)∧wz.heap[gv]? =some (.cells ([PQ g 0, .map (some bm)]).toArray 86 (0,0))∧MapF St pN Nm wz bm (pkG L ptr)∧Ext w wz∧OG w.heap.size 27 1 (EZ) wz r8 (us)∧OG w.heap.size 3 1 (B5) wz r9 (szV D L ids)∧OG aw.heap.size 3 1 B5 wz t (BG D L ids ch).packs∧OG aw.heap.size 3 1 B5 wz z (BG D L ids ch).bases∧OG w.heap.size 27 1 (EZ) wz r16 (ou)∧PartsIn wz r19 qs∧AllIn wz [r19,r16] us (Bu D L ids)∧OG w.heap.size 156 2 (partC) wz r19 (qs)∧(j≤ids.length)∧(qs.map Es=((AM D L ids ch).take j).map Es)∧(Ah r19 r8)∧(Ah r19 r9)∧(Ah r19 t)∧(Ah r19 z)∧(Ah r19 r16)∧(OB r19 gv)∧(OB r19 bm)∧True) (fun ρ _=>ids.length-(intOf (ρ 18)).toNat) ⟨0,[],nv19,T0,T1,T2,r,T9,a0,a4,a1,(av.trans (congrArg (fun n:Nat=>NI n) hf0)),ao,ap,ac,(av.trans (congrArg (fun n:Nat=>NI n) hf0)),((show _=(Aa0 none 0 0)from rfl).trans hnv19),hvb,hvm,hE,hr_r8,hr_r9,c,l,hr_r16,PartsIn.nil _ _,b4,Bz hrow19 (rfl),Abs _,rfl,dd,de,df,dh,di,dj,dk,trivial⟩ ?_;clear hO;clear hrow19;clear b4;clear hvb hvm hE hr_r8 hr_r9 c l hr_r16;rintro b5 eh ⟨j,qs,r19,T0,T1,T2,r,T9,a0,a4,a1,av,ao,ap,ac,ah,bj,hvb,hvm,hE,hr_r8,hr_r9,c,l,hr_r16,hIn,m,hr_r19,hj,hq,hap_r19_r8,hap_r19_r9,hap_r19_v80,hap_r19_v81,hap_r19_r16,hap_r19_gv,hap_r19_bm,-⟩;have q18:=ah;by_cases hjl:j<ids.length
  ·have hje:=(m).rb j (by rw[Dq];exact hjl);have hjk:=(m).lt j (by rw[Dq];exact hjl);have hjo:=(m).off j (by rw[Dq];exact hjl);have hql:qs.length=j:=by have h:=congrArg AeR hq;simp only[Abh,Abg,FX hbl]at h;omega
   have hbb:=Wd hzr.2.2.2.2 j;refine CC [0,1,2,3,4,5,6,7,8,9,10,11,12,13,14] [] [] fun b6 a5=> ?_;have hIn:PartsIn b6 r19 qs:=(hIn.keep a5);have m:AllIn b6 [r19,r16] us (Bu D L ids):=(m.keep a5);have hr_r8:=hr_r8.keep a5;refine ys (X1 LH (XU (XW hr_r8) r) zz) (ys (XK (a:=(j:Nat)) (b:=(us.length:Nat)) ah rfl (AL _ _ _ _) zz) (kT (by omega) ?_));have c:=c.keep a5;have ei:(B5 (((BG D L ids ch).packs).getD (j) (0:Int))).length=1:=(RG.elem (XW c) (0:Int) (by omega));refine yA (X4 LA G1 (by decide) (0:Int) (XU (XW c) a0) ah (by omega) fun ej b7=>(ys (X0 Tc rfl (PR.cell (Yb b7 rfl) rfl) zz) ?_));have el:(B5 (((BG D L ids ch).packs).getD (0) (0:Int))).length=1:=(RG.elem (XW c) (0:Int) (by omega));refine yA (X4 LA G1 (by decide) (0:Int) (XU (XW c) a0) av (by omega) fun em b8=>(ys (X0 Tc rfl (PR.cell (Yb b8 rfl) rfl) zz) (ys (XK rfl rfl (W3 _ .i64 (((BG D L ids ch).packs).getD (j) (0:Int):Int) (((BG D L ids ch).packs).getD (0) (0:Int):Int)) zz) (kT ((Xm hzr.2.2.2.1 _ _)) (ys (XR rfl rfl zz) ?_)))));clear b7;clear b8;refine cT rfl (CC [0,1,2,3,4,5,6,7,8,9,10,11,12] [10,11,12] [] fun b9 a6=> ?_);have hIn:PartsIn b9 r19 qs:=(hIn.keep a6);have m:AllIn b9 [r19,r16] us (Bu D L ids):=(m.keep a6);have hr_r8:=hr_r8.keep a6;have en:(EZ (us.getD (j) undef)).length=1:=(RG.elem (XW hr_r8) undef (by omega));refine yA (X4 LH RN (by decide) undef (XU (XW hr_r8) r) ah (by omega) fun eo bc=>(ys (X0 F5 rfl (PR.cell (Yb bc rfl) rfl) zz) ?_));have hZ2:=a5.trans a6;have l:=l.keep hZ2;have ep:(B5 (((BG D L ids ch).bases).getD (j) (0:Int))).length=1:=(RG.elem (XW l) (0:Int) (by omega));have hje:=hje.keep hZ2;refine yA (X4 LA G1 (by decide) (0:Int) (XU (XW l) a4) ah (by omega) fun eq bd=>(ys (X0 Tc rfl (PR.cell (Yb bd rfl) rfl) zz) (ys (Yx (vr (us.getD (j) undef) rfl) (vr (.int .i64 (((BG D L ids ch).bases).getD (j) (0:Int):Int)) rfl) (fun w=>Wg (RB.slice hje) _ w) zz) (yC (Yo (a:=(⟨us.getD (j) undef,(Bu D L ids).getD (j) ([]:List UInt8),(BG D L ids ch).bases.getD (j) (0:Int)⟩:Pt)) (enc:=partC) (vr (.agg (partC (⟨us.getD (j) undef,(Bu D L ids).getD (j) ([]:List UInt8),(BG D L ids ch).bases.getD (j) (0:Int)⟩:Pt)).toArray) rfl) (rfl) SU fun dl bk ca ai=> ?_)))));have hIn:PartsIn bk r19 qs:=(hIn.keep ai);have m:AllIn bk [r19,r16] us (Bu D L ids):=(m.keep ai);have bc:=PR.keep bc ai;have bd:=PR.keep bd ai;have m:=m;have hje:=hje.keep ai;have hIn:=ZF (x:=(⟨us.getD (j) undef,(Bu D L ids).getD (j) ([]:List UInt8),(BG D L ids ch).bases.getD (j) (0:Int)⟩:Pt)) hIn hje hbb (fun k hk=>⟨m.lt j (by rw[Dq];exact hjl) k hk,hjo k hk _ AbZ⟩);have hZ3:=hZ2.trans ai;have hE:=hE.trans hZ3;have hr_r19:=hr_r19.keep hZ3;refine yC (X2 _ _ w.heap.size _ 32 Fu va7_ig156.choose_spec.1 va7_ig156.choose_spec.2 Fu (qs) ([(⟨us.getD (j) undef,(Bu D L ids).getD (j) ([]:List UInt8),(BG D L ids ch).bases.getD (j) (0:Int)⟩:Pt)]) (OG.of hr_r19 bj) (XU ca (vr dl rfl)) (fun y hy=>by rw[Aa6.1 hy];exact partC_one (RB.one hje)) (by simp only[Abj];omega) (by simp only[Abj];omega) hE.size fun aj dm dn o=> ?_);have hIn_:=hIn;have hA5_:=m;have o:Grew bk dm r19 aj:= .eqv bj o;have hr_r8:=hr_r8.keep ai;have dp:Ah aj r8:=AG o hap_r19_r8 hr_r8.2;have hr_r9:=hr_r9.keep hZ3;have dq:Ah aj r9:=AG o hap_r19_r9 hr_r9.2;have c:=c.keep (a6.trans ai);have dr:Ah aj t:=AG o hap_r19_v80 c.2;have l:=l.keep ai;have ds:Ah aj z:=AG o hap_r19_v81 l.2;have hr_r16:=hr_r16.keep hZ3;have dt:Ah aj r16:=AG o hap_r19_r16 hr_r16.2;have hvb:=eb hZ3 hvb;have du:OB aj gv:=Ao o hap_r19_gv (bl hvb);have hvm:=hvm.keep hZ3;have dv:OB aj bm:=Ao o hap_r19_bm hvm.lt;have hvb:=Aq hvb o hap_r19_gv;have hvm:=MapF.grew hvm o hap_r19_bm;have hE:=Av hE o hr_r19.2 (AaX _);have hr_r8:=Bb hr_r8 o hap_r19_r8;have hr_r9:=Bb hr_r9 o hap_r19_r9;have c:=Bb c o hap_r19_v80;have l:=Bb l o hap_r19_v81;have hr_r16:=Bb hr_r16 o hap_r19_r16;clear hje;clear bc;clear bd;clear ca;clear hr_r19;have hIn:=PartsIn.grew hIn_ o;clear hIn_;have m:=AllIn.grew hA5_ o;clear hA5_;refine yC (Yk.assign rfl (gS (XL (xv:=NI j) (yv:=NI 1) ah rfl rfl (Ai _ _ _ (by omega)) (gK (Aby ⟨j+1,qs++ [(⟨us.getD (j) undef,(Bu D L ids).getD (j) ([]:List UInt8),(BG D L ids ch).bases.getD (j) (0:Int)⟩:Pt)],aj,T0,T1,T2,r,T9,a0,a4,a1,av,ao,ap,ac,rfl,rfl,hvb,hvm,hE,hr_r8,hr_r9,c,l,hr_r16,hIn,m,Bz dn (rfl),by omega,QU hbl hjl hq,dp,dq,dr,ds,dt,du,dv,trivial⟩ ?_)))));show ids.length-(intOf (NI ((j)+(1)))).toNat<ids.length-(intOf (b5 18)).toNat;rw[q18];simp only[intOf,Aba];omega
  refine CC [0,1,2,3,4,5,6,7,8,9,10,11,12,13,14] [] [] fun cb ak=> ?_;have hIn:PartsIn cb r19 qs:=(hIn.keep ak);have m:AllIn cb [r19,r16] us (Bu D L ids):=(m.keep ak);have hr_r8:=hr_r8.keep ak;refine ys (X1 LH (XU (XW hr_r8) r) zz) (ys (XK (a:=(j:Nat)) (b:=(us.length:Nat)) ah rfl (AL _ _ _ _) zz) (kF (by omega) (ys (XV rfl rfl zz) (cF rfl ?_))));have hje2:j=ids.length:=by omega
  have hqs:qs.map Es=(AM D L ids ch).map Es:=by rw[hje2,←FX (ch:=ch) hbl,Acy]at hq;exact hq
  have hLp:Cl (AM D L ids ch):=IM hbl bp hsmall hnm;have hE:=hE.trans ak;have hr_r19:=hr_r19.keep ak;refine gS (XQ Ur bj ((Ln _ (hG.keep ((hD.keep hE)).ext) r19 (AM D L ids ch) qs (XW hr_r19) (hIn).ok hqs hLp).mono ?_));rintro e cc ⟨al,rfl,bn,a7⟩;refine⟨_,rfl,?_⟩;have hvb:=eb ak hvb;have hvm:=hvm.keep ak;have hr_r16:=hr_r16.keep ak;have hvo:∀k,Aa1 al=some k→∀u∈ [r16],u.ownBlock≠some k:=fun k hk u hu e=>by have h1:=(bn.lt k hk).1;rw[Aa6.1 hu]at e;have h2:=(hr_r16.2.lt k e).2;omega
  have hszb:=(hE).size;have hIn:PartsIn cc r19 qs:=(hIn.keep a7);have m:AllIn cc [r19,r16] us (Bu D L ids):=(m.keep a7);have hvn:=(Y7 bn).low hszb;have a2:=X3 bn;refine gS (Yk.extract (vs:= [al,NI ((AU (AM D L ids ch)).2)]) rfl rfl (gS (Yk.extract (vs:= [al,NI ((AU (AM D L ids ch)).2)]) rfl rfl (gS (XK (a:=((AU (AM D L ids ch)).2:Nat)) (b:=(0:Nat)) rfl rfl (AX _ _ _ _) ?_)))));refine cD rfl (fun bo=> ?_) fun bo=> ?_
  ·refine By rfl (vr (Aa0 none 0 0) rfl) (vr (NI ((AU (AM D L ids ch)).2)) rfl) ?_;have hV:AK D L ids ch=([],(AU (AM D L ids ch)).2):=Up hnm hpos bo;have hE:=hE.trans a7;exact⟨_,[],by rw[hV],OG.nil _ _ _ _ _,by rw[hV];exact AllN.nil _ _,hE⟩
  have hbz:=Adz.1 bo;have hve:=RB.slice a2;have hve1:=(RB.one a2).2;refine gS (Ye (a:=(al)) (enc:=EZ) (vr al rfl) rfl (fun w=>by obtain⟨_,_,_,rfl⟩:=hve;exact NZ _ _ _ w) fun dw be cd a3=> ?_);have hIn:PartsIn be r19 qs:=(hIn.keep a3);have m:AllIn be [r19,r16] us (Bu D L ids):=(m.keep a3);have dx:=(m).sub (S:= [r16]) (fun u hu=> .inl (Ab1 _ hu));have hvn:=hvn.keep a3;have a2:=a2.keep a3;have hO1:AllIn be [r16] [al] [(AU (AM D L ids ch)).1]:=Zj (AllIn.nil _ _) a2 (fun k hk=>⟨(hvn k hk).2,hvo k hk⟩);have dy:=hvn;have hZ4:=a7.trans a3;have hE:=hE.trans hZ4;have hr_r16:=hr_r16.keep hZ4;refine gS (X2 _ _ w.heap.size _ 24 LH va7_ig27.choose_spec.1 va7_ig27.choose_spec.2 LH (ou) ([(al)]) (OG.of hr_r16 a1) (XU cd (vr dw rfl)) (fun y hy u hu=>by rw[Aa6.1 hu,Aa6.1 hy];exact hve1) (by rw[hou];simp only[Abw,Abj];omega) (by rw[hou];simp only[Abw,Abj];omega) hE.size fun aq ce dz p=> ?_);have hA6_:=dx;have hO1_:=hO1;have p:Grew be ce r16 aq:= .eqv a1 p;have hr_r8:=hr_r8.keep hZ4;have d0:Ah aq r8:=AG p hap_r16_r8 hr_r8.2;have hZ5:=(ak.trans a7).trans a3;have hr_r9:=hr_r9.keep hZ5;have d1:Ah aq r9:=AG p hap_r16_r9 hr_r9.2;have c:=c.keep hZ5;have d2:Ah aq t:=AG p hap_r16_v80 c.2;have l:=l.keep hZ5;have d3:Ah aq z:=AG p hap_r16_v81 l.2;have hvb:=eb hZ4 hvb;have d4:OB aq gv:=Ao p hap_r16_gv (bl hvb);have hvm:=hvm.keep hZ4;have d5:OB aq bm:=Ao p hap_r16_bm hvm.lt;have hr_r19:=hr_r19.keep hZ4;have hvb:=Aq hvb p hap_r16_gv;have hvm:=MapF.grew hvm p hap_r16_bm;have hE:=Av hE p hr_r16.2 (AaX _);have hr_r8:=Bb hr_r8 p hap_r16_r8;have hr_r9:=Bb hr_r9 p hap_r16_r9;have c:=Bb c p hap_r16_v80;have l:=Bb l p hap_r16_v81;have hr_r19:=Bb hr_r19 p (fun k h1 h2=>hap_r19_r16 k h2 h1);clear a2;clear cd;clear hr_r16;have bi:=AllIn.grew hA6_ p;clear hA6_;have hO2:=AllIn.grew hO1_ p;clear hO1_;have hO:AllN w.heap.size ce (ou++ [al]) (if j=0 then []else [(AU (AM D L ids ch)).1]):=by rw[hou,if_neg (by omega)];exact Uq hO2 dy
  refine gK (Aby ⟨j,ou++ [al],aq,T0,T1,T2,r,T9,a0,a4,ao,ap,ac,ah,rfl,hvb,hvm,hE,hr_r8,hr_r9,c,l,bi,hO,Bz dz (rfl), .inr ⟨hje2,hpos,hbz⟩,d0,d1,d2,d3,d4,d5,trivial⟩ ?_);show ids.length-(intOf (b5 18)).toNat<ids.length-(intOf (db 17)).toNat;rw[ah,q17];simp only[intOf,Aba];omega
 refine By rfl a1 (vr (NI 0) rfl) ?_;have hfe:¬f<ids.length:=by have:=bb;omega
 have hV:AK D L ids ch=((if f=0 then []else [(AU (AM D L ids ch)).1]),0):=SS hnm hf hfe;exact⟨_,_,by rw[hV],hr_r16,by rw[hV];exact hO,hE⟩
def AW(D:Ae)(L:AP)(o:List Bs)(ch:List Int)(i:Nat):Bs:=(AK D L o ch).1.getD i []
theorem AaA{wb w w1 w2:AaS}{g b:Nat}{H H1:Dk}{D D1:Ae}{α β:Type}{ek:α→AaR}{ev:β→AaR}{E:α→Prop}{G:α→Option β}(h:DkW wb w g H D w1 H1 D1)(hg:w1.grownBy w2 (some b))(hm:MapF ek ev E w1 b G)(ho:Cg H1 D1 b)(hw:w.heap.size≤b)(hwb:wb.heap.size≤w.heap.size):DkW wb w g H D w2 H1 D1:=by
  obtain⟨es,c,hb,-⟩:=hm;have hc:Chg (fun i=>i=b) w1 w2:=Yc hg fun i e=> .inl (AbB e).symm;exact⟨⟨hc.ext h.g.ext (fun i q=>by have q:i=b:=q;omega),h.g.st.keepB hc (fun i q e=>ho (e▸q)) (fun i _ e=>by subst e;exact .inl ⟨_,_,hb⟩),h.g.hg⟩,h.chg.set hg (.inr hw),h.foot⟩
def KSt(D:Ae)(L:AP)(o:List Bs)(ch:List Int)(H:Dk)(i:Nat)(Hi:Dk)(Di:Ae)(M:AP)(r:AaR):Prop:=
  (i=0∧Di=D∧Hi=H∧M= []∧r = .slice none 0 0)∨(i=(AK D L o ch).1.length∧∃p,(AK D L o ch).1= [AW D L o ch 0]∧BW (AW D L o ch 0) = .ok p∧M= [(Ax (AW D L o ch 0),p)]∧Di=(AE D (AW D L o ch 0)).1∧(AE D (AW D L o ch 0)).2.2=0)
section
variable {D Di : Ae} {L M : AP} {o : List Bs} {ch : List Int} {H Hi : Dk} {i : Nat} {r : AaR}
theorem KSt.zero(h:KSt D L o ch H i Hi Di M r)(hi:i<(AK D L o ch).1.length):i=0∧Di=D∧Hi=H∧M= []∧r = .slice none 0 0:=h.resolve_right fun q=>by have:=q.1;omega
theorem IN(hm:¬DU D L o→Cl (AM D L o ch))(h0:¬(AK D L o ch).2≠0):(AK D L o ch).1= []∨∃p,(AK D L o ch).1= [AW D L o ch 0]∧BW (AW D L o ch 0) = .ok p∧(AW D L o ch 0).length≤40000:=by
  have h0:(AK D L o ch).2=0:=Adz.1 h0;have hmi:¬DU D L o:=fun q=>by
    unfold AK at h0;rw[if_pos q]at h0;cases h0
  have hL:=hm hmi;rcases QS hL h0 with h | ⟨p,h1,h2⟩
  · exact .inl h
  · have e:AW D L o ch 0=(AU (AM D L o ch)).1:=by unfold AW;rw[h1];rfl
    rw[e];refine .inr ⟨p,h1,h2,?_⟩;cases hb:CW (AM D L o ch) (AM D L o ch).length with
    | error x=>
      rw[NX hb]at h2;cases h2
    | ok s=>exact L9 hL hb
theorem Xn{p:AZ}(h1:(AK D L o ch).1= []∨∃p,(AK D L o ch).1= [AW D L o ch 0]∧BW (AW D L o ch 0) = .ok p∧(AW D L o ch 0).length≤40000)(hi:i<(AK D L o ch).1.length)(h0:i=0):(AK D L o ch).1= [AW D L o ch i]∧(∃p,BW (AW D L o ch i) = .ok p)∧(AW D L o ch i).length≤40000:=by
  subst h0;rcases h1 with h | ⟨p,h1,h2,h3⟩
  · rw[h]at hi;cases hi
  · exact⟨h1,⟨p,h2⟩,h3⟩
theorem KSt.next(hs:i=0∧Di=D∧Hi=H∧M= []∧r = .slice none 0 0){H2:Dk}{r2:AaR}{p:AZ}(h1:(AK D L o ch).1= [AW D L o ch i])(h2:BW (AW D L o ch i) = .ok p)(hc:(AE Di (AW D L o ch i)).2.2=0):KSt D L o ch H (i+1) H2 (AE Di (AW D L o ch i)).1 (M++ [(Ax (AW D L o ch i),p)]) r2:=by
  obtain⟨rfl,rfl,rfl,rfl,rfl⟩:=hs;exact .inr ⟨by rw[h1];rfl,p,h1,h2,rfl,rfl,hc⟩
theorem KSt.one(hs:i=0∧Di=D∧Hi=H∧M= []∧r = .slice none 0 0){p:AZ}(h0:¬(AK D L o ch).2≠0)(h1:(AK D L o ch).1= [AW D L o ch i])(h2:BW (AW D L o ch i) = .ok p):BC D L o ch=Ez L (AW D L o ch i) p (AE Di (AW D L o ch i)):=by
  obtain⟨rfl,rfl,rfl,rfl,rfl⟩:=hs;exact J0 h0 h1 h2
theorem KSt.done(h:KSt D L o ch H i Hi Di M r)(hi:¬i<(AK D L o ch).1.length)(h0:¬(AK D L o ch).2≠0):BC D L o ch=EF Di L M:=by
  rcases h with ⟨h1,h2,h3,h4,h5⟩ | ⟨h1,p,h2,h3,h4,h5,h6⟩
  · rw[II h0 (AbC (by omega)),h2,h4]
  · rw[J0 h0 h2 h3];unfold Ez;rw[h6,if_neg (by decide),if_neg (by decide),if_neg (fun q=>q rfl),h4,h5]
theorem KSt.sort(h:KSt D L o ch H i Hi Di M r):SortS (M.map Abq):=by
  rcases h with ⟨h1,h2,h3,h4,h5⟩ | ⟨h1,p,h2,h3,h4,h5,h6⟩
  · rw[h4];exact AcQ
  · rw[h4];exact List.pairwise_singleton _ _
end
theorem DBd.write{m:Nat}{D:Ae}(h:DBd m D){b:Bs}(hb:b.length≤60000):DBd (m+202) (AE D b).1:=by
  have h3:∀E:Ae,DBd (m+1) E→DBd (m+202) (FD E b).1:=fun E hE=>by
    have ha:=hE.appendK (Ax b) (b:=b) (k:=200) (by omega) (by omega);unfold FD;split
    · exact ha.mono (by omega)
    · exact(ha.sync (Ax b)).mono (by omega)
  have h2:∀x:Ae × Nat,DBd (m+1) x.1→DBd (m+202) (Gk x b).1:=fun x hx=>by
    unfold Gk;split
    · exact hx.mono (by omega)
    · exact h3 _ hx
  unfold AE;split
  · exact(h.sync _).mono (by omega)
  · split
    · exact h.mono (by omega)
    · refine h2 _ ?_;split
      · exact h.drop _
      · exact h.mono (by omega)
theorem KSt.bd{D Di:Ae}{L M:AP}{o:List Bs}{ch:List Int}{H Hi:Dk}{i m:Nat}{r:AaR}(h:KSt D L o ch H i Hi Di M r)(hB:DBd m D)(hp:(AK D L o ch).1= []∨∃p,(AK D L o ch).1= [AW D L o ch 0]∧BW (AW D L o ch 0) = .ok p∧(AW D L o ch 0).length≤40000):DBd (m+202) Di:=by
  rcases h with ⟨h1,h2,h3,h4,h5⟩ | ⟨h1,p,h2,h3,h4,h5,h6⟩
  · rw[h2];exact hB.mono (by omega)
  · rw[h5];refine hB.write ?_;rcases hp with hp | ⟨q,q1,q2,q3⟩
    · rw[hp]at h2;cases h2
    · omega
theorem WT{D:Ae}{s:Bs}:(BB D s).2=0∨(BB D s).2=9∨(BB D s).2=10∨(BB D s).2=4:=by
  unfold BB;split
  · rename_i e he
    unfold FB at he;split at he
    · cases he;unfold CA;split
      · exact .inr (.inl rfl)
      · split
        · exact .inl rfl
        · exact .inr (.inr (.inl rfl))
    · split at he
      · cases he
      · cases he;exact .inr (.inr (.inr rfl))
  · unfold DT;split
    · exact .inr (.inl rfl)
    · exact .inl rfl
theorem ON{D:Ae}{b:Bs}(h:(AE D b).2.1=true):(AE D b).2.2≠8∧(AE D b).2.2≠7:=by
  have h3:∀E:Ae,(FD E b).2.1=true→(FD E b).2.2≠8∧(FD E b).2.2≠7:=fun E hE=>by
    unfold FD at hE ⊢;split at hE
    · cases hE
    · rename_i q
      rw[if_neg q];show(BB _ _).2≠8∧(BB _ _).2≠7;have:=WT (D:=(A0 E (Ax b) b).1) (s:=Ax b);omega
  have h2:∀x:Ae × Nat,(Gk x b).2.1=true→(Gk x b).2.2≠8∧(Gk x b).2.2≠7:=fun x hx=>by
    unfold Gk at hx ⊢;split at hx
    · cases hx
    · rename_i q
      rw[if_neg q];exact h3 _ hx
  unfold AE at h ⊢;split at h
  · cases h
  · rename_i q
    rw[if_neg q];split at h
    · cases h
    · rename_i q2
      rw[if_neg q2];exact h2 _ h
section
variable {L : AP} {b : Bs} {p : AZ} {x : Ae × Bool × Nat}
theorem Mb(h8:¬x.2.2=8)(h7:¬x.2.2=7)(h:x.2.2≠0):Ez L b p x=(x.1,L,[],x.2.2):=(if_neg h8).trans ((if_neg h7).trans (if_pos h))
theorem QV(h:x.2.2=7):Ez L b p x=(x.1,L,[b,(An x.1 (Ax b)).1],7):=(if_neg (by omega)).trans (if_pos h)
theorem KU(hf:x.2.1=false)(h:x.2.2=8):Ez L b p x=(x.1,L,[],8):=by
  unfold Ez;rw[if_pos h,hf];exact if_neg fun q=>q rfl
end
def PlZ(i n:Nat)(w:AaS)(v:AaR)(us:List AaR)(bs:List Bs):Prop:=i=0→OG n 27 1 EZ w v us∧AllN n w us bs
theorem PlZ.done{i n:Nat}{w:AaS}{v:AaR}{us:List AaR}{bs:List Bs}:PlZ (i+1) n w v us bs:=fun q=>absurd q (Nat.succ_ne_zero i)
section
variable {wb w w1 w2 : AaS} {n g gv bm bm2 : Nat} {H Hi H2 : Dk} {D Di D2 : Ae} {L M : AP} {ptr ptr2 : Bs → Nat}
theorem PksAt.stepW(h:PksAt (fun k=>Cg Hi Di k∧k≠gv∧k≠bm2) w1 M ptr2)(hW:DkW wb w1 g Hi Di w2 H2 D2):PksAt (fun k=>Cg H2 D2 k∧k≠gv∧k≠bm2) w2 M ptr2:=
  h.chg hW.chg fun k hk q=>⟨q.1,fun z=>(hW.foot k z).elim q.1 fun z=>by omega,q.2⟩
theorem DkW.offB(hW:DkW wb w1 g Hi Di w2 H2 D2){k:Nat}(hk:k<w1.heap.size)(h:Cg Hi Di k):Cg H2 D2 k:=fun z=>(hW.foot k z).elim h fun z=>by omega
theorem AaB(hV:VtAt n (Cg H D) w gv g bm L ptr)(hW:DkW wb w g H D w1 Hi Di)(hn:wb.heap.size≤n)(hmp:MapF St pN Nm w1 bm2 (pkG M ptr2))(hPk:PksAt (fun k=>Cg Hi Di k∧k≠gv∧k≠bm2) w1 M ptr2)(hs:SortS (M.map Abq))(a:Cg Hi Di bm2)(hne:bm2≠gv){cs:Array AaR}{fr:Nat × Nat}(b:w1.heap[gv]? =some (.cells cs 86 fr))(hb:w2.heap[gv]? =some (.cells ([PQ g 0, .map (some bm2)]).toArray 86 (0,0)))(hg:w1.grownBy w2 (some gv)):VtK wb w n g gv H D w2 Hi Di M:=by
  have hV1:=hV.step hW;refine⟨hW.g.setT hg b (AaV hn hV.lo) (by decide) (by decide) (by decide) (by decide) (by decide) (by decide),⟨bm2,ptr2,hb,hmp.other hg (Am hne.symm),hPk.set hg (fun k q=>q.2.1),hs,hV1.g0,a,hV.lo⟩,?_,hW.foot⟩;exact(hW.chg.monoV fun k q=> .inl q).set hg (.inl (.inr ⟨rfl,hV.lo⟩))
end
theorem Fe(D:Ae)(sg:Bs):(Au D sg).length≤(Ba D).length:=AcH _ _
theorem DBd.list{m:Nat}{D:Ae}(h:DBd m D):(Ba D).length≤m:=by
  unfold Ba;split
  · exact Abs _
  · rw[Abh];exact h.now
theorem Pj{m:Nat}{D:Ae}(h:DBd m D)(M:AP):(goneV D M).length≤m+m:=by
  have h1:=h.list;have h2:=Fe D [112,45];have h3:=Fe D [111,45];have h4:=AcH (fun s=>(M.lookup s).isNone) (Au D [112,45]);unfold goneV;rw[AaY];omega
end Go.Proofs.YtfpekahfdalfkaaGreatDoor
