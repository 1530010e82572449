/- Part 7 of what stands behind these statements: laws and walks of the functions that are reached. Conditions: those that each theorem names. -/
import Derived.Test.YtfpekahfdalfkaaGreatDoorA6
set_option linter.unusedVariables false
set_option linter.unusedSimpArgs false
namespace Go.Proofs.YtfpekahfdalfkaaGreatDoor
open _root_.Go.Proofs.Tryz renaming prog → AaU, underlying181 → Aft
open _root_.Go renaming World → AaS, Value → AaR, Program → Abo, TypeId → AaZ, Edge → AbP, Operand → Aa5, MapEntry → Acz
open _root_.Nat renaming zero_le → Abs, le_trans → AaV, le_refl → AaX, min_le_left → Ae8, le_of_ble_eq_true → Aa9, sub_self → AcD
open _root_.And renaming intro → Aby
open _root_.Int renaming toNat_natCast → Aba
open _root_.Go.Instr renaming build → AcJ, buildSlice → Abz
open _root_.List renaming length_filter_le → AcH, take_length → Acy, not_mem_nil → AcN, mem_singleton → Aa6, length_singleton → Abj, length_nil → Abw, length_take → Abg, perm_ext_iff_of_nodup → Adx, map_map → AdK, mem_map → AbD, length_map → Abh, filter_sublist → AgJ, pairwise_append → Acd, takeWhile_sublist → Ad3, pairwise_cons → AbY, dropWhile_sublist → Ad4, mem_cons → AbF, takeWhile_append_dropWhile → AdQ, mem_filter → Acw, getD_eq_getElem?_getD → AaW, getElem?_set_self → Ad2, getElem?_append_right → AbH, ext_getElem → AeU, getElem_set → AfT, getElem?_eq_getElem → Aa2, set_append_right → Acg, getElem?_append_left → AbN, mem_cons_self → AbZ, nodup_cons → Ac2, mem_cons_of_mem → Ab1, mem_append → Abk, nodup_append → Ac0, findSome?_cons → Afi, replicate → Aa4, length_replicate → Abc, length_cons → Abp, eq_nil_of_length_eq_zero → AbC
open _root_.Prod renaming fst → Abq
open _root_.Exists renaming elim → AcL
open _root_.Option.some renaming inj → AbB
open _root_.Go.Addr renaming add → AcU
open _root_.Go.World renaming cell? → Ade
open _root_.Go.Lib renaming byteCells → AaT, byteCells_length → Aa8
open _root_.Go.Value renaming slice → Aa0, ownBlock → Aa1, int → AcM
open _root_.Decidable renaming not_not → Adz
open _root_.List.Pairwise renaming of_map → AdC, map → AeN, sublist → Agl, nil → AcQ
open _root_.Go.Builtin renaming len_ → AfO
open _root_.Go.MapKept renaming run_getObj_map → Ab5
open _root_.Option renaming map_eq_some_iff → Ad1, isNone_iff_eq_none → AfI, bind_some → Ac6
open _root_.Go.Op renaming bytesLess → Ab2
open _root_.Bool renaming and_eq_true_iff → Agw
open Go.RowKit
set_option maxRecDepth 100000
theorem N0:Plain AaU 44:=fun _ _=>by kernel_rfl
theorem HK:Plain AaU 90:=fun _ _=>by kernel_rfl
theorem Ut:Plain AaU 52:=fun _ _=>by kernel_rfl
set_option maxHeartbeats 1600000
theorem Pk(wb w:AaS)(g:Nat)(H:Dk)(D:Ae)(hD:DkG wb w g H D)(bs:Nat)(v:AaR)(l:List Bs)(hl:OG bs 9 1 CX w v l)(m:Nat)(hB:DBd m D)(hm:m+l.length≤100000):
  Calls AaU 51 #[v, .func (.func 52) #[PQ g 0] #[]] w fun e w' =>∃H',e = .returned (NI (BM D l).2)∧DkW wb w g H D w' H' (BM D l).1∧OG bs 9 1 CX w' v l:=by
 refine gG (args:= [v, .func (.func 52) #[PQ g 0] #[]]) Tryz.func51 rfl 21 rfl rfl ?_;have hE:=Ext.refl w;refine gS (X1 ND (XU (XW hl) rfl) (gL (fun(ρ:Ad) (wz:AaS)=>∃i:Nat,∃Hi:Dk,∃Di:Ae,ρ 0=(v:AaR)∧ρ 1=(.func (.func 52) #[PQ g 0] #[]:AaR)∧ρ 9=(NI l.length:AaR)∧ρ 8=(v:AaR)∧ρ 10=(NI i:AaR)∧DkW wb w g H D wz Hi Di∧OG bs 9 1 CX wz v l∧(i≤l.length)∧(BM D l=BM Di (l.drop i))∧(DBd (m+i) Di)∧True) (fun ρ _=>l.length-(intOf (ρ 10)).toNat) ⟨0,H,D,rfl,rfl,rfl,rfl,rfl,Yy hD hE,hl,Abs _,rfl,hB,trivial⟩ ?_));clear hl;clear hE;rintro r u ⟨i,Hi,Di,s,k,n,o,c,hW,hli,hi,hq,hBi,-⟩;have q10:=c;refine gS (XK (a:=(i:Nat)) (b:=(l.length:Nat)) c n (AL _ _ _ _) ?_);refine cD rfl (fun f=> ?_) fun f=> ?_
 ·have hlt:i<l.length:=f;have x:(CX (l.getD (i) ([]:List UInt8))).length=1:=(RG.elem (XW hli) ([]:List UInt8) (hlt));refine gS (X4 ND TC (by decide) ([]:List UInt8) (XU (XW hli) o) c (hlt) fun y p=>(gS (X0 O7 rfl (PR.cell (Yb p rfl) rfl) ?_)));clear p;refine gS (Aao (bd:= #[PQ g 0]) (caps:= #[]) (fun _ _=>by kernel_rfl) k rfl rfl (hW.g.dropW (l.getD (i) ([]:List UInt8)) (hBi.lt (by omega))) fun H2 z hW2=> ?_);have hW3:=hW.trans hW2;have q:=AaP hW.g hW2.chg hli (by decide) (by decide) (by decide) (by decide);refine gS (XK (a:=((Bx Di (l.getD (i) ([]:List UInt8))).2:Nat)) (b:=(0:Nat)) rfl rfl (AX _ _ _ _) ?_);refine cD rfl (fun j=> ?_) fun j=> ?_
  ·refine Bn rfl (vr (NI ((Bx Di (l.getD (i) ([]:List UInt8))).2)) rfl) ?_;have hV:BM D l=Bx Di (l.getD (i) ([]:List UInt8)):=by rw[hq,L2 hlt,FV,if_pos j]
   exact⟨H2,by rw[hV],by rw[hV];exact hW3,q⟩
  have hq3:BM D l=BM (Bx Di (l.getD (i) ([]:List UInt8))).1 (l.drop (i+1)):=by rw[hq,L2 hlt,FV,if_neg j]
  have t:=hBi.drop (l.getD (i) ([]:List UInt8));refine gS (XL (xv:=NI i) (yv:=NI 1) c rfl rfl (Ai _ _ _ (by omega)) (gK (Aby ⟨i+1,H2,(Bx Di (l.getD (i) ([]:List UInt8))).1,s,k,n,o,rfl,hW3,q,by omega,hq3,t,trivial⟩ ?_)));show l.length-(intOf (NI ((i)+(1)))).toNat<l.length-(intOf (r 10)).toNat;rw[q10];simp only[intOf,Aba];omega
 refine Bn rfl (vr (NI 0) rfl) ?_;have hie:i=l.length:=by have h:=f;omega
 have hV:BM D l=(Di,0):=by rw[hq,hie,List.drop_length];rfl
 exact⟨Hi,by rw[hV],by rw[hV];exact hW,hli⟩

theorem SV(wb w:AaS)(g:Nat)(H:Dk)(D:Ae)(hD:DkG wb w g H D)(hG:Laid wb)(gv bm:Nat)(hvb:w.heap[gv]? =some (.cells ([PQ g 0, .map (some bm)]).toArray 86 (0,0)))(vb:AaR)(b:List UInt8)(hr:RB w vb b)(hoff:b= []∨∀i,vb.ownBlock=some i→¬B2 H D.files.length i)(hbl:b.length≤60000)(m:Nat)(hB:DBd m D)(hm:m≤99000):
  Calls AaU 50 #[PQ gv 0,vb] w fun e w' =>∃H',e = .returned (.tuple #[.bool (AE D b).2.1,NI (AE D b).2.2])∧DkW wb w g H D w' H' (AE D b).1:=by
 refine gG (args:= [PQ gv 0,vb]) Tryz.func50 rfl 75 rfl rfl ?_;have hE:=Ext.refl w;have hwb:=hD.ext.size;have hW:DkW wb w g H D w H D:=Yy hD hE;have hrl:=HF (hB.lt (by omega)) (Ax b);refine gS (XQ N0 rfl ((Ec _ (hG.keep (hW).g.ext) vb b (hr.keep hE) (by omega)).mono ?_));rintro e t ⟨rfl,p⟩;refine⟨_,rfl,?_⟩;have hW:DkW wb w g H (D) t H (D):=(hW.keep p);have hvb:=eb p hvb;refine gS (Yk.nilCheck rfl (gS (Yk.fieldAt KP rfl (gS (XJ TB rfl rfl (cellAt hvb rfl) (gS (XM TY rfl rfl (((hW).g.read (Ax b) (hB.lt (by omega))).mono ?_))))))));rintro e u ⟨r,rfl,v,n⟩;refine⟨_,rfl,?_⟩;have hW:DkW wb w g H (D) u H (D):=(hW.keep n);have o:=X3 v;refine gS (Yk.extract (vs:= [r,NI ((An D (Ax b)).2)]) rfl rfl (gS (Yk.extract (vs:= [r,NI ((An D (Ax b)).2)]) rfl rfl ?_)));by_cases h0:(An D (Ax b)).2=0
 ·have hE:=hE.trans (p.trans n);refine gS (XK (a:=((An D (Ax b)).2:Nat)) (b:=(0:Nat)) rfl rfl (AA _ _ _ _) (kT (h0) (gS (Yh F5 u5 O7 (XP o rfl) (gS (Yh F5 u5 O7 (XP (hr.keep hE) rfl) (gS (YE (l:=(An D (Ax b)).1) (m:=b) (.inl rfl) rfl rfl (decide ((An D (Ax b)).1=b)) rfl (gS (XR rfl rfl ?_))))))))));refine cD rfl (fun h=> ?_) fun h=> ?_
  ·have hvb:=eb n hvb;refine gS (Yk.nilCheck rfl (gS (Yk.fieldAt KP rfl (gS (XJ TB rfl rfl (cellAt hvb rfl) ?_)))));have hWc:=hW;refine gS (XM HK rfl rfl ((hWc.g.syncW (Ax b) ((hB).lt (by omega))).mono ?_));rintro e x ⟨H14,rfl,hW15⟩;refine⟨_,rfl,?_⟩;have hWn:=hWc.trans hW15;have hvb:x.heap[gv]? =some (.cells ([PQ g 0, .map (some bm)]).toArray 86 (0,0)):=DkG.box hWc.g hW15.chg hvb (by decide) (by decide) (by decide) (by decide);clear hE;clear hW;clear o;have hW:=hWn;refine By rfl (vr (.bool (false)) rfl) (vr (NI ((BB D (Ax b)).2)) rfl) ?_;have hV:=QM h0 h;exact⟨H14,by rw[hV],by rw[hV];exact hW⟩
  refine gS (XK (a:=((An D (Ax b)).2:Nat)) (b:=(0:Nat)) rfl rfl (AA _ _ _ _) (kT (h0) (gS (XQ N0 rfl ((Ec _ (hG.keep (hW).g.ext) r (An D (Ax b)).1 o (by omega)).mono ?_)))));rintro e y ⟨rfl,s⟩;refine⟨_,rfl,?_⟩;have hW:DkW wb w g H (D) y H (D):=(hW.keep s);refine gS (YE (l:=Ax (An D (Ax b)).1) (m:=(Ax b)) (.inl rfl) rfl rfl (decide ((Ax (An D (Ax b)).1:List UInt8)=((Ax b):List UInt8))) rfl (gS (XR rfl rfl ?_)));refine cD rfl (fun j=> ?_) fun j=> ?_
  ·refine By rfl (vr (.bool (false)) rfl) (vr (NI 7) rfl) ?_;have hV:=QN h h0 j;exact⟨H,by rw[hV],by rw[hV];exact hW⟩
  have hvb:=eb (n.trans s) hvb;refine gS (XK (a:=((An D (Ax b)).2:Nat)) (b:=(0:Nat)) rfl rfl (AA _ _ _ _) (kT (h0) (cT rfl (gS (Yk.nilCheck rfl (gS (Yk.fieldAt KP rfl (gS (XJ TB rfl rfl (cellAt hvb rfl) ?_)))))))));have hWc:=hW;refine gS (XM Ut rfl rfl ((hWc.g.dropW (Ax b) ((hB).lt (by omega))).mono ?_));rintro e z ⟨H24,rfl,hW25⟩;refine⟨_,rfl,?_⟩;have hWn:=hWc.trans hW25;have hvb:z.heap[gv]? =some (.cells ([PQ g 0, .map (some bm)]).toArray 86 (0,0)):=DkG.box hWc.g hW25.chg hvb (by decide) (by decide) (by decide) (by decide);clear hE;clear hW;clear o;have hW:=hWn;by_cases hd0:(Bx D (Ax b)).2=0
  ·refine gS (XK (a:=((Bx D (Ax b)).2:Nat)) (b:=(0:Nat)) rfl rfl (AX _ _ _ _) (kF ((fun q=>q hd0)) (gS (XV rfl rfl (cF rfl (gS (Yk.nilCheck rfl (gS (Yk.fieldAt KP rfl (gS (XJ TB rfl rfl (cellAt hvb rfl) ?_)))))))))));have hWc:=hW;refine gS (X8 TV rfl rfl rfl ((hWc.g.appendW (Ax b) vb b (hr.chg hWc.chg hoff) (hWc.off hr hoff) (by omega) (((hB).drop (Ax b)).lt (by omega))).mono ?_));rintro e aa ⟨H31,rfl,hW32⟩;refine⟨_,rfl,?_⟩;have hWn:=hWc.trans hW32;have hvb:aa.heap[gv]? =some (.cells ([PQ g 0, .map (some bm)]).toArray 86 (0,0)):=DkG.box hWc.g hW32.chg hvb (by decide) (by decide) (by decide) (by decide);clear hW;have hW:=hWn;refine gS (XK (a:=((A0 ((Bx D (Ax b)).1) (Ax b) b).2:Nat)) (b:=(0:Nat)) rfl rfl (AX _ _ _ _) ?_);refine cD rfl (fun c=> ?_) fun c=> ?_
   ·refine By rfl (vr (.bool (false)) rfl) (vr (NI ((A0 ((Bx D (Ax b)).1) (Ax b) b).2)) rfl) ?_;have hV:=((E2 h h0 j).trans (if_neg (fun q=>q.1 hd0))).trans (if_pos c);exact⟨H31,by rw[hV],by rw[hV];exact hW⟩
   refine gS (Yk.nilCheck rfl (gS (Yk.fieldAt KP rfl (gS (XJ TB rfl rfl (cellAt hvb rfl) ?_)))));have hWc:=hW;refine gS (XM HK rfl rfl ((hWc.g.syncW (Ax b) ((((hB).drop (Ax b)).appendK (Ax b) (k:=200) (by omega) (by omega)).lt (by omega))).mono ?_));rintro e ab ⟨H37,rfl,hW38⟩;refine⟨_,rfl,?_⟩;have hWn:=hWc.trans hW38;have hvb:ab.heap[gv]? =some (.cells ([PQ g 0, .map (some bm)]).toArray 86 (0,0)):=DkG.box hWc.g hW38.chg hvb (by decide) (by decide) (by decide) (by decide);clear hW;have hW:=hWn;refine By rfl (vr (.bool (true)) rfl) (vr (NI ((BB ((A0 ((Bx D (Ax b)).1) (Ax b) b).1) (Ax b)).2)) rfl) ?_;have hV:=((E2 h h0 j).trans (if_neg (fun q=>q.1 hd0))).trans (if_neg c);exact⟨H37,by rw[hV],by rw[hV];exact hW⟩
  refine gS (XK (a:=((Bx D (Ax b)).2:Nat)) (b:=(0:Nat)) rfl rfl (AX _ _ _ _) (kT (hd0) (gS (XK (a:=((Bx D (Ax b)).2:Nat)) (b:=(4:Nat)) rfl rfl (AX _ _ _ _) (gS (XR rfl rfl ?_))))));refine cD rfl (fun f=> ?_) fun f=> ?_
  ·refine By rfl (vr (.bool (false)) rfl) (vr (NI ((Bx D (Ax b)).2)) rfl) ?_;have hV:=(E2 h h0 j).trans (if_pos ⟨hd0,f⟩);exact⟨H24,by rw[hV],by rw[hV];exact hW⟩
  refine gS (Yk.nilCheck rfl (gS (Yk.fieldAt KP rfl (gS (XJ TB rfl rfl (cellAt hvb rfl) ?_)))));have hWc:=hW;refine gS (X8 TV rfl rfl rfl ((hWc.g.appendW (Ax b) vb b (hr.chg hWc.chg hoff) (hWc.off hr hoff) (by omega) (((hB).drop (Ax b)).lt (by omega))).mono ?_));rintro e ac ⟨H45,rfl,hW46⟩;refine⟨_,rfl,?_⟩;have hWn:=hWc.trans hW46;have hvb:ac.heap[gv]? =some (.cells ([PQ g 0, .map (some bm)]).toArray 86 (0,0)):=DkG.box hWc.g hW46.chg hvb (by decide) (by decide) (by decide) (by decide);clear hW;have hW:=hWn;refine gS (XK (a:=((A0 ((Bx D (Ax b)).1) (Ax b) b).2:Nat)) (b:=(0:Nat)) rfl rfl (AX _ _ _ _) ?_);refine cD rfl (fun c=> ?_) fun c=> ?_
  ·refine By rfl (vr (.bool (false)) rfl) (vr (NI ((A0 ((Bx D (Ax b)).1) (Ax b) b).2)) rfl) ?_;have hV:=((E2 h h0 j).trans (if_neg (fun q=>f q.2))).trans (if_pos c);exact⟨H45,by rw[hV],by rw[hV];exact hW⟩
  refine gS (Yk.nilCheck rfl (gS (Yk.fieldAt KP rfl (gS (XJ TB rfl rfl (cellAt hvb rfl) ?_)))));have hWc:=hW;refine gS (XM HK rfl rfl ((hWc.g.syncW (Ax b) ((((hB).drop (Ax b)).appendK (Ax b) (k:=200) (by omega) (by omega)).lt (by omega))).mono ?_));rintro e ad ⟨H51,rfl,hW52⟩;refine⟨_,rfl,?_⟩;have hWn:=hWc.trans hW52;have hvb:ad.heap[gv]? =some (.cells ([PQ g 0, .map (some bm)]).toArray 86 (0,0)):=DkG.box hWc.g hW52.chg hvb (by decide) (by decide) (by decide) (by decide);clear hW;have hW:=hWn;refine By rfl (vr (.bool (true)) rfl) (vr (NI ((BB ((A0 ((Bx D (Ax b)).1) (Ax b) b).1) (Ax b)).2)) rfl) ?_;have hV:=((E2 h h0 j).trans (if_neg (fun q=>f q.2))).trans (if_neg c);exact⟨H51,by rw[hV],by rw[hV];exact hW⟩
 refine gS (XK (a:=((An D (Ax b)).2:Nat)) (b:=(0:Nat)) rfl rfl (AA _ _ _ _) (kF (h0) (gS (XV rfl rfl (cF rfl (gS (XK (a:=((An D (Ax b)).2:Nat)) (b:=(0:Nat)) rfl rfl (AA _ _ _ _) (kF (h0) (gS (XV rfl rfl (cF rfl (gS (XK (a:=((An D (Ax b)).2:Nat)) (b:=(0:Nat)) rfl rfl (AA _ _ _ _) (kF (h0) (cF rfl (gS (XK (a:=((An D (Ax b)).2:Nat)) (b:=(0:Nat)) rfl rfl (AX _ _ _ _) (kT (h0) (gS (XK (a:=((An D (Ax b)).2:Nat)) (b:=(4:Nat)) rfl rfl (AX _ _ _ _) (gS (XR rfl rfl ?_))))))))))))))))))))));refine cD rfl (fun f=> ?_) fun f=> ?_
 ·refine By rfl (vr (.bool (false)) rfl) (vr (NI ((An D (Ax b)).2)) rfl) ?_;have hV:=(FW h0).trans (if_pos ⟨h0,f⟩);exact⟨H,by rw[hV],by rw[hV];exact hW⟩
 have hvb:=eb n hvb;refine gS (Yk.nilCheck rfl (gS (Yk.fieldAt KP rfl (gS (XJ TB rfl rfl (cellAt hvb rfl) ?_)))));have hWc:=hW;refine gS (X8 TV rfl rfl rfl ((hWc.g.appendW (Ax b) vb b (hr.chg hWc.chg hoff) (hWc.off hr hoff) (by omega) ((hB).lt (by omega))).mono ?_));rintro e ae ⟨H65,rfl,hW66⟩;refine⟨_,rfl,?_⟩;have hWn:=hWc.trans hW66;have hvb:ae.heap[gv]? =some (.cells ([PQ g 0, .map (some bm)]).toArray 86 (0,0)):=DkG.box hWc.g hW66.chg hvb (by decide) (by decide) (by decide) (by decide);clear hE;clear hW;clear o;have hW:=hWn;refine gS (XK (a:=((A0 D (Ax b) b).2:Nat)) (b:=(0:Nat)) rfl rfl (AX _ _ _ _) ?_);refine cD rfl (fun c=> ?_) fun c=> ?_
 ·refine By rfl (vr (.bool (false)) rfl) (vr (NI ((A0 D (Ax b) b).2)) rfl) ?_;have hV:=((FW h0).trans (if_neg (fun q=>f q.2))).trans (if_pos c);exact⟨H65,by rw[hV],by rw[hV];exact hW⟩
 refine gS (Yk.nilCheck rfl (gS (Yk.fieldAt KP rfl (gS (XJ TB rfl rfl (cellAt hvb rfl) ?_)))));have hWc:=hW;refine gS (XM HK rfl rfl ((hWc.g.syncW (Ax b) (((hB).appendK (Ax b) (k:=200) (by omega) (by omega)).lt (by omega))).mono ?_));rintro e af ⟨H71,rfl,hW72⟩;refine⟨_,rfl,?_⟩;have hWn:=hWc.trans hW72;have hvb:af.heap[gv]? =some (.cells ([PQ g 0, .map (some bm)]).toArray 86 (0,0)):=DkG.box hWc.g hW72.chg hvb (by decide) (by decide) (by decide) (by decide);clear hW;have hW:=hWn;refine By rfl (vr (.bool (true)) rfl) (vr (NI ((BB ((A0 D (Ax b) b).1) (Ax b)).2)) rfl) ?_;have hV:=((FW h0).trans (if_neg (fun q=>f q.2))).trans (if_neg c);exact⟨H71,by rw[hV],by rw[hV];exact hW⟩
theorem N1:Plain AaU 40:=fun _ _=>by kernel_rfl
theorem Mu(z0:Nat)(z1:Nat)(w:AaS):(AcJ 86 #[(0,PQ z0 0),(1, .map (some z1))]).run AaU w = .ok (.agg ([PQ z0 0, .map (some z1)]:List AaR).toArray) w:=by kernel_rfl
theorem Uu:Plain AaU 41:=fun _ _=>by kernel_rfl
theorem Uv:Plain AaU 43:=fun _ _=>by kernel_rfl
theorem Uw(wb w:AaS)(g:Nat)(H:Dk)(D:Ae)(hD:DkG wb w g H D)(hG:Laid wb)(hL:DL D)(hnm:(Ba D).length≤100000):
  Calls AaU 13 #[PQ g 0] w fun e w' =>(D.down=true∧e = .returned (.tuple #[.pointer none,NI 9])∧Ext w w')∨(D.down=false∧∃gv bm ptr,e = .returned (.tuple #[PQ gv 0,NI 0])∧VtAt w.heap.size (Cg H D) w' gv g bm (GD D) ptr∧Ext w w'):=by
 refine gG (args:= [PQ g 0]) Tryz.func13 rfl 53 rfl rfl ?_;have hE:=Ext.refl w;have hDk:=hD;rcases hdn:D.down with _ | _
 ·refine gS (X5 TB rfl (cF rfl (gS (XQ N1 rfl (((show Calls _ _ _ _ (fun e w2=>e = .returned (.bool false)∧Ext _ w2)from by have h:=(hD.keep hE).down;rw[hdn]at h;exact h)).mono ?_)))));rintro e w7 ⟨rfl,a1⟩;refine⟨_,rfl,?_⟩;refine cF rfl (gS (YD St pN Nm fun o a2 ba t ar bb=> ?_));have f:=Ext.refl w7;have hE:=hE.trans a1;have a3:=hE.size;have bc:o<a2.heap.size:=by omega
  refine gS (Yx (vr (PQ g 0) rfl) (vr (.map (some o)) rfl) (fun w=>Mu (g) (o) w) (gS (Yk.box (cs:=([PQ g 0, .map (some o)]:List AaR).toArray) (show _=(.agg ([PQ g 0, .map (some o)]).toArray:AaR)from rfl) fun r a4 a5 au ah bd=> ?_)));have hE:=hE.trans ar;have f:=f.trans ar;have be:=hE.size;have bf:=f.size;have bg:=Ar t.lt a5;have j:=au;clear au;have bh:r<a4.heap.size:=by omega
  have hbo_:Cg H D o:=hDk.offN (by omega);have hgo_:Cg H D r:=hDk.offN (by omega);have hlg_:w.heap.size≤r:=by omega
  have hE:=hE.trans ah;have f:=f.trans ah;have bi:=hE.size;have bj:=f.size;refine gS (XM Uu rfl rfl ((JV wb _ g H D (hD.keep hE) hL [112,45] hnm).mono ?_));rintro e bk ⟨ai,rfl,av,ac⟩;refine⟨_,rfl,?_⟩;have t:=t.keep ah;have a6:OB ai o:=EK av.2 t.lt;have p:=XW av;have hE:=hE.trans ac;have f:=f.trans ac;have t:=t.keep ac;have j:=eb ac j;refine gS (X1 ND (XU p rfl) (gL (fun(ρ:Ad) (wz:AaS)=>∃i:Nat,∃L:AP,∃ptr:Bs→Nat,ρ 0=(PQ g 0:AaR)∧ρ 2=(.pointer none:AaR)∧ρ 3=(NI 0:AaR)∧ρ 4=(PQ r 0:AaR)∧ρ 12=(.bool (false):AaR)∧ρ 14=(.bool (false):AaR)∧ρ 20=(ai:AaR)∧ρ 21=(NI (((Au D [112,45])).length):AaR)∧ρ 22=(NI i:AaR)∧Ext w wz∧Ext w7 wz∧wz.heap[r]? =some (.cells ([PQ g 0, .map (some o)]).toArray 86 (0,0))∧RG 1 (CX) wz ai (Au D [112,45])∧PksAt (fun k=>Cg H D k∧k≠r∧k≠o) wz L ptr∧MapF St pN Nm wz o (pkG L ptr)∧(i≤(Au D [112,45]).length)∧(L=((Au D [112,45]).take i).filterMap (Ep D))∧True) (fun ρ _=>(Au D [112,45]).length-(intOf (ρ 22)).toNat) ⟨0,[],(fun _=>0),rfl,rfl,rfl,rfl,rfl,rfl,rfl,rfl,rfl,hE,f,j,p,PksAt.nil _ _ _,B4 t (rfl),Abs _,rfl,trivial⟩ ?_));clear t;clear hE j p;rintro aj bn ⟨i,L,ptr,T0,T2,T3,z,am,an,ae,af,v,hE,f,j,p,hpk,hb12l,hil,hLe,-⟩;have q22:=v;refine gS (XK (a:=(i:Nat)) (b:=(((Au D [112,45])).length:Nat)) v af (AL _ _ _ _) ?_);refine cD rfl (fun ao=> ?_) fun ao=> ?_
  ·have hnc:(Au D [112,45]).length≤(Ba D).length:=AcH _ _;have hlt:i<(Au D [112,45]).length:=ao;have hel:=L1 hDk.st.ok hlt;have hrl:=HF hL ((Au D [112,45]).getD (i) ([]:List UInt8));have hni:((Au D [112,45]).getD (i) ([]:List UInt8))∉L.map Abq:=V0 hDk.st.ok hlt hLe;have bo:(CX (((Au D [112,45])).getD (i) ([]:List UInt8))).length=1:=(RG.elem p ([]:List UInt8) (hlt));refine gS (X4 ND TC (by decide) ([]:List UInt8) (XU p ae) v (hlt) fun bp aw=>(gS (X0 O7 rfl (PR.cell (Yb aw rfl) rfl) ?_)));clear aw;refine gS (XM TY T0 rfl (((hD.keep hE).read ((Au D [112,45]).getD (i) ([]:List UInt8)) hL).mono ?_));rintro e bq ⟨aa,rfl,a7,x⟩;refine⟨_,rfl,?_⟩;have u:=X3 a7;refine gS (Yk.extract (vs:= [aa,NI ((An D ((Au D [112,45]).getD (i) ([]:List UInt8))).2)]) rfl rfl (gS (Yk.extract (vs:= [aa,NI ((An D ((Au D [112,45]).getD (i) ([]:List UInt8))).2)]) rfl rfl ?_)));have hE:=hE.trans x;have hsz_:=hE.size;have hDo:=(hD.keep hE);have j:=eb x j;have hlb1_:=bl j;have hb12l:=hb12l.keep x;have hlb2_:=(hb12l).lt;refine gS (XQ Uv rfl ((Nx _ (hG.keep ((hD.keep hE)).ext) aa (An D ((Au D [112,45]).getD (i) ([]:List UInt8))).1 u).mono ?_));rintro e a8 ⟨_,rfl,pp,cc,rfl,hON,s⟩;refine⟨_,rfl,?_⟩;refine gS (Yk.extract (vs:= [pp,NI cc]) rfl rfl (gS (Yk.extract (vs:= [pp,NI cc]) rfl rfl ?_)));rcases hop:BW (An D ((Au D [112,45]).getD (i) ([]:List UInt8))).1 with er | pk
   rotate_left
   ·have ax:=(OpenNew.okV hON hop).1;refine AcL (Zb hON hop) fun gp hpp=> ?_;have hPP:PackP (fun k=>Cg H D k∧k≠r∧k≠o) a8 (pN gp) pk:=Za (hpp▸(OpenNew.okV hON hop).2) (fun k h1 h2=>⟨hDo.offN h1,by omega,by omega⟩);by_cases hnp:((Au D [112,45]).getD (i) ([]:List UInt8))=Ax (An D ((Au D [112,45]).getD (i) ([]:List UInt8))).1
    ·have hvp:Hb D ((Au D [112,45]).getD (i) ([]:List UInt8))=some pk:=by unfold Hb;rw[hop];exact if_pos hnp.symm
     have hE:=hE.trans s;have u:=u.keep s;refine gS (XK (a:=(0:Nat)) (b:=(0:Nat)) (vr (NI 0) (congrArg (fun n:Nat=>NI n) ax)) rfl (AA _ _ _ _) (kT (rfl) (gS (XQ N0 rfl ((Ec _ (hG.keep ((hD.keep hE)).ext) aa (An D ((Au D [112,45]).getD (i) ([]:List UInt8))).1 u (by omega)).mono ?_)))));rintro e ay ⟨rfl,ag⟩;refine⟨_,rfl,?_⟩;have hZ1:=s.trans ag;have j:=eb hZ1 j;refine gS (YE (l:=Ax (An D ((Au D [112,45]).getD (i) ([]:List UInt8))).1) (m:=((Au D [112,45])).getD (i) ([]:List UInt8)) (.inl rfl) rfl rfl (decide ((Ax (An D ((Au D [112,45]).getD (i) ([]:List UInt8))).1:List UInt8)=(((Au D [112,45])).getD (i) ([]:List UInt8):List UInt8))) rfl (kT (hnp.symm) (gS (XR rfl rfl (cT rfl (gS (Yk.nilCheck z (gS (Yk.fieldAt KO rfl (gS (XJ JW rfl rfl (cellAt j rfl) ?_)))))))))));have hZ2:=(x.trans s).trans ag;have hpk:=hpk.keep hZ2;have hpk:PksAt (fun k=>Cg H D k∧k≠r∧k≠o) ay L ptr:=hpk;have hPP:=hPP.keep ag;have hPP:PackP (fun k=>Cg H D k∧k≠r∧k≠o) ay (pN gp) pk:=hPP;have hb12l:=hb12l.keep hZ1;refine gS (YA (ek:=St) (ev:=pN) (D:=Nm) (c:=gp) E9 Em JW (vr (.map (some o)) rfl) (vr (St (((Au D [112,45])).getD (i) ([]:List UInt8))) rfl) (vr (PQ gp 0) hpp) hb12l (by exact hel) fun ap az y br=> ?_);have p:=p.keep hZ2;have p:=RG.kept p y (.inr a6);have hpk:PksAt (fun k=>Cg H D k∧k≠r∧k≠o) ap L ptr:=PksAt.set hpk y (fun k q=>q.2.2);clear u;have hPP:PackP (fun k=>Cg H D k∧k≠r∧k≠o) ap (pN gp) pk:=PackP.set hPP y (fun k q=>q.2.2);clear hb12l;have bs:o<ap.heap.size:=az.lt;have hpk:=Zi hpk hni hPP;have f:=f.trans hZ2;have f:=Ab f y (AaV (AaX _) (by omega));have hE:=hE.trans ag;have hE:=Ab hE y (AaV a3 (by omega));have j:=kb y j (by omega);refine gS (XL (xv:=NI i) (yv:=NI 1) v rfl rfl (Ai _ _ _ (by omega)) (gK (Aby ⟨i+1,L++ [(((Au D [112,45]).getD (i) ([]:List UInt8)),pk)],updP ptr ((Au D [112,45]).getD (i) ([]:List UInt8)) gp,T0,T2,T3,z,am,an,ae,af,rfl,hE,f,j,p,hpk,B4 az ((JU hni)),by omega,(VZ hlt hLe hvp),trivial⟩ ?_)));show(Au D [112,45]).length-(intOf (NI ((i)+(1)))).toNat<(Au D [112,45]).length-(intOf (aj 22)).toNat;rw[q22];simp only[intOf,Aba];omega
    have hvp:Hb D ((Au D [112,45]).getD (i) ([]:List UInt8))=none:=by unfold Hb;rw[hop];exact if_neg (fun q=>hnp q.symm)
    have hE:=hE.trans s;have u:=u.keep s;refine gS (XK (a:=(0:Nat)) (b:=(0:Nat)) (vr (NI 0) (congrArg (fun n:Nat=>NI n) ax)) rfl (AA _ _ _ _) (kT (rfl) (gS (XQ N0 rfl ((Ec _ (hG.keep ((hD.keep hE)).ext) aa (An D ((Au D [112,45]).getD (i) ([]:List UInt8))).1 u (by omega)).mono ?_)))));rintro e a0 ⟨rfl,ab⟩;refine⟨_,rfl,?_⟩;have hZ3:=x.trans s;have hpk:=hpk.keep hZ3;have hpk:PksAt (fun k=>Cg H D k∧k≠r∧k≠o) a0 L ptr:=(hpk.keep ab);have hPP:PackP (fun k=>Cg H D k∧k≠r∧k≠o) a0 (pN gp) pk:=(hPP.keep ab);have hZ4:=hZ3.trans ab;have f:=f.trans hZ4;have p:=p.keep hZ4;have hZ5:=s.trans ab;have j:=eb hZ5 j;have hb12l:=hb12l.keep hZ5;have hE:=hE.trans ab;refine gS (YE (l:=Ax (An D ((Au D [112,45]).getD (i) ([]:List UInt8))).1) (m:=((Au D [112,45])).getD (i) ([]:List UInt8)) (.inl rfl) rfl rfl (decide ((Ax (An D ((Au D [112,45]).getD (i) ([]:List UInt8))).1:List UInt8)=(((Au D [112,45])).getD (i) ([]:List UInt8):List UInt8))) rfl (kF ((fun q=>hnp q.symm)) (gS (XR rfl rfl (cF rfl (gS (XL (xv:=NI i) (yv:=NI 1) v rfl rfl (Ai _ _ _ (by omega)) (gK (Aby ⟨i+1,L,ptr,T0,T2,T3,z,am,an,ae,af,rfl,hE,f,j,p,hpk,B4 hb12l (rfl),by omega,(SK hlt hLe hvp),trivial⟩ ?_)))))))));show(Au D [112,45]).length-(intOf (NI ((i)+(1)))).toNat<(Au D [112,45]).length-(intOf (aj 22)).toNat;rw[q22];simp only[intOf,Aba];omega
   have hce:=OpenNew.bad hON hop;have hvp:Hb D ((Au D [112,45]).getD (i) ([]:List UInt8))=none:=by unfold Hb;rw[hop]
   have hZ6:=x.trans s;have f:=f.trans hZ6;have p:=p.keep hZ6;have hpk:=hpk.keep hZ6;have hE:=hE.trans s;have j:=eb s j;have hb12l:=hb12l.keep s;refine gS (XK (a:=(cc:Nat)) (b:=(0:Nat)) rfl rfl (AA _ _ _ _) (kF (hce) (gS (XV rfl rfl (cF rfl (gS (XL (xv:=NI i) (yv:=NI 1) v rfl rfl (Ai _ _ _ (by omega)) (gK (Aby ⟨i+1,L,ptr,T0,T2,T3,z,am,an,ae,af,rfl,hE,f,j,p,hpk,B4 hb12l (rfl),by omega,(SK hlt hLe hvp),trivial⟩ ?_)))))))));show(Au D [112,45]).length-(intOf (NI ((i)+(1)))).toNat<(Au D [112,45]).length-(intOf (aj 22)).toNat;rw[q22];simp only[intOf,Aba];omega
  refine By rfl z (vr (NI 0) rfl) ?_;have hie:i=(Au D [112,45]).length:=by have h:=ao;omega
  rw[hie,Acy]at hLe;exact .inr ⟨rfl,_,_,ptr,rfl,⟨j,(show L=GD D from hLe)▸hb12l,(show L=GD D from hLe)▸hpk,QL hDk.st.ok,hgo_,hbo_,hlg_⟩,hE⟩
 refine gS (X5 TB rfl (cF rfl (gS (XQ N1 rfl (((show Calls _ _ _ _ (fun e w2=>e = .returned (.bool true)∧Ext _ w2)from by have h:=(hD.keep hE).down;rw[hdn]at h;exact h)).mono ?_)))));rintro e bt ⟨rfl,a9⟩;refine⟨_,rfl,?_⟩;refine cT rfl (By rfl (vr (.pointer none) rfl) (vr (NI 9) rfl) ?_);have hE:=hE.trans a9;exact .inl ⟨rfl,rfl,hE⟩
theorem WU{w w' :AaS}{b:Nat}{v:AaR}{l:List UInt8}{α β:Type}{ek:α→AaR}{ev:β→AaR}{E:α→Prop}{G:α→Option β}(h:RB w v l)(hg:w.grownBy w' (some b))(hm:MapF ek ev E w b G):RB w' v l:=by
 by_cases hl:l= []
 ·subst hl;exact h.chg (B:=fun _=>True) (Yc hg fun _ _=> .inl trivial) (.inl rfl)
 ·obtain⟨es,c,hb,-⟩:=hm;refine h.chg (B:=fun k=>k=b) (Yc hg fun i e=> .inl (AbB e).symm) (.inr fun k hk q=> ?_);subst q;obtain⟨q1,ao,cap,rfl,q2,q3,q4,q5⟩:=h;cases ao with
  | none=>cases hk
  | some a=>
   cases l with
   | nil=>exact hl rfl
   | cons x r=>
    have hc:=q5 a rfl 0 _ (show _=some (B8 x)from rfl);have e:(a.add 0).block=a.block:=by unfold AcU;split <;> rfl
    have hk:a.block=k:=AbB hk;unfold Ade at hc;rw[e,hk,hb]at hc;cases hc
theorem Ux:Plain AaU 23:=fun _ _=>by kernel_rfl
theorem Uy:Plain AaU 49:=fun _ _=>by kernel_rfl
theorem Uz:Plain AaU 50:=fun _ _=>by kernel_rfl
theorem N2:Plain AaU 51:=fun _ _=>by kernel_rfl
theorem N3(ao:Option Addr)(n c:Nat)(ao' :Option Addr)(n' c' :Nat)(w:AaS):(Abz 38 2 #[(0, .slice ao n c),(1, .slice ao' n' c')]).run AaU w = .ok (.slice (some ⟨w.heap.size,0,none⟩) 2 2) (w.alloc (.cells #[.slice ao n c, .slice ao' n' c'] 27)):=by kernel_rfl
theorem SW:(Tryz.prog.info? 84).map (·.size)=some 1:=by kernel_rfl
theorem UA(wb w:AaS)(g:Nat)(H:Dk)(D:Ae)(hD:DkG wb w g H D)(hG:Laid wb)(hL:DL D)(n:Nat)(gv bm:Nat)(L:AP)(ptr:Bs→Nat)(hV:VtAt n (Cg H D) w gv g bm L ptr)(hgL:GoodL L)(hLn:L.length≤100000)(hnw:wb.heap.size≤n)(vi:AaR)(ids:List Bs)(hid_:RG 32 AaT w vi ids)(hi32a:∀id∈ids,id.length=32)(dc:ids.length≤60)(hsmall:∀id∈ids,(getV D L id).2=0→(getV D L id).1.length≤200)(vc:AaR)(ch:List Int)(hch:RG 1 B5 w vc ch)(hchl:ch.length≤1099511627776)(m:Nat)(hB:DBd m D)(hm:m≤30000):
  Calls AaU 16 #[PQ gv 0,vi,vc] w fun e w' =>∃H' vcl o,e = .returned (.tuple #[vcl,NI (BC D L o ch).2.2.2])∧GP o∧(∀x,x∈o↔x∈ids)∧RBs w' vcl (BC D L o ch).2.2.1∧VtK wb w n g gv H D w' H' (BC D L o ch).1 (BC D L o ch).2.1:=by
 have hvb:=hV.blk;have hvm:=hV.map;have hpk:=hV.pk;have hsrt:=hV.sort;have hV0:=hV;refine gG (args:= [PQ gv 0,vi,vc]) Tryz.func16 rfl 136 rfl rfl ?_;have hE:=Ext.refl w;refine gS (X5 NT rfl (cF rfl (gS (XQ Ux rfl ((VY _ _ ids (hid_.keep hE) (by omega)).mono ?_)))));rintro e w8 ⟨v5,o,rfl,cj,hS,hM,hN,bs⟩;refine⟨_,rfl,?_⟩;have hE:=hE.trans bs;have de:=hE.size;have hszp_:=(hE).size;have hi32o:∀id∈o,id.length=32:=fun id h=>hi32a id ((hM id).1 h);have hsmo:∀id∈o,(getV D L id).2=0→(getV D L id).1.length≤200:=fun id h=>hsmall id ((hM id).1 h);refine gS (X8 Uy rfl rfl rfl ((Us wb _ g H D (hD.keep hE) hG hL n gv bm L ptr (hV0.keep hE) hgL hLn v5 o (XW cj) hi32o (by omega) hsmo vc ch (hch.keep hE) hchl).mono ?_));rintro e bt ⟨v9,us,rfl,hrow_,hall_,ba⟩;refine⟨_,rfl,?_⟩;have husl:=hall_.len;have hrowp:=OG.low hrow_ hszp_;have husp:AllN w.heap.size bt us (AK D L o ch).1:=⟨hall_.len,hall_.rb,fun i hi=>(hall_.new i hi).low hszp_⟩;refine gS (Yk.extract (vs:= [v9,NI ((AK D L o ch).2)]) rfl rfl (gS (Yk.extract (vs:= [v9,NI ((AK D L o ch).2)]) rfl rfl (gS (XK (a:=((AK D L o ch).2:Nat)) (b:=(0:Nat)) rfl rfl (AX _ _ _ _) ?_)))));refine cD rfl (fun ad=> ?_) fun ad=> ?_
 ·refine By rfl (vr (Aa0 none 0 0) rfl) (vr (NI ((AK D L o ch).2)) rfl) ?_;have hV:BC D L o ch=(D,L,[],(AK D L o ch).2):=Ul ad;have hE:=hE.trans ba;exact⟨_,_,o,by rw[hV],hS,hM,by rw[hV];exact RBs.nil _,by rw[hV];exact YS hV0 (Yy hD hE)⟩
 have hpp:=IN (fun hm=>IM ((Eo ch (szV D L o) (szV D L o).length).lb.trans (FZ D L o)) (by omega) hsmo hm) ad;have hE:=hE.trans ba;have hszq_:=(hE).size;have hgvl_:=(bl hV0.blk);have hwb_:=hD.ext.size;refine gS (YD St pN Nm fun l ck bu bv a2 df=> ?_);have bb:=Ext.refl bt;have dh:=hE.size;have hZ1:=bs.trans ba;have hvm:=hvm.keep hZ1;have di:=Ar hvm.lt bu;have dj:l<ck.heap.size:=by omega
 have hbml_:w.heap.size≤l:=by omega
 have hbo2:Cg H D l:=hD.offN hbml_;have hne2:l≠gv:=by omega
 have hrowp:=hrowp.keep a2;refine gS (X1 LH (XU (XW hrowp) rfl) ?_);have hE:=hE.trans a2;have hW0:=Yy hD hE;have hrowp0:=hrowp;have bb:=bb.trans a2;have husp0:=(husp.keep bb);have hvb:=eb hZ1 hvb;have dk:=Ar (bl hvb) bu;have hvb:=eb a2 hvb;refine gL (fun(ρ:Ad) (wz:AaS)=>∃i:Nat,∃Hi:Dk,∃Di:Ae,∃M:AP,∃ptr2:Bs→Nat,∃r10:AaR,ρ 0=(PQ gv 0:AaR)∧ρ 1=(vi:AaR)∧ρ 2=(vc:AaR)∧ρ 8=(v9:AaR)∧ρ 9=(.map (some l):AaR)∧ρ 25=(.bool (false):AaR)∧ρ 38=(v9:AaR)∧ρ 39=(NI us.length:AaR)∧ρ 40=(NI i:AaR)∧ρ 10=(r10:AaR)∧wz.heap[gv]? =some (.cells ([PQ g 0, .map (some bm)]).toArray 86 (0,0))∧DkW wb w g H D wz Hi Di∧PksAt (fun k=>Cg Hi (Di) k∧k≠gv∧k≠l) wz (M) (ptr2)∧PlZ i w.heap.size wz v9 us (AK D L o ch).1∧MapF St pN Nm wz l (pkG M ptr2)∧(i≤(AK D L o ch).1.length)∧(KSt D L o ch H i Hi Di M r10)∧(Cg Hi Di l)∧True) (fun ρ _=>(AK D L o ch).1.length-(intOf (ρ 40)).toNat) ⟨0,H,D,[],ptr,(Aa0 none 0 0),rfl,rfl,rfl,rfl,rfl,rfl,rfl,rfl,rfl,rfl,hvb,hW0,PksAt.nil _ _ _,(fun _=>⟨hrowp0,husp0⟩),B4 bv (rfl),Abs _, .inl ⟨rfl,rfl,rfl,rfl,rfl⟩,hbo2,trivial⟩ ?_;clear hvm;clear bv;clear hvb;rintro bw bx ⟨i,Hi,Di,M,ptr2,r10,T0,T1,T2,T8,T9,ao,ai,aj,ac,ae,hvb,hW,hPk,hun,hb22l,hil,hst,hbo,-⟩;have q40:=ac;refine gS (XK (a:=(i:Nat)) (b:=(us.length:Nat)) ac aj (AL _ _ _ _) ?_);refine cD rfl (fun aq=> ?_) fun aq=> ?_
 ·have hlt:i<(AK D L o ch).1.length:=by rw[←husl];exact aq
  have t:=hst.zero hlt;have hpz:=hun t.1;have hpk1:=Xn (p:=([],fun _=>none)) hpp hlt t.1;refine AcL hpk1.2.1 fun p hop=> ?_;have dl:=hpk1.2.2;have hrow1:=hpz.1;have hus1:=hpz.2;have hbr:=hus1.rb i hlt;have hbn:=hus1.new i hlt;have hni:Ax (AW D L o ch i)∉M.map Abq:=by rw[t.2.2.2.1];exact AcN
  have dm:(EZ (us.getD (i) undef)).length=1:=(RG.elem (XW hrow1) undef (aq));refine gS (X4 LH RN (by decide) undef (XU (XW hrow1) ai) ac (aq) fun dn bz=>(gS (X0 F5 rfl (PR.cell (Yb bz rfl) rfl) ?_)));clear bz;have hDo:=(hW).g;have hlb1_:=bl hvb;have hlb2_:=(hb22l).lt;refine gS (XQ Uv rfl ((Nx _ (hG.keep (hW).g.ext) (us.getD (i) undef) (AW D L o ch i) hbr).mono ?_));rintro e b0 ⟨_,rfl,pp,cc,rfl,hON,bc⟩;refine⟨_,rfl,?_⟩;have hW:DkW wb w g H D b0 Hi (Di):=(hW.keep bc);refine gS (Yk.extract (vs:= [pp,NI cc]) rfl rfl (gS (Yk.extract (vs:= [pp,NI cc]) rfl rfl (AcL (Zb hON hop) fun gp hpp2=> ?_))));have hPP:PackP (fun k=>Cg Hi Di k∧k≠gv∧k≠l) b0 (pN gp) p:=Za (hpp2▸(OpenNew.okV hON hop).2) (fun k h1 h2=>⟨hDo.offN h1,by omega,by omega⟩);have hbr:=hbr.keep bc;refine gS (XQ N0 rfl ((Ec _ (hG.keep (hW).g.ext) (us.getD (i) undef) (AW D L o ch i) hbr (by omega)).mono ?_));rintro e a3 ⟨rfl,a4⟩;refine⟨_,rfl,?_⟩;have hW:DkW wb w g H D a3 Hi (Di):=(hW.keep a4);have hZ2:=bc.trans a4;have hPk:=hPk.keep hZ2;have hPk:PksAt (fun k=>Cg Hi (Di) k∧k≠gv∧k≠l) a3 (M) (ptr2):=hPk;have hPP:=hPP.keep a4;have hPP:PackP (fun k=>Cg Hi Di k∧k≠gv∧k≠l) a3 (pN gp) p:=hPP;have hbr:=hbr.keep a4;have hbr:RB a3 (us.getD (i) undef) (AW D L o ch i):=hbr;have hb22l:=hb22l.keep hZ2;refine gS (YA (ek:=St) (ev:=pN) (D:=Nm) (c:=gp) E9 Em JW T9 (vr (St (Ax (AW D L o ch i))) rfl) (vr (PQ gp 0) hpp2) hb22l (by show(Ax _).length≤80;rw[Li];decide) fun ar b1 au dp=> ?_);have hW:DkW wb w g H D ar Hi (Di):=AaA hW au hb22l hbo hbml_ hwb_;have hPk:PksAt (fun k=>Cg Hi (Di) k∧k≠gv∧k≠l) ar (M) (ptr2):=PksAt.set hPk au (fun k q=>q.2.2);have hbr:RB ar (us.getD (i) undef) (AW D L o ch i):=WU hbr au hb22l;have hPP:PackP (fun k=>Cg Hi Di k∧k≠gv∧k≠l) ar (pN gp) p:=PackP.set hPP au (fun k q=>q.2.2);clear hb22l;have dq:l<ar.heap.size:=b1.lt;have hPk:=Zi hPk hni hPP;have hWc:=hW;have hMc:=b1;have hPc:=hPk;have hrc:=hbr;have hvb:=eb hZ2 hvb;have hvb:=kb au hvb (by omega);have hvc:=hvb;have hBi:DBd m Di:=t.2.1▸hB;have hoff:∀k,Aa1 (us.getD (i) undef)=some k→Cg Hi Di k:=fun k hk=>by rw[t.2.1,t.2.2.1];exact hD.offN (hbn k hk).1
  refine gS (XM Uz T0 rfl ((SV wb _ g Hi Di hWc.g hG gv bm hvc (us.getD (i) undef) (AW D L o ch i) hrc (.inr hoff) (by omega) m hBi (by omega)).mono ?_));rintro e dr ⟨H59,rfl,hW2⟩;refine⟨_,rfl,?_⟩;have hW:=hWc.trans hW2;have hvb:=DkG.box hWc.g hW2.chg hvc (by decide) (by decide) (by decide) (by decide);have hmp:=MapF.chg hMc hW2.chg hbo;have hPk:=PksAt.stepW hPc hW2;have hbr:=hrc.chg hW2.chg (.inr hoff);have hbo3:=hW2.offB hMc.lt hbo;have b2:DBd (m+202) (AE Di (AW D L o ch i)).1:=hBi.write (by omega);refine gS (Yk.extract (vs:= [.bool ((AE Di (AW D L o ch i)).2.1),NI ((AE Di (AW D L o ch i)).2.2)]) rfl rfl (gS (Yk.extract (vs:= [.bool ((AE Di (AW D L o ch i)).2.1),NI ((AE Di (AW D L o ch i)).2.2)]) rfl rfl ?_)));refine cB ((AE Di (AW D L o ch i)).2.1) rfl (fun be=> ?_) fun be=> ?_
  ·have hwf:=ON be;refine gS (XQ N0 rfl ((Ec _ (hG.keep (hW).g.ext) (us.getD (i) undef) (AW D L o ch i) hbr (by omega)).mono ?_));rintro e cl ⟨rfl,b3⟩;refine⟨_,rfl,?_⟩;have hW:DkW wb w g H D cl H59 ((AE Di (AW D L o ch i)).1):=(hW.keep b3);refine gS (Ye (a:=Ax (AW D L o ch i)) (enc:=CX) (vr (St (Ax (AW D L o ch i))) rfl) rfl (fun w=>JN _ w) fun cm av cn b4=> ?_);have hW:DkW wb w g H D av H59 ((AE Di (AW D L o ch i)).1):=(hW.keep b4);have a5:=Ext.refl av;refine gS (X2 _ _ av.heap.size _ 16 ND va1_ig9.choose_spec.1 va1_ig9.choose_spec.2 ND ([]) ([Ax (AW D L o ch i)]) (OG.of (OG.nil _ _ _ _ _) (vr (Aa0 none 0 0) (ae.trans t.2.2.2.2))) (XU cn (vr cm rfl)) (fun y hy u hu=>by rw[Aa6.1 hu];rfl) (by simp only[Abj,Abw];omega) (by simp only[Abj,Abw];omega) a5.size fun b5 bf ds bg=> ?_);have bg:Grew av bf (.slice none 0 0) b5:= .eqv (ae.trans t.2.2.2.2) bg;have hZ3:=b3.trans b4;have hvb:=eb hZ3 hvb;have dt:=(bl hvb);have hmp:=hmp.keep hZ3;have du:=hmp.lt;have hx_:Ext av bf:=Zf (by have:=bg.by_;exact this);have hW:DkW wb w g H D bf H59 ((AE Di (AW D L o ch i)).1):=(hW.keep hx_);refine gS (XK (a:=((AE Di (AW D L o ch i)).2.2:Nat)) (b:=(8:Nat)) rfl rfl (AA _ _ _ _) (kF (hwf.1) (cF rfl (gS (XK (a:=((AE Di (AW D L o ch i)).2.2:Nat)) (b:=(7:Nat)) rfl rfl (AA _ _ _ _) (kF (hwf.2) (cF rfl (gS (XK (a:=((AE Di (AW D L o ch i)).2.2:Nat)) (b:=(0:Nat)) rfl rfl (AX _ _ _ _) ?_)))))))));refine cD rfl (fun ak=> ?_) fun ak=> ?_
   ·refine By rfl (vr (Aa0 none 0 0) rfl) (vr (NI ((AE Di (AW D L o ch i)).2.2)) rfl) ?_;have hV:BC D L o ch=((AE Di (AW D L o ch i)).1,L,[],(AE Di (AW D L o ch i)).2.2):=(KSt.one t ad hpk1.1 hop).trans (Mb hwf.1 hwf.2 ak);exact⟨_,_,o,by rw[hV],hS,hM,by rw[hV];exact RBs.nil _,by rw[hV];exact YS hV0 hW⟩
   have hPk:=hPk.keep hZ3;have hvb:=eb hx_ hvb;have hmp:=hmp.keep hx_;have a5:=a5.trans hx_;refine gS (XL (xv:=NI i) (yv:=NI 1) ac rfl rfl (Ai _ _ _ (by omega)) (gK (Aby ⟨i+1,H59,(AE Di (AW D L o ch i)).1,M++ [(Ax (AW D L o ch i),p)],updP ptr2 (Ax (AW D L o ch i)) gp,b5,T0,T1,T2,T8,T9,ao,ai,aj,rfl,rfl,hvb,hW,(hPk.keep a5),PlZ.done,B4 hmp ((JU hni)),by omega,KSt.next t hpk1.1 hop (Adz.1 ak),hbo3,trivial⟩ ?_)));show(AK D L o ch).1.length-(intOf (NI ((i)+(1)))).toNat<(AK D L o ch).1.length-(intOf (bw 40)).toNat;rw[q40];simp only[intOf,Aba];omega
  refine gS (XK (a:=((AE Di (AW D L o ch i)).2.2:Nat)) (b:=(8:Nat)) rfl rfl (AA _ _ _ _) ?_);refine cD rfl (fun a6=> ?_) fun a6=> ?_
  ·refine gS (Yk.nilCheck T0 (gS (Yk.fieldAt KP rfl (gS (XJ TB rfl rfl (cellAt hvb rfl) (gS (YK (vr (PQ g 0) rfl) ?_)))))));have hWd:=hW;refine gS (XM N2 (vr (Aa0 none 0 0) (ae.trans t.2.2.2.2)) rfl ((Pk wb _ g H59 (AE Di (AW D L o ch i)).1 hWd.g 0 (.slice none 0 0) [] (OG.nil _ _ _ _ _) (m+202) b2 (by show _+0≤_;omega)).mono ?_));rintro e co ⟨H87,rfl,hW9,-⟩;refine⟨_,rfl,?_⟩;have hW:DkW wb w g H D co H87 (AE Di (AW D L o ch i)).1:=hWd.trans hW9;refine gS (XK (a:=((BM (AE Di (AW D L o ch i)).1 []).2:Nat)) (b:=(0:Nat)) rfl rfl (AX _ _ _ _) (kF (fun q=>q rfl) (cF rfl (gS (XK (a:=((AE Di (AW D L o ch i)).2.2:Nat)) (b:=(7:Nat)) rfl rfl (AA _ _ _ _) (kF (by omega) (cF rfl (gS (XK (a:=((AE Di (AW D L o ch i)).2.2:Nat)) (b:=(0:Nat)) rfl rfl (AX _ _ _ _) (kT (by omega) (cT rfl (By rfl (vr (Aa0 none 0 0) rfl) (vr (NI ((AE Di (AW D L o ch i)).2.2)) rfl) ?_))))))))))));have hV:BC D L o ch=((AE Di (AW D L o ch i)).1,L,[],8):=(KSt.one t ad hpk1.1 hop).trans (KU be a6);exact⟨_,_,o,by rw[hV,a6],hS,hM,by rw[hV];exact RBs.nil _,by rw[hV];exact YS hV0 hW⟩
  refine gS (XK (a:=((AE Di (AW D L o ch i)).2.2:Nat)) (b:=(7:Nat)) rfl rfl (AA _ _ _ _) ?_);refine cD rfl (fun a7=> ?_) fun a7=> ?_
  ·refine DV [0,1,2,3,4,5,6,7,8,9,10,11] [5,6] [1,2] [3] fun b6 bh=> ?_;have hW:DkW wb w g H D b6 H59 ((AE Di (AW D L o ch i)).1):=(hW.keep bh);have a8:=Ext.refl b6;have hvb:=eb bh hvb;have hbr:=hbr.keep bh;refine DQ a8 ?_;refine yp (Yk.nilCheck T0 zz) (yp (Yk.fieldAt KP rfl zz) (yf (fun _ ⟨hZ,_⟩=>XJ TB rfl rfl (cellAt (eb hZ hvb) rfl) zz) (yE (XQ N0 rfl ((Ec _ (hG.keep (hW).g.ext) (us.getD (i) undef) (AW D L o ch i) hbr (by omega)).mono ?_)))));rintro e cp ⟨rfl,bi⟩;refine⟨_,rfl,?_⟩;have hW:DkW wb w g H D cp H59 ((AE Di (AW D L o ch i)).1):=(hW.keep bi);have a8:=a8.trans bi;refine⟨a8,?_⟩;refine yD rfl (XM TY rfl rfl (((hW).g.read (Ax (AW D L o ch i)) (b2.lt (by omega))).mono ?_));rintro e cq ⟨bj,rfl,cr,b7⟩;refine⟨_,rfl,?_⟩;have hW:DkW wb w g H D cq H59 ((AE Di (AW D L o ch i)).1):=(hW.keep b7);have cs:=X3 cr;have hZ4:=bi.trans b7;have hbr:=hbr.keep hZ4;refine ys (Yk.extract (vs:= [bj,NI ((An (AE Di (AW D L o ch i)).1 (Ax (AW D L o ch i))).2)]) rfl rfl zz) (ys (Yk.extract (vs:= [bj,NI ((An (AE Di (AW D L o ch i)).1 (Ax (AW D L o ch i))).2)]) rfl rfl zz) (gS (Aar N3 (XP hbr (vr (us.getD (i) undef) rfl)) (XP cs (vr bj rfl)) fun ct cu cv cw=> ?_)));have hW:DkW wb w g H D cu H59 ((AE Di (AW D L o ch i)).1):=(hW.keep cw);refine By rfl (vr ct rfl) (vr (NI ((AE Di (AW D L o ch i)).2.2)) rfl) ?_;have hV:BC D L o ch=((AE Di (AW D L o ch i)).1,L,[(AW D L o ch i),(An (AE Di (AW D L o ch i)).1 (Ax (AW D L o ch i))).1],7):=(KSt.one t ad hpk1.1 hop).trans (QV a7);exact⟨_,_,o,by rw[hV,a7],hS,hM,by rw[hV];exact cv,by rw[hV];exact YS hV0 hW⟩
  refine gS (XK (a:=((AE Di (AW D L o ch i)).2.2:Nat)) (b:=(0:Nat)) rfl rfl (AX _ _ _ _) ?_);refine cD rfl (fun ak=> ?_) fun ak=> ?_
  ·refine By rfl (vr (Aa0 none 0 0) rfl) (vr (NI ((AE Di (AW D L o ch i)).2.2)) rfl) ?_;have hV:BC D L o ch=((AE Di (AW D L o ch i)).1,L,[],(AE Di (AW D L o ch i)).2.2):=(KSt.one t ad hpk1.1 hop).trans (Mb a6 a7 ak);exact⟨_,_,o,by rw[hV],hS,hM,by rw[hV];exact RBs.nil _,by rw[hV];exact YS hV0 hW⟩
  refine gS (XL (xv:=NI i) (yv:=NI 1) ac rfl rfl (Ai _ _ _ (by omega)) (gK (Aby ⟨i+1,H59,(AE Di (AW D L o ch i)).1,M++ [(Ax (AW D L o ch i),p)],updP ptr2 (Ax (AW D L o ch i)) gp,(Aa0 none 0 0),T0,T1,T2,T8,T9,ao,ai,aj,rfl,(ae.trans t.2.2.2.2),hvb,hW,hPk,PlZ.done,B4 hmp ((JU hni)),by omega,KSt.next t hpk1.1 hop (Adz.1 ak),hbo3,trivial⟩ ?_)));show(AK D L o ch).1.length-(intOf (NI ((i)+(1)))).toNat<(AK D L o ch).1.length-(intOf (bw 40)).toNat;rw[q40];simp only[intOf,Aba];omega
 have hkl:=hst.done (by rw[←husl];exact aq) ad;have hMs:=hst.sort;have hBD:=hst.bd hB hpp;have hLi:DL Di:=hBD.lt (by omega);have hnl:=hBD.list;refine gS (Yk.nilCheck T0 (gS (Yk.fieldAt KP rfl (gS (XJ TB rfl rfl (cellAt hvb rfl) ?_)))));have f:=Ext.refl bx;refine gS (XM Uu rfl rfl ((JV wb _ g Hi Di ((hW.keep f)).g hLi [112,45] (by omega)).mono ?_));rintro e af ⟨cx,rfl,cy,bk⟩;refine⟨_,rfl,?_⟩;have bn:=XW cy;refine gS (X1 ND (XU bn rfl) ?_);have r:=Ext.refl af;have f:=f.trans bk;have b8:=f.size;refine AcL (⟨_,rfl⟩:∃v:AaR,(Aa0 none 0 0)=v) fun nv20 hnv20=> ?_;have hrow20:OG af.heap.size 9 1 CX af nv20 ([]:List (List UInt8)):=hnv20▸OG.nil _ _ _ _ _;have cz:OB nv20 gv:=fun e_=>by rw[←hnv20]at e_;cases e_
 have c0:OB nv20 l:=fun e_=>by rw[←hnv20]at e_;cases e_
 have hvb:=eb bk hvb;have hb22l:=hb22l.keep bk;refine gL (fun(ρ:Ad) (wz:AaS)=>∃j:Nat,∃r20:AaR,ρ 0=(PQ gv 0:AaR)∧ρ 1=(vi:AaR)∧ρ 2=(vc:AaR)∧ρ 8=(v9:AaR)∧ρ 9=(.map (some l):AaR)∧ρ 10=(r10:AaR)∧ρ 25=(.bool (false):AaR)∧ρ 38=(v9:AaR)∧ρ 39=(NI us.length:AaR)∧ρ 40=(NI i:AaR)∧ρ 101=(cx:AaR)∧ρ 102=(NI (((Au Di [112,45])).length):AaR)∧ρ 103=(NI j:AaR)∧ρ 20=(r20:AaR)∧wz.heap[gv]? =some (.cells ([PQ g 0, .map (some bm)]).toArray 86 (0,0))∧MapF St pN Nm wz l (pkG M ptr2)∧Ext bx wz∧Ext af wz∧OG af.heap.size 9 1 (CX) wz r20 (((Au Di [112,45]).take j).filter (fun s=>(M.lookup s).isNone))∧(j≤(Au Di [112,45]).length)∧(OB r20 gv)∧(OB r20 l)∧True) (fun ρ _=>(Au Di [112,45]).length-(intOf (ρ 103)).toNat) ⟨0,nv20,T0,T1,T2,T8,T9,ae,ao,ai,aj,ac,rfl,rfl,rfl,((show _=(Aa0 none 0 0)from rfl).trans hnv20),hvb,hb22l,f,r,Bz hrow20 (rfl),Abs _,cz,c0,trivial⟩ ?_;clear hrow20;clear hvb hb22l;rintro b9 dv ⟨j,r20,T0,T1,T2,T8,T9,ae,ao,ai,aj,ac,bo,bp,aw,ax,hvb,hb22l,f,r,hr_r20,hjl,hap_r20_gv,hap_r20_n19,-⟩;have q103:=aw;refine gS (XK (a:=(j:Nat)) (b:=(((Au Di [112,45])).length:Nat)) aw bp (AL _ _ _ _) ?_);refine cD rfl (fun bq=> ?_) fun bq=> ?_
 ·have ay:j<(Au Di [112,45]).length:=bq;have hel:=L1 ((hW.keep f)).g.st.ok ay;have hnl2:=Fe Di [112,45];have hfl:(((Au Di [112,45]).take j).filter (fun s=>(M.lookup s).isNone)).length≤j:=AaV (AcH _ _) (by rw[Abg];exact Ae8 _ _);have dw:(CX (((Au Di [112,45])).getD (j) ([]:List UInt8))).length=1:=(RG.elem (bn.keep r) ([]:List UInt8) (ay));refine gS (X4 ND TC (by decide) ([]:List UInt8) (XU (bn.keep r) bo) aw (ay) fun dx ca=>(gS (X0 O7 rfl (PR.cell (Yb ca rfl) rfl) ?_)));clear ca;rcases hlk:M.lookup ((Au Di [112,45]).getD (j) ([]:List UInt8))with _ | pk
  ·refine gS (Y4 (ek:=St) (ev:=pN) (D:=Nm) E9 Em (fun _ _=>C7) JW (z:= .pointer none) QJ T9 rfl hb22l (by exact hel) (show pkG M ptr2 ((Au Di [112,45]).getD (j) ([]:List UInt8))=none from by unfold pkG;rw[hlk];rfl) (gS (X5 Fw rfl (cT rfl (gS (Ye (a:=((Au Di [112,45])).getD (j) ([]:List UInt8)) (enc:=CX) (vr (St (((Au Di [112,45])).getD (j) ([]:List UInt8))) rfl) rfl (fun w=>JN _ w) fun c1 c2 cb az=> ?_))))));have r:=r.trans az;have hr_r20:=hr_r20.keep az;refine gS (X2 _ _ af.heap.size _ 16 ND va1_ig9.choose_spec.1 va1_ig9.choose_spec.2 ND (((Au Di [112,45]).take j).filter (fun s=>(M.lookup s).isNone)) ([((Au Di [112,45])).getD (j) ([]:List UInt8)]) (OG.of hr_r20 ax) (XU cb (vr c1 rfl)) (fun y hy u hu=>by rw[Aa6.1 hu];rfl) (by simp only[Abj,Abw];omega) (by simp only[Abj,Abw];omega) r.size fun a9 c3 c4 ag=> ?_);have ag:Grew c2 c3 r20 a9:= .eqv ax ag;have hvb:=eb az hvb;have c5:OB a9 gv:=Ao ag hap_r20_gv (bl hvb);have hb22l:=hb22l.keep az;have c6:OB a9 l:=Ao ag hap_r20_n19 hb22l.lt;have hvb:=Aq hvb ag hap_r20_gv;have hb22l:=MapF.grew hb22l ag hap_r20_n19;have f:=f.trans az;have f:=Av f ag hr_r20.2 b8;have r:=Av r ag hr_r20.2 (AaX _);clear cb;clear hr_r20;refine gS (XL (xv:=NI j) (yv:=NI 1) aw rfl rfl (Ai _ _ _ (by omega)) (gK (Aby ⟨j+1,a9,T0,T1,T2,T8,T9,ae,ao,ai,aj,ac,bo,bp,rfl,rfl,hvb,hb22l,f,r,Bz c4 ((Pg ay (show(M.lookup _).isNone=true by rw[hlk];rfl))),by omega,c5,c6,trivial⟩ ?_)));show(Au Di [112,45]).length-(intOf (NI ((j)+(1)))).toNat<(Au Di [112,45]).length-(intOf (b9 103)).toNat;rw[q103];simp only[intOf,Aba];omega
  refine gS (YG (ek:=St) (ev:=pN) (D:=Nm) E9 Em (fun _ _=>C7) JW (z:= .pointer none) QJ T9 rfl hb22l (by exact hel) (show pkG M ptr2 ((Au Di [112,45]).getD (j) ([]:List UInt8))=some (ptr2 ((Au Di [112,45]).getD (j) ([]:List UInt8)))from by unfold pkG;rw[hlk];rfl) (gS (X5 Fw rfl (cF rfl (gS (XL (xv:=NI j) (yv:=NI 1) aw rfl rfl (Ai _ _ _ (by omega)) (gK (Aby ⟨j+1,r20,T0,T1,T2,T8,T9,ae,ao,ai,aj,ac,bo,bp,rfl,ax,hvb,hb22l,f,r,Bz hr_r20 ((SI ay (show(M.lookup _).isNone=false by rw[hlk];rfl))),by omega,hap_r20_gv,hap_r20_n19,trivial⟩ ?_))))))));show(Au Di [112,45]).length-(intOf (NI ((j)+(1)))).toNat<(Au Di [112,45]).length-(intOf (b9 103)).toNat;rw[q103];simp only[intOf,Aba];omega
 have hje:j=(Au Di [112,45]).length:=by have h:=bq;omega
 have hgv:((Au Di [112,45]).take j).filter (fun s=>(M.lookup s).isNone)++(Au Di [111,45])=goneV Di M:=by unfold goneV;rw[hje,Acy]
 have hgl:=Pj hBD M;have hnl2:=Fe Di [112,45];have hnl3:=Fe Di [111,45];have hfl:(((Au Di [112,45]).take j).filter (fun s=>(M.lookup s).isNone)).length≤j:=AaV (AcH _ _) (by rw[Abg];exact Ae8 _ _);refine DV [0,1,2,3,4,7,8,9,10,11,5,6,12,13] [5,6,12] [8,9,11] [10] fun dy a0=> ?_;have hvb:=eb a0 hvb;refine Xt hvb ?_;refine ys (Yk.nilCheck T0 zz) (ys (Yk.fieldAt KP rfl zz) (ys (XJ TB rfl rfl (cellAt hvb rfl) zz) (yp (Yk.nilCheck T0 zz) (yp (Yk.fieldAt KP rfl zz) (yf (fun _ ⟨hvb,_⟩=>XJ TB rfl rfl (cellAt hvb rfl) zz) (yp (YK (vr (PQ g 0) rfl) zz) ?_))))));have f:=f.trans a0;have r:=r.trans a0;have dz:=f.size;have d0:=r.size;refine yI (XM Uu rfl rfl ((JV wb _ g Hi Di ((hW.keep f)).g hLi [111,45] (by omega)).mono ?_));rintro e c7 ⟨c8,rfl,c9,a1⟩;refine⟨_,rfl,?_⟩;have hb22l:=hb22l.keep a0;have cd:=XW c9;have hr_r20:=hr_r20.keep (a0.trans a1);have hvb:=eb a1 hvb;have r:=r.trans a1;refine⟨⟨hvb,trivial⟩,?_⟩;refine yI (X2 _ _ af.heap.size _ 16 ND va1_ig9.choose_spec.1 va1_ig9.choose_spec.2 ND (((Au Di [112,45]).take j).filter (fun s=>(M.lookup s).isNone)) ((Au Di [111,45])) (OG.of hr_r20 ax) (XU cd (vr c8 rfl)) (fun y hy u hu=>by rw[Aa6.1 hu];rfl) (by omega) (by omega) r.size fun ce da db ap=> ?_);have ap:Grew c7 da r20 ce:= .eqv ax ap;have hb22l:=hb22l.keep a1;have hvb:=Aq hvb ap hap_r20_gv;have hb22l:=MapF.grew hb22l ap hap_r20_n19;have f:=f.trans a1;have f:=Av f ap hr_r20.2 b8;have r:=Av r ap hr_r20.2 (AaX _);clear cd;clear hr_r20;refine⟨⟨hvb,trivial⟩,?_⟩;have hWd:=(hW.keep f);have hMc:=hb22l;have hPc:=(hPk.keep f);have hvc:=hvb;have hrg:=Bz db hgv;refine yD rfl (XM N2 rfl rfl ((Pk wb _ g Hi Di hWd.g af.heap.size ce (goneV Di M) hrg (m+202) hBD (by omega)).mono ?_));rintro e d1 ⟨H174,rfl,hW9,-⟩;refine⟨_,rfl,?_⟩;have hW:=hWd.trans hW9;have hvb:=DkG.box hWd.g hW9.chg hvc (by decide) (by decide) (by decide) (by decide);have hmp:=MapF.chg hMc hW9.chg hbo;have hPk:=PksAt.stepW hPc hW9;have hbo4:=hW9.offB hMc.lt hbo;refine gS (XK (a:=((BM Di (goneV Di M)).2:Nat)) (b:=(0:Nat)) rfl rfl (AX _ _ _ _) ?_);refine cD rfl (fun br=> ?_) fun br=> ?_
 ·refine By rfl (vr (Aa0 none 0 0) rfl) (vr (NI ((BM Di (goneV Di M)).2)) rfl) ?_;have hV:BC D L o ch=((BM Di (goneV Di M)).1,L,[],(BM Di (goneV Di M)).2):=hkl.trans (if_pos br);exact⟨_,_,o,by rw[hV],hS,hM,by rw[hV];exact RBs.nil _,by rw[hV];exact YS hV0 hW⟩
 refine gS (Yk.nilCheck T0 (gS (Yk.fieldAt KO rfl ?_)));have hWf:=hW;have hMf:=hmp;have hPf:=hPk;have hvf:=hvb;refine gS (XY (i:=1) (v:= .map (some l)) rfl T9 hvb (Aa9 rfl) SW rfl rfl fun d2 cf cg d3=> ?_);have hmp:=MapF.other hmp cg (Am (by omega));clear hPk;clear hW;clear hvb;have hvb:=cf;clear cf;have d4:=bl hvb;refine By rfl (vr (Aa0 none 0 0) rfl) (vr (NI 0) rfl) ?_;have hV:BC D L o ch=((BM Di (goneV Di M)).1,M,[],0):=hkl.trans (if_neg br);exact⟨_,_,o,by rw[hV],hS,hM,by rw[hV];exact RBs.nil _,by rw[hV];exact AaB hV0 hWf hnw hMf hPf hMs hbo4 hne2 hvf hvb cg⟩
section
variable {P : Abo} {K : AaR → AaS → Prop} {ρ : Ad} {w : AaS} {d : Option Tmp} {ty : AaZ} {pos : String} {af : Array AbP} {gd : Option (Nat × Bool)}
variable {α β : Type} {ek : α → AaR} {ev : β → AaR} {D : α → Prop} {b : Nat} {G : α → Option β} {t Kt E : AaZ}
theorem MapF.card(hi:∀a c,ek a=ek c→a=c)(h:MapF ek ev D w b G){ps:List (α × β)}(hn:(ps.map Abq).Nodup)(hG:∀a y,G a=some y↔(a,y)∈ps):∃es c,w.heap[b]? =some (.map es c)∧es.size=ps.length:=by
  obtain⟨es,c,hb,H,hS⟩:=h;have hp:(es.map fun e=>(e.key,e.val)).Perm (ps.map fun p=>(ek p.1,ev p.2)):=by
    refine(Adx ?_ ?_).2 fun q=> ?_
    · exact AdC (S:=(· ≠ ·)) Abq (fun a c hne e=>hne (by rw[e])) (by rw[AdK];exact H.keys)
    · refine AeN _ (fun p q hne e=>hne ?_) (AdC (S:=(· ≠ ·)) (R:=fun p q:α × β=>p.1≠q.1) Abq (fun _ _ h=>h) hn);exact hi _ _ (congrArg Abq e)
    · constructor
      · intro hq;obtain⟨e,he,rfl⟩:=AbD.1 hq;obtain⟨a,y,-,h2,h3,h4⟩:=H.ent e he;exact AbD.2 ⟨(a,y),(hG a y).1 h4,by rw[h2,h3]⟩
      · intro hq;obtain⟨p,hp,rfl⟩:=AbD.1 hq;have hg:=(hG p.1 p.2).2 hp;obtain⟨-,e,he,hek⟩:=H.all p.1 p.2 hg;obtain⟨a,y,-,h2,h3,h4⟩:=H.ent e he;have ha:a=p.1:=hi _ _ (h2.symm.trans hek);rw[ha,hg]at h4;cases h4;exact AbD.2 ⟨e,he,by rw[hek,h3]⟩
  have:=hp.length_eq;exact⟨_,c,hb,by simpa using this⟩
theorem AaM(ht:P.underlying t=some (.map Kt E)){x:Aa5}{es:Array Acz}{c n:Nat}(hx:Aa ρ x = .map (some b))(hb:w.heap[b]? =some (.map es c))(hn:es.size=n)(hk:K (NI n) w):Yk P K ((execOp (Aa ρ) ⟨d, .call ⟨.builtin .len,#[x],#[t]⟩,ty,pos,af,gd⟩).run P w):=by
  subst hn;refine Yk.value (v:=NI es.size) (w' :=w) ?_ hk;unfold execOp;simp[resolve,invoke,builtin,AfO,hx,run_underlying ht,goInt,Ab5 hb]
end
theorem N4{L:AP}(ptr:Bs→Nat)(h:SortS (L.map Abq)):((L.map fun e=>(e.1,ptr e.1)).map Abq).Nodup:=by
 rw[AdK];exact h.nodup
theorem SX{L:AP}{ptr:Bs→Nat}(h:SortS (L.map Abq))(a:Bs)(y:Nat):pkG L ptr a=some y↔(a,y)∈L.map fun e=>(e.1,ptr e.1):=by
 unfold pkG;constructor
 ·intro q;obtain⟨p,hp,he⟩:=Ad1.1 q;exact AbD.2 ⟨(a,p),KK hp,by rw[he]⟩
 ·intro q;obtain⟨e,he,h2⟩:=AbD.1 q;cases h2;rw[LX h he];rfl
theorem SY(w:AaS)(n:Nat)(Q:Nat→Prop)(gv gd bm:Nat)(L:AP)(ptr:Bs→Nat)(hV:VtAt n Q w gv gd bm L ptr)(hgL:GoodL L)(hLn:L.length≤100000):
  Calls AaU 19 #[PQ gv 0] w fun e w' =>e = .returned (NI L.length)∧Ext w w' :=by
 have hvb:=hV.blk;have hvm:=hV.map;have hpk:=hV.pk;have hsrt:=hV.sort;have hV0:=hV;refine gG (args:= [PQ gv 0]) Tryz.func19 rfl 10 rfl rfl ?_;have hE:=Ext.refl w;refine gS (X5 NT rfl (cF rfl (gS (Yk.nilCheck rfl (gS (Yk.fieldAt KO rfl (gS (XJ JW rfl rfl (cellAt hvb rfl) (gS (AaM JW rfl ((hvm).card (fun _ _=>C7) (N4 ptr hsrt) (SX hsrt)).choose_spec.choose_spec.1 (((hvm).card (fun _ _=>C7) (N4 ptr hsrt) (SX hsrt)).choose_spec.choose_spec.2.trans (Abh ..)) (Bn rfl (vr (NI L.length) rfl) ?_)))))))))));exact⟨rfl,hE⟩
structure VtS (wb : AaS) (n g gv : Nat) (w : AaS) (H : Dk) (D : Ae) (L : AP) : Prop where
  dk:DkG wb w g H D
  v:∃bm ptr,VtAt n (Cg H D) w gv g bm L ptr
  good:GoodL L
  lo:wb.heap.size≤n
  len:L.length≤100000
def Mc(H:Dk)(D:Ae)(gv:Nat)(k:Nat):Prop:=B2 H D.files.length k∨k=gv
section
variable {wb w w' : AaS} {n g gv : Nat} {H H' : Dk} {D D' : Ae} {L L' : AP}
theorem VtS.keep(h:VtS wb n g gv w H D L)(k:Ext w w'):VtS wb n g gv w' H D L:=by
  obtain⟨bm,ptr,hv⟩:=h.v;exact⟨h.dk.keep k,⟨bm,ptr,hv.keep k⟩,h.good,h.lo,h.len⟩
theorem VtS.tag(h:VtS wb n g gv w H D L):CT w gv=some (86+1):=by
  obtain⟨bm,ptr,hv⟩:=h.v;exact Co hv.blk
theorem VtS.step(h:VtS wb n g gv w H D L)(hW:DkW wb w g H D w' H' D'):VtS wb n g gv w' H' D' L∧Chg (Mc H D gv) w w' :=by
  obtain⟨bm,ptr,hv⟩:=h.v;exact⟨⟨hW.g,⟨bm,ptr,hv.step hW⟩,h.good,h.lo,h.len⟩,hW.chg.monoV fun k q=> .inl q⟩
theorem VtS.kept(h:VtS wb n g gv w H D L)(hK:VtK wb w n g gv H D w' H' D' L')(hg:GoodL L')(hl:L'.length≤100000):VtS wb n g gv w' H' D' L' ∧Chg (Mc H D gv) w w' :=
  ⟨⟨hK.dk,hK.v,hg,h.lo,hl⟩,hK.chg.monoV fun k q=>q.imp id fun q=>q.1⟩
theorem VtS.off(h:VtS wb n g gv w H D L){k:Nat}(hk:Mc H D gv k):k<w.heap.size∧wb.heap.size≤k:=by
  rcases hk with q | rfl
  · exact⟨(h.dk.st.foot q).2.1,(h.dk.st.foot q).2.2⟩
  · obtain⟨bm,ptr,hv⟩:=h.v;exact⟨bl hv.blk,AaV h.lo hv.lo⟩
theorem VtS.box(h:VtS wb n g gv w H D L)(hc:Chg (Mc H D gv) w w'){b:Nat}{cs:Array AaR}{t:AaZ}{fr:Nat × Nat}(hb:w.heap[b]? =some (.cells cs t fr))(h1:t≠107)(h2:t≠133)(h3:t≠5)(h4:t≠131)(h5:t≠86):w'.heap[b]? =some (.cells cs t fr):=
  (hc.blk b (bl hb) fun q=>q.elim (h.dk.st.offT hb h1 h2 h3 h4) fun e=>by
    have ht:=h.tag;rw[←e,Co hb]at ht;exact h5 (by simpa using ht)).trans hb
theorem VtS.rbNew(h:VtS wb n g gv w H D L){w1:AaS}(hc:Chg (Mc H D gv) w1 w'){v:AaR}{l:List UInt8}(hr:RB w1 v l)(hN:NewI w.heap.size w1 v):RB w' v l:=
  hr.chg hc (.inr fun k hk q=>by have:=(h.off q).1;have:=(hN k hk).1;omega)
end
section
variable {D : Ae} {L : AP} {o : List Bs} {ch : List Int}
theorem QW(h:GoodL L):GoodL (BC D L o ch).2.1∧((BC D L o ch).2.1.length≤L.length∨(BC D L o ch).2.1.length≤1):=by
  have hl:∀(E:Ae) (M:AP),GoodL M→M.length≤1→GoodL (EF E L M).2.1∧((EF E L M).2.1.length≤L.length∨(EF E L M).2.1.length≤1):=fun E M hM hm=>by
    unfold EF;split
    · exact⟨h, .inl (AaX _)⟩
    · exact⟨hM, .inr hm⟩
  unfold BC;split
  · exact⟨h, .inl (AaX _)⟩
  · split
    · exact hl D [] (fun e he=>by cases he) (Abs _)
    · rename_i b _ _
      unfold KR;split
      · rename_i p hp
        unfold Ez;split
        · have f:∀(c:Prop) [Decidable c] (a b:Ae × AP × List Bs × Nat),a.2.1=L→b.2.1=L→(if c then a else b).2.1=L:=fun c _ a b h1 h2=>by split <;> assumption
          rw[f _ _ _ rfl rfl];exact⟨h, .inl (AaX _)⟩
        · split
          · exact⟨h, .inl (AaX _)⟩
          · split
            · exact⟨h, .inl (AaX _)⟩
            · exact hl _ _ (fun e he=>by rw[Aa6.1 he];exact⟨b,hp,rfl⟩) (AaX _)
      · exact⟨h, .inl (AaX _)⟩
end
section
variable (wb w : AaS) (n g gv : Nat) (H : Dk) (D : Ae) (L : AP) (h : VtS wb n g gv w H D L) (hG : Laid wb) (hL : DL D)
theorem Wh(wb w:AaS)(g:Nat)(H:Dk)(D:Ae)(hD:DkG wb w g H D)(hG:Laid wb)(hL:DL D)(hnm:(Ba D).length≤100000)(hd:D.down=false):
    Calls AaU 13 #[PQ g 0] w fun e w' =>∃gv,e = .returned (.tuple #[PQ gv 0,NI 0])∧VtS wb w.heap.size g gv w' H D (GD D)∧Ext w w' :=
  (Uw wb w g H D hD hG hL hnm).mono fun e w' q=>by
    rcases q with ⟨q,-⟩ | ⟨-,gv,bm,ptr,he,hv,hx⟩
    · rw[hd]at q;cases q
    · refine⟨gv,he,⟨hD.keep hx,⟨bm,ptr,hv⟩,QO D,hD.ext.size,?_⟩,hx⟩;exact AaV (List.length_filterMap_le _ _) (AaV (Fe D _) hnm)
include h hG
theorem WV(vb:AaR)(b:List UInt8)(hr:RB w vb b)(hoff:b= []∨∀i,vb.ownBlock=some i→¬B2 H D.files.length i)(hbl:b.length≤300)(m:Nat)(hB:DBd m D)(hm:m≤99000)(r:Ae × Bs × Bs × Nat)(hrr:Ea D L b=r):
    Calls AaU 14 #[PQ gv 0,vb] w fun e w' =>∃H' vo,e = .returned (.tuple #[.agg (AaT r.2.1).toArray,vo,NI r.2.2.2])∧RB w' vo r.2.2.1∧VtS wb n g gv w' H' r.1 L∧Chg (Mc H D gv) w w' :=by
  subst hrr;obtain⟨bm,ptr,hv⟩:=h.v;exact(V6 wb w g H D h.dk hG (hB.lt (by omega)) n gv bm L ptr hv h.good h.len vb b hr hoff hbl m hB hm).mono fun e w' ⟨H',vo,he,hr,hW,_⟩=>⟨H',vo,he,hr,h.step hW⟩
theorem Wi(vi:AaR)(ids:List Bs)(hid_:RG 32 AaT w vi ids)(hi32a:∀id∈ids,id.length=32)(a:ids.length≤60)(hsmall:∀id∈ids,(getV D L id).2=0→(getV D L id).1.length≤200)(vc:AaR)(ch:List Int)(hch:RG 1 B5 w vc ch)(hchl:ch.length≤1099511627776)(m:Nat)(hB:DBd m D)(hm:m≤30000):
    Calls AaU 16 #[PQ gv 0,vi,vc] w fun e w' =>∃H' vcl o,e = .returned (.tuple #[vcl,NI (BC D L o ch).2.2.2])∧GP o∧(∀x,x∈o↔x∈ids)∧RBs w' vcl (BC D L o ch).2.2.1∧VtS wb n g gv w' H' (BC D L o ch).1 (BC D L o ch).2.1∧Chg (Mc H D gv) w w' :=by
  obtain⟨bm,ptr,hv⟩:=h.v;exact(UA wb w g H D h.dk hG (hB.lt (by omega)) n gv bm L ptr hv h.good h.len h.lo vi ids hid_ hi32a a hsmall vc ch hch hchl m hB hm).mono fun e w' ⟨H',vcl,o,he,h1,h2,h3,hK⟩=>by
    obtain⟨g1,g2⟩:=QW (D:=D) (o:=o) (ch:=ch) h.good;have:=h.len;exact⟨H',vcl,o,he,h1,h2,h3,h.kept hK g1 (by omega)⟩
theorem Pl(vi:AaR)(ids:List Bs)(hid_:RG 32 AaT w vi ids)(hi32a:∀id∈ids,id.length=32)(a:ids.length≤60)(hsmall:∀id∈ids,(getV D L id).2=0→(getV D L id).1.length≤200)(vc:AaR)(ch:List Int)(hch:RG 1 B5 w vc ch)(hchl:ch.length≤1099511627776)(m:Nat)(hB:DBd m D)(hm:m≤30000)(P:Ae × AP × List Bs × Nat→Prop)(hP:∀o,GP o→(∀x,x∈o↔x∈ids)→P (BC D L o ch)):
    Calls AaU 16 #[PQ gv 0,vi,vc] w fun e w' =>∃H' vcl r,e = .returned (.tuple #[vcl,NI r.2.2.2])∧P r∧RBs w' vcl r.2.2.1∧VtS wb n g gv w' H' r.1 r.2.1∧Chg (Mc H D gv) w w' :=
  (Wi wb w n g gv H D L h hG vi ids hid_ hi32a a hsmall vc ch hch hchl m hB hm).mono fun e w' ⟨H',vcl,o,he,h1,h2,h3,h4⟩=>⟨H',vcl,_,he,hP o h1 h2,h3,h4⟩
include hL
theorem WW(id:List UInt8)(hid:id.length=32)(r:Bs × Nat)(hrr:getV D L id=r):
    Calls AaU 15 #[PQ gv 0, .agg (AaT id).toArray] w fun e w' =>∃v,e = .returned (.tuple #[v,NI r.2])∧RB w' v r.1∧Ext w w' ∧NewI w.heap.size w' v:=by
  subst hrr;obtain⟨bm,ptr,hv⟩:=h.v;exact Lk wb w g H D h.dk hG hL n gv bm L ptr hv h.good h.len id hid
theorem WX(id:List UInt8)(hid:id.length=32):
    Calls AaU 17 #[PQ gv 0, .agg (AaT id).toArray] w fun e w' =>e = .returned (.bool (decide ((getV D L id).2=0)))∧Ext w w' :=by
  obtain⟨bm,ptr,hv⟩:=h.v;exact V5 wb w g H D h.dk hG hL n gv bm L ptr hv h.good h.len id hid
omit hG hL
theorem UB:Calls AaU 19 #[PQ gv 0] w fun e w' =>e = .returned (NI L.length)∧Ext w w' :=by
  obtain⟨bm,ptr,hv⟩:=h.v;exact SY w n (Cg H D) gv g bm L ptr hv h.good h.len
end
def InjD(l:BY):Prop:=l.Pairwise fun a b=>a.2≠b.2
theorem InjD.wo{l:BY}(h:InjD l)(s:List UInt8):InjD (G7 l s):=Agl AgJ h
theorem InjD.ins{l:BY}(h:InjD l)(s:List UInt8){k:Nat}(hk:∀e∈l,e.2≠k):InjD (Gg l s k):=by
  unfold Gg InjD;rw[Acd];refine⟨h.sublist (Ad3 _),AbY.2 ⟨fun e he=>(hk e ((Ad4 _).subset he)).symm,h.sublist (Ad4 _)⟩,fun a ha b hb=> ?_⟩;rcases AbF.1 hb with rfl | hb
  · exact hk a ((Ad3 _).subset ha)
  · have h2:(l.takeWhile (fun e=>Ab2 e.1 s)++l.dropWhile (fun e=>Ab2 e.1 s)).Pairwise fun a b=>a.2≠b.2:=by rw[AdQ];exact h
    exact(Acd.1 h2).2.2 a ha b hb
theorem InjD.turn{l:BY}(h:InjD l)(a:CR)(hk:a.to.length≠0→∀e∈l,e.2=a.file→e.1=a.frm):InjD (turnD l a):=by
  unfold turnD;split
  · exact h.wo _
  · rename_i hn
    refine((h.wo _).wo _).ins _ fun e he q=> ?_;have h1:=IA he;have h2:=hk hn e (IA h1) q;have h3:=(Acw.1 h1).2;simp[h2]at h3
theorem InjD.add{D:Ae}(h:InjD D.now)(hok:DOk D)(s b:List UInt8):InjD (Cd D s b).now:=by
  unfold Cd;split
  · exact h
  · exact h.turn _ fun _ e he q=>absurd (hok.now.num e he) (by rw[q];exact Nat.lt_irrefl _)
theorem Fy{D:Ae}{s t:List UInt8}(hd:D.down=false)(hs:Bh s=true)(ht:Bh t=true):CA D s t=0:=by
  unfold CA;rw[if_neg (by rw[hd];decide),if_pos ⟨hs,ht⟩]
theorem N5{D:Ae}(ha:D.arm=0):CS D=(D,false):=by
  unfold CS;exact if_pos ha
theorem Md{D:Ae}{s b:List UInt8}(hd:D.down=false)(ha:D.arm=0)(hm:Bh s=true)(hq:usedD D+b.length≤D.quota):A0 D s b=(Cd D s b,0):=by
  unfold A0;rw[if_neg (by rw[Fy hd hm hm];exact fun q=>q rfl),if_neg (by omega),N5 ha];rfl
theorem Lp{D:Ae}{s:List UInt8}{k:Nat}(hd:D.down=false)(ha:D.arm=0)(hm:Bh s=true)(hk:Aw D.now s=some k):
    BB D s=({ D with files:=D.files.set k ((AY D k).1,(AY D k).1.length),kept:=D.now,acts:= [] },0):=by
  have h:FB D s s = .ok k:=by
    unfold FB;rw[if_neg (by rw[Fy hd hm hm];exact fun q=>q rfl),hk]
  unfold BB;rw[h];show DT D _=_;unfold DT;rw[N5 ha];rfl
theorem OO{l:List (List UInt8 × Nat)}{k:Nat}{x:List UInt8 × Nat}(h:k<l.length):(l.set k x).getD k ([],0)=x:=by
  rw[AaW,Ad2 h];rfl
structure Sy (D : Ae) (s : List UInt8) (k n0 : Nat) (al : List UInt8) : Prop where
  down:D.down=false
  arm:D.arm=0
  ok:DOk D
  may:Bh s=true
  inj:InjD D.now
  now:Aw D.now s=some k
  kept:Aw D.kept s=some k
  acts:∀a∈D.acts,a.to≠s∧a.frm≠s
  file:AY D k=(al,n0)
theorem Pm(D:Ae)(s b:List UInt8):(Cd D s b).arm=D.arm∧(Cd D s b).down=D.down:=by
  unfold Cd;split <;> exact⟨rfl,rfl⟩
structure ReadyL (D : Ae) : Prop where
  down:D.down=false
  arm:D.arm=0
  ok:DOk D
  inj:InjD D.now
theorem Sy.ready{D:Ae}{s al:List UInt8}{k a:Nat}(h:Sy D s k a al):ReadyL D:=⟨h.down,h.arm,h.ok,h.inj⟩
theorem Lq{b:List UInt8}(h:b.length=32):Bh (nmO b)=true:=by
  unfold Bh;rw[VO h];rfl
section
variable {D : Ae} {s b : List UInt8} {k : Nat}
theorem Sy.sync(h:ReadyL D)(hm:Bh s=true)(hk:Aw D.now s=some k):(BB D s).2=0∧Sy (BB D s).1 s k (AY D k).1.length (AY D k).1:=by
  have e:=Lp h.down h.arm hm hk;have hkl:=(h.ok.now.look hk).1;rw[e];exact⟨rfl,h.down,h.arm,h.ok.synced k,hm,h.inj,hk,hk,(fun a h=>by cases h),OO hkl⟩
theorem Wj(hd:D.down=false)(ha:D.arm=0)(hm:Bh s=true)(hk:Aw D.now s=some k):Bx D s=(turnedD D ⟨s,[],k⟩,0):=by
  have h:FB D s s = .ok k:=by
    unfold FB;rw[if_neg (by rw[Fy hd hm hm];exact fun q=>q rfl),hk]
  unfold Bx;rw[h];show DT D _=_;unfold DT;rw[N5 ha];rfl
theorem ReadyL.dropped(h:ReadyL D)(hm:Bh s=true)(hk:Aw D.now s=some k):ReadyL (turnedD D ⟨s,[],k⟩):=
  ⟨h.down,h.arm,h.ok.turned ⟨(h.ok.now.look hk).1,fun q=>absurd rfl q,(Cv hm).2⟩,InjD.turn h.inj ⟨s,[],k⟩ fun q=>absurd rfl q⟩
theorem N6(hl:Aw D.now s=none):Cd D s b = { turnedD D ⟨[],s,D.files.length⟩with files:=D.files++ [(b,0)] } :=by
  unfold Cd;rw[hl]
theorem N7(hm:Bh s=true)(hl:Aw D.now s=none):Aw (Cd D s b).now s=some D.files.length∧AY (Cd D s b) D.files.length=(b,0):=by
  have h0:=(Cv hm).1;rw[N6 hl];refine⟨?_,?_⟩
  · show Aw (turnD D.now ⟨[],s,D.files.length⟩) s=_;rw[look_turn,if_neg (show ¬s.length=0 by omega),if_pos (show s=s from rfl)]
  · show(D.files++ [(b,0)]).getD D.files.length ([],0)=_;rw[AaW,AbH (AaX _),AcD];rfl
theorem ReadyL.add(h:ReadyL D)(hm:Bh s=true)(b:List UInt8):ReadyL (Cd D s b):=
  ⟨(Pm D s b).2.trans h.down,(Pm D s b).1.trans h.arm,h.ok.add b hm,h.inj.add h.ok s b⟩
theorem IO{a:Stp}{r:List Stp}(h:(CQ D s a).2=0):AR D s (a :: r)=AR (CQ D s a).1 s r:=by
  rw[E1,if_neg (by rw[h];exact fun q=>q rfl)]
theorem GF(hd:D.down=false)(hm:Bh s=true)(h:Aw D.now s=none):An D s=([],4):=by
  unfold An FB;rw[if_neg (by rw[Fy hd hm hm];exact fun q=>q rfl),h]
theorem SZ(D:Ae)(id:List UInt8):DC (D,0) id=(D,id,[],0):=if_neg fun q=>q rfl
theorem Sy.put(h:Sy D (nmO (Sha.sum b)) k b.length b):BO D b=({ D with kept:=D.now,acts:= [] },Sha.sum b,[],0):=by
  have hr:An D (nmO (Sha.sum b))=(b,0):=by rw[Lo h.down h.may h.now,h.file]
  have e:=Lp h.down h.arm h.may h.now;have hkl:=(h.ok.now.look h.now).1;have hs:D.files.set k ((AY D k).1,(AY D k).1.length)=D.files:=by
    rw[h.file];refine AeU (by simp) fun i h1 h2=> ?_;rw[AfT];split
    · rename_i q
      subst q;have:=h.file;unfold AY at this;rw[AaW,Aa2 hkl]at this;exact this.symm
    · rfl
  rw[hs]at e;unfold BO;rw[hr,if_neg (show ¬(0:Nat)=4 by decide),if_neg (show ¬(0:Nat)≠0 from fun q=>q rfl),if_pos rfl,IO (a:= .sync) (by show(BB D _).2=0;rw[e])];show DC (AR (BB D _).1 _ []) _=_;rw[e];exact SZ _ _
end
theorem Pn{a b:Bs}(ha:a.length=32)(hb:b.length=32)(h:nmO a=nmO b):a=b:=by
  have q1:hexOf a=hexOf b:=List.append_cancel_left h;have q2:=Fk a ha;rw[q1,Fk b hb]at q2;exact(congrArg Abq q2).symm
theorem Xo(b x:Bs):Ax b≠nmO x:=fun h=>by
  have h2:=congrArg (fun l:Bs=>l.getD 0 0) h;have h3:(112:UInt8)=111:=h2;exact absurd h3 (by decide)
theorem Wk(b:Bs):Bh (Ax b)=true:=by
  unfold Bh;rw[Li];rfl
theorem U6{x:Bs}(hx:x.length=32):DR [111,45] (nmO x)=true:=by
  have hc:Bi [111,45] (nmO x)=(hexOf x,true):=rfl;unfold DR;rw[hc,Fk x hx];rfl
theorem Xp(b:Bs):DR [112,45] (Ax b)=true:=by
  have hc:Bi [112,45] (Ax b)=(hexOf (Sha.sum b),true):=rfl;unfold DR;rw[hc,Fk _ (Sha.sum_length b)];rfl
theorem Po{p s:Bs}(h:(Bi p s).2=true):s.take p.length=p:=by
  unfold Bi at h;split at h
  · rename_i q;exact q.2
  · cases h
theorem UC{s:Bs}(h:DR [112,45] s=true):DR [111,45] s=false:=by
  cases q:DR [111,45] s with
  | false=>rfl
  | true=>
    unfold DR at h q;have h1:=Po (Agw.1 h).1;have h2:=Po (Agw.1 q).1;have h3:s.take 2= [112,45]:=h1;have h4:s.take 2= [111,45]:=h2;rw[h3]at h4;exact absurd h4 (by decide)
section
variable {D : Ae} {b : Bs}
structure LoD (D : Ae) : Prop where
  ready:ReadyL D
  kept:D.kept=D.now
  acts:D.acts= []
  file:∀e∈D.now,∃c,AY D e.2=(c,c.length)∧e.1=nmO (Sha.sum c)∧c.length≤200
theorem LoD.new(q:Nat):LoD (Fa q):=⟨⟨rfl,rfl,⟨DirOk.nil _,DirOk.nil _,(fun _ h=>by cases h),(fun _ h=>by cases h)⟩,AcQ⟩,rfl,rfl,fun e h=>by cases h⟩
theorem LoD.get_some(h:LoD D){id:Bs}(hid:id.length=32){k:Nat}(hk:Aw D.now (nmO id)=some k):∃c,AY D k=(c,c.length)∧Sha.sum c=id∧c.length≤200∧C8 D id=(c,0):=by
  obtain⟨c,h1,h2,h3⟩:=h.file _ (D9 hk);have e:Sha.sum c=id:=(Pn hid (Sha.sum_length c) h2).symm;have hr:An D (nmO id)=(c,0):=by rw[Lo h.ready.down (Lq hid) hk,h1]
  refine⟨c,h1,e,h3,?_⟩;unfold C8;rw[hr,if_neg (fun q=>q.elim (fun x=>by cases x) fun q=>q.2 e)]
theorem I9(hd:D.down=false){id:Bs}(hid:id.length=32)(hk:Aw D.now (nmO id)=none):C8 D id=([],12):=by
  unfold C8;rw[GF hd (Lq hid) hk,if_pos (.inl rfl)]
theorem Ju{s:Bs}(hd:D.down=false)(hm:Bh s=true)(hq:D.quota<usedD D+b.length):A0 D s b=({ D with refused:=D.refused+1 },8):=by
  unfold A0;rw[if_neg (by rw[Fy hd hm hm];exact fun q=>q rfl),if_pos hq]
theorem LoD.same(h:LoD D):({ D with kept:=D.now,acts:= [] } :Ae)=D:=by
  have h1:=h.kept;have h2:=h.acts;cases D;simp only at h1 h2;subst h1 h2;rfl
theorem LoD.sy(h:LoD D){s:Bs}{k:Nat}(hk:Aw D.now s=some k):∃c,AY D k=(c,c.length)∧Sy D s k c.length c:=by
  obtain⟨c,h1,-⟩:=h.file _ (D9 hk);exact⟨c,h1,h.ready.down,h.ready.arm,h.ready.ok,(h.ready.ok.now.look hk).2,h.ready.inj,hk,by rw[h.kept];exact hk,(fun a q=>by rw[h.acts]at q;cases q),h1⟩
def addS(D:Ae)(s b:Bs):Ae:= { turnedD D ⟨[],s,D.files.length⟩with files:=D.files++ [(b,b.length)],kept:=turnD D.now ⟨[],s,D.files.length⟩,acts:= [] }
theorem UD{l:List (List UInt8 × Nat)}{x y:List UInt8 × Nat}:(l++ [x]).set l.length y=l++ [y]:=by
  rw[Acg _ _ (AaX _),AcD];rfl
theorem J1(h:ReadyL D){s:Bs}(hm:Bh s=true)(hl:Aw D.now s=none):BB (Cd D s b) s=(addS D s b,0):=by
  obtain⟨l1,l2⟩:=N7 (b:=b) hm hl;have hr:=h.add hm b;rw[Lp hr.down hr.arm hm l1,l2];rw[N6 hl];show(({ turnedD D ⟨[],s,D.files.length⟩with files:=(D.files++ [(b,0)]).set D.files.length (b,b.length),kept:=turnD D.now ⟨[],s,D.files.length⟩,acts:= [] } :Ae),0)=_;rw[UD];rfl
theorem IP{s:Bs}(hm:Bh s=true)(t:Bs)(ht:t≠ []):Aw (addS D s b).now t=if t=s then some D.files.length else Aw D.now t:=by
  have h0:=(Cv hm).1;show Aw (turnD D.now ⟨[],s,D.files.length⟩) t=_;rw[look_turn,if_neg (show ¬s.length=0 by omega)];show(if t=s then some D.files.length else if t= []then none else Aw D.now t)=_;rw[if_neg ht]
theorem Me{s:Bs}:AY (addS D s b) D.files.length=(b,b.length):=by
  show(D.files++ [(b,b.length)]).getD D.files.length ([],0)=_;rw[AaW,AbH (AaX _),AcD];rfl
theorem N8{s:Bs}{k:Nat}(hk:k<D.files.length):AY (addS D s b) k=AY D k:=by
  show(D.files++ [(b,b.length)]).getD k ([],0)=_;rw[AaW,AbN hk];rfl
theorem KV(h:ReadyL D){s:Bs}(hm:Bh s=true)(hl:Aw D.now s=none):ReadyL (addS D s b):=by
  obtain⟨l1,l2⟩:=N7 (b:=b) hm hl;have:=(Sy.sync (h.add hm b) hm l1).2.ready;rw[J1 h hm hl]at this;exact this
theorem UE{s:Bs}{e:List UInt8 × Nat}(he:e∈(addS D s b).now):e∈D.now∨e=(s,D.files.length):=(JM he).imp id fun q=>q.2
theorem S0(x:Bs):nmO x≠ []:=fun h=>by cases h
theorem LoD.put(h:LoD D)(hb:b.length≤200):
    (∃c,BO D b=(D,Sha.sum b,c,7)∧C8 D (Sha.sum b)=(c,0)∧c≠b) ∨
    (BO D b=({ D with refused:=D.refused+1 },En,[],8)∧D.quota<usedD D+b.length) ∨
    (∃D',BO D b=(D',Sha.sum b,[],0)∧LoD D' ∧D'.refused=D.refused∧D'.quota=D.quota∧C8 D' (Sha.sum b)=(b,0)∧∀id:Bs,id.length=32→id≠Sha.sum b→C8 D' id=C8 D id):=by
  have hs:=Sha.sum_length b;have hm:Bh (nmO (Sha.sum b))=true:=Lq hs;cases hk:Aw D.now (nmO (Sha.sum b))with
  | none=>
    have g:BO D b=DC (AR D (nmO (Sha.sum b)) [.add b, .sync]) (Sha.sum b):=by
      unfold BO;rw[GF h.ready.down hm hk,if_pos rfl]
    by_cases hq:D.quota<usedD D+b.length
    · refine .inr (.inl ⟨?_,hq⟩);have f:CQ D (nmO (Sha.sum b)) (.add b)=({ D with refused:=D.refused+1 },8):=Ju h.ready.down hm hq;rw[g,E1,f,if_pos (show ¬(8:Nat)=0 by decide)];rfl
    · have f:CQ D (nmO (Sha.sum b)) (.add b)=(Cd D (nmO (Sha.sum b)) b,0):=Md h.ready.down h.ready.arm hm (by omega);have i:CQ (Cd D (nmO (Sha.sum b)) b) (nmO (Sha.sum b)) .sync=(addS D (nmO (Sha.sum b)) b,0):=J1 h.ready hm hk;have l:BO D b=(addS D (nmO (Sha.sum b)) b,Sha.sum b,[],0):=by
        rw[g,IO (by rw[f]),f,IO (by rw[i]),i];exact SZ _ _
      have j:=KV (b:=b) h.ready hm hk;have hf:∀e∈(addS D (nmO (Sha.sum b)) b).now,∃c,AY (addS D (nmO (Sha.sum b)) b) e.2=(c,c.length)∧e.1=nmO (Sha.sum c)∧c.length≤200:=fun e he=>by
        rcases UE he with he | rfl
        · rw[N8 (h.ready.ok.now.num e he)];exact h.file e he
        · exact⟨b,Me,rfl,hb⟩
      have hL:LoD (addS D (nmO (Sha.sum b)) b):=⟨j,rfl,rfl,hf⟩;refine .inr (.inr ⟨_,l,hL,rfl,rfl,?_,fun id hid hne=> ?_⟩)
      · obtain⟨c,q1,q2,q3,q4⟩:=hL.get_some hs (by rw[IP hm _ (S0 _),if_pos rfl]);rw[Me]at q1;cases q1;exact q4
      · have hlk:Aw (addS D (nmO (Sha.sum b)) b).now (nmO id)=Aw D.now (nmO id):=by rw[IP hm _ (S0 _),if_neg fun q=>hne (Pn hid hs q)]
        cases a:Aw D.now (nmO id)with
        | none=>rw[I9 h.ready.down hid a,I9 j.down hid (hlk.trans a)]
        | some k=>
          obtain⟨c,q1,q2,q3,q4⟩:=h.get_some hid a;obtain⟨c',p1,p2,p3,p4⟩:=hL.get_some hid (hlk.trans a);rw[N8 (h.ready.ok.now.look a).1,q1]at p1;rw[q4,p4,(Prod.mk.inj p1).1]
  | some k=>
    obtain⟨c,q1,q2,q3,q4⟩:=h.get_some hs hk;have hr:An D (nmO (Sha.sum b))=(c,0):=by rw[Lo h.ready.down hm hk,q1]
    by_cases hc:c=b
    · subst hc;refine .inr (.inr ⟨D,?_,h,rfl,rfl,q4,fun _ _ _=>rfl⟩);obtain⟨c2,p1,hsy⟩:=h.sy hk;rw[q1]at p1;cases p1;rw[hsy.put,h.same]
    · refine .inl ⟨c,?_,q4,hc⟩;unfold BO;rw[hr,if_neg (show ¬(0:Nat)=4 by decide),if_neg (show ¬(0:Nat)≠0 from fun q=>q rfl),if_neg hc,if_pos q2]
theorem KW:∀(l:List Bs) {D:Ae},ReadyL D→l.Nodup→(∀s∈l,∃k,Aw D.now s=some k)→∃D',BM D l=(D',0)∧ReadyL D' ∧D'.files=D.files∧D'.quota=D.quota∧D'.refused=D.refused∧∀t,Aw D'.now t=if t∈l then none else Aw D.now t
  | [],D,h,_,_=>⟨D,rfl,h,rfl,rfl,rfl,fun t=>(if_neg AcN).symm⟩
  | s :: r,D,h,hn,hl=>by
    obtain⟨k,hk⟩:=hl s AbZ;obtain⟨a,b⟩:=Ac2.1 hn;have hm:=(h.ok.now.look hk).2;have e:=Wj h.down h.arm hm hk;have hlk:∀t,Aw (turnedD D ⟨s,[],k⟩).now t=if t=s then none else Aw D.now t:=fun t=>by
      show Aw (turnD D.now ⟨s,[],k⟩) t=_;rw[look_turn,if_pos (show([]:List UInt8).length=0 from rfl)]
    obtain⟨D',q1,q2,q3,q4,q5,q6⟩:=KW r (h.dropped hm hk) b fun t ht=>by
      obtain⟨j,hj⟩:=hl t (Ab1 _ ht);exact⟨j,by rw[hlk,if_neg (fun(q:t=s)=>a (q▸ht))];exact hj⟩
    refine⟨D',?_,q2,q3,q4,q5,fun t=> ?_⟩
    · rw[FV,e,if_neg (fun q=>q rfl)];exact q1
    · rw[q6,hlk];by_cases h1:t=s
      · rw[if_pos h1,if_pos (show t∈s :: r by rw[h1];exact AbZ)];split <;> rfl
      · rw[if_neg h1];by_cases h2:t∈r
        · rw[if_pos h2,if_pos (Ab1 _ h2)]
        · rw[if_neg h2,if_neg (fun q=>(AbF.1 q).elim h1 h2)]
theorem Pp(hd:D.down=false):Ba D=D.now.map Abq:=if_neg (by rw[hd];decide)
theorem GG(h:ReadyL D){s:Bs}:s∈Ba D↔∃k,Aw D.now s=some k:=by
  rw[Pp h.down];constructor
  · intro q;obtain⟨e,he,rfl⟩:=AbD.1 q;exact⟨_,I3 h.ok.now.sort he⟩
  · rintro⟨k,hk⟩;exact AbD.2 ⟨_,D9 hk,rfl⟩
theorem HM{M:AP}{s:Bs}:s∈goneV D M↔s∈Ba D∧((DR [112,45] s=true∧M.lookup s=none)∨DR [111,45] s=true):=by
  unfold goneV Au;rw[Abk,Acw,Acw,Acw,AfI];constructor
  · rintro(⟨⟨h1,h2⟩,h3⟩ | ⟨h1,h2⟩)
    · exact⟨h1, .inl ⟨h2,h3⟩⟩
    · exact⟨h1, .inr h2⟩
  · rintro⟨h1,⟨h2,h3⟩ | h2⟩
    · exact .inl ⟨⟨h1,h2⟩,h3⟩
    · exact .inr ⟨h1,h2⟩
theorem QX(h:DOk D)(M:AP):(goneV D M).Nodup:=by
  unfold goneV;refine Ac0.2 ⟨((FU h _).nodup).filter _,(FU h _).nodup,fun a ha c hc e=> ?_⟩;subst e;have h1:=(Acw.1 (Acw.1 ha).1).2;have h2:=(Acw.1 hc).2;rw[UC h1]at h2;cases h2
theorem IQ(h:ReadyL D)(L M:AP):∃D',EF D L M=(D',M,[],0)∧ReadyL D' ∧D'.files=D.files∧D'.quota=D.quota∧D'.refused=D.refused∧∀t,Aw D'.now t=if t∈goneV D M then none else Aw D.now t:=by
  obtain⟨D',q1,q2⟩:=KW (goneV D M) h (QX h.ok M) fun s hs=>(GG h).1 (HM.1 hs).1;refine⟨D',?_,q2⟩;unfold EF;rw[q1,if_neg (fun q=>q rfl)]
end
section
variable {D : Ae} {o : List Bs} {ch : List Int}
theorem N9(D:Ae)(id:Bs):getV D [] id=C8 D id:=rfl
theorem Wl(h:LoD D)(h60:o.length≤60)(hn:o.Nodup)(hv:I8 D [] o):
    (BC D [] o ch=({ D with refused:=D.refused+1 },[],[],8)∧D.quota<usedD D+40000) ∨
    ∃D' M,BC D [] o ch=(D',M,[],0)∧ReadyL D' ∧D'.refused=D.refused∧(∀t k,Aw D'.now t=some k→∃e∈M,t=e.1)∧M.length=(if o= []then 0 else 1)∧(∀id∈o,Ay M id=some (C8 D id).1)∧GoodL M:=by
  have hnam:∀t k,Aw D.now t=some k→∃x:Bs,x.length=32∧t=nmO x:=fun t k hk=>by
    obtain⟨c,h1,h2,h3⟩:=h.file _ (D9 hk);exact⟨_,Sha.sum_length c,h2⟩
  by_cases hne:o= []
  · subst hne;have hp:AK D [] [] ch=([],0):=by
      unfold AK;rw[if_neg (KT hv),if_pos rfl]
    obtain⟨D',q1,q2,q3,q4,q5,q6⟩:=IQ h.ready [] [];refine .inr ⟨D',[],?_,q2,q5,fun t k hk=> ?_,rfl,(fun id hid=>by cases hid),fun e he=>by cases he⟩
    · rw[II (by rw[hp];exact fun q=>q rfl) (by rw[hp])];exact q1
    · exfalso;rw[q6]at hk;split at hk
      · cases hk
      · rename_i hg
        obtain⟨x,hx,rfl⟩:=hnam t k hk;exact hg (HM.2 ⟨(GG h.ready).2 ⟨k,hk⟩, .inr (U6 hx)⟩)
  · obtain⟨b,p,hp,hop,hbl,hids,hobj,-⟩:=SQ (ch:=ch) hv h60 hn hne;have h0:¬(AK D [] o ch).2≠0:=by rw[hp];exact fun q=>q rfl
    have i:=J0 (L:= []) h0 (by rw[hp]) hop;have hm:=Wk b;have hl:Aw D.now (Ax b)=none:=by
      cases e:Aw D.now (Ax b)with
      | none=>rfl
      | some k=>
        obtain⟨x,-,q⟩:=hnam _ _ e;exact absurd q (Xo b x)
    have hw:AE D b=FD D b:=by
      rw[FW (by rw[GF h.ready.down hm hl];exact fun q=>by cases q),GF h.ready.down hm hl];exact if_neg fun q=>q.2 rfl
    by_cases hq:D.quota<usedD D+b.length
    · left;have a:A0 D (Ax b) b=_:=Ju h.ready.down hm hq;have f:FD D b=({ D with refused:=D.refused+1 },false,8):=by
        unfold FD;rw[a];exact if_pos (show ¬(8:Nat)=0 by decide)
      refine⟨?_,by omega⟩;rw[i,hw,f];exact KU rfl rfl
    · right;have a:A0 D (Ax b) b=_:=Md h.ready.down h.ready.arm hm (by omega);have f:FD D b=(addS D (Ax b) b,true,0):=by
        unfold FD;rw[a,if_neg (fun q=>q rfl),J1 h.ready hm hl]
      have g:=KV (b:=b) h.ready hm hl;obtain⟨D',q1,q2,q3,q4,q5,q6⟩:=IQ g [] [(Ax b,p)];refine⟨D',[(Ax b,p)],?_,q2,q5,fun t k hk=> ?_,by rw[if_neg hne];rfl,fun id hid=> ?_,fun e he=> ?_⟩
      · rw[i,hw,f];exact q1
      · rw[q6]at hk;split at hk
        · cases hk
        · rename_i hg
          by_cases ht:t=Ax b
          · exact⟨_,Aa6.2 rfl,ht⟩
          · exfalso;have hmem:=hk;by_cases ht0:t= []
            · subst ht0;rw[g.ok.now.noEmpty]at hk;cases hk
            · rw[IP hm _ ht0,if_neg ht]at hk;obtain⟨x,hx,rfl⟩:=hnam t k hk;exact hg (HM.2 ⟨(GG g).2 ⟨k,hmem⟩, .inr (U6 hx)⟩)
      · obtain⟨d,hd⟩:=hobj id hid;show List.findSome? _ [(Ax b,p)]=_;rw[Afi];have hd2:Option.map Abq ((Ax b,p).2.2 id)=some (getV D [] id).1:=by
          show Option.map Abq (p.2 id)=_;rw[hd];rfl
        rw[hd2];rfl
      · rw[Aa6.1 he];exact⟨b,hop,rfl⟩
theorem UF{M:AP}(h:ReadyL D)(hM:∀t k,Aw D.now t=some k→∃b,t=Ax b):∃D',BC D M [] ch=(D',[],[],0)∧ReadyL D' ∧D'.now= []:=by
  have hp:AK D M [] ch=([],0):=by
    unfold AK;rw[if_neg (fun⟨id,hid,_⟩=>by cases hid),if_pos rfl]
  obtain⟨D',q1,q2,q3,q4,q5,q6⟩:=IQ h M [];refine⟨D',?_,q2,?_⟩
  · rw[II (by rw[hp];exact fun q=>q rfl) (by rw[hp])];exact q1
  · cases e:D'.now with
    | nil=>rfl
    | cons x r=>
      exfalso;have hk:=I3 q2.ok.now.sort (e▸AbZ:x∈D'.now);rw[q6]at hk;split at hk
      · cases hk
      · rename_i hg
        obtain⟨b,hb⟩:=hM _ _ hk;exact hg (HM.2 ⟨(GG h).2 ⟨_,hk⟩, .inl ⟨by rw[hb];exact Xp b,rfl⟩⟩)
end
theorem S1(w:AaS):
  Calls AaU 13 #[.pointer none] w fun e w' =>e = .returned (.tuple #[.pointer none,NI 1])∧Ext w w' :=by
 refine gG (args:= [.pointer none]) Tryz.func13 rfl 53 rfl rfl ?_;have hE:=Ext.refl w;refine gS (X5 TB rfl (cT rfl (By rfl (vr (.pointer none) rfl) (vr (NI 1) rfl) ?_)));exact⟨rfl,hE⟩

theorem UG(w:AaS)(vb:AaR):
  Calls AaU 14 #[.pointer none,vb] w fun e w' =>e = .returned (.tuple #[AB En, .slice none 0 0,NI 1])∧Ext w w' :=by
 refine gG (args:= [.pointer none,vb]) Tryz.func14 rfl 50 rfl rfl ?_;have hE:=Ext.refl w;refine gS (Yk.alloc Tf fun b g j c h k=> ?_);have a:=c;clear c;have l:b<g.heap.size:=by omega
 refine gS (X5 NT rfl (cT rfl (gS (Yk.run (v:=AB (Aa4 32 0)) (by kernel_rfl) (gS (XN (vr (PQ b 0) rfl) (vr (AB (Aa4 32 0)) rfl) a (by exact Bv Abc Abc) (by exact Ac Abc) (Af _) fun m f i n=> ?_))))));clear a;have a:=f;clear f;have o:=bl a;refine HQ rfl (ResF.row rfl a UY rfl (by exact Ac Abc)) (vr (Aa0 none 0 0) rfl) (vr (NI 1) rfl) ?_;have hE:=hE.trans h;have hE:=Ab hE i (AaV (AaX _) (by omega));exact⟨rfl,hE⟩

theorem Oa(w:AaS)(id:List UInt8)(hid:id.length=32):
  Calls AaU 15 #[.pointer none,AB id] w fun e w' =>e = .returned (.tuple #[.slice none 0 0,NI 1])∧Ext w w' :=by
 refine gG (args:= [.pointer none,AB id]) Tryz.func15 rfl 26 rfl rfl ?_;have hE:=Ext.refl w;refine gS (Yk.box (vr (AB id) rfl) fun b c g a f h=> ?_);have i:=a;clear a;have j:b<c.heap.size:=by omega
 refine gS (X5 NT rfl (cT rfl (By rfl (vr (Aa0 none 0 0) rfl) (vr (NI 1) rfl) ?_)));have hE:=hE.trans f;exact⟨rfl,hE⟩

theorem UH(w:AaS)(id:List UInt8)(hid:id.length=32):
  Calls AaU 17 #[.pointer none,AB id] w fun e w' =>e = .returned (.bool false)∧Ext w w' :=by
 refine gG (args:= [.pointer none,AB id]) Tryz.func17 rfl 15 rfl rfl ?_;have hE:=Ext.refl w;refine gS (Yk.box (vr (AB id) rfl) fun f g k c h l=> ?_);have i:=c;clear c;have m:f<g.heap.size:=by omega
 refine gS (XO rfl i UY rfl (by exact Ac hid) (gS (XM Uj rfl rfl ((Oa _ id hid).mono ?_))));rintro e n ⟨rfl,j⟩;refine⟨_,rfl,?_⟩;refine gS (Yk.extract (vs:= [(Aa0 none 0 0),NI 1]) rfl rfl (gS (Yk.extract (vs:= [(Aa0 none 0 0),NI 1]) rfl rfl (gS (XK (a:=(1:Nat)) (b:=(0:Nat)) rfl rfl (AA _ _ _ _) (Bn rfl (vr (.bool (decide ((1:Nat)=(0)))) rfl) ?_))))));have hE:=hE.trans (h.trans j);exact⟨rfl,hE⟩

theorem UI(w:AaS):
  Calls AaU 18 #[.pointer none] w fun e w' =>e = .returned (.slice none 0 0)∧Ext w w' :=by
 refine gG (args:= [.pointer none]) Tryz.func18 rfl 28 rfl rfl ?_;have hE:=Ext.refl w;refine gS (X5 NT rfl (cT rfl (Bn rfl (vr (Aa0 none 0 0) rfl) ?_)));exact⟨rfl,hE⟩

theorem QY(w:AaS):
  Calls AaU 19 #[.pointer none] w fun e w' =>e = .returned (NI 0)∧Ext w w' :=by
 refine gG (args:= [.pointer none]) Tryz.func19 rfl 10 rfl rfl ?_;have hE:=Ext.refl w;refine gS (X5 NT rfl (cT rfl (Bn rfl (vr (NI 0) rfl) ?_)));exact⟨rfl,hE⟩

theorem S2(w:AaS)(va vc:AaR):
  Calls AaU 16 #[.pointer none,va,vc] w fun e w' =>e = .returned (.tuple #[.slice none 0 0,NI 1])∧Ext w w' :=by
 refine gG (args:= [.pointer none,va,vc]) Tryz.func16 rfl 136 rfl rfl ?_;have hE:=Ext.refl w;refine gS (X5 NT rfl (cT rfl (By rfl (vr (Aa0 none 0 0) rfl) (vr (NI 1) rfl) ?_)));exact⟨rfl,hE⟩
theorem DBd.kept{m:Nat}{D:Ae}{L:AP}{o:List Bs}{ch:List Int}(h:DBd m D)(hp:¬(AK D L o ch).2≠0→(AK D L o ch).1= []∨∃p,(AK D L o ch).1= [AW D L o ch 0]∧BW (AW D L o ch 0) = .ok p∧(AW D L o ch 0).length≤40000):DBd (3*m+606) (BC D L o ch).1:=by
 have hl:∀(k:Nat) (E:Ae) (M:AP),DBd k E→DBd (3*k) (EF E L M).1:=fun k E M hE=>by
  have h1:=(hE.drops (goneV E M)).mono (show k+(goneV E M).length≤3*k by have:=Pj hE M;omega);unfold EF;split <;> exact h1
 unfold BC;split
 ·exact h.mono (by omega)
 ·rename_i hc
  have hp:=hp hc;split
  ·exact(hl m D [] h).mono (by omega)
  ·rename_i b r e
   have hb:b.length≤60000:=by
    rcases hp with q | ⟨p,q1,q2,q3⟩
    ·rw[q]at e;cases e
    ·rw[q1]at e;cases e;omega
   have hw:=h.write hb;unfold KR;split
   ·rename_i p _
    unfold Ez;split
    ·have hd:=(hw.drops (if(AE D b).2.1=true then [Ax b]else [])).mono (show _≤3*m+606 by split <;> simp <;> omega);have f:∀(c:Prop) [Decidable c] (a d:Ae × AP × List Bs × Nat),DBd (3*m+606) a.1→DBd (3*m+606) d.1→DBd (3*m+606) (if c then a else d).1:=fun c _ a d h1 h2=>by split <;> assumption
     exact f _ _ _ hd hd
    ·split
     ·exact hw.mono (by omega)
     ·split
      ·exact hw.mono (by omega)
      ·exact(hl _ _ _ hw).mono (by omega)
   ·exact h.mono (by omega)
theorem DBd.putL{m:Nat}{D:Ae}(h:DBd m D){b:Bs}(hb:b.length≤300):DBd (m+3) (BO D b).1:=by
 have hst:∀(acs:List Stp) {n:Nat} {E:Ae},DBd n E→(∀x,Stp.add x∈acs→x=b)→DBd (n+acs.length) (AR E (nmO (Sha.sum b)) acs).1:=by
  intro acs
  induction acs with
  | nil=>intro n E hE _;exact hE
  | cons a r ih=>
   intro n E hE hx;have h1:=hE.step (nmO (Sha.sum b)) a fun x e=>by rw[hx x (e▸AbZ)];exact hb
   rw[E1];split
   ·exact h1.mono (by rw[Abp];omega)
   ·have:=ih h1 fun x hm=>hx x (Ab1 _ hm);exact this.mono (by rw[Abp];omega)
 have hf:∀(r:Ae × Nat) (id:Bs),DBd (m+3) r.1→DBd (m+3) (DC r id).1:=fun r id hr=>by
  unfold DC;split <;> exact hr
 have hs:∀acs:List Stp,acs.length≤3→(∀x,Stp.add x∈acs→x=b)→DBd (m+3) (DC (AR D (nmO (Sha.sum b)) acs) (Sha.sum b)).1:=fun acs hl hx=>hf _ _ ((hst acs h hx).mono (by omega));unfold Go.Proofs.YtfpekahfdalfkaaGreatDoor.BO;split
 ·exact hs _ (by simp) (by simp)
 split
 ·exact h.mono (by omega)
 split
 ·exact hs _ (by simp) (by simp)
 split
 ·exact h.mono (by omega)
 ·exact hs _ (by simp) (by simp)
theorem UJ{a:List Bs}{x:Bs}(ha:GP a)(h1:∀y,y∈a↔y∈ [x]):a= [x]:=by
 have hn:a.Nodup:=ha.imp fun hab e=>by rw[e,M0]at hab;omega
 have h2:a.Perm [x]:=(Adx hn (by simp)).2 h1;exact List.perm_singleton.1 h2
theorem putV_nil(D:Ae){b:Bs}(hb:b.length≤262144):Ea D [] b=BO D b:=by
 unfold Ea;rw[if_neg (by omega)];rfl
def WY(id:Bs)(r:Ae × AP × List Bs × Nat):Prop:=r.2.2.2=0∧DBd 2451 r.1∧Ba r.1= []∧getV r.1 r.2.1 id=([],12)
def Xv(id:Bs)(r:Ae × AP × List Bs × Nat):Prop:=r.2.2.2=0∧DBd 615 r.1∧r.2.1.length=1∧getV r.1 r.2.1 id=([97,98,99],0)∧∀(o2:List Bs) (ch:List Int),(∀x,x∈o2↔x∈([]:List Bs))→WY id (BC r.1 r.2.1 o2 ch)
theorem XA:∃(D1:Ae) (id:Bs),id.length=32∧Ea (Fa 100000) [] [97,98,99]=(D1,id,[],0)∧DBd 3 D1∧C8 D1 id=([97,98,99],0)∧∀(o:List Bs) (ch:List Int),GP o→(∀x,x∈o↔x∈ [id])→Xv id (BC D1 [] o ch):=by
 have hs:=Sha.sum_length [97,98,99];have h0:=LoD.new 100000;have i:DBd 0 (Fa 100000):=DBd.new (by decide);rcases h0.put (b:= [97,98,99]) (by decide)with ⟨c,q1,q2,q3⟩ | ⟨q1,q2⟩ | ⟨D1,q1,q2,q3,q4,q5,q6⟩
 ·exfalso;rw[I9 rfl hs rfl]at q2;cases q2
 ·exact absurd q2 (by decide)
 have a:=i.putL (b:= [97,98,99]) (by decide);rw[q1]at a;have a:DBd 3 D1:=a;refine⟨D1,_,hs,by rw[putV_nil _ (by decide)];exact q1,a,q5,fun o ch hS hM=> ?_⟩;have ho:=UJ hS hM;subst ho;have hv:I8 D1 [] [Sha.sum [97,98,99]]:=fun id hid=>by
  rw[Aa6.1 hid,N9,q5];exact⟨rfl,by decide,rfl⟩
 have hu:=a.used;rcases Wl (ch:=ch) q2 (by decide) (by simp) hv with ⟨-,r2⟩ | ⟨D2,M,r1,r2,r3,r4,r5,r6,r7⟩
 ·rw[q4]at r2;have:(Fa 100000).quota=100000:=rfl;omega
 have hpp:¬(AK D1 [] [Sha.sum [97,98,99]] ch).2≠0→_:=fun h=>IN (fun _=>IL hv (by decide)) h;have f:=a.kept (L:= []) (o:= [Sha.sum [97,98,99]]) (ch:=ch) hpp;rw[r1]at f;rw[r1];refine⟨rfl,f,r5,?_,fun o2 ch2 hM2=> ?_⟩
 ·have:=r6 _ (Aa6.2 rfl);rw[q5]at this;show getV D2 M _=_;unfold getV;rw[this]
 have j:o2= []:=List.eq_nil_iff_forall_not_mem.2 fun x hx=>by have:=(hM2 x).1 hx;cases this
 subst j;obtain⟨D3,s1,s2,s3⟩:=UF (ch:=ch2) (M:=M) r2 fun t k hk=>by
  obtain⟨e,he,rfl⟩:=r4 t k hk;obtain⟨b,-,hb⟩:=r7 e he;exact⟨b,hb⟩
 have g:=f.kept (L:=M) (o:= []) (ch:=ch2) fun h=>IN (fun _=>by
  refine⟨by rw[partsK_len];decide,fun p hp=> ?_⟩;have:AM D2 M [] ch2= []:=AbC partsK_len;rw[this]at hp;cases hp) h
 rw[s1]at g;show WY _ (BC D2 M [] ch2);rw[s1];refine⟨rfl,g,?_,?_⟩
 ·show Ba D3= [];rw[Pp s2.down,s3];rfl
 ·show C8 D3 _=_;exact I9 s2.down hs (by rw[s3];rfl)
theorem UK:Plain AaU 21:=fun _ _=>by kernel_rfl
theorem Ob:Plain AaU 13:=fun _ _=>by kernel_rfl
theorem Oc:Plain AaU 14:=fun _ _=>by kernel_rfl
theorem UL:∀(cs:Array AaR),cs.size=32→∀w:AaS,(Abz 42 1 #[(0, .agg cs)]).run AaU w = .ok (.slice (some ⟨w.heap.size,0,none⟩) 1 1) (w.alloc (.cells cs 33))
 | ⟨[c0,c1,c2,c3,c4,c5,c6,c7,c8,c9,c10,c11,c12,c13,c14,c15,c16,c17,c18,c19,c20,c21,c22,c23,c24,c25,c26,c27,c28,c29,c30,c31]⟩,_,w=>Th c0 c1 c2 c3 c4 c5 c6 c7 c8 c9 c10 c11 c12 c13 c14 c15 c16 c17 c18 c19 c20 c21 c22 c23 c24 c25 c26 c27 c28 c29 c30 c31 w
theorem J2:Plain AaU 16:=fun _ _=>by kernel_rfl
theorem Od:Plain AaU 19:=fun _ _=>by kernel_rfl
theorem Oe:Plain AaU 17:=fun _ _=>by kernel_rfl
theorem UM:Plain AaU 18:=fun _ _=>by kernel_rfl
theorem UN:Plain AaU 12:=fun _ _=>by kernel_rfl
theorem Wm(w:AaS)(hG:Laid w):
  Calls AaU 12 #[] w fun e w' =>e = .returned (.bool true)∧Ext w w' :=by
 refine gG (args:= []) Tryz.func12 rfl 87 rfl rfl ?_;have hE:=Ext.refl w;refine AcL XA fun D1 haw2=>(AcL haw2 fun id1 haw3=> ?_);have hid1:=haw3.1;have haw:=haw3.2;refine gS (XQ UK rfl ((Xf w _ hE 100000 (by decide)).mono ?_));rintro e g ⟨g1,H1,rfl,hD,ap⟩;refine⟨_,rfl,?_⟩;have hDc:=hD;refine gS (XQ Ob rfl ((Wh w _ g1 H1 (Fa 100000) hDc hG (DBd.lt (DBd.new (by decide)) (by decide):DL (Fa 100000)) (by decide) rfl).mono ?_));rintro e w7 ⟨gv,rfl,hVS_,aq⟩;refine⟨_,rfl,?_⟩;have hV:=hVS_;refine gS (Yk.extract (vs:= [PQ gv 0,NI 0]) rfl rfl (gS (Yk.extract (vs:= [PQ gv 0,NI 0]) rfl rfl ?_)));have hV:VtS w g.heap.size g1 gv w7 H1 (Fa 100000) []:=hV;have hV0:=hV;refine gS (ZN (e:=5) ([97,98,99]:List UInt8) (by decide) (fun _ _=>by kernel_rfl) fun v9 a1 u=> ?_);have j:=Ext.refl w7;have hE:=hE.trans (ap.trans aq);have ar:=hE.size;have n:=u.own;have hoff0:∀i,Aa1 v9=some i→¬B2 H1 (Fa 100000).files.length i:=fun i hi q=>by have h1:=(hV0.dk.st.foot q).2.1;have h2:=(n.lt i hi).1;omega
 refine gS (ZG F5 u5 rfl n (by decide) fun a2 ad ae=> ?_);have hE:=hE.trans u.ext;have hE:=Av hE ae n ar;have j:=j.trans u.ext;have j:=Av j ae n (AaX _);clear n;have hVc:=(hV.keep j);refine gS (XM Oc rfl rfl ((WV w _ g.heap.size g1 gv H1 (Fa 100000) ([]) hVc hG v9 ([97,98,99]:List UInt8) ad (.inr hoff0) (by decide) 0 (DBd.new (by decide)) (by omega) (D1,id1,[],0) haw.1).mono ?_));rintro e af ⟨H19,v,rfl,a3,hV22,hC23⟩;refine⟨_,rfl,?_⟩;have hE:Ext w af:=hV22.dk.ext;clear j;clear ad;have hV:=hV22;refine gS (Yk.extract (vs:= [AB id1,v,NI 0]) rfl rfl (gS (Yk.extract (vs:= [AB id1,v,NI 0]) rfl rfl (gS (Yk.extract (vs:= [AB id1,v,NI 0]) rfl rfl (gS (Yk.alloc Tf fun r au a4 ag av a5=> ?_)))))));have f:=Ext.refl af;have a6:=hE.size;have c:=ag;clear ag;have a7:r<au.heap.size:=by omega
 refine gS (XN (vr (PQ r 0) rfl) (vr (AB id1) rfl) c (by exact Bv hid1 Abc) (by exact Ac hid1) (Af _) fun a8 ah aw a9=> ?_);clear c;have c:=ah;clear ah;have ba:=bl c;refine gS (XO rfl c UY rfl (by exact Ac hid1) (gS (Yo (a:=id1) (enc:=AaT) (vr (AB id1) rfl) ((by rw[Aa8,hid1])) UL fun ax bb ai aj=> ?_)));have f:=f.trans av;have f:=Ab f aw (AaV (AaX _) (by omega));have f:=f.trans aj;have hVc:=(hV.keep f);refine gS (X8 J2 rfl rfl rfl ((Pl w _ g.heap.size g1 gv H19 (D1) ([]) hVc hG (ax) [id1] ai (fun x hx=>by rw[Aa6.1 hx];exact hid1) (by show 1≤60;decide) (fun x hx q=>by rw[Aa6.1 hx,N9,haw.2.2.1];decide) (.slice none 0 0) [] (RG.nil _ _ _) (by decide) 3 haw.2.1 (by decide) (Xv id1) (fun o hS hM=>haw.2.2.2 o [] hS hM)).mono ?_));rintro e ak ⟨H46,al,r2,rfl,k,-,hV47,hC48⟩;refine⟨_,rfl,?_⟩;have hE:=hE.trans f;have hE:Ext w ak:=hV47.dk.ext;have c:=eb aj c;have c:ak.heap[r]? =some (.cells (AaT id1).toArray 33 (0,0)):=VtS.box hVc hC48 c (by decide) (by decide) (by decide) (by decide) (by decide);clear ai;have hV:=hV47;refine gS (Yk.extract (vs:= [al,NI r2.2.2.2]) rfl rfl (gS (Yk.extract (vs:= [al,NI r2.2.2.2]) rfl rfl (gS (XO rfl c UY rfl (by exact Ac hid1) ?_)))));have hVg:=hV;have hVc:=hV;refine gS (XM Uj rfl rfl ((WW w _ g.heap.size g1 gv H46 (r2.1) (r2.2.1) hVc hG (k.2.1.lt (by decide)) id1 hid1 (([97,98,99]:List UInt8),0) k.2.2.2.1).mono ?_));rintro e bc ⟨am,rfl,s,an,ay⟩;refine⟨_,rfl,?_⟩;have hgotN:=ay;have hV:=hV.keep an;refine gS (Yk.extract (vs:= [am,NI 0]) rfl rfl (gS (Yk.extract (vs:= [am,NI 0]) rfl rfl (gS (XQ Od rfl ((UB w _ g.heap.size g1 gv H46 (r2.1) (r2.2.1) hV).mono ?_))))));rintro e bd ⟨rfl,t⟩;refine⟨_,rfl,?_⟩;have hgotN:=hgotN.keep t;have hgotN:=hgotN;have hV:=hV.keep t;have hVc:=hV;refine gS (X8 J2 rfl rfl rfl ((Pl w _ g.heap.size g1 gv H46 (r2.1) (r2.2.1) hVc hG (.slice none 0 0) [] (RG.nil _ _ _) (fun x hx=>by cases hx) (by decide) (fun x hx=>by cases hx) (.slice none 0 0) [] (RG.nil _ _ _) (by decide) 615 k.2.1 (by decide) (WY id1) (fun o hS hM=>k.2.2.2.2 o [] hM)).mono ?_));rintro e y ⟨H61,ao,r3,rfl,p,-,hV62,hC63⟩;refine⟨_,rfl,?_⟩;have s:=s.keep t;have hgot:=hVg.rbNew hC63 s hgotN;have hZ1:=an.trans t;have hE:=hE.trans hZ1;have hE:Ext w y:=hV62.dk.ext;have c:=eb hZ1 c;have c:y.heap[r]? =some (.cells (AaT id1).toArray 33 (0,0)):=VtS.box hVc hC63 c (by decide) (by decide) (by decide) (by decide) (by decide);clear hV;clear s;clear hgotN;have hV:=hV62;refine gS (Yk.extract (vs:= [ao,NI r3.2.2.2]) rfl rfl (gS (Yk.extract (vs:= [ao,NI r3.2.2.2]) rfl rfl (gS (XK (a:=(0:Nat)) (b:=(0:Nat)) rfl rfl (AA _ _ _ _) (kT (rfl) (gS (XK (a:=(0:Nat)) (b:=(0:Nat)) rfl rfl (AA _ _ _ _) (kT (rfl) (gS (XR rfl rfl (gS (XK (a:=(r2.2.2.2:Nat)) (b:=(0:Nat)) rfl rfl (AA _ _ _ _) (kT (k.1) (gS (XR rfl rfl (gS (XK (a:=(0:Nat)) (b:=(0:Nat)) rfl rfl (AA _ _ _ _) (kT (rfl) (gS (XR rfl rfl (gS (XK (a:=(r3.2.2.2:Nat)) (b:=(0:Nat)) rfl rfl (AA _ _ _ _) (kT (p.1) (gS (XR rfl rfl (gS (Yh F5 u5 O7 (XP hgot rfl) (gS (YE (l:=([97,98,99]:List UInt8)) (m:=([97,98,99]:List UInt8)) (.inl rfl) rfl rfl (decide (([97,98,99]:List UInt8)=(([97,98,99]:List UInt8):List UInt8))) rfl (kT (rfl) (gS (XR rfl rfl (gS (XK (a:=(r2.2.1.length:Nat)) (b:=(1:Nat)) rfl rfl (AA _ _ _ _) (kT (k.2.2.1) (gS (XR rfl rfl ?_))))))))))))))))))))))))))))))))))))));have hVl:=hV;have z:=Ext.refl y;have be:=hE.size;refine gS (XQ Uc rfl ((hVl.dk.list (p.2.1.lt (by decide))).mono ?_));rintro e bf ⟨bg,rfl,az,aa⟩;refine⟨_,rfl,?_⟩;have c:=eb aa c;have z:=z.trans aa;refine gS (X1 ND (XU (XW az) rfl) (gS (XK (a:=(((Ba r3.1)).length:Nat)) (b:=(0:Nat)) rfl rfl (AA _ _ _ _) (kT ((by rw[p.2.2.1];rfl)) (gS (XR rfl rfl (gS (XO rfl c UY rfl (by exact Ac hid1) (gS (XM Oe rfl rfl (((show Calls _ _ _ _ (fun e w2=>e = .returned (.bool false)∧Ext _ w2)from by have h:=WX w _ g.heap.size g1 gv H61 (r3.1) (r3.2.1) (hV.keep z) hG (p.2.1.lt (by decide)) id1 hid1;rw[p.2.2.2]at h;exact h)).mono ?_)))))))))));rintro e bh ⟨rfl,a0⟩;refine⟨_,rfl,?_⟩;refine gS (Ym rfl (gS (XR rfl rfl (Bn rfl (vr (.bool (true)) rfl) ?_))));have hE:=hE.trans (aa.trans a0);exact⟨rfl,hE⟩

theorem Mv(w:AaS)(hG:Laid w)(vb:AaR)(b:List UInt8)(hb:RB w vb b):
  Calls AaU 4 #[vb] w fun e w' =>e = .returned (.bool true)∧Ext w w' :=by
 refine gG (args:= [vb]) Tryz.func4 rfl 69 rfl rfl ?_;have hE:=Ext.refl w;refine gS (XQ Ob rfl ((S1 _).mono ?_));rintro e u ⟨rfl,i⟩;refine⟨_,rfl,?_⟩;refine gS (Yk.extract (vs:= [.pointer none,NI 1]) rfl rfl (gS (Yk.extract (vs:= [.pointer none,NI 1]) rfl rfl (gS (XM Oc rfl rfl ((UG _ vb).mono ?_))))));rintro e x ⟨rfl,j⟩;refine⟨_,rfl,?_⟩;refine gS (Yk.extract (vs:= [AB En,(Aa0 none 0 0),NI 1]) rfl rfl (gS (Yk.extract (vs:= [AB En,(Aa0 none 0 0),NI 1]) rfl rfl (gS (Yk.extract (vs:= [AB En,(Aa0 none 0 0),NI 1]) rfl rfl (gS (Yk.alloc Tf fun f k y g l z=> ?_)))))));have hE:=hE.trans (i.trans j);have m:=hE.size;have c:=g;clear g;have aa:f<k.heap.size:=by omega
 refine gS (XN (vr (PQ f 0) rfl) (vr (AB En) rfl) c (by exact Bv (Abc ..) Abc) (by exact Ac (Abc ..)) (Af _) fun ab h n ac=> ?_);clear c;have c:=h;clear h;have ad:=bl c;refine gS (Yk.run (v:=AB (Aa4 32 0)) (by kernel_rfl) (gS (XM Uj rfl rfl ((Oa _ (Aa4 32 0) (by decide)).mono ?_))));rintro e ae ⟨rfl,o⟩;refine⟨_,rfl,?_⟩;refine gS (Yk.extract (vs:= [(Aa0 none 0 0),NI 1]) rfl rfl (gS (Yk.extract (vs:= [(Aa0 none 0 0),NI 1]) rfl rfl (gS (X8 J2 rfl rfl rfl ((S2 _ (.slice none 0 0) (.slice none 0 0)).mono ?_))))));rintro e af ⟨rfl,p⟩;refine⟨_,rfl,?_⟩;refine gS (Yk.extract (vs:= [(Aa0 none 0 0),NI 1]) rfl rfl (gS (Yk.extract (vs:= [(Aa0 none 0 0),NI 1]) rfl rfl (gS (XK (a:=(1:Nat)) (b:=(1:Nat)) rfl rfl (AA _ _ _ _) (kT (rfl) (gS (XK (a:=(1:Nat)) (b:=(1:Nat)) rfl rfl (AA _ _ _ _) (kT (rfl) (gS (XR rfl rfl (gS (XK (a:=(1:Nat)) (b:=(1:Nat)) rfl rfl (AA _ _ _ _) (kT (rfl) (gS (XR rfl rfl (gS (Yk.run (v:=AB (Aa4 32 0)) (by kernel_rfl) (gS (XM Oe rfl rfl ((UH _ (Aa4 32 0) (by decide)).mono ?_)))))))))))))))))))));rintro e ag ⟨rfl,q⟩;refine⟨_,rfl,?_⟩;refine gS (Ym rfl (gS (XR rfl rfl (gS (XQ UM rfl ((UI _).mono ?_))))));rintro e ah ⟨rfl,r⟩;refine⟨_,rfl,?_⟩;refine gS (YO M4 rfl (gS (XK (a:=(0:Nat)) (b:=(0:Nat)) rfl rfl (AA _ _ _ _) (kT (rfl) (gS (XR rfl rfl (gS (XQ Od rfl ((QY _).mono ?_)))))))));rintro e ai ⟨rfl,s⟩;refine⟨_,rfl,?_⟩;have hE:=hE.trans l;have hE:=Ab hE n (AaV m (by omega));have hZ1:=(((o.trans p).trans q).trans r).trans s;have hE:=hE.trans hZ1;refine gS (XK (a:=(0:Nat)) (b:=(0:Nat)) rfl rfl (AA _ _ _ _) (kT (rfl) (gS (XR rfl rfl (gS (XK (a:=(1:Nat)) (b:=(1:Nat)) rfl rfl (AA _ _ _ _) (kT (rfl) (gS (XR rfl rfl (gS (Zo UN ((Wm _ (hG.keep hE)).mono ?_))))))))))));rintro e aj ⟨rfl,t⟩;refine⟨_,rfl,?_⟩;refine gS (XR rfl rfl (Bn rfl (vr (.bool (true)) rfl) ?_));have hE:=hE.trans t;exact⟨rfl,hE⟩
open Go.ChangeShapes Go.WideShapes Go.ChangeAt Go.RowKit
theorem Pq:Tryz.prog.globalNamed "variorum/sha.first" = some 0:=by kernel_rfl
theorem UO:(Tryz.prog.globals[0]?).map (·.type)=some 182:=by kernel_rfl
theorem UP:Tryz.prog.cellsOf 182=8:=by kernel_rfl
def zs_first:List Int:= [1779033703,3144134277,1013904242,2773480762,1359893119,2600822924,528734635,1541459225]
theorem OP:(zs_first.map fun z=>AcM .u32 z).toArray=cellsU Sha.first:=by kernel_rfl
theorem Pr:Tryz.prog.globalNamed "variorum/sha.words" = some 1:=by kernel_rfl
theorem UQ:(Tryz.prog.globals[1]?).map (·.type)=some 183:=by kernel_rfl
theorem UR:Tryz.prog.cellsOf 183=64:=by kernel_rfl
def zs_words:List Int:= [1116352408,1899447441,3049323471,3921009573,961987163,1508970993,2453635748,2870763221,3624381080,310598401,607225278,1426881987,1925078388,2162078206,2614888103,3248222580,3835390401,4022224774,264347078,604807628,770255983,1249150122,1555081692,1996064986,2554220882,2821834349,2952996808,3210313671,3336571891,3584528711,113926993,338241895,666307205,773529912,1294757372,1396182291,1695183700,1986661051,2177026350,2456956037,2730485921,2820302411,3259730800,3345764771,3516065817,3600352804,4094571909,275423344,430227734,506948616,659060556,883997877,958139571,1322822218,1537002063,1747873779,1955562222,2024104815,2227730452,2361852424,2428436474,2756734187,3204031479,3329325298]
theorem OQ:(zs_words.map fun z=>AcM .u32 z).toArray=cellsU Sha.words:=by kernel_rfl
theorem WZ:Tryz.prog.cellsOf 181=1:=by kernel_rfl
theorem Mf{P:Abo}{W:AaS}{name:String}{g:Nat}{cs:Array AaR}(hg:P.globalNamed name=some g)(h:W.var? P name=some cs):∃t fr,W.heap[g]? =some (.cells cs t fr):=by
 unfold World.var? at h;rw[hg]at h;simp only[Ac6]at h;split at h
 ·rename_i cs' t fr he
  cases h;exact⟨t,fr,he⟩
 ·cases h
theorem Wn{W:AaS}(h:laidMetH AaU [("variorum/sha.first",Rows.laid_variorum_sha_first),("variorum/sha.words",Rows.laid_variorum_sha_words)] W):Laid W:=by
 have h1:Lib.TabIs AaU W "variorum/sha.first" .u32 zs_first:=Lib.tabIs_of_head Pq UO Tryz.underlying182 Aft WZ UP h;have h2:Lib.TabIs AaU W "variorum/sha.words" .u32 zs_words:=Lib.tabIs_of_head (rest:= []) Pr UQ Tryz.underlying183 Aft WZ UR (laidMet.tail h);unfold Lib.TabIs at h1 h2;rw[OP]at h1;rw[OQ]at h2;exact⟨Mf Pq h1,Mf Pr h2⟩
noncomputable def IR(os:Os):AaS:=
 let h0:=(World.holding AaU os ⟨#[],#[],[]⟩).heap
 let h1:=h0.modify 0 fun
   | .cells _ t frozen=> .cells (cellsU Sha.first) t frozen
   | o=>o
 let h2:=h1.modify 1 fun
   | .cells _ t frozen=> .cells (cellsU Sha.words) t frozen
   | o=>o
 { World.holding AaU os ⟨#[],#[],[]⟩with heap:=h2 }
theorem US(os:Os)(args:Array AaR):laidMet AaU [("variorum/sha.first",Rows.laid_variorum_sha_first),("variorum/sha.words",Rows.laid_variorum_sha_words)] ((IR os).forCall (fun _ _=>0) ⟨#[],args,[]⟩).memory:=
 laidMet_of_run' 8 (by kernel_rfl) (by kernel_rfl)
end Go.Proofs.YtfpekahfdalfkaaGreatDoor
