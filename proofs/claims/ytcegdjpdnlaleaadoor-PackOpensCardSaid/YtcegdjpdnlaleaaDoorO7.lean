/- Part 7 of what stands behind these statements: laws and walks of the functions that are reached. Conditions: those that each theorem names. -/
import Derived.Test.YtcegdjpdnlaleaaDoorO6
set_option linter.unusedVariables false
set_option linter.unusedSimpArgs false
namespace Go.Proofs.YtcegdjpdnlaleaaDoor
open Go.RowKit
set_option maxRecDepth 100000
theorem Kk{d:Option Tmp}{ty:TypeId}{pos:String}{af:Array Edge}{gd:Option (Nat × Bool)}(σ:Operand→Value)(w:World):(execOp σ ⟨d, .alloc 130,ty,pos,af,gd⟩).run Tryd.prog w = .ok (.value (PQ w.heap.size 0)) (w.alloc (.cells ([(Value.slice none 0 0),(Value.slice none 0 0)]).toArray 130)):=by kernel_rfl
theorem Dp:AA Tryd.prog 80:=fun _ _=>by kernel_rfl
theorem Qz:AA Tryd.prog 82:=fun _ _=>by kernel_rfl
theorem Il:A6 Tryd.prog 151 0 0:=fun b o w=>by simp[go_sem]
theorem rf8_ig3:∃z,(Tryd.prog.info? 3).map (fun i=>(i.zero,i.size,i.bytes))=some (some z,1,8)∧z.cells.size=1:=Gl (by kernel_rfl)
theorem LN:∀(cs:Array Value),cs.size=32→∀w:World,(Instr.buildSlice 47 1 #[(0, .agg cs)]).run Tryd.prog w = .ok (.slice (some ⟨w.heap.size,0,none⟩) 1 1) (w.alloc (.cells cs 38))
 | ⟨[c0,c1,c2,c3,c4,c5,c6,c7,c8,c9,c10,c11,c12,c13,c14,c15,c16,c17,c18,c19,c20,c21,c22,c23,c24,c25,c26,c27,c28,c29,c30,c31]⟩,_,w=>PT c0 c1 c2 c3 c4 c5 c6 c7 c8 c9 c10 c11 c12 c13 c14 c15 c16 c17 c18 c19 c20 c21 c22 c23 c24 c25 c26 c27 c28 c29 c30 c31 w
theorem Kl:(Tryd.prog.info? 47).map (·.size)=some 1:=by kernel_rfl
theorem Km:∀(cs:Array Value),cs.size=35→∀w:World,(Instr.buildSlice 128 1 #[(0, .agg cs)]).run Tryd.prog w = .ok (.slice (some ⟨w.heap.size,0,none⟩) 1 1) (w.alloc (.cells cs 151))
 | ⟨c0 :: c1 :: c2 :: c3 :: c4 :: c5 :: c6 :: c7 :: c8 :: c9 :: c10 :: c11 :: c12 :: c13 :: c14 :: c15 :: c16 :: c17 :: c18 :: c19 :: c20 :: c21 :: c22 :: c23 :: c24 :: c25 :: c26 :: c27 :: c28 :: c29 :: c30 :: c31 :: c32 :: c33 :: c34 :: []⟩,_,w=>Py c0 c1 c2 c3 c4 c5 c6 c7 c8 c9 c10 c11 c12 c13 c14 c15 c16 c17 c18 c19 c20 c21 c22 c23 c24 c25 c26 c27 c28 c29 c30 c31 c32 c33 c34 w
theorem Ji:(Tryd.prog.info? 128).map (·.size)=some 1:=by kernel_rfl
theorem LO:AA Tryd.prog 35:=fun _ _=>by kernel_rfl
theorem LP:AA Tryd.prog 31:=fun _ _=>by kernel_rfl
set_option maxHeartbeats 3200000
theorem LQ(w:World)(v:Value)(b:Bs)(hr:RB w v b)(h36:36≤b.length)(hb:b.length≤65536):
  Calls Tryd.prog 70 #[v] w fun e w' =>∃vi ve c,e = .returned (.tuple #[.agg ([vi,ve]).toArray, .bool c])∧Ext w w' ∧ParR w' (BC b) vi ve c:=by
 refine gG (args:= [v]) Tryd.func70 rfl 204 rfl rfl ?_
 have hE:=Ext.refl w
 refine gS (Yk.alloc Kk fun n2 w3 i5 dh gb i6=> ?_)
 have g:=dh;clear dh
 have i7:n2<w3.heap.size:=by omega
 have hE:=hE.trans gb
 refine gS (Yk.lenRB EX (RB.of (hr.keep hE) rfl) (gS (Yk.bin (xv:=NI b.length) (yv:=NI 36) rfl rfl rfl (Ay _ _ _ (by omega) (by omega)) (Exists.elim (show ∃f,f=BI (b.drop (b.length-36))from⟨_,rfl⟩) fun f hf=> ?_))))
 rcases hgl:Ax 0 (b.drop 1)with _ | ⟨n,k⟩
 ·have hN:BC b=none:=by unfold BC;rw[hgl];rfl
  by_cases q80:(b.getD 0 0).toNat=80
  ·refine gS (Yk.sliceLo (xs:=b) (l:=(b.length)-(36)) EX M4 rfl (hr.keep hE) rfl (by omega) fun gc di ha14=>(gS (Yk.callA1 Dp rfl (((show Calls _ _ _ _ (fun e t=>e = .returned (NI f)∧Ext _ t)from by rw[hf];exact Cq _ gc (b.drop ((b.length)-(36))) di (by rw[List.length_drop];omega))).mono ?_))))
   rintro e i8 ⟨rfl,dj⟩
   refine⟨_,rfl,?_⟩
   have hE:=hE.trans dj
   refine gS (Yk.callA2 GU rfl rfl (((show Calls _ _ _ _ (fun e t=>e = .returned (.tuple #[NI 0,NI 0,NI 6])∧Ext _ t)from by have h:=BH _ v (b) (hr.keep hE) (1) (by omega) (by omega);rw[hgl]at h;exact h)).mono ?_))
   rintro e i9 ⟨rfl,dk⟩
   refine⟨_,rfl,?_⟩
   have hE:=hE.trans dk
   refine gS (Yk.extract (vs:= [NI 0,NI 0,NI 6]) rfl rfl (gS (Yk.extract (vs:= [NI 0,NI 0,NI 6]) rfl rfl (gS (Yk.extract (vs:= [NI 0,NI 0,NI 6]) rfl rfl (gS (Yk.atRB (l:=b) (i:=0) EX M4 (RB.of (hr.keep hE) rfl) rfl (by omega) fun ja dl=>(gS (Yk.loadC u5 rfl (PCell.of dl rfl) (gS (Yk.eqI (a:=((b.getD (0) 0).toNat:Nat)) (b:=(80:Nat)) rfl rfl (AF _ _ _ _) (kF (fun h=>h q80) (gS (Yk.eqI (a:=(6:Nat)) (b:=(0:Nat)) rfl rfl (AF _ _ _ _) (kT (by decide) (gS (Yk.pickF rfl rfl (gS (Yk.pickT rfl rfl (gS (Yk.pickT rfl rfl (gS (Yk.pickT rfl rfl (gS (Yk.pickT rfl rfl ?_)))))))))))))))))))))))))
   clear dl
   have hZ1:=dj.trans dk
   have g:=eb hZ1 g
   refine cT rfl (gS (Yk.run (v:= .agg ([(Value.slice none 0 0),(Value.slice none 0 0)]).toArray) (by kernel_rfl) (gS (Yk.storeAll (vr (PQ n2 0) rfl) (vr (.agg ([(Value.slice none 0 0),(Value.slice none 0 0)]).toArray) rfl) g (rfl) ((show(Tryd.prog.info? 130).map (·.size)=some 2 from GX)) (by decide) fun jb dm gd jc=> ?_))))
   clear di
   clear g
   have g:=dm;clear dm
   have jd:=bl g
   refine E8 rfl (ResF.row rfl g (HU).choose_spec rfl ((show(Tryd.prog.info? 130).map (·.size)=some 2 from GX))) (vr (.bool (false)) rfl) ?_
   have hE:=Aa hE gd (Nat.le_trans (Nat.le_refl _) (by omega))
   exact⟨_,_,false,rfl,hE,ParR.none hN rfl⟩
  refine gS (Yk.sliceLo (xs:=b) (l:=(b.length)-(36)) EX M4 rfl (hr.keep hE) rfl (by omega) fun ge ap ha33=>(gS (Yk.callA1 Dp rfl (((show Calls _ _ _ _ (fun e t=>e = .returned (NI f)∧Ext _ t)from by rw[hf];exact Cq _ ge (b.drop ((b.length)-(36))) ap (by rw[List.length_drop];omega))).mono ?_))))
  rintro e je ⟨rfl,dn⟩
  refine⟨_,rfl,?_⟩
  have hE:=hE.trans dn
  refine gS (Yk.callA2 GU rfl rfl (((show Calls _ _ _ _ (fun e t=>e = .returned (.tuple #[NI 0,NI 0,NI 6])∧Ext _ t)from by have h:=BH _ v (b) (hr.keep hE) (1) (by omega) (by omega);rw[hgl]at h;exact h)).mono ?_))
  rintro e jf ⟨rfl,dp⟩
  refine⟨_,rfl,?_⟩
  have hE:=hE.trans dp
  refine gS (Yk.extract (vs:= [NI 0,NI 0,NI 6]) rfl rfl (gS (Yk.extract (vs:= [NI 0,NI 0,NI 6]) rfl rfl (gS (Yk.extract (vs:= [NI 0,NI 0,NI 6]) rfl rfl (gS (Yk.atRB (l:=b) (i:=0) EX M4 (RB.of (hr.keep hE) rfl) rfl (by omega) fun jg dq=>(gS (Yk.loadC u5 rfl (PCell.of dq rfl) (gS (Yk.eqI (a:=((b.getD (0) 0).toNat:Nat)) (b:=(80:Nat)) rfl rfl (AF _ _ _ _) (kT (q80) (gS (Yk.pickT rfl rfl (gS (Yk.pickT rfl rfl (gS (Yk.pickT rfl rfl (gS (Yk.pickT rfl rfl (gS (Yk.pickT rfl rfl ?_))))))))))))))))))))))
  clear dq
  have hZ2:=dn.trans dp
  have g:=eb hZ2 g
  refine cT rfl (gS (Yk.run (v:= .agg ([(Value.slice none 0 0),(Value.slice none 0 0)]).toArray) (by kernel_rfl) (gS (Yk.storeAll (vr (PQ n2 0) rfl) (vr (.agg ([(Value.slice none 0 0),(Value.slice none 0 0)]).toArray) rfl) g (rfl) ((show(Tryd.prog.info? 130).map (·.size)=some 2 from GX)) (by decide) fun jh dr gf ji=> ?_))))
  clear ap
  clear g
  have g:=dr;clear dr
  have jj:=bl g
  refine E8 rfl (ResF.row rfl g (HU).choose_spec rfl ((show(Tryd.prog.info? 130).map (·.size)=some 2 from GX))) (vr (.bool (false)) rfl) ?_
  have hE:=Aa hE gf (Nat.le_trans (Nat.le_refl _) (by omega))
  exact⟨_,_,false,rfl,hE,ParR.none hN rfl⟩
 have ha_:=Bj (show 1≤b.length by omega) hgl
 have jk:=ha_.1
 have hak:=ha_.2.1
 have ds:=ha_.2.2
 clear ha_
 have hR:BC b=DT b f n (1+k):=by unfold BC;rw[hgl,hf];rfl
 by_cases q80:(b.getD 0 0).toNat=80
 ·by_cases qz3:f<1+k
  ·have hN:BC b=none:=by rw[hR];unfold DT;exact if_neg (fun h=>by omega)
   refine gS (Yk.sliceLo (xs:=b) (l:=(b.length)-(36)) EX M4 rfl (hr.keep hE) rfl (by omega) fun gg dt ha52=>(gS (Yk.callA1 Dp rfl (((show Calls _ _ _ _ (fun e t=>e = .returned (NI f)∧Ext _ t)from by rw[hf];exact Cq _ gg (b.drop ((b.length)-(36))) dt (by rw[List.length_drop];omega))).mono ?_))))
   rintro e jl ⟨rfl,du⟩
   refine⟨_,rfl,?_⟩
   have hE:=hE.trans du
   refine gS (Yk.callA2 GU rfl rfl (((show Calls _ _ _ _ (fun e t=>e = .returned (.tuple #[NI n,NI (1+k),NI 0])∧Ext _ t)from by have h:=BH _ v (b) (hr.keep hE) (1) (by omega) (by omega);rw[hgl]at h;exact h)).mono ?_))
   rintro e jm ⟨rfl,dv⟩
   refine⟨_,rfl,?_⟩
   have hE:=hE.trans dv
   refine gS (Yk.extract (vs:= [NI n,NI (1+k),NI 0]) rfl rfl (gS (Yk.extract (vs:= [NI n,NI (1+k),NI 0]) rfl rfl (gS (Yk.extract (vs:= [NI n,NI (1+k),NI 0]) rfl rfl (gS (Yk.atRB (l:=b) (i:=0) EX M4 (RB.of (hr.keep hE) rfl) rfl (by omega) fun jn dw=>(gS (Yk.loadC u5 rfl (PCell.of dw rfl) (gS (Yk.eqI (a:=((b.getD (0) 0).toNat:Nat)) (b:=(80:Nat)) rfl rfl (AF _ _ _ _) (kF (fun h=>h q80) (gS (Yk.eqI (a:=(0:Nat)) (b:=(0:Nat)) rfl rfl (AF _ _ _ _) (kF (by decide) (gS (Yk.pickF rfl rfl (gS (Yk.eqI (a:=(f:Nat)) (b:=(1+k:Nat)) rfl rfl (Ah _ _ _ _) (kT (qz3) (gS (Yk.pickF rfl rfl (gS (Yk.pickT rfl rfl (gS (Yk.pickT rfl rfl (gS (Yk.pickT rfl rfl ?_))))))))))))))))))))))))))))
   clear dw
   have hZ3:=du.trans dv
   have g:=eb hZ3 g
   refine cT rfl (gS (Yk.run (v:= .agg ([(Value.slice none 0 0),(Value.slice none 0 0)]).toArray) (by kernel_rfl) (gS (Yk.storeAll (vr (PQ n2 0) rfl) (vr (.agg ([(Value.slice none 0 0),(Value.slice none 0 0)]).toArray) rfl) g (rfl) ((show(Tryd.prog.info? 130).map (·.size)=some 2 from GX)) (by decide) fun jo dx gh jp=> ?_))))
   clear dt
   clear g
   have g:=dx;clear dx
   have jq:=bl g
   refine E8 rfl (ResF.row rfl g (HU).choose_spec rfl ((show(Tryd.prog.info? 130).map (·.size)=some 2 from GX))) (vr (.bool (false)) rfl) ?_
   have hE:=Aa hE gh (Nat.le_trans (Nat.le_refl _) (by omega))
   exact⟨_,_,false,rfl,hE,ParR.none hN rfl⟩
  by_cases qz4:b.length-36<f
  ·have hN:BC b=none:=by rw[hR];unfold DT;exact if_neg (fun h=>by omega)
   refine gS (Yk.sliceLo (xs:=b) (l:=(b.length)-(36)) EX M4 rfl (hr.keep hE) rfl (by omega) fun gi dy ha71=>(gS (Yk.callA1 Dp rfl (((show Calls _ _ _ _ (fun e t=>e = .returned (NI f)∧Ext _ t)from by rw[hf];exact Cq _ gi (b.drop ((b.length)-(36))) dy (by rw[List.length_drop];omega))).mono ?_))))
   rintro e jr ⟨rfl,dz⟩
   refine⟨_,rfl,?_⟩
   have hE:=hE.trans dz
   refine gS (Yk.callA2 GU rfl rfl (((show Calls _ _ _ _ (fun e t=>e = .returned (.tuple #[NI n,NI (1+k),NI 0])∧Ext _ t)from by have h:=BH _ v (b) (hr.keep hE) (1) (by omega) (by omega);rw[hgl]at h;exact h)).mono ?_))
   rintro e js ⟨rfl,d0⟩
   refine⟨_,rfl,?_⟩
   have hE:=hE.trans d0
   refine gS (Yk.extract (vs:= [NI n,NI (1+k),NI 0]) rfl rfl (gS (Yk.extract (vs:= [NI n,NI (1+k),NI 0]) rfl rfl (gS (Yk.extract (vs:= [NI n,NI (1+k),NI 0]) rfl rfl (gS (Yk.atRB (l:=b) (i:=0) EX M4 (RB.of (hr.keep hE) rfl) rfl (by omega) fun jt d1=>(gS (Yk.loadC u5 rfl (PCell.of d1 rfl) (gS (Yk.eqI (a:=((b.getD (0) 0).toNat:Nat)) (b:=(80:Nat)) rfl rfl (AF _ _ _ _) (kF (fun h=>h q80) (gS (Yk.eqI (a:=(0:Nat)) (b:=(0:Nat)) rfl rfl (AF _ _ _ _) (kF (by decide) (gS (Yk.pickF rfl rfl (gS (Yk.eqI (a:=(f:Nat)) (b:=(1+k:Nat)) rfl rfl (Ah _ _ _ _) (kF (qz3) (gS (Yk.pickF rfl rfl (gS (Yk.eqI (a:=(f:Nat)) (b:=((b.length)-(36):Nat)) rfl rfl (Av _ _ _ _) (kT (qz4) (gS (Yk.pickF rfl rfl (gS (Yk.pickT rfl rfl (gS (Yk.pickT rfl rfl ?_)))))))))))))))))))))))))))))))
   clear d1
   have hZ4:=dz.trans d0
   have g:=eb hZ4 g
   refine cT rfl (gS (Yk.run (v:= .agg ([(Value.slice none 0 0),(Value.slice none 0 0)]).toArray) (by kernel_rfl) (gS (Yk.storeAll (vr (PQ n2 0) rfl) (vr (.agg ([(Value.slice none 0 0),(Value.slice none 0 0)]).toArray) rfl) g (rfl) ((show(Tryd.prog.info? 130).map (·.size)=some 2 from GX)) (by decide) fun ju d2 gj jv=> ?_))))
   clear dy
   clear g
   have g:=d2;clear d2
   have jw:=bl g
   refine E8 rfl (ResF.row rfl g (HU).choose_spec rfl ((show(Tryd.prog.info? 130).map (·.size)=some 2 from GX))) (vr (.bool (false)) rfl) ?_
   have hE:=Aa hE gj (Nat.le_trans (Nat.le_refl _) (by omega))
   exact⟨_,_,false,rfl,hE,ParR.none hN rfl⟩
  by_cases qz5:b.length-36<n
  ·have hN:BC b=none:=by rw[hR];unfold DT;exact if_neg (fun h=>by omega)
   refine gS (Yk.sliceLo (xs:=b) (l:=(b.length)-(36)) EX M4 rfl (hr.keep hE) rfl (by omega) fun gk d3 ha90=>(gS (Yk.callA1 Dp rfl (((show Calls _ _ _ _ (fun e t=>e = .returned (NI f)∧Ext _ t)from by rw[hf];exact Cq _ gk (b.drop ((b.length)-(36))) d3 (by rw[List.length_drop];omega))).mono ?_))))
   rintro e jx ⟨rfl,d4⟩
   refine⟨_,rfl,?_⟩
   have hE:=hE.trans d4
   refine gS (Yk.callA2 GU rfl rfl (((show Calls _ _ _ _ (fun e t=>e = .returned (.tuple #[NI n,NI (1+k),NI 0])∧Ext _ t)from by have h:=BH _ v (b) (hr.keep hE) (1) (by omega) (by omega);rw[hgl]at h;exact h)).mono ?_))
   rintro e jy ⟨rfl,d5⟩
   refine⟨_,rfl,?_⟩
   have hE:=hE.trans d5
   refine gS (Yk.extract (vs:= [NI n,NI (1+k),NI 0]) rfl rfl (gS (Yk.extract (vs:= [NI n,NI (1+k),NI 0]) rfl rfl (gS (Yk.extract (vs:= [NI n,NI (1+k),NI 0]) rfl rfl (gS (Yk.atRB (l:=b) (i:=0) EX M4 (RB.of (hr.keep hE) rfl) rfl (by omega) fun jz d6=>(gS (Yk.loadC u5 rfl (PCell.of d6 rfl) (gS (Yk.eqI (a:=((b.getD (0) 0).toNat:Nat)) (b:=(80:Nat)) rfl rfl (AF _ _ _ _) (kF (fun h=>h q80) (gS (Yk.eqI (a:=(0:Nat)) (b:=(0:Nat)) rfl rfl (AF _ _ _ _) (kF (by decide) (gS (Yk.pickF rfl rfl (gS (Yk.eqI (a:=(f:Nat)) (b:=(1+k:Nat)) rfl rfl (Ah _ _ _ _) (kF (qz3) (gS (Yk.pickF rfl rfl (gS (Yk.eqI (a:=(f:Nat)) (b:=((b.length)-(36):Nat)) rfl rfl (Av _ _ _ _) (kF (qz4) (gS (Yk.pickF rfl rfl (gS (Yk.eqI (a:=(n:Nat)) (b:=((b.length)-(36):Nat)) rfl rfl (Av _ _ _ _) (kT (qz5) (gS (Yk.pickF rfl rfl (gS (Yk.pickT rfl rfl ?_))))))))))))))))))))))))))))))))))
   clear d6
   have hZ5:=d4.trans d5
   have g:=eb hZ5 g
   refine cT rfl (gS (Yk.run (v:= .agg ([(Value.slice none 0 0),(Value.slice none 0 0)]).toArray) (by kernel_rfl) (gS (Yk.storeAll (vr (PQ n2 0) rfl) (vr (.agg ([(Value.slice none 0 0),(Value.slice none 0 0)]).toArray) rfl) g (rfl) ((show(Tryd.prog.info? 130).map (·.size)=some 2 from GX)) (by decide) fun j0 d7 gl j1=> ?_))))
   clear d3
   clear g
   have g:=d7;clear d7
   have j2:=bl g
   refine E8 rfl (ResF.row rfl g (HU).choose_spec rfl ((show(Tryd.prog.info? 130).map (·.size)=some 2 from GX))) (vr (.bool (false)) rfl) ?_
   have hE:=Aa hE gl (Nat.le_trans (Nat.le_refl _) (by omega))
   exact⟨_,_,false,rfl,hE,ParR.none hN rfl⟩
  by_cases qz6:b.length-36-f=1024+36*n
  ·have hR2:BC b=FI b n (1+k) f:=by rw[hR];unfold DT;rw[if_pos ⟨UInt8.toNat_inj.1 (by rw[q80];rfl),by omega,by omega,by omega⟩,if_pos qz6]
   refine gS (Yk.sliceLo (xs:=b) (l:=(b.length)-(36)) EX M4 rfl (hr.keep hE) rfl (by omega) fun gm d8 ha109=>(gS (Yk.callA1 Dp rfl (((show Calls _ _ _ _ (fun e t=>e = .returned (NI f)∧Ext _ t)from by rw[hf];exact Cq _ gm (b.drop ((b.length)-(36))) d8 (by rw[List.length_drop];omega))).mono ?_))))
   rintro e j3 ⟨rfl,c3⟩
   refine⟨_,rfl,?_⟩
   have hE:=hE.trans c3
   refine gS (Yk.callA2 GU rfl rfl (((show Calls _ _ _ _ (fun e t=>e = .returned (.tuple #[NI n,NI (1+k),NI 0])∧Ext _ t)from by have h:=BH _ v (b) (hr.keep hE) (1) (by omega) (by omega);rw[hgl]at h;exact h)).mono ?_))
   rintro e j4 ⟨rfl,c4⟩
   refine⟨_,rfl,?_⟩
   have hE:=hE.trans c4
   refine gS (Yk.extract (vs:= [NI n,NI (1+k),NI 0]) rfl rfl (gS (Yk.extract (vs:= [NI n,NI (1+k),NI 0]) rfl rfl (gS (Yk.extract (vs:= [NI n,NI (1+k),NI 0]) rfl rfl (gS (Yk.atRB (l:=b) (i:=0) EX M4 (RB.of (hr.keep hE) rfl) rfl (by omega) fun j5 d9=>(gS (Yk.loadC u5 rfl (PCell.of d9 rfl) (gS (Yk.eqI (a:=((b.getD (0) 0).toNat:Nat)) (b:=(80:Nat)) rfl rfl (AF _ _ _ _) (kF (fun h=>h q80) (gS (Yk.eqI (a:=(0:Nat)) (b:=(0:Nat)) rfl rfl (AF _ _ _ _) (kF (by decide) (gS (Yk.pickF rfl rfl (gS (Yk.eqI (a:=(f:Nat)) (b:=(1+k:Nat)) rfl rfl (Ah _ _ _ _) (kF (qz3) (gS (Yk.pickF rfl rfl (gS (Yk.eqI (a:=(f:Nat)) (b:=((b.length)-(36):Nat)) rfl rfl (Av _ _ _ _) (kF (qz4) (gS (Yk.pickF rfl rfl (gS (Yk.eqI (a:=(n:Nat)) (b:=((b.length)-(36):Nat)) rfl rfl (Av _ _ _ _) (kF (qz5) (gS (Yk.pickF rfl rfl (gS (Yk.bin (xv:=NI ((b.length)-(36))) (yv:=NI f) rfl rfl rfl (Ay _ _ _ (by omega) (by omega)) (gS (Yk.bin (xv:=NI 36) (yv:=NI n) rfl rfl rfl (A0 _ _ _ (by omega)) ?_))))))))))))))))))))))))))))))))))))
   refine gS (Yk.bin (xv:=NI 1024) (yv:=NI ((36)*(n))) rfl rfl rfl (Ac _ _ _ (by omega)) (gS (Yk.eqI (a:=(((b.length)-(36))-(f):Nat)) (b:=((1024)+((36)*(n)):Nat)) rfl rfl (AF _ _ _ _) (kF (fun h=>h qz6) (gS (Yk.pickF rfl rfl ?_))))))
   clear d9
   refine cF rfl (gS (Yk.callA4 Qz rfl rfl rfl rfl ((Jx _ v b (hr.keep hE) n (1+k) f (by omega) (by omega) (by omega) (by omega)).mono ?_)))
   rintro e ab ⟨b5,ce,rfl,cd,hEn⟩
   refine⟨_,rfl,?_⟩
   refine gS (Yk.extract (vs:= [b5, .bool (ce)]) rfl rfl (gS (Yk.extract (vs:= [b5, .bool (ce)]) rfl rfl ?_)))
   rcases hEn with ⟨rfl,hen⟩ | ⟨rfl,xs,hen,hxs,hok⟩
   ·have hN:BC b=none:=by rw[hR2];unfold FI;rw[hen];rfl
    have hZ6:=(c3.trans c4).trans cd
    have g:=eb hZ6 g
    refine gS (Yk.notB rfl (cT rfl (gS (Yk.run (v:= .agg ([(Value.slice none 0 0),(Value.slice none 0 0)]).toArray) (by kernel_rfl) (gS (Yk.storeAll (vr (PQ n2 0) rfl) (vr (.agg ([(Value.slice none 0 0),(Value.slice none 0 0)]).toArray) rfl) g (rfl) ((show(Tryd.prog.info? 130).map (·.size)=some 2 from GX)) (by decide) fun j6 ea gn j7=> ?_))))))
    clear d8
    clear g
    have g:=ea;clear ea
    have j8:=bl g
    refine E8 rfl (ResF.row rfl g (HU).choose_spec rfl ((show(Tryd.prog.info? 130).map (·.size)=some 2 from GX))) (vr (.bool (false)) rfl) ?_
    have hE:=hE.trans cd
    have hE:=Aa hE gn (Nat.le_trans (Nat.le_refl _) (by omega))
    exact⟨_,_,false,rfl,hE,ParR.none hN rfl⟩
   have hR3:BC b=Ee b f n (xs.map Prod.fst):=by rw[hR2];unfold FI;rw[hen];rfl
   have hxl:xs.length=n:=by have:=(DQ hen (by omega)).1;rwa [List.length_map]at this
   refine Exists.elim (show ∃T,T=(b.drop (f+1024)).take (b.length-36-(f+1024))from⟨_,rfl⟩) fun T hT=>(gS (Yk.notB rfl (cF rfl (gS (Yk.alloc Kk fun ag cf go ec c5 j9=> ?_)))))
   have o:=Ext.refl ab
   have hE:=hE.trans cd
   have be:=hE.size
   have hZ7:=(c3.trans c4).trans cd
   have g:=eb hZ7 g
   have ka:=Aw (bl g) go
   have ed:=ec;clear ec
   have kc:ag<cf.heap.size:=by omega
   have hE:=hE.trans c5
   have o:=o.trans c5
   have kd:=hE.size
   have ke:=o.size
   have hri0:OG ab.heap.size 38 32 Lib.byteCells cf (Value.slice none 0 0) ([]:List Bs):=OG.nil _ _ _ _ _
   have gp:Value.ownBlock (Value.slice none 0 0)≠some n2:=fun h=>by cases h
   have gq:Value.ownBlock (Value.slice none 0 0)≠some ag:=fun h=>by cases h
   have hre0:OG ab.heap.size 151 35 entC cf (Value.slice (none) 0 0) ([]:List Ad):=OG.nil _ _ _ _ _
   have gr:Value.ownBlock (Value.slice (none) 0 0)≠some n2:=fun h=>by cases h
   have gs:Value.ownBlock (Value.slice (none) 0 0)≠some ag:=fun h=>by cases h
   have gt:Am (Value.slice (none) 0 0) (Value.slice none 0 0):=fun k h=>by cases h
   have gu:Am (Value.slice none 0 0) (Value.slice (none) 0 0):=fun k _ h=>by cases h
   have hrp0:OG ab.heap.size 3 1 Dz cf (Value.slice none 0 (0)) ([]:List Nat):=OG.nil _ _ _ _ _
   have gv:Value.ownBlock (Value.slice none 0 (0))≠some n2:=fun h=>by cases h
   have gw:Value.ownBlock (Value.slice none 0 (0))≠some ag:=fun h=>by cases h
   have gx:Am (Value.slice none 0 (0)) (Value.slice none 0 0):=fun k h=>by cases h
   have gy:Am (Value.slice none 0 0) (Value.slice none 0 (0)):=fun k _ h=>by cases h
   have gz:Am (Value.slice none 0 (0)) (Value.slice (none) 0 0):=fun k h=>by cases h
   have g0:Am (Value.slice (none) 0 0) (Value.slice none 0 (0)):=fun k _ h=>by cases h
   have g:=eb c5 g
   refine gL (fun(ρ:Ae) (wz:World)=>∃i:Nat,∃s:B2,∃qs:List Ad,∃vi:Value,∃ve:Value,∃vq:Value,ρ 0=(v:Value)∧ρ 2=(PQ n2 0:Value)∧ρ 4=(NI ((b.length)-(36)):Value)∧ρ 5=(NI f:Value)∧ρ 6=(NI n:Value)∧ρ 7=(NI (1+k):Value)∧ρ 8=(NI 0:Value)∧ρ 9=(b5:Value)∧ρ 10=(.bool (true):Value)∧ρ 11=(PQ ag 0:Value)∧ρ 67=(.bool (false):Value)∧ρ 78=(.bool (false):Value)∧ρ 13=(NI i:Value)∧ρ 12=(vq:Value)∧Ext w wz∧wz.heap[n2]? =some (.cells ([(Value.slice none 0 0),(Value.slice none 0 0)]).toArray 130 (0,0))∧Ext ab wz∧OG ab.heap.size 38 32 (Lib.byteCells) wz vi (s.ids)∧OG ab.heap.size 151 35 (entC) wz ve (qs)∧OG ab.heap.size 3 1 (Dz) wz vq (s.pl)∧wz.heap[ag]? =some (.cells ([vi,ve]).toArray 130 (0,0))∧(D7 T (xs.map Prod.fst) i=some s)∧(i≤n)∧(qs.map Prod.fst=s.en)∧(∀y∈qs,y∈xs)∧(OB vi n2)∧(OB vi ag)∧(Am vi ve)∧(Am vi vq)∧(OB ve n2)∧(OB ve ag)∧(Am ve vi)∧(Am ve vq)∧(OB vq n2)∧(OB vq ag)∧(Am vq vi)∧(Am vq ve)∧True) (fun ρ _=>n-(intOf (ρ 13)).toNat) ⟨0,⟨[],[],[]⟩,[],(Value.slice none 0 0),(Value.slice (none) 0 0),(Value.slice none 0 (0)),rfl,rfl,rfl,rfl,rfl,rfl,rfl,rfl,rfl,rfl,rfl,rfl,rfl,rfl,hE,g,o,Bo hri0 (rfl),Bo hre0 (rfl),Bo hrp0 (rfl),ed,rfl,Nat.zero_le _,rfl,(fun y hy=>by cases hy),gp,gq,gu,gy,gr,gs,gt,g0,gv,gw,gx,gz,trivial⟩ ?_
   clear ed
   clear hri0
   clear hre0
   clear hrp0
   clear hE g
   rintro ee kf ⟨i,s,qs,vi,ve,vq,T0,T2,T4,T5,T6,T7,T8,T9,av,z,aw,ax,af,ac,hE,g,o,hr_vi,hr_ve,hr_vq,hb144l,hs,hil,hys,hym,hap_vi_n2,hap_vi_n134,hap_vi_ve,hap_vi_vq,hap_ve_n2,hap_ve_n134,hap_ve_vi,hap_ve_vq,hap_vq_n2,hap_vq_n134,hap_vq_vi,hap_vq_ve,-⟩
   have q13:=af
   by_cases hlt:i<n
   ·refine Exists.elim (rx_rel hs) fun xx hRx=> ?_
    have hli:=hRx.li
    have hlp:=hRx.lp
    have hle:=hRx.le
    have hyl:qs.length=i:=by rw[←hle,←hys,List.length_map]
    have ha_:=RH (i:=i) (T:=T) (b:=b) (f:=f) (n:=n) (by omega) hT hlt
    have hgid:=ha_.1
    have hnum:=ha_.2.1
    have ap:=ha_.2.2
    clear ha_
    refine Exists.elim (show ∃r,r=AX T i from⟨_,rfl⟩) fun r hrw=>(Exists.elim (show ∃p,p=Bh T i from⟨_,rfl⟩) fun p hpw=> ?_)
    rw[←hrw]at hgid ap
    rw[←hpw]at hnum
    refine gS (Yk.eqI (a:=(i:Nat)) (b:=(n:Nat)) af T6 (Ah _ _ _ _) (kT (hlt) (cT rfl (gS (Yk.bin (xv:=NI f) (yv:=NI 1024) T5 rfl rfl (Ac _ _ _ (by omega)) (gS (Yk.bin (xv:=NI 36) (yv:=NI i) rfl af rfl (A0 _ _ _ (by omega)) (gS (Yk.bin (xv:=NI ((f)+(1024))) (yv:=NI ((36)*(i))) rfl rfl rfl (Ac _ _ _ (by omega)) (gS (Yk.sliceLo (xs:=b) (l:=((f)+(1024))+((36)*(i))) EX M4 T0 (hr.keep hE) rfl (by omega) fun c6 cg ha174=>(gS (Yk.callA2 II rfl rfl (((show Calls _ _ _ _ (fun e t=>e = .returned (.tuple #[AB r,NI 32,NI 0])∧Ext _ t)from by have h:=EJ _ c6 (b.drop (((f)+(1024))+((36)*(i)))) cg 0 (by omega) (by rw[List.length_drop];omega);rw[hgid]at h;exact h)).mono ?_))))))))))))))
    rintro e c7 ⟨rfl,bt⟩
    refine⟨_,rfl,?_⟩
    refine gS (Yk.extract (vs:= [AB (r),NI 32,NI 0]) rfl rfl (gS (Yk.extract (vs:= [AB (r),NI 32,NI 0]) rfl rfl (gS (Yk.extract (vs:= [AB (r),NI 32,NI 0]) rfl rfl (gS (Yk.alloc PP fun bn g1 ef eg bu kg=> ?_)))))))
    have aj:=Ext.refl c7
    have hE:=hE.trans bt
    have o:=o.trans bt
    have g2:=hE.size
    have g3:=o.size
    have g:=eb bt g
    have kh:=Aw (bl g) ef
    have hb144l:=eb bt hb144l
    have ki:=Aw (bl hb144l) ef
    have hr_vi:=hr_vi.keep bt
    have c8:OB vi bn:=AQ hr_vi.2 (by omega)
    have hr_ve:=hr_ve.keep bt
    have c9:OB ve bn:=AQ hr_ve.2 (by omega)
    have hr_vq:=hr_vq.keep bt
    have da:OB vq bn:=AQ hr_vq.2 (by omega)
    have q:=eg;clear eg
    have kj:bn<g1.heap.size:=by omega
    refine gS (Yk.storeAll (vr (PQ bn 0) rfl) (vr (AB (r)) rfl) q (by exact BQ ap List.length_replicate) (by exact Ag ap) (Ai _) fun kk eh bv kl=> ?_)
    clear q
    have q:=eh;clear eh
    have km:=bl q
    have cg:=cg.keep bt
    have aj:=aj.trans bu
    have aj:=Aa aj bv (Nat.le_trans (Nat.le_refl _) (by omega))
    refine gS (Yk.sliceLo (xs:=b.drop (((f)+(1024))+((36)*(i)))) (l:=32) EX M4 rfl (cg.keep aj) rfl (by rw[List.length_drop];omega) fun db am ha204=>(gS (Yk.callA1 Dp rfl (((show Calls _ _ _ _ (fun e t=>e = .returned (NI p)∧Ext _ t)from by have h:=Cq _ db ((b.drop (((f)+(1024))+((36)*(i))):List UInt8).drop (32)) am (by rw[List.length_drop,List.length_drop];omega);rw[hnum]at h;exact h)).mono ?_))))
    rintro e kn ⟨rfl,bf⟩
    refine⟨_,rfl,?_⟩
    have hE:=hE.trans bu
    have hE:=Aa hE bv (Nat.le_trans g2 (by omega))
    have hE:=hE.trans bf
    have g:=eb bu g
    have g:=kb bv g (by omega)
    have g:=eb bf g
    have o:=o.trans bu
    have o:=Aa o bv (Nat.le_trans g3 (by omega))
    have o:=o.trans bf
    have hr_vi:=hr_vi.keep bu
    have hr_vi:=OG.kept hr_vi bv c8
    have hr_vi:=hr_vi.keep bf
    have hr_ve:=hr_ve.keep bu
    have hr_ve:=OG.kept hr_ve bv c9
    have hr_ve:=hr_ve.keep bf
    have hr_vq:=hr_vq.keep bu
    have hr_vq:=OG.kept hr_vq bv da
    have hr_vq:=hr_vq.keep bf
    have hb144l:=eb bu hb144l
    have hb144l:=kb bv hb144l (by omega)
    have hb144l:=eb bf hb144l
    have aj:=aj.trans bf
    have q:=eb bf q
    have am:=am.keep bf
    refine gL (fun(ρ:Ae) (wz:World)=>∃k1:Nat,ρ 0=(v:Value)∧ρ 2=(PQ n2 0:Value)∧ρ 4=(NI ((b.length)-(36)):Value)∧ρ 5=(NI f:Value)∧ρ 6=(NI n:Value)∧ρ 7=(NI (1+k):Value)∧ρ 8=(NI 0:Value)∧ρ 9=(b5:Value)∧ρ 10=(.bool (true):Value)∧ρ 11=(PQ ag 0:Value)∧ρ 12=(vq:Value)∧ρ 13=(NI i:Value)∧ρ 14=(c6:Value)∧ρ 15=(PQ bn 0:Value)∧ρ 18=(NI p:Value)∧ρ 67=(.bool (false):Value)∧ρ 78=(.bool (false):Value)∧ρ 82=(.bool (true):Value)∧ρ 20=(NI k1:Value)∧ρ 19=(.int .i64 (B1 (xs.map Prod.fst) p k1:Int):Value)∧Ext w wz∧wz.heap[n2]? =some (.cells ([(Value.slice none 0 0),(Value.slice none 0 0)]).toArray 130 (0,0))∧Ext ab wz∧OG ab.heap.size 38 32 (Lib.byteCells) wz vi (s.ids)∧OG ab.heap.size 151 35 (entC) wz ve (qs)∧OG ab.heap.size 3 1 (Dz) wz vq (s.pl)∧wz.heap[ag]? =some (.cells ([vi,ve]).toArray 130 (0,0))∧Ext c7 wz∧wz.heap[bn]? =some (.cells (Lib.byteCells (r)).toArray 38 (0,0))∧RB wz db ((b.drop (((f)+(1024))+((36)*(i))):List UInt8).drop (32))∧(k1≤xs.length)∧True) (fun ρ _=>xs.length-(intOf (ρ 20)).toNat) ⟨0,T0,T2,T4,T5,T6,T7,T8,T9,av,z,ac,af,rfl,rfl,rfl,aw,ax,rfl,rfl,rfl,hE,g,o,hr_vi,hr_ve,hr_vq,hb144l,aj,q,am,Nat.zero_le _,trivial⟩ ?_
    clear hE g o hr_vi hr_ve hr_vq hb144l q am
    rintro ei ko ⟨k1,T0,T2,T4,T5,T6,T7,T8,T9,av,z,ac,af,b6,bg,a5,aw,ax,bo,ay,bh,hE,g,o,hr_vi,hr_ve,hr_vq,hb144l,aj,q,am,hk,-⟩
    have q20:=ay
    by_cases ad:k1<xs.length
    ·have hq20:=ay
     by_cases q1:(xs.getD (k1) dEnt).1.pos=p
     ·refine gS (Yk.lenRG F3 (RG.of (hxs.keep o) T9) (gS (Yk.eqI (a:=(k1:Nat)) (b:=(xs.length:Nat)) ay rfl (Ah _ _ _ _) (kT (ad) (cT rfl ?_)))))
      have kp:(entC (xs.getD (k1) dEnt)).length=35:=(RG.elem (hxs.keep o) dEnt (ad))
      refine gS (Yk.atRG F3 Do (by decide) dEnt (RG.of (hxs.keep o) T9) ay (ad) fun kq ej=>(gS (Yk.fieldPR (n:=1) Il (PR.of ej rfl) fun kr el=>(gS (Yk.loadC PJ rfl (PR.cell (PR.of el rfl) rfl) (gS (Yk.eqI (a:=((xs.getD (k1) dEnt).1.pos:Nat)) (b:=(p:Nat)) rfl a5 (AO _ _ _ _) (kT (q1) ?_))))))))
      clear ej
      clear el
      refine cT rfl (gS (Yk.bin (xv:=NI k1) (yv:=NI 1) ay rfl rfl (Ac _ _ _ (by omega)) (gK (And.intro ⟨k1+1,T0,T2,T4,T5,T6,T7,T8,T9,av,z,ac,af,b6,bg,a5,aw,ax,bo,rfl,hq20.trans (congrArg (Value.int .i64) (NM (by rw[DU];exact q1)).symm),hE,g,o,hr_vi,hr_ve,hr_vq,hb144l,aj,q,am,by omega,trivial⟩ ?_))))
      show xs.length-(intOf (NI ((k1)+(1)))).toNat<xs.length-(intOf (ei 20)).toNat
      rw[q20]
      simp only[intOf,Int.toNat_natCast];omega
     refine gS (Yk.lenRG F3 (RG.of (hxs.keep o) T9) (gS (Yk.eqI (a:=(k1:Nat)) (b:=(xs.length:Nat)) ay rfl (Ah _ _ _ _) (kT (ad) (cT rfl ?_)))))
     have ks:(entC (xs.getD (k1) dEnt)).length=35:=(RG.elem (hxs.keep o) dEnt (ad))
     refine gS (Yk.atRG F3 Do (by decide) dEnt (RG.of (hxs.keep o) T9) ay (ad) fun kt em=>(gS (Yk.fieldPR (n:=1) Il (PR.of em rfl) fun ku eo=>(gS (Yk.loadC PJ rfl (PR.cell (PR.of eo rfl) rfl) (gS (Yk.eqI (a:=((xs.getD (k1) dEnt).1.pos:Nat)) (b:=(p:Nat)) rfl a5 (AO _ _ _ _) (kF (q1) ?_))))))))
     clear em
     clear eo
     refine cF rfl (gS (Yk.bin (xv:=NI k1) (yv:=NI 1) ay rfl rfl (Ac _ _ _ (by omega)) (gK (And.intro ⟨k1+1,T0,T2,T4,T5,T6,T7,T8,T9,av,z,ac,af,b6,bg,a5,aw,ax,bo,rfl,bh.trans (congrArg (Value.int .i64) (Mg (by rw[DU];exact q1)).symm),hE,g,o,hr_vi,hr_ve,hr_vq,hb144l,aj,q,am,by omega,trivial⟩ ?_))))
     show xs.length-(intOf (NI ((k1)+(1)))).toNat<xs.length-(intOf (ei 20)).toNat
     rw[q20]
     simp only[intOf,Int.toNat_natCast];omega
    have ds:k1=xs.length:=by omega
    refine gS (Yk.lenRG F3 (RG.of (hxs.keep o) T9) (gS (Yk.eqI (a:=(k1:Nat)) (b:=(xs.length:Nat)) ay rfl (Ah _ _ _ _) (kF (ad) (cF rfl (gL (fun(ρ:Ae) (wz:World)=>∃m:Nat,ρ 0=(v:Value)∧ρ 2=(PQ n2 0:Value)∧ρ 4=(NI ((b.length)-(36)):Value)∧ρ 5=(NI f:Value)∧ρ 6=(NI n:Value)∧ρ 7=(NI (1+k):Value)∧ρ 8=(NI 0:Value)∧ρ 9=(b5:Value)∧ρ 10=(.bool (true):Value)∧ρ 11=(PQ ag 0:Value)∧ρ 12=(vq:Value)∧ρ 13=(NI i:Value)∧ρ 14=(c6:Value)∧ρ 15=(PQ bn 0:Value)∧ρ 18=(NI p:Value)∧ρ 20=(NI k1:Value)∧ρ 67=(.bool (false):Value)∧ρ 78=(.bool (false):Value)∧ρ 82=(.bool (true):Value)∧ρ 104=(.bool (false):Value)∧ρ 21=(NI m:Value)∧ρ 19=(.int .i64 (Du (xs.map Prod.fst) s.pl p m:Int):Value)∧Ext w wz∧wz.heap[n2]? =some (.cells ([(Value.slice none 0 0),(Value.slice none 0 0)]).toArray 130 (0,0))∧Ext ab wz∧OG ab.heap.size 38 32 (Lib.byteCells) wz vi (s.ids)∧OG ab.heap.size 151 35 (entC) wz ve (qs)∧OG ab.heap.size 3 1 (Dz) wz vq (s.pl)∧wz.heap[ag]? =some (.cells ([vi,ve]).toArray 130 (0,0))∧Ext c7 wz∧wz.heap[bn]? =some (.cells (Lib.byteCells (r)).toArray 38 (0,0))∧RB wz db ((b.drop (((f)+(1024))+((36)*(i))):List UInt8).drop (32))∧(m≤s.pl.length)∧True) (fun ρ _=>s.pl.length-(intOf (ρ 21)).toNat) ⟨0,T0,T2,T4,T5,T6,T7,T8,T9,av,z,ac,af,b6,bg,a5,ay,aw,ax,bo,rfl,rfl,bh.trans (congrArg (Value.int .i64) (show B1 (xs.map Prod.fst) p k1=Du (xs.map Prod.fst) s.pl p 0 by rw[Mh,ds,List.length_map])),hE,g,o,hr_vi,hr_ve,hr_vq,hb144l,aj,q,am,Nat.zero_le _,trivial⟩ ?_))))))
    clear hE g o hr_vi hr_ve hr_vq hb144l aj q am
    rintro ep kv ⟨m,T0,T2,T4,T5,T6,T7,T8,T9,av,z,ac,af,b6,bg,a5,ay,aw,ax,bo,eq,bb,bh,hE,g,o,hr_vi,hr_ve,hr_vq,hb144l,aj,q,am,hm,-⟩
    have q21:=bb
    by_cases ad:m<s.pl.length
    ·by_cases q1:s.pl.getD m 0=p
     ·refine gS (Yk.lenRG JM (RG.of (RG.ofOwn hr_vq) ac) (gS (Yk.eqI (a:=(m:Nat)) (b:=((s.pl).length:Nat)) bb rfl (Ah _ _ _ _) (kT (ad) (cT rfl ?_)))))
      have kw:(Dz ((s.pl).getD (m) 0)).length=1:=(RG.elem (RG.ofOwn hr_vq) 0 (ad))
      refine gS (Yk.atRG JM Gk (by decide) 0 (RG.of (RG.ofOwn hr_vq) ac) bb (ad) fun kx er=>(gS (Yk.loadC PJ rfl (PR.cell (PR.of er rfl) rfl) (gS (Yk.eqI (a:=((s.pl).getD (m) 0:Nat)) (b:=(p:Nat)) rfl a5 (AO _ _ _ _) (kT (q1) ?_))))))
      clear er
      refine cT rfl (gS (Yk.bin (xv:=NI m) (yv:=NI 1) bb rfl rfl (Ac _ _ _ (by omega)) (gK (And.intro ⟨m+1,T0,T2,T4,T5,T6,T7,T8,T9,av,z,ac,af,b6,bg,a5,ay,aw,ax,bo,eq,rfl,(congrArg (Value.int .i64) (NN ad q1).symm),hE,g,o,hr_vi,hr_ve,hr_vq,hb144l,aj,q,am,by omega,trivial⟩ ?_))))
      show s.pl.length-(intOf (NI ((m)+(1)))).toNat<s.pl.length-(intOf (ep 21)).toNat
      rw[q21]
      simp only[intOf,Int.toNat_natCast];omega
     refine gS (Yk.lenRG JM (RG.of (RG.ofOwn hr_vq) ac) (gS (Yk.eqI (a:=(m:Nat)) (b:=((s.pl).length:Nat)) bb rfl (Ah _ _ _ _) (kT (ad) (cT rfl ?_)))))
     have ky:(Dz ((s.pl).getD (m) 0)).length=1:=(RG.elem (RG.ofOwn hr_vq) 0 (ad))
     refine gS (Yk.atRG JM Gk (by decide) 0 (RG.of (RG.ofOwn hr_vq) ac) bb (ad) fun kz et=>(gS (Yk.loadC PJ rfl (PR.cell (PR.of et rfl) rfl) (gS (Yk.eqI (a:=((s.pl).getD (m) 0:Nat)) (b:=(p:Nat)) rfl a5 (AO _ _ _ _) (kF (q1) ?_))))))
     clear et
     refine cF rfl (gS (Yk.bin (xv:=NI m) (yv:=NI 1) bb rfl rfl (Ac _ _ _ (by omega)) (gK (And.intro ⟨m+1,T0,T2,T4,T5,T6,T7,T8,T9,av,z,ac,af,b6,bg,a5,ay,aw,ax,bo,eq,rfl,bh.trans (congrArg (Value.int .i64) (Mi ad q1).symm),hE,g,o,hr_vi,hr_ve,hr_vq,hb144l,aj,q,am,by omega,trivial⟩ ?_))))
     show s.pl.length-(intOf (NI ((m)+(1)))).toNat<s.pl.length-(intOf (ep 21)).toNat
     rw[q21]
     simp only[intOf,Int.toNat_natCast];omega
    have hfq:Du (xs.map Prod.fst) s.pl p m=Cw (xs.map Prod.fst) s.pl p:=NO (by omega)
    have hstp:=Kc hs
    unfold HN at hstp
    rw[←hpw,←hrw]at hstp
    by_cases qn:Cw (xs.map Prod.fst) s.pl p<0
    ·rw[if_pos (.inl qn)]at hstp
     have hN:BC b=none:=by rw[hR3];exact Kh (by rw[←hT];exact F1 hstp n (by omega))
     refine gS (Yk.lenRG JM (RG.of (RG.ofOwn hr_vq) ac) (gS (Yk.eqI (a:=(m:Nat)) (b:=((s.pl).length:Nat)) bb rfl (Ah _ _ _ _) (kF (ad) (cF rfl (Bw [0,1,2,3,4,5,6,7,8,9,10,11,12,13,14,15,16] [13] [] fun k0 eu=> ?_))))))
     have g:=eb eu g
     refine ys (Yk.eqI bh rfl (Fa _ .i64 (Du (xs.map Prod.fst) s.pl p m:Int) ((0:Nat):Int)) zz) (kT (by rw[hfq];exact qn) (ys (Yk.pickT rfl rfl zz) (cT rfl (gS (Yk.run (v:= .agg ([(Value.slice none 0 0),(Value.slice none 0 0)]).toArray) (by kernel_rfl) (gS (Yk.storeAll T2 (vr (.agg ([(Value.slice none 0 0),(Value.slice none 0 0)]).toArray) rfl) g (rfl) ((show(Tryd.prog.info? 130).map (·.size)=some 2 from GX)) (by decide) fun k2 ew g4 k3=> ?_)))))))
     clear o
     clear aj
     clear am
     clear g
     have g:=ew;clear ew
     have k4:=bl g
     refine E8 rfl (ResF.row T2 g (HU).choose_spec rfl ((show(Tryd.prog.info? 130).map (·.size)=some 2 from GX))) (vr (.bool (false)) rfl) ?_
     have hE:=hE.trans eu
     have hE:=Aa hE g4 (Nat.le_trans (Nat.le_refl _) (by omega))
     exact⟨_,_,false,rfl,hE,ParR.none hN rfl⟩
    refine Exists.elim (show ∃fd:Nat,Cw (xs.map Prod.fst) s.pl p=(fd:Int)from⟨_,(Int.toNat_of_nonneg (by omega)).symm⟩) fun fd hfd=> ?_
    have hfl:fd<xs.length:=by have:=Ps (es:=(xs.map Prod.fst)) (pl:=s.pl) (p:=p) (by omega);rw[hfd,List.length_map]at this;simpa using this
    by_cases q0:i=0
    ·rw[if_neg (by omega)]at hstp
     have hnx:D7 T (xs.map Prod.fst) (i+1)=some (FH T (xs.map Prod.fst) i s):=hstp
     have hyn:(qs++ [xs.getD (fd) dEnt]).map Prod.fst=(FH T (xs.map Prod.fst) i s).en:=by show _=s.en++ [_];rw[List.map_append,hys,←hpw,hfd,Int.toNat_natCast,DU];rfl
     have hxo:=hok _ (getD_mem dEnt hfl)
     have hX:=hxo.2
     have hone:=AS (x:=xs.getD (fd) dEnt) (RB.one hxo.1).2
     refine gS (Yk.lenRG JM (RG.of (RG.ofOwn hr_vq) ac) (gS (Yk.eqI (a:=(m:Nat)) (b:=((s.pl).length:Nat)) bb rfl (Ah _ _ _ _) (kF (ad) (cF rfl (Bw [0,1,2,3,4,5,6,7,8,9,10,11,12,13,14,15,16] [13] [] fun k5 g5=>(ys (Yk.eqI (a:=(fd:Nat)) (b:=(0:Nat)) (vr (NI fd) (bh.trans (congrArg (Value.int .i64) (hfq.trans hfd)))) rfl (Ah _ _ _ _) zz) (kF (by omega) (ys (Yk.eqI (a:=(i:Nat)) (b:=(0:Nat)) af rfl (Av _ _ _ _) zz) (kF (by omega) (ys (Yk.pickF rfl rfl zz) (ys (Yk.pickF rfl rfl zz) (cF rfl (gS (Yk.lit1S (a:=p) (enc:=Dz) a5 rfl (fun w=>Nf _ w) fun g6 g7 ex g8=> ?_)))))))))))))))
     have hZ8:=g5.trans g8
     have o:=o.trans hZ8
     have hr_vq:=hr_vq.keep hZ8
     refine gS (Yk.appendRG _ _ ab.heap.size _ 8 JM rf8_ig3.choose_spec.1 rf8_ig3.choose_spec.2 JM (s.pl) ([p]) (OG.of hr_vq ac) (RG.of ex (vr g6 rfl)) (fun y hy u hu=>by rw[List.mem_singleton.1 hu];rfl) (by simp only[List.length_cons,List.length_nil];omega) (by simp only[List.length_cons,List.length_nil];omega) o.size fun a6 g9 an az=> ?_)
     have az:Grew g7 g9 vq a6:= .eqv ac az
     have g:=eb hZ8 g
     have ha:OB a6 n2:=An az hap_vq_n2 (bl g)
     have hb144l:=eb hZ8 hb144l
     have dc:OB a6 ag:=An az hap_vq_n134 (bl hb144l)
     have hr_vi:=hr_vi.keep hZ8
     have hc:Am a6 vi:=AJ az hap_vq_vi hr_vi.2
     have ey:Am vi a6:=fun k h1 h2=>hc k h2 h1
     have hr_ve:=hr_ve.keep hZ8
     have hd:Am a6 ve:=AJ az hap_vq_ve hr_ve.2
     have ez:Am ve a6:=fun k h1 h2=>hd k h2 h1
     have q:=eb hZ8 q
     have hE:=hE.trans hZ8
     have hE:=Af hE az hr_vq.2 be
     have g:=Ak g az hap_vq_n2
     have o:=Af o az hr_vq.2 (Nat.le_refl _)
     have hr_vi:=A4 hr_vi az hap_vq_vi
     have hr_ve:=A4 hr_ve az hap_vq_ve
     have hb144l:=Ak hb144l az hap_vq_n134
     clear aj
     have q:=Ak q az da
     clear am
     clear ex
     clear hr_vq
     refine gS (Yk.fieldAt Eh z (gS (Yk.cell1 Lc rfl rfl (cellAt hb144l rfl) (gS (Yk.loadAll bg q QJ rfl (by exact Ag ap) (gS (Yk.lit1G (a:=(r)) (enc:=Lib.byteCells) (vr (AB (r)) rfl) (by rw[Lib.byteCells_length];exact ap) LN fun he hg e0 bw=> ?_)))))))
     have o:=o.trans bw
     have hr_vi:=hr_vi.keep bw
     refine gS (Yk.appendRG _ _ ab.heap.size _ 32 Lc pk6_ig38.choose_spec.1 pk6_ig38.choose_spec.2 Lc (s.ids) ([(r)]) (OG.of hr_vi (vr vi rfl)) (RG.of e0 (vr he rfl)) (fun _ _=>Ai _) (by simp only[List.length_cons,List.length_nil];omega) (by simp only[List.length_cons,List.length_nil];omega) o.size fun bc hh a7 a0=> ?_)
     have a0:Grew hg hh vi bc:=a0
     have g:=eb bw g
     have hi:OB bc n2:=An a0 hap_vi_n2 (bl g)
     have hb144l:=eb bw hb144l
     have dd:OB bc ag:=An a0 hap_vi_n134 (bl hb144l)
     have hr_ve:=hr_ve.keep bw
     have hl:Am bc ve:=AJ a0 hap_vi_ve hr_ve.2
     have e1:Am ve bc:=fun k h1 h2=>hl k h2 h1
     have q:=eb bw q
     have an:=an.keep bw
     have e2:Am bc a6:=AJ a0 ey an.2
     have hn:Am a6 bc:=fun k h1 h2=>e2 k h2 h1
     have hE:=hE.trans bw
     have hE:=Af hE a0 hr_vi.2 be
     have g:=Ak g a0 hap_vi_n2
     have o:=Af o a0 hr_vi.2 (Nat.le_refl _)
     have hr_ve:=A4 hr_ve a0 hap_vi_ve
     have hb144l:=Ak hb144l a0 hap_vi_n134
     have q:=Ak q a0 c8
     have an:=A4 an a0 ey
     clear e0
     clear hr_vi
     refine gS (Yk.fieldAt Eh z (gS (Yk.storeC (i:=0) (v:=bc) rfl rfl hb144l (Nat.le_of_ble_eq_true rfl) Kl (BJ a7.2).1 (BJ a7.2).2 fun k6 e3 b2 k7=> ?_)))
     clear hb144l
     have hb144l:=e3;clear e3
     have k8:=bl hb144l
     refine DC [0,1,2,3,4,5,6,7,8,9] [6,7,9] [0] [1] fun ho bx=> ?_
     have ch:=Ext.refl ho
     have hb144l:=eb bx hb144l
     refine C3 ch ?_
     refine yp (Yk.fieldAt C8 z zz) (yf (fun _ ⟨hZ,_⟩=>Yk.cell1 F3 rfl rfl (cellAt (eb hZ hb144l) rfl) zz) ?_)
     have o:=Aa o b2 (Nat.le_trans (Nat.le_refl _) (by omega))
     have o:=o.trans bx
     have hp:(entC (xs.getD (fd) dEnt)).length=35:=(RG.elem (hxs.keep o) dEnt (hfl))
     refine yA (Yk.atRG F3 Do (by decide) dEnt (RG.of (hxs.keep o) T9) (vr (NI fd) (bh.trans (congrArg (Value.int .i64) (hfq.trans hfd)))) (hfl) fun k9 ci=>(ys (Yk.loadPR (PR.of ci rfl) (Ki).choose_spec rfl (by rw[hp];exact Dn) zz) (yE (Yk.lit1G (a:=(xs.getD (fd) dEnt)) (enc:=entC) (vr (.agg (entC (xs.getD (fd) dEnt)).toArray) rfl) ((C6 hX)) Km fun hq ht e4 bi=> ?_))))
     have ci:=PR.keep ci bi
     have ch:=ch.trans bi
     refine⟨ch,?_⟩
     have hr_ve:=OG.kept hr_ve b2 hap_ve_n134
     have hr_ve:=hr_ve.keep (bx.trans bi)
     have o:=o.trans bi
     refine yD rfl (Yk.appendRG _ _ ab.heap.size _ 72 F3 rf6_ig151.choose_spec.1 rf6_ig151.choose_spec.2 F3 (qs) ([(xs.getD (fd) dEnt)]) (OG.of hr_ve (vr ve rfl)) (RG.of e4 (vr hq rfl)) (fun y hy=>by rw[List.mem_singleton.1 hy];exact hone) (by simp only[List.length_cons,List.length_nil];omega) (by simp only[List.length_cons,List.length_nil];omega) o.size fun bp hv ca a1=> ?_)
     have a1:Grew ht hv ve bp:=a1
     have g:=kb b2 g (by omega)
     have g:=eb (bx.trans bi) g
     have hw:OB bp n2:=An a1 hap_ve_n2 (bl g)
     have hb144l:=eb bi hb144l
     have e5:OB bp ag:=An a1 hap_ve_n134 (bl hb144l)
     have q:=kb b2 q (by omega)
     have q:=eb (bx.trans bi) q
     have an:=OG.kept an b2 dc
     have an:=an.keep (bx.trans bi)
     have e6:Am bp a6:=AJ a1 ez an.2
     have hz:Am a6 bp:=fun k h1 h2=>e6 k h2 h1
     have a7:=OG.kept a7 b2 dd
     have a7:=a7.keep (bx.trans bi)
     have e7:Am bp bc:=AJ a1 e1 a7.2
     have h0:Am bc bp:=fun k h1 h2=>e7 k h2 h1
     have hE:=Aa hE b2 (Nat.le_trans be (by omega))
     have hE:=hE.trans (bx.trans bi)
     have hE:=Af hE a1 hr_ve.2 be
     have g:=Ak g a1 hap_ve_n2
     have o:=Af o a1 hr_ve.2 (Nat.le_refl _)
     have q:=Ak q a1 c9
     have an:=A4 an a1 ez
     have a7:=A4 a7 a1 e1
     have hb144l:=Ak hb144l a1 hap_ve_n134
     clear ci
     clear e4
     clear hr_ve
     refine ys (Yk.fieldAt C8 z zz) (yD rfl (Yk.storeC (i:=1) (v:=bp) rfl rfl hb144l (Nat.le_of_ble_eq_true rfl) Ji (BJ ca.2).1 (BJ ca.2).2 fun la e8 b7 lb=> ?_))
     clear hb144l
     have hb144l:=e8;clear e8
     have lc:=bl hb144l
     have hE:=Aa hE b7 (Nat.le_trans be (by omega))
     have g:=kb b7 g (by omega)
     have o:=Aa o b7 (Nat.le_trans (Nat.le_refl _) (by omega))
     have an:=OG.kept an b7 dc
     have a7:=OG.kept a7 b7 dd
     have ca:=OG.kept ca b7 e5
     refine gS (Yk.bin (xv:=NI i) (yv:=NI 1) af rfl rfl (Ac _ _ _ (by omega)) (gK (And.intro ⟨i+1,FH T (xs.map Prod.fst) i s,qs++ [xs.getD (fd) dEnt],bc,bp,a6,T0,T2,T4,T5,T6,T7,T8,T9,av,z,aw,ax,rfl,rfl,hE,g,o,Bo a7 ((show s.ids++ [r]=s.ids++ [AX T i] by rw[hrw])),Bo ca (rfl),Bo an ((show s.pl++ [p]=s.pl++ [Bh T i] by rw[hpw])),hb144l,hnx,by omega,hyn,Kg hym hfl,hi,dd,h0,e2,hw,e5,e7,e6,ha,dc,hn,hz,trivial⟩ ?_)))
     show n-(intOf (NI ((i)+(1)))).toNat<n-(intOf (ee 13)).toNat
     rw[q13]
     simp only[intOf,Int.toNat_natCast];omega
    have hq32:(s.ids.getD (i-1) []).length=32:=As (RG.elem (RG.ofOwn hr_vi) [] (by omega))
    by_cases qc:0≤Lib.compareBytes (s.ids.getD (i-1) []) r
    ·rw[if_pos (.inr ⟨by omega,qc⟩)]at hstp
     have hN:BC b=none:=by rw[hR3];exact Kh (by rw[←hT];exact F1 hstp n (by omega))
     refine gS (Yk.lenRG JM (RG.of (RG.ofOwn hr_vq) ac) (gS (Yk.eqI (a:=(m:Nat)) (b:=((s.pl).length:Nat)) bb rfl (Ah _ _ _ _) (kF (ad) (cF rfl (Bw [0,1,2,3,4,5,6,7,8,9,10,11,12,13,14,15,16] [13] [] fun ld cj=> ?_))))))
     have hb144l:=eb cj hb144l
     refine ys (Yk.eqI (a:=(fd:Nat)) (b:=(0:Nat)) (vr (NI fd) (bh.trans (congrArg (Value.int .i64) (hfq.trans hfd)))) rfl (Ah _ _ _ _) zz) (kF (by omega) (ys (Yk.eqI (a:=(i:Nat)) (b:=(0:Nat)) af rfl (Av _ _ _ _) zz) (kT (by omega) (ys (Yk.fieldAt Eh z zz) (ys (Yk.cell1 Lc rfl rfl (cellAt hb144l rfl) zz) (ys (Yk.bin (xv:=NI i) (yv:=NI 1) af rfl rfl (Ay _ _ _ (by omega) (by omega)) zz) ?_))))))
     have hr_vi:=hr_vi.keep cj
     have e9:(Lib.byteCells ((s.ids).getD ((i)-(1)) ([]:List UInt8))).length=32:=(RG.elem (RG.ofOwn hr_vi) ([]:List UInt8) (by omega))
     have q:=eb cj q
     refine yA (Yk.atRG Lc Og (by decide) ([]:List UInt8) (RG.of (RG.ofOwn hr_vi) rfl) rfl (by omega) fun lf ck=>(ys (Yk.loadPR (PR.of ck rfl) QJ rfl (by rw[e9];exact N2) zz) (ys (Yk.loadAll bg q QJ rfl (by exact Ag ap) zz) (yC (Yk.callA2 LF rfl rfl ((D4 _ ((s.ids).getD ((i)-(1)) ([]:List UInt8)) (r) (As (e9)) ap).mono ?_))))))
     rintro e lg ⟨rfl,fa⟩
     refine⟨_,rfl,?_⟩
     have ck:=PR.keep ck fa
     refine ys (Yk.eqI rfl rfl (Gy _ .i64 (Lib.compareBytes ((s.ids).getD ((i)-(1)) ([]:List UInt8)) (r):Int) ((0:Nat):Int)) zz) (kT (qc) (ys (Yk.pickT rfl rfl zz) (ys (Yk.pickF rfl rfl zz) ?_)))
     clear ck
     have hZ9:=cj.trans fa
     have g:=eb hZ9 g
     refine cT rfl (gS (Yk.run (v:= .agg ([(Value.slice none 0 0),(Value.slice none 0 0)]).toArray) (by kernel_rfl) (gS (Yk.storeAll T2 (vr (.agg ([(Value.slice none 0 0),(Value.slice none 0 0)]).toArray) rfl) g (rfl) ((show(Tryd.prog.info? 130).map (·.size)=some 2 from GX)) (by decide) fun lh fb h3 lj=> ?_))))
     clear o
     clear aj
     clear am
     clear g
     have g:=fb;clear fb
     have lk:=bl g
     refine E8 rfl (ResF.row T2 g (HU).choose_spec rfl ((show(Tryd.prog.info? 130).map (·.size)=some 2 from GX))) (vr (.bool (false)) rfl) ?_
     have hE:=hE.trans hZ9
     have hE:=Aa hE h3 (Nat.le_trans (Nat.le_refl _) (by omega))
     exact⟨_,_,false,rfl,hE,ParR.none hN rfl⟩
    rw[if_neg (by omega)]at hstp
    have hnx:D7 T (xs.map Prod.fst) (i+1)=some (FH T (xs.map Prod.fst) i s):=hstp
    have hyn:(qs++ [xs.getD (fd) dEnt]).map Prod.fst=(FH T (xs.map Prod.fst) i s).en:=by show _=s.en++ [_];rw[List.map_append,hys,←hpw,hfd,Int.toNat_natCast,DU];rfl
    have hxo:=hok _ (getD_mem dEnt hfl)
    have hX:=hxo.2
    have hone:=AS (x:=xs.getD (fd) dEnt) (RB.one hxo.1).2
    refine gS (Yk.lenRG JM (RG.of (RG.ofOwn hr_vq) ac) (gS (Yk.eqI (a:=(m:Nat)) (b:=((s.pl).length:Nat)) bb rfl (Ah _ _ _ _) (kF (ad) (cF rfl (Bw [0,1,2,3,4,5,6,7,8,9,10,11,12,13,14,15,16] [13] [] fun ll cl=> ?_))))))
    have hb144l:=eb cl hb144l
    refine ys (Yk.eqI (a:=(fd:Nat)) (b:=(0:Nat)) (vr (NI fd) (bh.trans (congrArg (Value.int .i64) (hfq.trans hfd)))) rfl (Ah _ _ _ _) zz) (kF (by omega) (ys (Yk.eqI (a:=(i:Nat)) (b:=(0:Nat)) af rfl (Av _ _ _ _) zz) (kT (by omega) (ys (Yk.fieldAt Eh z zz) (ys (Yk.cell1 Lc rfl rfl (cellAt hb144l rfl) zz) (ys (Yk.bin (xv:=NI i) (yv:=NI 1) af rfl rfl (Ay _ _ _ (by omega) (by omega)) zz) ?_))))))
    have hr_vi:=hr_vi.keep cl
    have fc:(Lib.byteCells ((s.ids).getD ((i)-(1)) ([]:List UInt8))).length=32:=(RG.elem (RG.ofOwn hr_vi) ([]:List UInt8) (by omega))
    have q:=eb cl q
    refine yA (Yk.atRG Lc Og (by decide) ([]:List UInt8) (RG.of (RG.ofOwn hr_vi) rfl) rfl (by omega) fun lm cm=>(ys (Yk.loadPR (PR.of cm rfl) QJ rfl (by rw[fc];exact N2) zz) (ys (Yk.loadAll bg q QJ rfl (by exact Ag ap) zz) (yC (Yk.callA2 LF rfl rfl ((D4 _ ((s.ids).getD ((i)-(1)) ([]:List UInt8)) (r) (As (fc)) ap).mono ?_))))))
    rintro e ln ⟨rfl,de⟩
    refine⟨_,rfl,?_⟩
    have cm:=PR.keep cm de
    refine ys (Yk.eqI rfl rfl (Gy _ .i64 (Lib.compareBytes ((s.ids).getD ((i)-(1)) ([]:List UInt8)) (r):Int) ((0:Nat):Int)) zz) (kF (qc) (ys (Yk.pickT rfl rfl zz) (ys (Yk.pickF rfl rfl zz) ?_)))
    clear cm
    refine cF rfl (gS (Yk.lit1S (a:=p) (enc:=Dz) a5 rfl (fun w=>Nf _ w) fun h4 h5 fe ff=> ?_))
    have hZ10:=(cl.trans de).trans ff
    have o:=o.trans hZ10
    have hr_vq:=hr_vq.keep hZ10
    refine gS (Yk.appendRG _ _ ab.heap.size _ 8 JM rf8_ig3.choose_spec.1 rf8_ig3.choose_spec.2 JM (s.pl) ([p]) (OG.of hr_vq ac) (RG.of fe (vr h4 rfl)) (fun y hy u hu=>by rw[List.mem_singleton.1 hu];rfl) (by simp only[List.length_cons,List.length_nil];omega) (by simp only[List.length_cons,List.length_nil];omega) o.size fun a8 h6 ao a2=> ?_)
    have a2:Grew h5 h6 vq a8:= .eqv ac a2
    have g:=eb hZ10 g
    have h7:OB a8 n2:=An a2 hap_vq_n2 (bl g)
    have hZ11:=de.trans ff
    have hb144l:=eb hZ11 hb144l
    have df:OB a8 ag:=An a2 hap_vq_n134 (bl hb144l)
    have hr_vi:=hr_vi.keep hZ11
    have h8:Am a8 vi:=AJ a2 hap_vq_vi hr_vi.2
    have fg:Am vi a8:=fun k h1 h2=>h8 k h2 h1
    have hr_ve:=hr_ve.keep hZ10
    have h9:Am a8 ve:=AJ a2 hap_vq_ve hr_ve.2
    have fh:Am ve a8:=fun k h1 h2=>h9 k h2 h1
    have q:=eb hZ11 q
    have hE:=hE.trans hZ10
    have hE:=Af hE a2 hr_vq.2 be
    have g:=Ak g a2 hap_vq_n2
    have o:=Af o a2 hr_vq.2 (Nat.le_refl _)
    have hr_vi:=A4 hr_vi a2 hap_vq_vi
    have hr_ve:=A4 hr_ve a2 hap_vq_ve
    have hb144l:=Ak hb144l a2 hap_vq_n134
    clear aj
    have q:=Ak q a2 da
    clear am
    clear fe
    clear hr_vq
    refine gS (Yk.fieldAt Eh z (gS (Yk.cell1 Lc rfl rfl (cellAt hb144l rfl) (gS (Yk.loadAll bg q QJ rfl (by exact Ag ap) (gS (Yk.lit1G (a:=(r)) (enc:=Lib.byteCells) (vr (AB (r)) rfl) (by rw[Lib.byteCells_length];exact ap) LN fun ia ib fi bz=> ?_)))))))
    have o:=o.trans bz
    have hr_vi:=hr_vi.keep bz
    refine gS (Yk.appendRG _ _ ab.heap.size _ 32 Lc pk6_ig38.choose_spec.1 pk6_ig38.choose_spec.2 Lc (s.ids) ([(r)]) (OG.of hr_vi (vr vi rfl)) (RG.of fi (vr ia rfl)) (fun _ _=>Ai _) (by simp only[List.length_cons,List.length_nil];omega) (by simp only[List.length_cons,List.length_nil];omega) o.size fun bd ic a9 a3=> ?_)
    have a3:Grew ib ic vi bd:=a3
    have g:=eb bz g
    have id:OB bd n2:=An a3 hap_vi_n2 (bl g)
    have hb144l:=eb bz hb144l
    have dg:OB bd ag:=An a3 hap_vi_n134 (bl hb144l)
    have hr_ve:=hr_ve.keep bz
    have ie:Am bd ve:=AJ a3 hap_vi_ve hr_ve.2
    have fj:Am ve bd:=fun k h1 h2=>ie k h2 h1
    have q:=eb bz q
    have ao:=ao.keep bz
    have fk:Am bd a8:=AJ a3 fg ao.2
    have ig:Am a8 bd:=fun k h1 h2=>fk k h2 h1
    have hE:=hE.trans bz
    have hE:=Af hE a3 hr_vi.2 be
    have g:=Ak g a3 hap_vi_n2
    have o:=Af o a3 hr_vi.2 (Nat.le_refl _)
    have hr_ve:=A4 hr_ve a3 hap_vi_ve
    have hb144l:=Ak hb144l a3 hap_vi_n134
    have q:=Ak q a3 c8
    have ao:=A4 ao a3 fg
    clear fi
    clear hr_vi
    refine gS (Yk.fieldAt Eh z (gS (Yk.storeC (i:=0) (v:=bd) rfl rfl hb144l (Nat.le_of_ble_eq_true rfl) Kl (BJ a9.2).1 (BJ a9.2).2 fun lo fl b3 lq=> ?_)))
    clear hb144l
    have hb144l:=fl;clear fl
    have lr:=bl hb144l
    refine DC [0,1,2,3,4,5,6,7,8,9] [6,7,9] [0] [1] fun ih b0=> ?_
    have cn:=Ext.refl ih
    have hb144l:=eb b0 hb144l
    refine C3 cn ?_
    refine yp (Yk.fieldAt C8 z zz) (yf (fun _ ⟨hZ,_⟩=>Yk.cell1 F3 rfl rfl (cellAt (eb hZ hb144l) rfl) zz) ?_)
    have o:=Aa o b3 (Nat.le_trans (Nat.le_refl _) (by omega))
    have o:=o.trans b0
    have ii:(entC (xs.getD (fd) dEnt)).length=35:=(RG.elem (hxs.keep o) dEnt (hfl))
    refine yA (Yk.atRG F3 Do (by decide) dEnt (RG.of (hxs.keep o) T9) (vr (NI fd) (bh.trans (congrArg (Value.int .i64) (hfq.trans hfd)))) (hfl) fun ls co=>(ys (Yk.loadPR (PR.of co rfl) (Ki).choose_spec rfl (by rw[ii];exact Dn) zz) (yE (Yk.lit1G (a:=(xs.getD (fd) dEnt)) (enc:=entC) (vr (.agg (entC (xs.getD (fd) dEnt)).toArray) rfl) ((C6 hX)) Km fun ij ik fm bj=> ?_))))
    have co:=PR.keep co bj
    have cn:=cn.trans bj
    refine⟨cn,?_⟩
    have hr_ve:=OG.kept hr_ve b3 hap_ve_n134
    have hr_ve:=hr_ve.keep (b0.trans bj)
    have o:=o.trans bj
    refine yD rfl (Yk.appendRG _ _ ab.heap.size _ 72 F3 rf6_ig151.choose_spec.1 rf6_ig151.choose_spec.2 F3 (qs) ([(xs.getD (fd) dEnt)]) (OG.of hr_ve (vr ve rfl)) (RG.of fm (vr ij rfl)) (fun y hy=>by rw[List.mem_singleton.1 hy];exact hone) (by simp only[List.length_cons,List.length_nil];omega) (by simp only[List.length_cons,List.length_nil];omega) o.size fun bq il cb a4=> ?_)
    have a4:Grew ik il ve bq:=a4
    have g:=kb b3 g (by omega)
    have g:=eb (b0.trans bj) g
    have im:OB bq n2:=An a4 hap_ve_n2 (bl g)
    have hb144l:=eb bj hb144l
    have fn:OB bq ag:=An a4 hap_ve_n134 (bl hb144l)
    have q:=kb b3 q (by omega)
    have q:=eb (b0.trans bj) q
    have ao:=OG.kept ao b3 df
    have ao:=ao.keep (b0.trans bj)
    have fo:Am bq a8:=AJ a4 fh ao.2
    have io:Am a8 bq:=fun k h1 h2=>fo k h2 h1
    have a9:=OG.kept a9 b3 dg
    have a9:=a9.keep (b0.trans bj)
    have fp:Am bq bd:=AJ a4 fj a9.2
    have ip:Am bd bq:=fun k h1 h2=>fp k h2 h1
    have hE:=Aa hE b3 (Nat.le_trans be (by omega))
    have hE:=hE.trans (b0.trans bj)
    have hE:=Af hE a4 hr_ve.2 be
    have g:=Ak g a4 hap_ve_n2
    have o:=Af o a4 hr_ve.2 (Nat.le_refl _)
    have q:=Ak q a4 c9
    have ao:=A4 ao a4 fh
    have a9:=A4 a9 a4 fj
    have hb144l:=Ak hb144l a4 hap_ve_n134
    clear co
    clear fm
    clear hr_ve
    refine ys (Yk.fieldAt C8 z zz) (yD rfl (Yk.storeC (i:=1) (v:=bq) rfl rfl hb144l (Nat.le_of_ble_eq_true rfl) Ji (BJ cb.2).1 (BJ cb.2).2 fun lt fq b8 lu=> ?_))
    clear hb144l
    have hb144l:=fq;clear fq
    have lv:=bl hb144l
    have hE:=Aa hE b8 (Nat.le_trans be (by omega))
    have g:=kb b8 g (by omega)
    have o:=Aa o b8 (Nat.le_trans (Nat.le_refl _) (by omega))
    have ao:=OG.kept ao b8 df
    have a9:=OG.kept a9 b8 dg
    have cb:=OG.kept cb b8 fn
    refine gS (Yk.bin (xv:=NI i) (yv:=NI 1) af rfl rfl (Ac _ _ _ (by omega)) (gK (And.intro ⟨i+1,FH T (xs.map Prod.fst) i s,qs++ [xs.getD (fd) dEnt],bd,bq,a8,T0,T2,T4,T5,T6,T7,T8,T9,av,z,aw,ax,rfl,rfl,hE,g,o,Bo a9 ((show s.ids++ [r]=s.ids++ [AX T i] by rw[hrw])),Bo cb (rfl),Bo ao ((show s.pl++ [p]=s.pl++ [Bh T i] by rw[hpw])),hb144l,hnx,by omega,hyn,Kg hym hfl,id,dg,ip,fk,im,fn,fp,fo,h7,df,ig,io,trivial⟩ ?_)))
    show n-(intOf (NI ((i)+(1)))).toNat<n-(intOf (ee 13)).toNat
    rw[q13]
    simp only[intOf,Int.toNat_natCast];omega
   have hin:i=n:=by omega
   rw[hin]at hs
   refine Exists.elim (rx_rel hs) fun xx hRx=> ?_
   have hli:=hRx.li
   have hlp:=hRx.lp
   have hle:=hRx.le
   have hyl:qs.length=n:=by rw[←hle,←hys,List.length_map]
   have hpc:=hR3.trans (Pw (by rw[←hT];exact hs))
   by_cases qb:behindR s.ids s.pl f=(b.take (b.length-32)).drop f
   ·rw[if_pos qb]at hpc
    rw[List.drop_take]at qb
    refine gS (Yk.eqI (a:=(i:Nat)) (b:=(n:Nat)) af T6 (Ah _ _ _ _) (kF (hlt) (cF rfl (DC [0,1,2,3,6,7,8,9,10,11,12,4,5,13] [4] [9,10,11] [12] fun fr b4=> ?_))))
    have cp:=Ext.refl fr
    have hE:=hE.trans b4
    have hr_vi:=hr_vi.keep b4
    have hr_vq:=hr_vq.keep b4
    have hb144l:=eb b4 hb144l
    refine C3 cp ?_
    refine ys (Yk.fieldAt Eh z zz) (ys (Yk.cell1 Lc rfl rfl (cellAt hb144l rfl) zz) (yp (Yk.lenRB EX (RB.of (hr.keep hE) T0) zz) (yp (Yk.bin (xv:=NI b.length) (yv:=NI 32) rfl rfl rfl (Ay _ _ _ (by omega) (by omega)) zz) (yS (Yk.sliceLH (xs:=b) (l:=f) (n:=(b.length)-(32)) EX M4 T0 (hr.keep hE) T5 rfl (by omega) (by omega) fun lw iq ha432=>(yf (fun _ ⟨hZ,_⟩=>Yk.convRB EX u5 MH (RB.of (iq.keep hZ) rfl) zz) (yE (Yk.callA3 LO T5 rfl ac ((Je _ vi vq s.ids s.pl f (RG.ofOwn hr_vi) (RG.ofOwn hr_vq) (by omega) (by omega) (Dx hRx.asc) (fun x hx=>As (hr_vi.1 x hx)) (QN hRx) (by omega)).mono ?_)))))))))
    rintro e fs ⟨ir,rfl,br⟩
    refine⟨_,rfl,?_⟩
    have g:=eb b4 g
    have hr_ve:=hr_ve.keep b4
    have bk:=br.own
    have cp:=cp.trans br.ext
    refine⟨cp,?_⟩
    have bm:=Ext.refl fs
    have o:=o.trans (b4.trans br.ext)
    have hE:=hE.trans br.ext
    have g:=eb br.ext g
    have hr_vi:=hr_vi.keep br.ext
    have hr_ve:=hr_ve.keep br.ext
    have hr_vq:=hr_vq.keep br.ext
    have hb144l:=eb br.ext hb144l
    refine ys (Yk.convRB EX u5 MH (RB.of (RB.ofOwn bk) rfl) zz) (ys (Yk.eqSt (l:=behindR s.ids s.pl f) (m:=(b.drop (f)).take (((b.length)-(32))-(f))) (.inr rfl) rfl rfl (decide ((behindR s.ids s.pl f:List UInt8)≠((b.drop (f)).take (((b.length)-(32))-(f)):List UInt8))) rfl zz) (kF (fun h=>h qb) (cF rfl (gL (fun(ρ:Ae) (wz:World)=>∃j:Nat,ρ 0=(v:Value)∧ρ 2=(PQ n2 0:Value)∧ρ 4=(NI ((b.length)-(36)):Value)∧ρ 5=(NI f:Value)∧ρ 6=(NI n:Value)∧ρ 7=(NI (1+k):Value)∧ρ 8=(NI 0:Value)∧ρ 9=(b5:Value)∧ρ 10=(.bool (true):Value)∧ρ 11=(PQ ag 0:Value)∧ρ 12=(vq:Value)∧ρ 13=(NI i:Value)∧ρ 67=(.bool (false):Value)∧ρ 78=(.bool (false):Value)∧ρ 82=(.bool (false):Value)∧ρ 177=(.bool (false):Value)∧ρ 22=(NI j:Value)∧Ext w wz∧wz.heap[n2]? =some (.cells ([(Value.slice none 0 0),(Value.slice none 0 0)]).toArray 130 (0,0))∧Ext ab wz∧OG ab.heap.size 38 32 (Lib.byteCells) wz vi (s.ids)∧OG ab.heap.size 151 35 (entC) wz ve (qs)∧OG ab.heap.size 3 1 (Dz) wz vq (s.pl)∧wz.heap[ag]? =some (.cells ([vi,ve]).toArray 130 (0,0))∧wz.ownsRow fr.heap.size 5 1 ir (behindR s.ids s.pl f:List UInt8).length (Lib.byteCells (behindR s.ids s.pl f))∧Ext fs wz∧(j≤n)∧(∀y∈qs.take j,y.1.based=true→y.1.base∈s.ids)∧True) (fun ρ _=>n-(intOf (ρ 22)).toNat) ⟨0,T0,T2,T4,T5,T6,T7,T8,T9,av,z,ac,af,aw,ax,rfl,rfl,rfl,hE,g,o,hr_vi,hr_ve,hr_vq,hb144l,bk,bm,Nat.zero_le _,(fun y hy=>by simp at hy),trivial⟩ ?_))))
    clear hE g o hr_vi hr_ve hr_vq hb144l bk
    rintro ft iu ⟨j,T0,T2,T4,T5,T6,T7,T8,T9,av,z,ac,af,aw,ax,bo,fu,ba,hE,g,o,hr_vi,hr_ve,hr_vq,hb144l,bk,bm,hj,hbd,-⟩
    have q22:=ba
    by_cases ad:j<n
    ·have hyo:=hok _ (hym _ (getD_mem dEnt (by omega:j<qs.length)))
     have hX:=hyo.2
     rcases hbx:(qs.getD (j) dEnt).1.based with _ | _
     ·refine gS (Yk.eqI (a:=(j:Nat)) (b:=(n:Nat)) ba T6 (Ah _ _ _ _) (kT (ad) (cT rfl (Bw [0,1,2,3,4,5,6,7,8,9,10,11,12,13,14,15,16,17] [15] [] fun lx bs=> ?_))))
      have hb144l:=eb bs hb144l
      refine ys (Yk.fieldAt C8 z zz) (ys (Yk.cell1 F3 rfl rfl (cellAt hb144l rfl) zz) ?_)
      have hr_ve:=hr_ve.keep bs
      have ly:(entC (qs.getD (j) dEnt)).length=35:=(RG.elem (RG.ofOwn hr_ve) dEnt (by omega))
      refine yA (Yk.atRG F3 Do (by decide) dEnt (RG.of (RG.ofOwn hr_ve) rfl) ba (by omega) fun lz fv=>(yF (m:=1) Eg (PR.of fv rfl) fun l0 fw=>(ys (Yk.loadC IB rfl (PR.cell (PR.of fw rfl) (show _=some (.bool (false):Value)from(congrArg (fun b=>some (Value.bool b)) hbx))) zz) (ys (Yk.pickF rfl rfl zz) ?_))))
      clear fv
      clear fw
      have hE:=hE.trans bs
      have g:=eb bs g
      have o:=o.trans bs
      have hr_vi:=hr_vi.keep bs
      have hr_vq:=hr_vq.keep bs
      have bk:=Stab.own _ _ _ _ _ _ _ _ bk bs
      have bm:=bm.trans bs
      refine cF rfl (gS (Yk.bin (xv:=NI j) (yv:=NI 1) ba rfl rfl (Ac _ _ _ (by omega)) (gK (And.intro ⟨j+1,T0,T2,T4,T5,T6,T7,T8,T9,av,z,ac,af,aw,ax,bo,fu,rfl,hE,g,o,hr_vi,hr_ve,hr_vq,hb144l,bk,bm,by omega,Jg (by omega) hbd (fun h=>by rw[hbx]at h;cases h),trivial⟩ ?_))))
      show n-(intOf (NI ((j)+(1)))).toNat<n-(intOf (ft 22)).toNat
      rw[q22]
      simp only[intOf,Int.toNat_natCast];omega
     by_cases qi:(qs.getD (j) dEnt).1.base∈s.ids
     ·refine gS (Yk.eqI (a:=(j:Nat)) (b:=(n:Nat)) ba T6 (Ah _ _ _ _) (kT (ad) (cT rfl (Bw [0,1,2,3,4,5,6,7,8,9,10,11,12,13,14,15,16,17] [15] [] fun l1 cq=> ?_))))
      have hb144l:=eb cq hb144l
      refine ys (Yk.fieldAt C8 z zz) (ys (Yk.cell1 F3 rfl rfl (cellAt hb144l rfl) zz) ?_)
      have hr_ve:=hr_ve.keep cq
      have l2:(entC (qs.getD (j) dEnt)).length=35:=(RG.elem (RG.ofOwn hr_ve) dEnt (by omega))
      refine yA (Yk.atRG F3 Do (by decide) dEnt (RG.of (RG.ofOwn hr_ve) rfl) ba (by omega) fun l3 cr=>(yF (m:=1) Eg (PR.of cr rfl) fun l4 cs=>(ys (Yk.loadC IB rfl (PR.cell (PR.of cs rfl) (show _=some (.bool (true):Value)from(congrArg (fun b=>some (Value.bool b)) hbx))) zz) (ys (Yk.fieldAt Eh z zz) (ys (Yk.cell1 Lc rfl rfl (cellAt hb144l rfl) zz) (ys (Yk.fieldAt C8 z zz) (ys (Yk.cell1 F3 rfl rfl (cellAt hb144l rfl) zz) ?_)))))))
      have l5:(entC (qs.getD (j) dEnt)).length=35:=(RG.elem (RG.ofOwn hr_ve) dEnt (by omega))
      have hr_vi:=hr_vi.keep cq
      refine yA (Yk.atRG F3 Do (by decide) dEnt (RG.of (RG.ofOwn hr_ve) rfl) ba (by omega) fun l6 ct=>(yF (m:=32) Ij (PR.of ct rfl) fun l7 cu=>(ys (Yk.loadPR (NK (PR.of cu rfl) (HQ hX)) QJ rfl (NL N2 hX) zz) (yC (Yk.callA2 LP rfl rfl (((show Calls _ _ _ _ (fun e t=>e = .returned (.bool true)∧Ext _ t)from by have h:=Kb _ vi s.ids (RG.ofOwn hr_vi) (by omega) ((qs.getD (j) dEnt).1.base) hX;rw[decide_eq_true qi]at h;exact h)).mono ?_))))))
      rintro e l8 ⟨rfl,b1⟩
      refine⟨_,rfl,?_⟩
      have cr:=PR.keep cr b1
      have cs:=PR.keep cs b1
      have ct:=PR.keep ct b1
      have cu:=PR.keep cu b1
      refine ys (Yk.notB rfl zz) (ys (Yk.pickT rfl rfl zz) ?_)
      clear cr
      clear cs
      clear ct
      clear cu
      have hZ12:=cq.trans b1
      have hE:=hE.trans hZ12
      have g:=eb hZ12 g
      have o:=o.trans hZ12
      have hr_vq:=hr_vq.keep hZ12
      have bk:=Stab.own _ _ _ _ _ _ _ _ bk hZ12
      have bm:=bm.trans hZ12
      have hr_vi:=hr_vi.keep b1
      have hr_ve:=hr_ve.keep b1
      have hb144l:=eb b1 hb144l
      refine cF rfl (gS (Yk.bin (xv:=NI j) (yv:=NI 1) ba rfl rfl (Ac _ _ _ (by omega)) (gK (And.intro ⟨j+1,T0,T2,T4,T5,T6,T7,T8,T9,av,z,ac,af,aw,ax,bo,fu,rfl,hE,g,o,hr_vi,hr_ve,hr_vq,hb144l,bk,bm,by omega,Jg (by omega) hbd (fun h=>qi),trivial⟩ ?_))))
      show n-(intOf (NI ((j)+(1)))).toNat<n-(intOf (ft 22)).toNat
      rw[q22]
      simp only[intOf,Int.toNat_natCast];omega
     have hN:=hpc.trans (if_neg (Pv hys (by omega) hbx qi))
     refine gS (Yk.eqI (a:=(j:Nat)) (b:=(n:Nat)) ba T6 (Ah _ _ _ _) (kT (ad) (cT rfl (Bw [0,1,2,3,4,5,6,7,8,9,10,11,12,13,14,15,16,17] [15] [] fun l9 cv=> ?_))))
     have hb144l:=eb cv hb144l
     refine ys (Yk.fieldAt C8 z zz) (ys (Yk.cell1 F3 rfl rfl (cellAt hb144l rfl) zz) ?_)
     have hr_ve:=hr_ve.keep cv
     have ma:(entC (qs.getD (j) dEnt)).length=35:=(RG.elem (RG.ofOwn hr_ve) dEnt (by omega))
     refine yA (Yk.atRG F3 Do (by decide) dEnt (RG.of (RG.ofOwn hr_ve) rfl) ba (by omega) fun mb cw=>(yF (m:=1) Eg (PR.of cw rfl) fun mc cx=>(ys (Yk.loadC IB rfl (PR.cell (PR.of cx rfl) (show _=some (.bool (true):Value)from(congrArg (fun b=>some (Value.bool b)) hbx))) zz) (ys (Yk.fieldAt Eh z zz) (ys (Yk.cell1 Lc rfl rfl (cellAt hb144l rfl) zz) (ys (Yk.fieldAt C8 z zz) (ys (Yk.cell1 F3 rfl rfl (cellAt hb144l rfl) zz) ?_)))))))
     have md:(entC (qs.getD (j) dEnt)).length=35:=(RG.elem (RG.ofOwn hr_ve) dEnt (by omega))
     have hr_vi:=hr_vi.keep cv
     refine yA (Yk.atRG F3 Do (by decide) dEnt (RG.of (RG.ofOwn hr_ve) rfl) ba (by omega) fun me cy=>(yF (m:=32) Ij (PR.of cy rfl) fun mf cz=>(ys (Yk.loadPR (NK (PR.of cz rfl) (HQ hX)) QJ rfl (NL N2 hX) zz) (yC (Yk.callA2 LP rfl rfl (((show Calls _ _ _ _ (fun e t=>e = .returned (.bool false)∧Ext _ t)from by have h:=Kb _ vi s.ids (RG.ofOwn hr_vi) (by omega) ((qs.getD (j) dEnt).1.base) hX;rw[decide_eq_false qi]at h;exact h)).mono ?_))))))
     rintro e mg ⟨rfl,cc⟩
     refine⟨_,rfl,?_⟩
     have cw:=PR.keep cw cc
     have cx:=PR.keep cx cc
     have cy:=PR.keep cy cc
     have cz:=PR.keep cz cc
     refine ys (Yk.notB rfl zz) (ys (Yk.pickT rfl rfl zz) ?_)
     clear cw
     clear cx
     clear cy
     clear cz
     have hZ13:=cv.trans cc
     have g:=eb hZ13 g
     refine cT rfl (gS (Yk.run (v:= .agg ([(Value.slice none 0 0),(Value.slice none 0 0)]).toArray) (by kernel_rfl) (gS (Yk.storeAll T2 (vr (.agg ([(Value.slice none 0 0),(Value.slice none 0 0)]).toArray) rfl) g (rfl) ((show(Tryd.prog.info? 130).map (·.size)=some 2 from GX)) (by decide) fun mh fx iv mi=> ?_))))
     clear o
     clear bm
     clear g
     have g:=fx;clear fx
     have mj:=bl g
     refine E8 rfl (ResF.row T2 g (HU).choose_spec rfl ((show(Tryd.prog.info? 130).map (·.size)=some 2 from GX))) (vr (.bool (false)) rfl) ?_
     have hE:=hE.trans hZ13
     have hE:=Aa hE iv (Nat.le_trans (Nat.le_refl _) (by omega))
     exact⟨_,_,false,rfl,hE,ParR.none hN rfl⟩
    rw[List.take_of_length_le (by omega)]at hbd
    have hfin:=hpc.trans (if_pos (Pu hys hbd))
    refine gS (Yk.eqI (a:=(j:Nat)) (b:=(n:Nat)) ba T6 (Ah _ _ _ _) (kF (ad) (cF rfl ?_)))
    have hnb_:=Px g
    have hok:EntsOk iu xs:=(hok.keep o)
    refine gS (Yk.loadAll z hb144l (HU).choose_spec rfl ((show(Tryd.prog.info? 130).map (·.size)=some 2 from GX)) (gS (Yk.storeAll T2 (vr (.agg ([vi,ve]).toArray) rfl) g (rfl) ((show(Tryd.prog.info? 130).map (·.size)=some 2 from GX)) (two_one (BJ hr_vi.2).2 (BJ hr_ve.2).2) fun iw fy c0 mk=> ?_)))
    have hok:EntsOk iw xs:=EntsOk.keepN hok hnb_ c0
    clear o
    clear bm
    clear g
    have g:=fy;clear fy
    have ml:=bl g
    refine E8 rfl (ResF.row T2 g (HU).choose_spec rfl ((show(Tryd.prog.info? 130).map (·.size)=some 2 from GX))) (vr (.bool (true)) rfl) ?_
    have hE:=Aa hE c0 (Nat.le_trans (Nat.le_refl _) (by omega))
    have hr_vi:=OG.kept hr_vi c0 hap_vi_n2
    have hr_ve:=OG.kept hr_ve c0 hap_ve_n2
    exact⟨_,_,true,rfl,hE,ParR.some hfin rfl (RG.ofOwn hr_vi) (RG.ofOwn hr_ve) (fun y hy=>hok y (hym y hy)) hys⟩
   rw[if_neg qb]at hpc
   rw[List.drop_take]at qb
   have hN:=hpc
   refine gS (Yk.eqI (a:=(i:Nat)) (b:=(n:Nat)) af T6 (Ah _ _ _ _) (kF (hlt) (cF rfl (DC [0,1,2,3,6,7,8,9,10,11,12,4,5,13] [4] [9,10,11] [12] fun ix b9=> ?_))))
   have c1:=Ext.refl ix
   have hE:=hE.trans b9
   have hr_vi:=hr_vi.keep b9
   have hr_vq:=hr_vq.keep b9
   have hb144l:=eb b9 hb144l
   refine C3 c1 ?_
   refine ys (Yk.fieldAt Eh z zz) (ys (Yk.cell1 Lc rfl rfl (cellAt hb144l rfl) zz) (yp (Yk.lenRB EX (RB.of (hr.keep hE) T0) zz) (yp (Yk.bin (xv:=NI b.length) (yv:=NI 32) rfl rfl rfl (Ay _ _ _ (by omega) (by omega)) zz) (yS (Yk.sliceLH (xs:=b) (l:=f) (n:=(b.length)-(32)) EX M4 T0 (hr.keep hE) T5 rfl (by omega) (by omega) fun mm iy ha520=>(yf (fun _ ⟨hZ,_⟩=>Yk.convRB EX u5 MH (RB.of (iy.keep hZ) rfl) zz) (yE (Yk.callA3 LO T5 rfl ac ((Je _ vi vq s.ids s.pl f (RG.ofOwn hr_vi) (RG.ofOwn hr_vq) (by omega) (by omega) (Dx hRx.asc) (fun x hx=>As (hr_vi.1 x hx)) (QN hRx) (by omega)).mono ?_)))))))))
   rintro e mn ⟨mo,rfl,c2⟩
   refine⟨_,rfl,?_⟩
   have g:=eb b9 g
   have hr_ve:=hr_ve.keep b9
   have iz:=c2.own
   have c1:=c1.trans c2.ext
   refine⟨c1,?_⟩
   have g:=eb c2.ext g
   refine ys (Yk.convRB EX u5 MH (RB.of (RB.ofOwn iz) rfl) zz) (ys (Yk.eqSt (l:=behindR s.ids s.pl f) (m:=(b.drop (f)).take (((b.length)-(32))-(f))) (.inr rfl) rfl rfl (decide ((behindR s.ids s.pl f:List UInt8)≠((b.drop (f)).take (((b.length)-(32))-(f)):List UInt8))) rfl zz) (kT (qb) (cT rfl (gS (Yk.run (v:= .agg ([(Value.slice none 0 0),(Value.slice none 0 0)]).toArray) (by kernel_rfl) (gS (Yk.storeAll T2 (vr (.agg ([(Value.slice none 0 0),(Value.slice none 0 0)]).toArray) rfl) g (rfl) ((show(Tryd.prog.info? 130).map (·.size)=some 2 from GX)) (by decide) fun mp fz i0 mq=> ?_)))))))
   clear o
   clear g
   have g:=fz;clear fz
   have mr:=bl g
   refine E8 rfl (ResF.row T2 g (HU).choose_spec rfl ((show(Tryd.prog.info? 130).map (·.size)=some 2 from GX))) (vr (.bool (false)) rfl) ?_
   have hE:=hE.trans c2.ext
   have hE:=Aa hE i0 (Nat.le_trans (Nat.le_refl _) (by omega))
   exact⟨_,_,false,rfl,hE,ParR.none hN rfl⟩
  have hN:BC b=none:=by rw[hR];unfold DT;rw[if_neg qz6];exact ite_self _
  refine gS (Yk.sliceLo (xs:=b) (l:=(b.length)-(36)) EX M4 rfl (hr.keep hE) rfl (by omega) fun i1 f0 ha543=>(gS (Yk.callA1 Dp rfl (((show Calls _ _ _ _ (fun e t=>e = .returned (NI f)∧Ext _ t)from by rw[hf];exact Cq _ i1 (b.drop ((b.length)-(36))) f0 (by rw[List.length_drop];omega))).mono ?_))))
  rintro e ms ⟨rfl,f1⟩
  refine⟨_,rfl,?_⟩
  have hE:=hE.trans f1
  refine gS (Yk.callA2 GU rfl rfl (((show Calls _ _ _ _ (fun e t=>e = .returned (.tuple #[NI n,NI (1+k),NI 0])∧Ext _ t)from by have h:=BH _ v (b) (hr.keep hE) (1) (by omega) (by omega);rw[hgl]at h;exact h)).mono ?_))
  rintro e mt ⟨rfl,f2⟩
  refine⟨_,rfl,?_⟩
  have hE:=hE.trans f2
  refine gS (Yk.extract (vs:= [NI n,NI (1+k),NI 0]) rfl rfl (gS (Yk.extract (vs:= [NI n,NI (1+k),NI 0]) rfl rfl (gS (Yk.extract (vs:= [NI n,NI (1+k),NI 0]) rfl rfl (gS (Yk.atRB (l:=b) (i:=0) EX M4 (RB.of (hr.keep hE) rfl) rfl (by omega) fun mu f3=>(gS (Yk.loadC u5 rfl (PCell.of f3 rfl) (gS (Yk.eqI (a:=((b.getD (0) 0).toNat:Nat)) (b:=(80:Nat)) rfl rfl (AF _ _ _ _) (kF (fun h=>h q80) (gS (Yk.eqI (a:=(0:Nat)) (b:=(0:Nat)) rfl rfl (AF _ _ _ _) (kF (by decide) (gS (Yk.pickF rfl rfl (gS (Yk.eqI (a:=(f:Nat)) (b:=(1+k:Nat)) rfl rfl (Ah _ _ _ _) (kF (qz3) (gS (Yk.pickF rfl rfl (gS (Yk.eqI (a:=(f:Nat)) (b:=((b.length)-(36):Nat)) rfl rfl (Av _ _ _ _) (kF (qz4) (gS (Yk.pickF rfl rfl (gS (Yk.eqI (a:=(n:Nat)) (b:=((b.length)-(36):Nat)) rfl rfl (Av _ _ _ _) (kF (qz5) (gS (Yk.pickF rfl rfl (gS (Yk.bin (xv:=NI ((b.length)-(36))) (yv:=NI f) rfl rfl rfl (Ay _ _ _ (by omega) (by omega)) (gS (Yk.bin (xv:=NI 36) (yv:=NI n) rfl rfl rfl (A0 _ _ _ (by omega)) ?_))))))))))))))))))))))))))))))))))))
  refine gS (Yk.bin (xv:=NI 1024) (yv:=NI ((36)*(n))) rfl rfl rfl (Ac _ _ _ (by omega)) (gS (Yk.eqI (a:=(((b.length)-(36))-(f):Nat)) (b:=((1024)+((36)*(n)):Nat)) rfl rfl (AF _ _ _ _) (kT (qz6) (gS (Yk.pickF rfl rfl ?_))))))
  clear f3
  have hZ14:=f1.trans f2
  have g:=eb hZ14 g
  refine cT rfl (gS (Yk.run (v:= .agg ([(Value.slice none 0 0),(Value.slice none 0 0)]).toArray) (by kernel_rfl) (gS (Yk.storeAll (vr (PQ n2 0) rfl) (vr (.agg ([(Value.slice none 0 0),(Value.slice none 0 0)]).toArray) rfl) g (rfl) ((show(Tryd.prog.info? 130).map (·.size)=some 2 from GX)) (by decide) fun mv f4 i2 mw=> ?_))))
  clear f0
  clear g
  have g:=f4;clear f4
  have mx:=bl g
  refine E8 rfl (ResF.row rfl g (HU).choose_spec rfl ((show(Tryd.prog.info? 130).map (·.size)=some 2 from GX))) (vr (.bool (false)) rfl) ?_
  have hE:=Aa hE i2 (Nat.le_trans (Nat.le_refl _) (by omega))
  exact⟨_,_,false,rfl,hE,ParR.none hN rfl⟩
 have hN:BC b=none:=by rw[hR];unfold DT;exact if_neg (fun h=>q80 (by rw[h.1];rfl))
 refine gS (Yk.sliceLo (xs:=b) (l:=(b.length)-(36)) EX M4 rfl (hr.keep hE) rfl (by omega) fun i3 f5 ha562=>(gS (Yk.callA1 Dp rfl (((show Calls _ _ _ _ (fun e t=>e = .returned (NI f)∧Ext _ t)from by rw[hf];exact Cq _ i3 (b.drop ((b.length)-(36))) f5 (by rw[List.length_drop];omega))).mono ?_))))
 rintro e my ⟨rfl,f6⟩
 refine⟨_,rfl,?_⟩
 have hE:=hE.trans f6
 refine gS (Yk.callA2 GU rfl rfl (((show Calls _ _ _ _ (fun e t=>e = .returned (.tuple #[NI n,NI (1+k),NI 0])∧Ext _ t)from by have h:=BH _ v (b) (hr.keep hE) (1) (by omega) (by omega);rw[hgl]at h;exact h)).mono ?_))
 rintro e mz ⟨rfl,f7⟩
 refine⟨_,rfl,?_⟩
 have hE:=hE.trans f7
 refine gS (Yk.extract (vs:= [NI n,NI (1+k),NI 0]) rfl rfl (gS (Yk.extract (vs:= [NI n,NI (1+k),NI 0]) rfl rfl (gS (Yk.extract (vs:= [NI n,NI (1+k),NI 0]) rfl rfl (gS (Yk.atRB (l:=b) (i:=0) EX M4 (RB.of (hr.keep hE) rfl) rfl (by omega) fun m0 f8=>(gS (Yk.loadC u5 rfl (PCell.of f8 rfl) (gS (Yk.eqI (a:=((b.getD (0) 0).toNat:Nat)) (b:=(80:Nat)) rfl rfl (AF _ _ _ _) (kT (q80) (gS (Yk.pickT rfl rfl (gS (Yk.pickT rfl rfl (gS (Yk.pickT rfl rfl (gS (Yk.pickT rfl rfl (gS (Yk.pickT rfl rfl ?_))))))))))))))))))))))
 clear f8
 have hZ15:=f6.trans f7
 have g:=eb hZ15 g
 refine cT rfl (gS (Yk.run (v:= .agg ([(Value.slice none 0 0),(Value.slice none 0 0)]).toArray) (by kernel_rfl) (gS (Yk.storeAll (vr (PQ n2 0) rfl) (vr (.agg ([(Value.slice none 0 0),(Value.slice none 0 0)]).toArray) rfl) g (rfl) ((show(Tryd.prog.info? 130).map (·.size)=some 2 from GX)) (by decide) fun m1 f9 i4 m3=> ?_))))
 clear f5
 clear g
 have g:=f9;clear f9
 have m4:=bl g
 refine E8 rfl (ResF.row rfl g (HU).choose_spec rfl ((show(Tryd.prog.info? 130).map (·.size)=some 2 from GX))) (vr (.bool (false)) rfl) ?_
 have hE:=Aa hE i4 (Nat.le_trans (Nat.le_refl _) (by omega))
 exact⟨_,_,false,rfl,hE,ParR.none hN rfl⟩
open Go.RowKit
set_option maxRecDepth 100000
theorem FJ:AA Tryd.prog 21:=fun _ _=>by kernel_rfl
theorem QA:AA Tryd.prog 70:=fun _ _=>by kernel_rfl
theorem LR:AA Tryd.prog 71:=fun _ _=>by kernel_rfl
theorem QB(ao:Option Addr)(n:Nat)(c:Nat)(w:World):(Instr.buildSlice 75 1 #[(0, .slice ao n c)]).run Tryd.prog w = .ok (.slice (some ⟨w.heap.size,0,none⟩) 1 1) (w.alloc (.cells #[.slice ao n c] 24)):=by kernel_rfl
theorem rf9_ig24:∃z,(Tryd.prog.info? 24).map (fun i=>(i.zero,i.size,i.bytes))=some (some z,1,24)∧z.cells.size=1:=Gl (by kernel_rfl)
set_option maxHeartbeats 3200000
theorem Mn(w:World)(v:Value)(b:Bs)(hr:RB w v b)(hb:b.length≤65536):
  Calls Tryd.prog 43 #[v] w fun e w' =>∃vi va vd ec,e = .returned (.tuple #[vi,va,vd,NI ec])∧Ext w w' ∧OpR w' (Co b) vi va vd ec:=by
 refine gG (args:= [v]) Tryd.func43 rfl 90 rfl rfl ?_
 have hE:=Ext.refl w
 by_cases qs:b.length<36
 ·have hN:Co b = .error 6:=by unfold Co;rw[if_neg (by omega),if_pos qs]
  refine gS (Yk.lenRB EX (RB.of (hr.keep hE) rfl) (gS (Yk.eqI (a:=(b.length:Nat)) (b:=(1048576:Nat)) rfl rfl (Av _ _ _ _) (kF (by omega) (cF rfl (gS (Yk.lenRB EX (RB.of (hr.keep hE) rfl) (gS (Yk.eqI (a:=(b.length:Nat)) (b:=(36:Nat)) rfl rfl (Ah _ _ _ _) (kT (qs) (cT rfl (FP (v:= .tuple #[(Value.slice none 0 0),(Value.slice none 0 0),(Value.slice none 0 0),NI 6]) (vs:= [(Value.slice none 0 0),(Value.slice none 0 0),(Value.slice none 0 0),NI 6]) rfl rfl ⟨rfl,rfl,rfl,rfl,trivial⟩ ?_))))))))))))
  exact⟨_,_,_,6,rfl,hE,OpR.err hN (by decide) (RG.nil _ _ _)⟩
 by_cases qh:Sha.sum (b.take (b.length-32))=b.drop (b.length-32)
 ·refine gS (Yk.lenRB EX (RB.of (hr.keep hE) rfl) (gS (Yk.eqI (a:=(b.length:Nat)) (b:=(1048576:Nat)) rfl rfl (Av _ _ _ _) (kF (by omega) (cF rfl (gS (Yk.lenRB EX (RB.of (hr.keep hE) rfl) (gS (Yk.eqI (a:=(b.length:Nat)) (b:=(36:Nat)) rfl rfl (Ah _ _ _ _) (kF (qs) (cF rfl (gS (Yk.lenRB EX (RB.of (hr.keep hE) rfl) (gS (Yk.bin (xv:=NI b.length) (yv:=NI 32) rfl rfl rfl (Ay _ _ _ (by omega) (by omega)) (gS (Yk.sliceHi (xs:=b) (n:=(b.length)-(32)) EX M4 rfl (hr.keep hE) rfl (by omega) fun b4 b5 ha14=>(gS (Yk.callA1 FJ rfl ((D1 _ b4 (b.take ((b.length)-(32))) b5 (by rw[List.length_take];omega)).mono ?_))))))))))))))))))))
  rintro e a9 ⟨rfl,b6⟩
  refine⟨_,rfl,?_⟩
  refine gS (Yk.alloc PP fun ac b7 di ba bc dj=> ?_)
  have j:=Ext.refl a9
  have hE:=hE.trans b6
  have b8:=hE.size
  have g:=ba;clear ba
  have dk:ac<b7.heap.size:=by omega
  refine gS (Yk.storeAll (vr (PQ ac 0) rfl) (vr (AB (Sha.sum (b.take ((b.length)-(32))))) rfl) g (by exact BQ (Sha.sum_length _) List.length_replicate) (by exact Ag (Sha.sum_length _)) (Ai _) fun dl bd be dm=> ?_)
  clear g
  have g:=bd;clear bd
  have dn:=bl g
  refine Bw [0,1,2,3,4,5,6,7,8] [] [] fun dp a3=> ?_
  have hE:=hE.trans bc
  have hE:=Aa hE be (Nat.le_trans b8 (by omega))
  have hE:=hE.trans a3
  have g:=eb a3 g
  refine ys (Yk.sliceArr QJ M4 rfl zz) (ys (Yk.convRB EX u5 MH (RB.of (RB.ofBlkN g (Sha.sum_length _) (by decide)) rfl) zz) (ys (Yk.lenRB EX (RB.of (hr.keep hE) rfl) zz) (ys (Yk.bin (xv:=NI b.length) (yv:=NI 32) rfl rfl rfl (Ay _ _ _ (by omega) (by omega)) zz) (yS (Yk.sliceLo (xs:=b) (l:=(b.length)-(32)) EX M4 rfl (hr.keep hE) rfl (by omega) fun dq b9 ha39=>(ys (Yk.convRB EX u5 MH (RB.of b9 rfl) zz) (ys (Yk.eqSt (l:=Sha.sum (b.take ((b.length)-(32)))) (m:=b.drop ((b.length)-(32))) (.inr rfl) rfl rfl (decide ((Sha.sum (b.take ((b.length)-(32))):List UInt8)≠(b.drop ((b.length)-(32)):List UInt8))) rfl zz) (kF (fun h=>h qh) (cF rfl (gS (Yk.callA1 QA rfl ((LQ _ v b (hr.keep hE) (by omega) (by omega)).mono ?_))))))))))))
  rintro e bf ⟨ae,aj,cp,rfl,a4,hPa⟩
  refine⟨_,rfl,?_⟩
  refine gS (Yk.extract (vs:= [.agg ([ae,aj]).toArray, .bool (cp)]) rfl rfl (gS (Yk.extract (vs:= [.agg ([ae,aj]).toArray, .bool (cp)]) rfl rfl (gS (Yk.alloc Kk fun ad ca cc bg ap dr=> ?_)))))
  have p:=Ext.refl bf
  have hE:=hE.trans a4
  have j:=j.trans bc
  have j:=Aa j be (Nat.le_trans (Nat.le_refl _) (by omega))
  have j:=j.trans (a3.trans a4)
  have bh:=hE.size
  have cd:=j.size
  have f:=bg;clear bg
  have ds:ad<ca.heap.size:=by omega
  have p:=p.trans ap
  refine gS (Yk.storeAll (vr (PQ ad 0) rfl) (vr (.agg ([ae,aj]).toArray) rfl) f rfl (show(Tryd.prog.info? 130).map (·.size)=some 2 from GX) (ParR.one (hPa.keep p)) fun x bi aq dt=> ?_)
  clear f
  have f:=bi;clear bi
  have du:=bl f
  have p:=Aa p aq (Nat.le_trans (Nat.le_refl _) (by omega))
  rcases ParR.cases (hPa.keep p)with ⟨hp,rfl⟩ | ⟨s,xs,hp,rfl,hri,hre,hok,hxs⟩
  ·have hN:=NR (by omega) qs qh hp
   refine gS (Yk.notB rfl (cT rfl (FP (v:= .tuple #[(Value.slice none 0 0),(Value.slice none 0 0),(Value.slice none 0 0),NI 6]) (vs:= [(Value.slice none 0 0),(Value.slice none 0 0),(Value.slice none 0 0),NI 6]) rfl rfl ⟨rfl,rfl,rfl,rfl,trivial⟩ ?_)))
   have hE:=hE.trans ap
   have hE:=Aa hE aq (Nat.le_trans bh (by omega))
   exact⟨_,_,_,6,rfl,hE,OpR.err hN (by decide) (RG.nil _ _ _)⟩
  have hO:=NQ (by omega) qs qh hp
  have hPx:=NP hp (by omega) hxs
  have hP:=hPx.1
  have hPl:=hP.len
  have hPe:=hP.le
  refine gS (Yk.notB rfl (cF rfl ?_))
  have c:=Ext.refl x
  have hE:=hE.trans ap
  have hE:=Aa hE aq (Nat.le_trans bh (by omega))
  have j:=j.trans ap
  have j:=Aa j aq (Nat.le_trans cd (by omega))
  have bj:=hE.size
  have bk:=j.size
  have bm:=p.size
  have hw1:=hok
  have hra0:OG x.heap.size 24 1 vC x (Value.slice none 0 0) ([]:List Value):=OG.nil _ _ _ _ _
  have ce:Value.ownBlock (Value.slice none 0 0)≠some ac:=fun h=>by cases h
  have cf:Value.ownBlock (Value.slice none 0 0)≠some ad:=fun h=>by cases h
  have hrd0:OG x.heap.size 3 1 Dz x (Value.slice (none) 0 0) ([]:List Nat):=OG.nil _ _ _ _ _
  have cg:Value.ownBlock (Value.slice (none) 0 0)≠some ac:=fun h=>by cases h
  have ch:Value.ownBlock (Value.slice (none) 0 0)≠some ad:=fun h=>by cases h
  have ci:Am (Value.slice (none) 0 0) (Value.slice none 0 0):=fun k h=>by cases h
  have cj:Am (Value.slice none 0 0) (Value.slice (none) 0 0):=fun k _ h=>by cases h
  have g:=eb a4 g
  have dv:=Aw (bl g) cc
  have g:=eb ap g
  have g:=kb aq g (by omega)
  refine gL (fun(ρ:Ae) (wz:World)=>∃i:Nat,∃o:MV,∃vs:List Value,∃va:Value,∃vd:Value,ρ 0=(v:Value)∧ρ 6=(PQ ac 0:Value)∧ρ 7=(PQ ad 0:Value)∧ρ 8=(.bool (true):Value)∧ρ 18=(.bool (false):Value)∧ρ 21=(.bool (false):Value)∧ρ 36=(.bool (false):Value)∧ρ 43=(.bool (false):Value)∧ρ 12=(NI i:Value)∧ρ 11=(NI o.1:Value)∧ρ 9=(va:Value)∧ρ 10=(vd:Value)∧Ext w wz∧Ext a9 wz∧wz.heap[ac]? =some (.cells (Lib.byteCells (Sha.sum (b.take ((b.length)-(32))))).toArray 38 (0,0))∧Ext bf wz∧wz.heap[ad]? =some (.cells ([ae,aj]).toArray 130 (0,0))∧Ext x wz∧ByIn wz va vd vs o.2.1∧OG x.heap.size 24 1 (vC) wz va (vs)∧OG x.heap.size 3 1 (Dz) wz vd (o.2.2)∧(Eu (entR s) s.ids i = .ok o)∧(i≤s.ids.length)∧(OB va ac)∧(OB va ad)∧(Am va vd)∧(OB vd ac)∧(OB vd ad)∧(Am vd va)∧True) (fun ρ _=>s.ids.length-(intOf (ρ 12)).toNat) ⟨0,(0,[],[]),[],(Value.slice none 0 0),(Value.slice (none) 0 0),rfl,rfl,rfl,rfl,rfl,rfl,rfl,rfl,rfl,rfl,rfl,rfl,hE,j,g,p,f,c,ByIn.nil _ _ _,Bo hra0 (rfl),Bo hrd0 (rfl),rfl,Nat.zero_le _,ce,cf,cj,cg,ch,ci,trivial⟩ ?_
  clear hra0
  clear hrd0
  clear hE g p f
  rintro ck dw ⟨i,o,vs,va,vd,T0,T6,z,T8,co,cq,cr,cs,aa,bn,T9,a6,hE,j,g,p,f,c,hBy,hr_va,hr_vd,hs,hil,hap_va_n17,hap_va_n45,hap_va_vd,hap_vd_n17,hap_vd_n45,hap_vd_va,-⟩
  have q12:=aa
  by_cases hlt:i<s.ids.length
  ·have hlx:i<xs.length:=by omega
   have he0:=hP.e i hlx
   have hst:=HP hs
   have hol:=Pz hs
   have hol1:=hol.1
   have hol2:=hol.2.1
   have hvl:=hBy.len
   have hxo:=hok _ (getD_mem dEnt hlx)
   by_cases qd:E5 (entR s) (xs.getD (i) dEnt).1<0
   ·rw[RZ he0 (Qt qd)]at hst
    have hN:=hO.trans (EK (by omega) hst)
    refine gS (Yk.fieldAt Eh z (gS (Yk.cell1 Lc rfl rfl (cellAt f rfl) (gS (Yk.lenRG Lc (RG.of (hri.keep c) rfl) (gS (Yk.eqI (a:=(i:Nat)) (b:=((s.ids).length:Nat)) aa rfl (Ah _ _ _ _) (kT (hlt) (cT rfl (gS (Yk.loadAll z f (HU).choose_spec rfl ((show(Tryd.prog.info? 130).map (·.size)=some 2 from GX)) (gS (Yk.callA2 LR rfl aa ((G4 _ ae aj s.ids xs (entR s) hP (hri.keep c) (hre.keep c) (hok.keep c) i hlx).mono ?_))))))))))))))
    rintro e ct ⟨rfl,bo⟩
    refine⟨_,rfl,?_⟩
    have hBy:ByIn ct va vd vs o.2.1:=(hBy.keep bo)
    refine gS (Yk.eqI rfl rfl (Fa _ .i64 (E5 (entR s) (xs.getD (i) dEnt).1:Int) ((0:Nat):Int)) (kT (qd) (cT rfl (FP (v:= .tuple #[(Value.slice none 0 0),(Value.slice none 0 0),(Value.slice none 0 0),NI 17]) (vs:= [(Value.slice none 0 0),(Value.slice none 0 0),(Value.slice none 0 0),NI 17]) rfl rfl ⟨rfl,rfl,rfl,rfl,trivial⟩ ?_))))
    have hE:=hE.trans bo
    exact⟨_,_,_,17,rfl,hE,OpR.err hN (by decide) (RG.nil _ _ _)⟩
   refine Exists.elim (Rh qd) fun d hd=> ?_
   have ha_:=hd
   have hd5:=ha_.1
   have hdr:=ha_.2.1
   have hdd:=ha_.2.2.1
   have hdl:=ha_.2.2.2
   clear ha_
   refine gS (Yk.fieldAt Eh z (gS (Yk.cell1 Lc rfl rfl (cellAt f rfl) (gS (Yk.lenRG Lc (RG.of (hri.keep c) rfl) (gS (Yk.eqI (a:=(i:Nat)) (b:=((s.ids).length:Nat)) aa rfl (Ah _ _ _ _) (kT (hlt) (cT rfl (gS (Yk.loadAll z f (HU).choose_spec rfl ((show(Tryd.prog.info? 130).map (·.size)=some 2 from GX)) (gS (Yk.callA2 LR rfl aa ((G4 _ ae aj s.ids xs (entR s) hP (hri.keep c) (hre.keep c) (hok.keep c) i hlx).mono ?_))))))))))))))
   rintro e a7 ⟨rfl,af⟩
   refine⟨_,rfl,?_⟩
   have hBy:ByIn a7 va vd vs o.2.1:=(hBy.keep af)
   have f:=eb af f
   refine gS (Yk.eqI (a:=(d:Nat)) (b:=(0:Nat)) (vr (NI d) (congrArg (Value.int .i64) hdr)) rfl (Ah _ _ _ _) (kF (by omega) (cF rfl (gS (Yk.loadAll z f (HU).choose_spec rfl ((show(Tryd.prog.info? 130).map (·.size)=some 2 from GX)) ?_)))))
   have hr_va:=hr_va.keep af
   have hva_:∀k,Value.ownBlock va=some k→x.heap.size≤k∧k<a7.heap.size:=hr_va.2.lt
   have hr_vd:=hr_vd.keep af
   have hvd_:∀k,Value.ownBlock vd=some k→x.heap.size≤k∧k<a7.heap.size:=hr_vd.2.lt
   have c:=c.trans af
   refine gS (Yk.callA2 Qx rfl aa ((KH ae aj s.ids xs (entR s) hP d _ (hri.keep c) (hre.keep c) (hok.keep c) i hlx 50 hd5).mono ?_))
   rintro e cu ⟨q,cb,rfl,ag,hByR,hor⟩
   refine⟨_,rfl,?_⟩
   have hBy:ByIn cu va vd vs o.2.1:=(hBy.keep ag)
   refine gS (Yk.extract (vs:= [q, .bool (cb)]) rfl rfl (gS (Yk.extract (vs:= [q, .bool (cb)]) rfl rfl ?_)))
   rcases ByR.cases hByR with ⟨hcb,rfl⟩ | ⟨bb,kk,hcb,rfl,hby⟩
   ·rw[R6 he0 hd5 hcb]at hst
    have hN:=hO.trans (EK (by omega) hst)
    refine gS (Yk.notB rfl (cT rfl (FP (v:= .tuple #[(Value.slice none 0 0),(Value.slice none 0 0),(Value.slice none 0 0),NI 6]) (vs:= [(Value.slice none 0 0),(Value.slice none 0 0),(Value.slice none 0 0),NI 6]) rfl rfl ⟨rfl,rfl,rfl,rfl,trivial⟩ ?_)))
    have hZ1:=af.trans ag
    have hE:=hE.trans hZ1
    exact⟨_,_,_,6,rfl,hE,OpR.err hN (by decide) (RG.nil _ _ _)⟩
   have c:=c.trans ag
   have hvb:=RI hw1 hor hva_ hvd_ (c).size hby
   rw[Rm he0 hd5 hcb]at hst
   have hbl:=(EG hcb).1
   have hel:(s.ids.getD i []).length=32:=As (RG.elem hri [] hlt)
   by_cases qm:Sha.sum bb=s.ids.getD i []
   ·by_cases qt:o.1+bb.length≤4194304
    ·have hve:=RB.slice hby
     have hve1:=(RB.one hby).2
     refine gS (Yk.notB rfl (cF rfl (DC [0,2,3,4,5,6,1,7] [1] [2,5] [3,6] fun bp am=> ?_)))
     have hBy:ByIn bp va vd vs o.2.1:=(hBy.keep am)
     have aw:=Ext.refl bp
     have hZ2:=ag.trans am
     have f:=eb hZ2 f
     refine C3 aw ?_
     refine yp (Yk.fieldAt Eh z zz) (yf (fun _ ⟨hZ,_⟩=>Yk.cell1 Lc rfl rfl (cellAt (eb hZ f) rfl) zz) ?_)
     have c:=c.trans am
     have cv:(Lib.byteCells ((s.ids).getD (i) ([]:List UInt8))).length=32:=(RG.elem (hri.keep c) ([]:List UInt8) (hlt))
     have hby:=hby.keep am
     refine yA (Yk.atRG Lc Og (by decide) ([]:List UInt8) (RG.of (hri.keep c) rfl) aa (hlt) fun dx ax=>(yf (fun _ ⟨hZ,_⟩=>Yk.loadPR (PR.of (PR.keep ax hZ) rfl) QJ rfl (by rw[cv];exact N2) zz) (yE (Yk.callA1 FJ rfl ((D1 _ q (bb) hby (by omega)).mono ?_)))))
     rintro e cw ⟨rfl,ai⟩
     refine⟨_,rfl,?_⟩
     have hBy:ByIn cw va vd vs o.2.1:=(hBy.keep ai)
     have ax:=PR.keep ax ai
     have aw:=aw.trans ai
     refine⟨aw,?_⟩
     refine ys (Yk.neArr (l1:=(Sha.sum bb)) (l2:=((s.ids).getD (i) ([]:List UInt8))) QJ u5 M4 O0 rfl rfl ((Sha.sum_length _)) (hel) zz) (kF (fun h=>h qm) ?_)
     clear ax
     have hby:=hby.keep ai
     refine cF rfl (gS (Yk.lenRB EX (RB.of hby rfl) (gS (Yk.bin (xv:=NI o.1) (yv:=NI bb.length) bn rfl rfl (Ac _ _ _ (by omega)) (gS (Yk.eqI (a:=((o.1)+(bb.length):Nat)) (b:=(4194304:Nat)) rfl rfl (Av _ _ _ _) (kF (by omega) (cF rfl (gS (Yk.lit1S (a:=(q)) (enc:=vC) (vr q rfl) rfl (fun w=>by obtain⟨_,_,_,rfl⟩:=hve;exact QB _ _ _ w) fun cx a8 bq an=> ?_))))))))))
     have hBy:ByIn a8 va vd vs o.2.1:=(hBy.keep an)
     have hvb:=hvb.keep ((am.trans ai).trans an)
     have hby:=hby.keep an
     have hBy:ByIn a8 va vd (vs++ [q]) (o.2.1++ [bb]):=ByIn.snoc hBy hby hvb
     have hZ3:=(hZ2.trans ai).trans an
     have hr_va:=hr_va.keep hZ3
     have hZ4:=ai.trans an
     have c:=c.trans hZ4
     refine gS (Yk.appendRG _ _ x.heap.size _ 24 JU rf9_ig24.choose_spec.1 rf9_ig24.choose_spec.2 JU (vs) ([(q)]) (OG.of hr_va T9) (RG.of bq (vr cx rfl)) (fun y hy u hu=>by rw[List.mem_singleton.1 hu,List.mem_singleton.1 hy];exact hve1) (by simp only[List.length_cons,List.length_nil];omega) (by simp only[List.length_cons,List.length_nil];omega) c.size fun ab br ao r=> ?_)
     have hBy_:=hBy
     have r:Grew a8 br va ab:= .eqv T9 r
     have hZ5:=(((af.trans ag).trans am).trans ai).trans an
     have g:=eb hZ5 g
     have cy:OB ab ac:=An r hap_va_n17 (bl g)
     have f:=eb hZ4 f
     have cz:OB ab ad:=An r hap_va_n45 (bl f)
     have hr_vd:=hr_vd.keep hZ3
     have c0:Am ab vd:=AJ r hap_va_vd hr_vd.2
     have bs:Am vd ab:=fun k h1 h2=>c0 k h2 h1
     have hE:=hE.trans hZ5
     have hE:=Af hE r hr_va.2 bj
     have j:=j.trans hZ5
     have j:=Af j r hr_va.2 bk
     have g:=Ak g r hap_va_n17
     have p:=p.trans hZ5
     have p:=Af p r hr_va.2 bm
     have f:=Ak f r hap_va_n45
     have c:=Af c r hr_va.2 (Nat.le_refl _)
     have hr_vd:=A4 hr_vd r hap_va_vd
     clear hvb
     clear hby
     clear bq
     clear hr_va
     have hBy:ByIn br ab vd (vs++ [q]) (o.2.1++ [bb]):=ByIn.grewA hBy_ r;clear hBy_
     refine gS (Yk.lit1S (a:=d) (enc:=Dz) (vr (NI d) (congrArg (Value.int .i64) hdr)) rfl (fun w=>Nf _ w) fun c1 bt bu ah=> ?_)
     have hBy:ByIn bt ab vd (vs++ [q]) (o.2.1++ [bb]):=(hBy.keep ah)
     have c:=c.trans ah
     have hr_vd:=hr_vd.keep ah
     refine gS (Yk.appendRG _ _ x.heap.size _ 8 JM rf8_ig3.choose_spec.1 rf8_ig3.choose_spec.2 JM (o.2.2) ([d]) (OG.of hr_vd a6) (RG.of bu (vr c1 rfl)) (fun y hy u hu=>by rw[List.mem_singleton.1 hu];rfl) (by simp only[List.length_cons,List.length_nil];omega) (by simp only[List.length_cons,List.length_nil];omega) c.size fun ak bv c2 t=> ?_)
     have hBy_:=hBy
     have t:Grew bt bv vd ak:= .eqv a6 t
     have g:=eb ah g
     have c3:OB ak ac:=An t hap_vd_n17 (bl g)
     have f:=eb ah f
     have c4:OB ak ad:=An t hap_vd_n45 (bl f)
     have ao:=ao.keep ah
     have bw:Am ak ab:=AJ t bs ao.2
     have c5:Am ab ak:=fun k h1 h2=>bw k h2 h1
     have hE:=hE.trans ah
     have hE:=Af hE t hr_vd.2 bj
     have j:=j.trans ah
     have j:=Af j t hr_vd.2 bk
     have g:=Ak g t hap_vd_n17
     have p:=p.trans ah
     have p:=Af p t hr_vd.2 bm
     have f:=Ak f t hap_vd_n45
     have c:=Af c t hr_vd.2 (Nat.le_refl _)
     have ao:=A4 ao t bs
     clear bu
     clear hr_vd
     have hBy:ByIn bv ab ak (vs++ [q]) (o.2.1++ [bb]):=ByIn.grewD hBy_ t;clear hBy_
     have hst:=hst.trans ((if_pos qm).trans (if_pos qt))
     refine gS (Yk.bin (xv:=NI i) (yv:=NI 1) aa rfl rfl (Ac _ _ _ (by omega)) (gK (And.intro ⟨i+1,(o.1+bb.length,o.2.1++ [bb],o.2.2++ [d]),vs++ [q],ab,ak,T0,T6,z,T8,co,cq,cr,cs,rfl,rfl,rfl,rfl,hE,j,g,p,f,c,hBy,Bo ao (rfl),Bo c2 (rfl),hst,by omega,cy,cz,c5,c3,c4,bw,trivial⟩ ?_)))
     show s.ids.length-(intOf (NI ((i)+(1)))).toNat<s.ids.length-(intOf (ck 12)).toNat
     rw[q12]
     simp only[intOf,Int.toNat_natCast];omega
    have hst:=hst.trans ((if_pos qm).trans (if_neg qt))
    have hN:=hO.trans (EK (by omega) hst)
    refine gS (Yk.notB rfl (cF rfl (DC [0,2,3,4,5,6,1,7] [1] [2,5] [3,6] fun bx ar=> ?_)))
    have hBy:ByIn bx va vd vs o.2.1:=(hBy.keep ar)
    have ay:=Ext.refl bx
    have hZ6:=ag.trans ar
    have f:=eb hZ6 f
    refine C3 ay ?_
    refine yp (Yk.fieldAt Eh z zz) (yf (fun _ ⟨hZ,_⟩=>Yk.cell1 Lc rfl rfl (cellAt (eb hZ f) rfl) zz) ?_)
    have c:=c.trans ar
    have c6:(Lib.byteCells ((s.ids).getD (i) ([]:List UInt8))).length=32:=(RG.elem (hri.keep c) ([]:List UInt8) (hlt))
    have hby:=hby.keep ar
    refine yA (Yk.atRG Lc Og (by decide) ([]:List UInt8) (RG.of (hri.keep c) rfl) aa (hlt) fun dy az=>(yf (fun _ ⟨hZ,_⟩=>Yk.loadPR (PR.of (PR.keep az hZ) rfl) QJ rfl (by rw[c6];exact N2) zz) (yE (Yk.callA1 FJ rfl ((D1 _ q (bb) hby (by omega)).mono ?_)))))
    rintro e c7 ⟨rfl,au⟩
    refine⟨_,rfl,?_⟩
    have hBy:ByIn c7 va vd vs o.2.1:=(hBy.keep au)
    have az:=PR.keep az au
    have ay:=ay.trans au
    refine⟨ay,?_⟩
    refine ys (Yk.neArr (l1:=(Sha.sum bb)) (l2:=((s.ids).getD (i) ([]:List UInt8))) QJ u5 M4 O0 rfl rfl ((Sha.sum_length _)) (hel) zz) (kF (fun h=>h qm) ?_)
    clear az
    have hby:=hby.keep au
    refine cF rfl (gS (Yk.lenRB EX (RB.of hby rfl) (gS (Yk.bin (xv:=NI o.1) (yv:=NI bb.length) bn rfl rfl (Ac _ _ _ (by omega)) (gS (Yk.eqI (a:=((o.1)+(bb.length):Nat)) (b:=(4194304:Nat)) rfl rfl (Av _ _ _ _) (kT (by omega) (cT rfl (FP (v:= .tuple #[(Value.slice none 0 0),(Value.slice none 0 0),(Value.slice none 0 0),NI 2]) (vs:= [(Value.slice none 0 0),(Value.slice none 0 0),(Value.slice none 0 0),NI 2]) rfl rfl ⟨rfl,rfl,rfl,rfl,trivial⟩ ?_)))))))))
    have hZ7:=((af.trans ag).trans ar).trans au
    have hE:=hE.trans hZ7
    exact⟨_,_,_,2,rfl,hE,OpR.err hN (by decide) (RG.nil _ _ _)⟩
   have hst:=hst.trans (if_neg qm)
   have hN:=hO.trans (EK (by omega) hst)
   refine gS (Yk.notB rfl (cF rfl (DC [0,2,3,4,5,6,1,7] [1] [2,5] [3,6] fun bz av=> ?_)))
   have hBy:ByIn bz va vd vs o.2.1:=(hBy.keep av)
   have a0:=Ext.refl bz
   have hZ8:=ag.trans av
   have f:=eb hZ8 f
   refine C3 a0 ?_
   refine yp (Yk.fieldAt Eh z zz) (yf (fun _ ⟨hZ,_⟩=>Yk.cell1 Lc rfl rfl (cellAt (eb hZ f) rfl) zz) ?_)
   have c:=c.trans av
   have c8:(Lib.byteCells ((s.ids).getD (i) ([]:List UInt8))).length=32:=(RG.elem (hri.keep c) ([]:List UInt8) (hlt))
   have hby:=hby.keep av
   refine yA (Yk.atRG Lc Og (by decide) ([]:List UInt8) (RG.of (hri.keep c) rfl) aa (hlt) fun dz a1=>(yf (fun _ ⟨hZ,_⟩=>Yk.loadPR (PR.of (PR.keep a1 hZ) rfl) QJ rfl (by rw[c8];exact N2) zz) (yE (Yk.callA1 FJ rfl ((D1 _ q (bb) hby (by omega)).mono ?_)))))
   rintro e c9 ⟨rfl,a2⟩
   refine⟨_,rfl,?_⟩
   have hBy:ByIn c9 va vd vs o.2.1:=(hBy.keep a2)
   have a1:=PR.keep a1 a2
   have a0:=a0.trans a2
   refine⟨a0,?_⟩
   refine ys (Yk.neArr (l1:=(Sha.sum bb)) (l2:=((s.ids).getD (i) ([]:List UInt8))) QJ u5 M4 O0 rfl rfl ((Sha.sum_length _)) (hel) zz) (kT (qm) ?_)
   clear a1
   refine cT rfl (FP (v:= .tuple #[(Value.slice none 0 0),(Value.slice none 0 0),(Value.slice none 0 0),NI 18]) (vs:= [(Value.slice none 0 0),(Value.slice none 0 0),(Value.slice none 0 0),NI 18]) rfl rfl ⟨rfl,rfl,rfl,rfl,trivial⟩ ?_)
   have hZ9:=((af.trans ag).trans av).trans a2
   have hE:=hE.trans hZ9
   exact⟨_,_,_,18,rfl,hE,OpR.err hN (by decide) (RG.nil _ _ _)⟩
  have hin:i=s.ids.length:=by omega
  rw[hin]at hs
  have hN:=hO.trans (Mm hs)
  refine gS (Yk.fieldAt Eh z (gS (Yk.cell1 Lc rfl rfl (cellAt f rfl) (gS (Yk.lenRG Lc (RG.of (hri.keep c) rfl) (gS (Yk.eqI (a:=(i:Nat)) (b:=((s.ids).length:Nat)) aa rfl (Ah _ _ _ _) (kF (hlt) (cF rfl (gS (Yk.fieldAt Eh z (gS (Yk.cell1 Lc rfl rfl (cellAt f rfl) (FP (v:= .tuple #[ae,va,vd,NI 0]) (vs:= [ae,va,vd,NI 0]) rfl rfl ⟨rfl,T9,a6,rfl,trivial⟩ ?_))))))))))))))
  exact⟨_,_,_,0,rfl,hE,OpR.ok hN (hri.keep c) (RG.ofOwn hr_va) (ByIn.rb hBy) (RG.ofOwn hr_vd)⟩
 have hN:=Ml (by omega) qs qh
 refine gS (Yk.lenRB EX (RB.of (hr.keep hE) rfl) (gS (Yk.eqI (a:=(b.length:Nat)) (b:=(1048576:Nat)) rfl rfl (Av _ _ _ _) (kF (by omega) (cF rfl (gS (Yk.lenRB EX (RB.of (hr.keep hE) rfl) (gS (Yk.eqI (a:=(b.length:Nat)) (b:=(36:Nat)) rfl rfl (Ah _ _ _ _) (kF (qs) (cF rfl (gS (Yk.lenRB EX (RB.of (hr.keep hE) rfl) (gS (Yk.bin (xv:=NI b.length) (yv:=NI 32) rfl rfl rfl (Ay _ _ _ (by omega) (by omega)) (gS (Yk.sliceHi (xs:=b) (n:=(b.length)-(32)) EX M4 rfl (hr.keep hE) rfl (by omega) fun da db ha195=>(gS (Yk.callA1 FJ rfl ((D1 _ da (b.take ((b.length)-(32))) db (by rw[List.length_take];omega)).mono ?_))))))))))))))))))))
 rintro e d0 ⟨rfl,dc⟩
 refine⟨_,rfl,?_⟩
 refine gS (Yk.alloc PP fun b0 dd d1 b1 de d2=> ?_)
 have hE:=hE.trans dc
 have df:=hE.size
 have al:=b1;clear b1
 have d3:b0<dd.heap.size:=by omega
 refine gS (Yk.storeAll (vr (PQ b0 0) rfl) (vr (AB (Sha.sum (b.take ((b.length)-(32))))) rfl) al (by exact BQ (Sha.sum_length _) List.length_replicate) (by exact Ag (Sha.sum_length _)) (Ai _) fun d4 b2 dg d5=> ?_)
 clear al
 have al:=b2;clear b2
 have d6:=bl al
 refine Bw [0,1,2,3,4,5,6,7,8] [] [] fun d7 b3=> ?_
 have hE:=hE.trans de
 have hE:=Aa hE dg (Nat.le_trans df (by omega))
 have hE:=hE.trans b3
 have al:=eb b3 al
 refine ys (Yk.sliceArr QJ M4 rfl zz) (ys (Yk.convRB EX u5 MH (RB.of (RB.ofBlkN al (Sha.sum_length _) (by decide)) rfl) zz) (ys (Yk.lenRB EX (RB.of (hr.keep hE) rfl) zz) (ys (Yk.bin (xv:=NI b.length) (yv:=NI 32) rfl rfl rfl (Ay _ _ _ (by omega) (by omega)) zz) (yS (Yk.sliceLo (xs:=b) (l:=(b.length)-(32)) EX M4 rfl (hr.keep hE) rfl (by omega) fun d8 dh ha220=>(ys (Yk.convRB EX u5 MH (RB.of dh rfl) zz) (ys (Yk.eqSt (l:=Sha.sum (b.take ((b.length)-(32)))) (m:=b.drop ((b.length)-(32))) (.inr rfl) rfl rfl (decide ((Sha.sum (b.take ((b.length)-(32))):List UInt8)≠(b.drop ((b.length)-(32)):List UInt8))) rfl zz) (kT (qh) (cT rfl (FP (v:= .tuple #[(Value.slice none 0 0),(Value.slice none 0 0),(Value.slice none 0 0),NI 18]) (vs:= [(Value.slice none 0 0),(Value.slice none 0 0),(Value.slice none 0 0),NI 18]) rfl rfl ⟨rfl,rfl,rfl,rfl,trivial⟩ ?_))))))))))
 exact⟨_,_,_,18,rfl,hE,OpR.err hN (by decide) (RG.nil _ _ _)⟩
open Go.RowKit
set_option maxRecDepth 100000
theorem PA:AA Tryd.prog 29:=fun _ _=>by kernel_rfl
theorem PB:AA Tryd.prog 43:=fun _ _=>by kernel_rfl
theorem Kn:AA Tryd.prog 22:=fun _ _=>by kernel_rfl
theorem Ko:AA Tryd.prog 44:=fun _ _=>by kernel_rfl
theorem PC:AA Tryd.prog 18:=fun _ _=>by kernel_rfl
theorem Kp:AA Tryd.prog 20:=fun _ _=>by kernel_rfl
theorem Kq:AA Tryd.prog 14:=fun _ _=>by kernel_rfl
set_option maxHeartbeats 1600000
theorem Kr(w:World)(hG:Laid w)(v:Value)(b:Bs)(hr:RB w v b)(hb:b.length≤65536):
  Calls Tryd.prog 20 #[v] w fun e w' =>e = .returned (.bool true)∧Ext w w' :=by
 refine gG (args:= [v]) Tryd.func20 rfl 97 rfl rfl ?_
 have hE:=Ext.refl w
 refine gS (Yk.callA1 PA rfl ((PI _ v (b) (hr.keep hE) (by omega)).mono ?_))
 rintro e w5 ⟨v3,rfl,am⟩
 refine⟨_,rfl,?_⟩
 have f:=am.own
 have hE:=hE.trans am.ext
 refine gS (Yk.callA1 Pd rfl ((Ly _ (hG.keep hE) v3 (b) (RB.ofOwn f)).mono ?_))
 rintro e a6 ⟨_,rfl,v7,k8,rfl,hO9,ac⟩
 refine⟨_,rfl,?_⟩
 have hq:PackO a6 v7 (qOf (openP (b))):=(OpenRes.q hO9).1
 have hce:=(OpenRes.q hO9).2
 subst hce
 clear hO9
 have hE:=hE.trans ac
 refine gS (Yk.extract (vs:= [v7,NI (Pk (openP (b)))]) rfl rfl (gS (Yk.extract (vs:= [v7,NI (Pk (openP (b)))]) rfl rfl (gS (Yk.callA1 PB rfl ((Mn _ v b (hr.keep hE) hb).mono ?_))))))
 rintro e o ⟨vi,va,vd,ec,rfl,u,hOR⟩
 refine⟨_,rfl,?_⟩
 refine gS (Yk.extract (vs:= [vi,va,vd,NI ec]) rfl rfl (gS (Yk.extract (vs:= [vi,va,vd,NI ec]) rfl rfl (gS (Yk.extract (vs:= [vi,va,vd,NI ec]) rfl rfl (gS (Yk.extract (vs:= [vi,va,vd,NI ec]) rfl rfl ?_)))))))
 have hq:=hq.keep u
 rcases Rn hq hOR with ⟨he1,he0,hpv,hri,hsm⟩ | ⟨ids,all,dep,vs,g,he1,hec,hS⟩
 ·have hq2:PackO o (.pointer none) (qOf (openP (b))):=hpv▸hq
  have hil0:(0:Nat)≤([]:List Bs).length:=Nat.zero_le _
  refine gS (Yk.eqI (a:=(ec:Nat)) (b:=(ec:Nat)) (vr (NI ec) (congrArg (fun n:Nat=>NI n) he1)) rfl (AF _ _ _ _) (kF (fun h=>h rfl) (gS (Yk.eqlNil EZ (vr (.pointer none) hpv) (gS (Yk.eqI (a:=(ec:Nat)) (b:=(0:Nat)) rfl rfl (AF _ _ _ _) (kT (he0) (gS (Yk.neBool (a:=true) (b:=true) IB rfl rfl (gS (Yk.pickF rfl rfl (cF rfl (gS (Yk.callA1 Kn (vr (.pointer none) hpv) ((Lz _ (.pointer none) (qOf (openP (b))) hq2 (by have:F9 _≤_:=(IG (b)).1;omega)).mono ?_)))))))))))))))
  rintro e a9 ⟨an,rfl,t,ao⟩
  refine⟨_,rfl,?_⟩
  have j:=Ext.refl o
  have hE:=hE.trans u
  have ba:=hE.size
  have f:=Stab.own _ _ _ _ _ _ _ _ f (ac.trans u)
  have j:=j.trans ao
  refine gS (Yk.callA2 Ko rfl rfl (((show Calls _ _ _ _ (fun e w2=>e = .returned (.bool true)∧Ext _ w2)from by have h:=Ig _ an vi (idsQ (qOf (openP (b)))) ([]:List Bs) (RG.ofOwn t) (hri.keep j) (by rw[hsm];first | omega | decide);rw[decide_eq_true hsm]at h;exact h)).mono ?_))
  rintro e bb ⟨rfl,ae⟩
  refine⟨_,rfl,?_⟩
  have j:=j.trans ae
  refine gS (Yk.notB rfl (gS (Yk.callA1 Pf (vr (.pointer none) hpv) ((IF _ (.pointer none) (qOf (openP (b))) (hq2.keep j)).mono ?_))))
  rintro e bc ⟨rfl,af⟩
  refine⟨_,rfl,?_⟩
  have hZ1:=(ao.trans ae).trans af
  have hE:=hE.trans hZ1
  have f:=Stab.own _ _ _ _ _ _ _ _ f hZ1
  have t:=t.keep (ae.trans af)
  have j:=j.trans af
  refine gS (Yk.lenRG Lc (RG.of (hri.keep j) rfl) (gS (Yk.eqI (a:=(F9 (qOf (openP (b))):Nat)) (b:=((([]:List Bs)).length:Nat)) rfl rfl (AF _ _ _ _) (kF (fun h=>h (by show(idsQ _).length=_;rw[hsm])) (gS (Yk.pickF rfl rfl (cF rfl (gL (fun(ρ:Ae) (wz:World)=>∃i:Nat,ρ 0=(v:Value)∧ρ 3=(.pointer none:Value)∧ρ 4=(NI ec:Value)∧ρ 5=(vi:Value)∧ρ 6=(va:Value)∧ρ 7=(vd:Value)∧ρ 8=(NI ec:Value)∧ρ 36=(.bool (false):Value)∧ρ 48=(.bool (false):Value)∧ρ 9=(NI i:Value)∧Ext w wz∧wz.ownsRow w.heap.size 5 1 v3 b.length (Lib.byteCells (b))∧Ext o wz∧OG o.heap.size 38 32 (Lib.byteCells) wz an (idsQ (qOf (openP (b))))∧(i≤([]:List Bs).length)∧True) (fun ρ _=>([]:List Bs).length-(intOf (ρ 9)).toNat) ⟨0,rfl,hpv,(congrArg (fun n:Nat=>NI n) he1),rfl,rfl,rfl,rfl,rfl,rfl,rfl,hE,f,j,t,Nat.zero_le _,trivial⟩ ?_))))))))
  clear hE f t
  rintro bd be ⟨i,T0,y,T4,s,T6,T7,T8,au,av,k,hE,f,j,t,hil,-⟩
  have q9:=k
  have hlt:¬i<([]:List Bs).length:=Nat.not_lt_zero _
  refine gS (Yk.lenRG Lc (RG.of (hri.keep j) s) (gS (Yk.eqI (a:=(i:Nat)) (b:=((([]:List Bs)).length:Nat)) k rfl (Ah _ _ _ _) (kF (hlt) (cF rfl (Bx rfl (vr (.bool (true)) rfl) ?_))))))
  exact⟨rfl,hE⟩
 have hq2:PackO o (PQ g 0) (qOf (openP (b))):=Eq.mp (congrArg (fun x=>PackO o x (qOf (openP (b)))) hS.p) hq
 have hsm:=hS.same
 have hri:=hS.rids
 have hra:=hS.rall
 have hrd:=hS.rdep
 have hrs:=hS.rows
 have hla:=hS.la
 have hld:=hS.ld
 have hlv:=hS.lv
 have hln:ids.length<1099511627776:=by have:(idsQ (qOf (openP (b)))).length≤_:=(IG (b)).1;rw[hsm]at this;omega
 refine gS (Yk.eqI (a:=(0:Nat)) (b:=(0:Nat)) (vr (NI 0) (congrArg (fun n:Nat=>NI n) he1)) (vr (NI 0) (congrArg (fun n:Nat=>NI n) hec)) (AF _ _ _ _) (kF (fun h=>h rfl) (gS (Yk.eqlNil EZ (vr (PQ g 0) hS.p) (gS (Yk.eqI (a:=(0:Nat)) (b:=(0:Nat)) (vr (NI 0) (congrArg (fun n:Nat=>NI n) hec)) rfl (AF _ _ _ _) (kF (fun h=>h rfl) (gS (Yk.neBool (a:=false) (b:=false) IB rfl rfl (gS (Yk.pickF rfl rfl (cF rfl (gS (Yk.callA1 Kn (vr (PQ g 0) hS.p) ((Lz _ (PQ g 0) (qOf (openP (b))) hq2 (by have:F9 _≤_:=(IG (b)).1;omega)).mono ?_)))))))))))))))
 rintro e bf ⟨aw,rfl,r,ax⟩
 refine⟨_,rfl,?_⟩
 have c:=Ext.refl o
 have hE:=hE.trans u
 have bg:=hE.size
 have f:=Stab.own _ _ _ _ _ _ _ _ f (ac.trans u)
 have c:=c.trans ax
 refine gS (Yk.callA2 Ko rfl rfl (((show Calls _ _ _ _ (fun e w2=>e = .returned (.bool true)∧Ext _ w2)from by have h:=Ig _ aw vi (idsQ (qOf (openP (b)))) ids (RG.ofOwn r) (hri.keep c) (by rw[hsm];first | omega | decide);rw[decide_eq_true hsm]at h;exact h)).mono ?_))
 rintro e bh ⟨rfl,ai⟩
 refine⟨_,rfl,?_⟩
 have c:=c.trans ai
 refine gS (Yk.notB rfl (gS (Yk.callA1 Pf (vr (PQ g 0) hS.p) ((IF _ (PQ g 0) (qOf (openP (b))) (hq2.keep c)).mono ?_))))
 rintro e bi ⟨rfl,aj⟩
 refine⟨_,rfl,?_⟩
 have hZ2:=(ax.trans ai).trans aj
 have hE:=hE.trans hZ2
 have f:=Stab.own _ _ _ _ _ _ _ _ f hZ2
 have r:=r.keep (ai.trans aj)
 have c:=c.trans aj
 refine gS (Yk.lenRG Lc (RG.of (hri.keep c) rfl) (gS (Yk.eqI (a:=(F9 (qOf (openP (b))):Nat)) (b:=(ids.length:Nat)) rfl rfl (AF _ _ _ _) (kF (fun h=>h (by show(idsQ _).length=_;rw[hsm])) (gS (Yk.pickF rfl rfl (cF rfl (gL (fun(ρ:Ae) (wz:World)=>∃i:Nat,ρ 0=(v:Value)∧ρ 3=(PQ g 0:Value)∧ρ 4=(NI 0:Value)∧ρ 5=(vi:Value)∧ρ 6=(va:Value)∧ρ 7=(vd:Value)∧ρ 8=(NI 0:Value)∧ρ 36=(.bool (false):Value)∧ρ 48=(.bool (false):Value)∧ρ 9=(NI i:Value)∧Ext w wz∧wz.ownsRow w.heap.size 5 1 v3 b.length (Lib.byteCells (b))∧Ext o wz∧OG o.heap.size 38 32 (Lib.byteCells) wz aw (idsQ (qOf (openP (b))))∧(i≤ids.length)∧True) (fun ρ _=>ids.length-(intOf (ρ 9)).toNat) ⟨0,rfl,hS.p,(congrArg (fun n:Nat=>NI n) he1),rfl,rfl,rfl,(congrArg (fun n:Nat=>NI n) hec),rfl,rfl,rfl,hE,f,c,r,Nat.zero_le _,trivial⟩ ?_))))))))
 clear hE f r
 rintro a7 bj ⟨i,T0,y,T4,s,T6,T7,T8,au,av,k,hE,f,c,r,hil,-⟩
 have q9:=k
 by_cases hlt:i<ids.length
 ·have hgq:=hS.get i hlt
  have hel:(ids.getD i []).length=32:=As (RG.elem hri [] hlt)
  have hby:=hrs i (by omega)
  refine gS (Yk.lenRG Lc (RG.of (hri.keep c) s) (gS (Yk.eqI (a:=(i:Nat)) (b:=(ids.length:Nat)) k rfl (Ah _ _ _ _) (kT (hlt) (cT rfl ?_)))))
  have ay:(Lib.byteCells (ids.getD (i) ([]:List UInt8))).length=32:=(RG.elem (hri.keep c) ([]:List UInt8) (hlt))
  refine gS (Yk.atRG Lc Og (by decide) ([]:List UInt8) (RG.of (hri.keep c) s) k (hlt) fun bk az=>(gS (Yk.loadPR (PR.of az rfl) QJ rfl (by rw[ay];exact N2) (gS (Yk.callA2 PC y rfl ((Qg _ (PQ g 0) (qOf (openP (b))) (hq2.keep c) (ids.getD (i) ([]:List UInt8)) (As (ay)) (by have:=Qn (b) (ids.getD (i) ([]:List UInt8));omega)).mono ?_))))))
  rintro e bm ⟨a0,rfl,ak,a1⟩
  refine⟨_,rfl,?_⟩
  have bn:=hE.size
  have bo:=c.size
  refine gS (Yk.extract (vs:= [a0,NI ((Ba (qOf (openP (b))) (ids.getD (i) ([]:List UInt8))).2)]) rfl rfl (gS (Yk.extract (vs:= [a0,NI ((Ba (qOf (openP (b))) (ids.getD (i) ([]:List UInt8))).2)]) rfl rfl ?_)))
  clear az
  have c:=c.trans a1
  have a2:(Lib.byteCells (ids.getD (i) ([]:List UInt8))).length=32:=(RG.elem (hri.keep c) ([]:List UInt8) (hlt))
  refine gS (Yk.atRG Lc Og (by decide) ([]:List UInt8) (RG.of (hri.keep c) s) k (hlt) fun bp z=>(gS (Yk.loadPR (PR.of z rfl) QJ rfl (by rw[a2];exact N2) (gS (Yk.callA2 Pe y rfl ((LA _ (PQ g 0) (qOf (openP (b))) (hq2.keep c) (ids.getD (i) ([]:List UInt8)) (As (a2))).mono ?_))))))
  rintro e bq ⟨rfl,al⟩
  refine⟨_,rfl,?_⟩
  have z:=PR.keep z al
  refine gS (Yk.extract (vs:= [NI ((Ba (qOf (openP (b))) (ids.getD (i) ([]:List UInt8))).1.2),NI ((Ba (qOf (openP (b))) (ids.getD (i) ([]:List UInt8))).2)]) rfl rfl (gS (Yk.extract (vs:= [NI ((Ba (qOf (openP (b))) (ids.getD (i) ([]:List UInt8))).1.2),NI ((Ba (qOf (openP (b))) (ids.getD (i) ([]:List UInt8))).2)]) rfl rfl ?_)))
  clear z
  refine Bw [0,1,2,3,4,5,6,7,8,9,10,11,12,13,14,15,16,17,18,19,20,21,22,23] [] [] fun br a3=> ?_
  have hZ3:=al.trans a3
  have ak:=Stab.own _ _ _ _ _ _ _ _ ak hZ3
  refine ys (Yk.eqI (a:=((Ba (qOf (openP (b))) (ids.getD (i) ([]:List UInt8))).2:Nat)) (b:=(0:Nat)) rfl rfl (AF _ _ _ _) zz) (kF (fun h=>h (by rw[hgq])) (ys (Yk.eqI (a:=((Ba (qOf (openP (b))) (ids.getD (i) ([]:List UInt8))).2:Nat)) (b:=(0:Nat)) rfl rfl (AF _ _ _ _) zz) (kF (fun h=>h (by rw[hgq])) (ys (Yk.pickF rfl rfl zz) (ys (Yk.convRB EX u5 MH (RB.of (RB.ofOwn ak) rfl) zz) ?_)))))
  have c:=c.trans hZ3
  have bs:(vC (vs.getD (i) undef)).length=1:=(RG.elem (hra.keep c) undef (by omega))
  refine yA (Yk.atRG JU OJ (by decide) undef (RG.of (hra.keep c) T6) k (by omega) fun bt a4=>(ys (Yk.loadC EX rfl (PR.cell (PR.of a4 rfl) rfl) zz) (ys (Yk.convRB EX u5 MH (RB.of (hby.keep c) rfl) zz) (ys (Yk.eqSt (l:=(Ba (qOf (openP (b))) (ids.getD (i) ([]:List UInt8))).1.1) (m:=(all.getD i [])) (.inr rfl) rfl rfl (decide ((Ba (qOf (openP (b))) (ids.getD (i) ([]:List UInt8))).1.1≠((all.getD i []):List UInt8))) rfl zz) (kF (fun h=>h (by rw[hgq])) (ys (Yk.pickF rfl rfl zz) ?_))))))
  have bu:(Dz (dep.getD (i) 0)).length=1:=(RG.elem (hrd.keep c) 0 (by omega))
  refine yA (Yk.atRG JM Gk (by decide) 0 (RG.of (hrd.keep c) T7) k (by omega) fun bv a5=>(ys (Yk.loadC PJ rfl (PR.cell (PR.of a5 rfl) rfl) zz) (ys (Yk.eqI (a:=((Ba (qOf (openP (b))) (ids.getD (i) ([]:List UInt8))).1.2:Nat)) (b:=(dep.getD (i) 0:Nat)) rfl rfl (AF _ _ _ _) zz) (kF (fun h=>h (by rw[hgq])) (ys (Yk.pickF rfl rfl zz) ?_)))))
  clear a4
  clear a5
  have hZ4:=(a1.trans al).trans a3
  have hE:=hE.trans hZ4
  have f:=Stab.own _ _ _ _ _ _ _ _ f hZ4
  have r:=r.keep hZ4
  refine cF rfl (gS (Yk.bin (xv:=NI i) (yv:=NI 1) k rfl rfl (Ac _ _ _ (by omega)) (gK (And.intro ⟨i+1,T0,y,T4,s,T6,T7,T8,au,av,rfl,hE,f,c,r,by omega,trivial⟩ ?_))))
  show ids.length-(intOf (NI ((i)+(1)))).toNat<ids.length-(intOf (a7 9)).toNat
  rw[q9]
  simp only[intOf,Int.toNat_natCast];omega
 refine gS (Yk.lenRG Lc (RG.of (hri.keep c) s) (gS (Yk.eqI (a:=(i:Nat)) (b:=(ids.length:Nat)) k rfl (Ah _ _ _ _) (kF (hlt) (cF rfl (Bx rfl (vr (.bool (true)) rfl) ?_))))))
 exact⟨rfl,hE⟩

theorem Jz(w:World)(hG:Laid w)(v:Value)(b:Bs)(hr:RB w v b):
  Calls Tryd.prog 5 #[v] w fun e w' =>e = .returned (.bool true)∧Ext w w' :=by
 refine gG (args:= [v]) Tryd.func5 rfl 11 rfl rfl ?_
 have hE:=Ext.refl w
 by_cases q1:4000<b.length
 ·refine gS (Yk.lenRB EX (RB.of (hr.keep hE) rfl) (gS (Yk.eqI (a:=(b.length:Nat)) (b:=(4000:Nat)) rfl rfl (Av _ _ _ _) (kT (q1) (cT rfl (Bx rfl (vr (.bool (true)) rfl) ?_))))))
  exact⟨rfl,hE⟩
 refine gS (Yk.lenRB EX (RB.of (hr.keep hE) rfl) (gS (Yk.eqI (a:=(b.length:Nat)) (b:=(4000:Nat)) rfl rfl (Av _ _ _ _) (kF (q1) (cF rfl (gS (Yk.callA1 Kp rfl ((Kr _ (hG.keep hE) v (b) (hr.keep hE) (by omega)).mono ?_))))))))
 rintro e g ⟨rfl,c⟩
 refine⟨_,rfl,?_⟩
 have hE:=hE.trans c
 refine gS (Yk.callA0 Kq ((MO _ (hG.keep hE)).mono ?_))
 rintro e h ⟨rfl,f⟩
 refine⟨_,rfl,?_⟩
 refine gS (Yk.pickT rfl rfl (Bx rfl (vr (.bool (true)) rfl) ?_))
 have hE:=hE.trans f
 exact⟨rfl,hE⟩

theorem Jj(w:World)(hG:Laid w)(v:Value)(b:Bs)(hr:RB w v b):
  Calls Tryd.prog 6 #[v] w fun e w' =>e = .returned (.bool true)∧Ext w w' :=by
 refine gG (args:= [v]) Tryd.func6 rfl 18 rfl rfl ?_
 have hE:=Ext.refl w
 by_cases q1:4000<b.length
 ·refine gS (Yk.lenRB EX (RB.of (hr.keep hE) rfl) (gS (Yk.eqI (a:=(b.length:Nat)) (b:=(4000:Nat)) rfl rfl (Av _ _ _ _) (kT (q1) (cT rfl (Bx rfl (vr (.bool (true)) rfl) ?_))))))
  exact⟨rfl,hE⟩
 refine gS (Yk.lenRB EX (RB.of (hr.keep hE) rfl) (gS (Yk.eqI (a:=(b.length:Nat)) (b:=(4000:Nat)) rfl rfl (Av _ _ _ _) (kF (q1) (cF rfl (gS (Yk.callA1 FJ rfl ((D1 _ v b (hr.keep hE) (by omega)).mono ?_))))))))
 rintro e w9 ⟨rfl,y⟩
 refine⟨_,rfl,?_⟩
 refine gS (Yk.alloc PP fun h z ak p aa al=> ?_)
 have hE:=hE.trans y
 have ab:=hE.size
 have c:=p;clear p
 have am:h<z.heap.size:=by omega
 refine gS (Yk.storeAll (vr (PQ h 0) rfl) (vr (AB (Sha.sum b)) rfl) c (by exact BQ (Sha.sum_length _) List.length_replicate) (by exact Ag (Sha.sum_length _)) (Ai _) fun an q ac ao=> ?_)
 clear c
 have c:=q;clear q
 have ap:=bl c
 refine Bw [1,3,0,2,4,5,6,7,8,9] [0,2,4,5,7] [3] fun n r=>(yp (Yk.sliceArr QJ M4 rfl zz) (yC (Yk.lit0 Nj fun o ad i=> ?_)))
 have f:=Ext.refl n
 have hE:=hE.trans aa
 have hE:=Aa hE ac (Nat.le_trans ab (by omega))
 have hE:=hE.trans r
 have s:=hE.size
 have c:=eb r c
 have t:OB o h:=EW i.own (bl c)
 have k:=i.own
 have hE:=hE.trans i.ext
 have f:=f.trans i.ext
 refine yC (Yk.appendRB _ _ n.heap.size (.int .u8 0) EX IP rfl EX (([]:List UInt8)) (b) (BA k (vr o rfl)) (RB.of (hr.keep hE) (vr v rfl)) (by simp only[List.length_nil];omega) f.size fun l u m g=> ?_)
 have g:Grew ad u o l:=g
 have c:=eb i.ext c
 have ae:OB l h:=An g t (bl c)
 have hE:=Af hE g k s
 have c:=Ak c g t
 have f:=Af f g k (Nat.le_refl _)
 clear k
 refine yC (Yk.appendRB _ _ n.heap.size (.int .u8 0) EX IP rfl EX (([]:List UInt8)++b) (Sha.sum b) (BA m (vr l rfl)) (RB.of (RB.ofBlkN c (Sha.sum_length _) (by decide)) (vr (.slice (some ⟨h,0,none⟩) 32 32) rfl)) (by simp only[List.length_append,List.length_nil,Sha.sum_length];omega) f.size fun x af ag j=> ?_)
 have j:Grew u af l x:=j
 have hE:=Af hE j m s
 have c:=Ak c j ae
 have f:=Af f j m (Nat.le_refl _)
 clear m
 refine yC (Yk.callA1 Kp rfl ((Kr _ (hG.keep hE) x (([]:List UInt8)++b++Sha.sum b) (RB.ofOwn ag) (by simp only[List.length_append,List.length_nil,Sha.sum_length];omega)).mono ?_))
 rintro e aq ⟨rfl,ah⟩
 refine⟨_,rfl,?_⟩
 have hE:=hE.trans ah
 refine yC (Yk.callA0 Kq ((MO _ (hG.keep hE)).mono ?_))
 rintro e ar ⟨rfl,ai⟩
 refine⟨_,rfl,?_⟩
 refine ys (Yk.pickT rfl rfl zz) (Bx rfl (vr (.bool (true)) rfl) ?_)
 have hE:=hE.trans ai
 exact⟨rfl,hE⟩
end Go.Proofs.YtcegdjpdnlaleaaDoor
