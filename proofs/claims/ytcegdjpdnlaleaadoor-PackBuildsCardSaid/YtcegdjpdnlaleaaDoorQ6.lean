/- Part 6 of what stands behind these statements: laws and walks of the functions that are reached. Conditions: those that each theorem names. -/
import Derived.Test.YtcegdjpdnlaleaaDoorQ5
set_option linter.unusedVariables false
namespace Go.Proofs.YtcegdjpdnlaleaaDoor
open Go.RowKit
set_option maxRecDepth 100000
theorem M1:A2 Tryd.prog 65:=fun _ _=>by kernel_rfl
theorem M2:A2 Tryd.prog 66:=fun _ _=>by kernel_rfl
theorem H8(z0:Nat)(z1:Nat)(w:World):(Instr.build 120 #[(0, .map (some z0)),(1, .map (some z1))]).run Tryd.prog w = .ok (.agg ([.map (some z0), .map (some z1)]:List Value).toArray) w:=by kernel_rfl
theorem Ip{z0:Value}(h0:∃ao n c,z0 = .slice ao n c)(z1:Nat)(w:World):(Instr.build 74 #[(0,z0),(1, .map (some z1))]).run Tryd.prog w = .ok (.agg ([z0, .map (some z1)]:List Value).toArray) w:=by obtain⟨_,_,_,rfl⟩:=h0;kernel_rfl
theorem M3:A2 Tryd.prog 67:=fun _ _=>by kernel_rfl
theorem M4:Tryd.prog.eqGuardType Tryd.prog.depth 38=false:=by kernel_rfl
theorem KG:BK Tryd.prog 74 1 1:=fun b o w=>by simp[go_sem]
set_option maxHeartbeats 1600000
theorem N0(w:World)(hG:Laid w)(v:Value)(b:Bs)(hr:RB w v b)(h36:36≤b.length)(hb:b.length≤1048576):
  Calls Tryd.prog 37 #[v] w fun r w' =>(∃x,r = .returned x∧∃g vi bo ids O,x=PQ g 0∧CM b = .ok (ids,fun k=>(O k).map Prod.fst)∧w'.heap[g]? =some (.cells ([vi, .map (some bo)]).toArray 74 (0,0))∧RG 32 Lib.byteCells w' vi ids∧MapF rk Cl (fun id:List UInt8=>id.length=32) w' bo O∧OOk w' O∧Ext w w')∨∃ch,r = .panicked ch∧∃c,CM b = .error c∧ch= [CF c]∧Ext w w' :=by
 obtain⟨f,hf⟩:∃f,f=DD (b.drop (b.length-36)):=⟨_,rfl⟩
 refine CX (args:= [v]) Tryd.func37 rfl 168 rfl (Nat.le_of_ble_eq_true rfl) ?_
 intro fu hb
 have u:fu 0=(v:Value):=hb.get 0
 clear hb
 have hE:=Ext.refl w
 refine sk fun K1 fv=>(wt (oA rfl (oZ (tN (fv _ _ (sk fun K2 fw=>(wt (oM rfl (oS rfl (Yk.lenRB DT (RB.of (hr.keep hE) u) (oS rfl (Yk.bin (xv:=NI b.length) (yv:=NI 36) rfl rfl rfl (Bj _ _ _ (by omega) (by omega)) (oA rfl (oZ (tN (fw _ _ (sk fun K3 cc=>(wt (oM rfl ?_)))))))))))))))))))
 refine oM rfl (oS rfl (Yk.sliceLo (xs:=b) (l:=(b.length)-(36)) DT Ls u (hr.keep hE) (vr (NI ((b.length)-(36))) rfl) (by omega) fun v4 av ha6=>(oS rfl (Yk.callA1 Fr (vr v4 rfl) (((show Calls _ _ _ _ (fun e w2=>e = .returned (NI (f))∧Ext _ w2)from by rw[hf];exact Dz _ v4 (b.drop ((b.length)-(36))) av (by simp only[List.length_drop];omega))).mono ?_)))))
 rintro e w8 ⟨rfl,d4⟩
 refine⟨_,rfl,?_⟩
 have hE:=hE.trans d4
 have av:=av.keep d4
 refine oA rfl (oZ ?_)
 rcases hd:Bk 0 (b.drop 1)with _ | ⟨n,k⟩
 ·have hP:CM b = .error 6:=by unfold CM;rw[hd]
  by_cases h80:(b.getD 0 0).toNat=80
  ·refine tN (cc _ _ (sk fun K9 fx=>(wt (oM rfl (oS rfl (Yk.callA2 CL u (vr (NI 1) rfl) (((show Calls _ _ _ _ (fun e w2=>e = .returned (.tuple #[NI 0,NI 0,NI 6])∧Ext _ w2)from(DZ _ v b (hr.keep hE) 1 (by omega)).mono fun e w2 ⟨h1,h2⟩=>by subst h2;subst h1;rw[hd];exact⟨rfl,Ext.refl _⟩)).mono ?_)))))))
   rintro e lf ⟨rfl,d5⟩
   refine⟨_,rfl,?_⟩
   have hE:=hE.trans d5
   have av:=av.keep d5
   refine oM rfl (oS rfl (Yk.extract (vs:= [NI 0,NI 0,NI 6]) (vr (.tuple #[NI 0,NI 0,NI 6]) rfl) (show _=some (NI 0:Value)from rfl) (oS rfl (Yk.extract (vs:= [NI 0,NI 0,NI 6]) (vr (.tuple #[NI 0,NI 0,NI 6]) rfl) (show _=some (NI 0:Value)from rfl) (oS rfl (Yk.extract (vs:= [NI 0,NI 0,NI 6]) (vr (.tuple #[NI 0,NI 0,NI 6]) rfl) (show _=some (NI 6:Value)from rfl) (oA rfl (oA rfl (oA rfl (oZ (tN (fx _ _ (sk fun lg lh=>(wt (oM rfl (oS rfl (Yk.atRB (l:=b) (i:=0) DT Ls (RB.of (hr.keep hE) u) (vr (NI 0) rfl) (by omega) fun fy fz=>(oS rfl (Yk.loadC u5 rfl (PCell.of fz (vr fy rfl)) (oS rfl (Yk.eqI (a:=((b.getD (0) 0).toNat:Nat)) (b:=(80:Nat)) rfl rfl (Br _ _ _ _) (oM rfl ?_))))))))))))))))))))))
   refine oY (d:=41) rfl rfl (vr (.bool (true)) (congrArg Value.bool (decide_eq_true (h80)))) (Yk.move (vr (NI 6) rfl) (oY (d:=41) rfl rfl (vr (.bool (true)) (congrArg Value.bool (decide_eq_true (h80)))) (Yk.eqI (a:=(6:Nat)) (b:=(0:Nat)) rfl rfl (Br _ _ _ _) (oS rfl (Yk.pickT (vr (.bool (true)) (congrArg Value.bool (decide_eq_true (h80)))) (vr (.bool (false)) (congrArg Value.bool (decide_eq_false (by decide)))) (oM rfl (oN (d:=45) rfl rfl rfl (vr (.bool (false)) rfl) rfl (oN (d:=45) rfl rfl rfl (vr (.bool (false)) rfl) rfl (oN (d:=45) rfl rfl rfl (vr (.bool (false)) rfl) rfl (oS rfl (Yk.pickF (vr (.bool (false)) rfl) (vr (.bool (false)) rfl) (oM rfl (oN (d:=50) rfl rfl rfl (vr (.bool (false)) rfl) rfl (oN (d:=50) rfl rfl rfl (vr (.bool (false)) rfl) rfl (oN (d:=50) rfl rfl rfl (vr (.bool (false)) rfl) rfl (oS rfl (Yk.pickF (vr (.bool (false)) rfl) (vr (.bool (false)) rfl) (oM rfl (oN (d:=55) rfl rfl rfl (vr (.bool (false)) rfl) rfl (oN (d:=55) rfl rfl rfl (vr (.bool (false)) rfl) rfl ?_))))))))))))))))))))
   refine oN (d:=55) rfl rfl rfl (vr (.bool (false)) rfl) rfl (oS rfl (Yk.pickF (vr (.bool (false)) rfl) (vr (.bool (false)) rfl) (oP rfl (Yp.callA2 Fo (vr (.bool (false)) rfl) (vr (NI 6) rfl) ?_))))
   refine AG (Bc _ (false) 6) ?_ ?_
   rotate_left
   ·
    rintro ch li ⟨rfl,hb,hx⟩
    refine Af (AK ?_)
    exact .inr ⟨_,rfl,6,hP,rfl,hE.trans hx⟩
   rintro v_ lj ⟨rfl,f0,lk⟩
   cases f0
  refine tN (cc _ _ (sk fun ll f1=>(wt (oM rfl (oS rfl (Yk.callA2 CL u (vr (NI 1) rfl) (((show Calls _ _ _ _ (fun e w2=>e = .returned (.tuple #[NI 0,NI 0,NI 6])∧Ext _ w2)from(DZ _ v b (hr.keep hE) 1 (by omega)).mono fun e w2 ⟨h1,h2⟩=>by subst h2;subst h1;rw[hd];exact⟨rfl,Ext.refl _⟩)).mono ?_)))))))
  rintro e lm ⟨rfl,d6⟩
  refine⟨_,rfl,?_⟩
  have hE:=hE.trans d6
  have av:=av.keep d6
  refine oM rfl (oS rfl (Yk.extract (vs:= [NI 0,NI 0,NI 6]) (vr (.tuple #[NI 0,NI 0,NI 6]) rfl) (show _=some (NI 0:Value)from rfl) (oS rfl (Yk.extract (vs:= [NI 0,NI 0,NI 6]) (vr (.tuple #[NI 0,NI 0,NI 6]) rfl) (show _=some (NI 0:Value)from rfl) (oS rfl (Yk.extract (vs:= [NI 0,NI 0,NI 6]) (vr (.tuple #[NI 0,NI 0,NI 6]) rfl) (show _=some (NI 6:Value)from rfl) (oA rfl (oA rfl (oA rfl (oZ (tN (f1 _ _ (sk fun ln lo=>(wt (oM rfl (oS rfl (Yk.atRB (l:=b) (i:=0) DT Ls (RB.of (hr.keep hE) u) (vr (NI 0) rfl) (by omega) fun f2 f3=>(oS rfl (Yk.loadC u5 rfl (PCell.of f3 (vr f2 rfl)) (oS rfl (Yk.eqI (a:=((b.getD (0) 0).toNat:Nat)) (b:=(80:Nat)) rfl rfl (Br _ _ _ _) (oM rfl ?_))))))))))))))))))))))
  refine oN (d:=41) rfl rfl rfl (vr (.bool (false)) (congrArg Value.bool (decide_eq_false (h80)))) rfl (oN (d:=41) rfl rfl rfl (vr (.bool (false)) (congrArg Value.bool (decide_eq_false (h80)))) rfl (oS rfl (Yk.pickF (vr (.bool (false)) (congrArg Value.bool (decide_eq_false (h80)))) (vr (.bool (false)) rfl) (oM rfl (oN (d:=45) rfl rfl rfl (vr (.bool (false)) rfl) rfl (oN (d:=45) rfl rfl rfl (vr (.bool (false)) rfl) rfl (oN (d:=45) rfl rfl rfl (vr (.bool (false)) rfl) rfl (oS rfl (Yk.pickF (vr (.bool (false)) rfl) (vr (.bool (false)) rfl) (oM rfl (oN (d:=50) rfl rfl rfl (vr (.bool (false)) rfl) rfl (oN (d:=50) rfl rfl rfl (vr (.bool (false)) rfl) rfl (oN (d:=50) rfl rfl rfl (vr (.bool (false)) rfl) rfl (oS rfl (Yk.pickF (vr (.bool (false)) rfl) (vr (.bool (false)) rfl) (oM rfl (oN (d:=55) rfl rfl rfl (vr (.bool (false)) rfl) rfl (oN (d:=55) rfl rfl rfl (vr (.bool (false)) rfl) rfl ?_))))))))))))))))))
  refine oN (d:=55) rfl rfl rfl (vr (.bool (false)) rfl) rfl (oS rfl (Yk.pickF (vr (.bool (false)) rfl) (vr (.bool (false)) rfl) (oP rfl (Yp.callA2 Fo (vr (.bool (false)) rfl) (vr (NI 6) rfl) ?_))))
  refine AG (Bc _ (false) 6) ?_ ?_
  rotate_left
  ·
   rintro ch lp ⟨rfl,hb,hx⟩
   refine Af (AK ?_)
   exact .inr ⟨_,rfl,6,hP,rfl,hE.trans hx⟩
  rintro v_ lq ⟨rfl,f4,lr⟩
  cases f4
 have hP0:CM b=Jm b f n (1+k):=by unfold CM;rw[hd];show Jm b (DD _) n (1+k)=_;rw[←hf]
 by_cases h80:(b.getD 0 0).toNat=80
 ·by_cases q1:1+k≤f
  ·by_cases q2:f≤b.length-36
   ·by_cases q3:n≤b.length-36
    ·have hA:b.getD 0 0=80∧1+k≤f∧f≤b.length-36∧n≤b.length-36:=⟨UInt8.toNat_inj.1 (by rw[h80];rfl),q1,q2,q3⟩
     refine tN (cc _ _ (sk fun ls f5=>(wt (oM rfl (oS rfl (Yk.callA2 CL u (vr (NI 1) rfl) (((show Calls _ _ _ _ (fun e w2=>e = .returned (.tuple #[NI n,NI (1+k),NI 0])∧Ext _ w2)from(DZ _ v b (hr.keep hE) 1 (by omega)).mono fun e w2 ⟨h1,h2⟩=>by subst h2;subst h1;rw[hd];exact⟨rfl,Ext.refl _⟩)).mono ?_)))))))
     rintro e lu ⟨rfl,d7⟩
     refine⟨_,rfl,?_⟩
     have hE:=hE.trans d7
     have av:=av.keep d7
     refine oM rfl (oS rfl (Yk.extract (vs:= [NI n,NI (1+k),NI 0]) (vr (.tuple #[NI n,NI (1+k),NI 0]) rfl) (show _=some (NI n:Value)from rfl) (oS rfl (Yk.extract (vs:= [NI n,NI (1+k),NI 0]) (vr (.tuple #[NI n,NI (1+k),NI 0]) rfl) (show _=some (NI (1+k):Value)from rfl) (oS rfl (Yk.extract (vs:= [NI n,NI (1+k),NI 0]) (vr (.tuple #[NI n,NI (1+k),NI 0]) rfl) (show _=some (NI 0:Value)from rfl) (oA rfl (oA rfl (oA rfl (oZ (tN (f5 _ _ (sk fun lv f6=>(wt (oM rfl (oS rfl (Yk.atRB (l:=b) (i:=0) DT Ls (RB.of (hr.keep hE) u) (vr (NI 0) rfl) (by omega) fun f7 dp=>(oS rfl (Yk.loadC u5 rfl (PCell.of dp (vr f7 rfl)) (oS rfl (Yk.eqI (a:=((b.getD (0) 0).toNat:Nat)) (b:=(80:Nat)) rfl rfl (Br _ _ _ _) (oM rfl ?_))))))))))))))))))))))
     refine oY (d:=41) rfl rfl (vr (.bool (true)) (congrArg Value.bool (decide_eq_true (h80)))) (Yk.move (vr (NI 0) rfl) (oY (d:=41) rfl rfl (vr (.bool (true)) (congrArg Value.bool (decide_eq_true (h80)))) (Yk.eqI (a:=(0:Nat)) (b:=(0:Nat)) rfl rfl (Br _ _ _ _) (oS rfl (Yk.pickT (vr (.bool (true)) (congrArg Value.bool (decide_eq_true (h80)))) (vr (.bool (true)) (congrArg Value.bool (decide_eq_true (rfl)))) (oM rfl (oY (d:=45) rfl rfl (vr (.bool (true)) rfl) (Yk.move (vr (NI f) rfl) (oY (d:=45) rfl rfl (vr (.bool (true)) rfl) (Yk.move (vr (NI (1+k)) rfl) (oY (d:=45) rfl rfl (vr (.bool (true)) rfl) (Yk.eqI (a:=(f:Nat)) (b:=(1+k:Nat)) rfl rfl (GY _ _ _ _) (oS rfl (Yk.pickT (vr (.bool (true)) rfl) (vr (.bool (true)) (congrArg Value.bool (decide_eq_true (q1)))) (oM rfl (oY (d:=50) rfl rfl (vr (.bool (true)) rfl) (Yk.move (vr (NI f) rfl) (oY (d:=50) rfl rfl (vr (.bool (true)) rfl) (Yk.move (vr (NI ((b.length)-(36))) rfl) (oY (d:=50) rfl rfl (vr (.bool (true)) rfl) (Yk.eqI (a:=(f:Nat)) (b:=((b.length)-(36):Nat)) rfl rfl (C5 _ _ _ _) (oS rfl (Yk.pickT (vr (.bool (true)) rfl) (vr (.bool (true)) (congrArg Value.bool (decide_eq_true (q2)))) (oM rfl (oY (d:=55) rfl rfl (vr (.bool (true)) rfl) (Yk.move (vr (NI n) rfl) (oY (d:=55) rfl rfl (vr (.bool (true)) rfl) (Yk.move (vr (NI ((b.length)-(36))) rfl) ?_))))))))))))))))))))))))))))
     refine oY (d:=55) rfl rfl (vr (.bool (true)) rfl) (Yk.eqI (a:=(n:Nat)) (b:=((b.length)-(36):Nat)) rfl rfl (C5 _ _ _ _) (oS rfl (Yk.pickT (vr (.bool (true)) rfl) (vr (.bool (true)) (congrArg Value.bool (decide_eq_true (q3)))) (oP rfl (Yp.callA2 Fo (vr (.bool (true)) rfl) (vr (NI 6) rfl) ?_)))))
     refine AG (Bc _ (true) 6) ?_ ?_
     rotate_left
     ·
      rintro ch lw ⟨rfl,hb,hx⟩
      refine Af (AK ?_)
      cases hb
     rintro v_ lx ⟨rfl,ly,dw⟩
     have hE:=hE.trans dw
     have av:=av.keep dw
     have dp:=dp.keep dw
     refine AH [(0,v),(2, .pointer none),(3,NI ((b.length)-(36))),(4,NI f),(5,NI n),(6,NI (1+k)),(7,NI 0)] ⟨u,rfl,rfl,rfl,rfl,rfl,rfl,trivial⟩ fun lz ⟨u,T2,T3,T4,T5,T6,T7,_⟩=> ?_
     clear dp
     refine tN (f6 _ _ (sk fun l0 f8=>(wt (oM rfl (oM rfl (oS rfl (Yk.bin (xv:=NI ((b.length)-(36))) (yv:=NI f) T3 T4 rfl (Bj _ _ _ (by omega) (by omega)) (oM rfl (oS rfl (Yk.bin (xv:=NI 36) (yv:=NI n) rfl T5 rfl (BG _ _ _ (by omega)) (oS rfl (Yk.bin (xv:=NI 1024) (yv:=NI ((36)*(n))) rfl rfl rfl (Ak _ _ _ (by omega)) (oS rfl (Yk.eqI (a:=(((b.length)-(36))-(f):Nat)) (b:=((1024)+((36)*(n)):Nat)) rfl rfl (Br _ _ _ _) (oP rfl (Yp.callA2 Fo (vr (.bool (decide ((((b.length)-(36))-(f):Nat)=((1024)+((36)*(n)))))) rfl) (vr (NI 6) rfl) ?_))))))))))))))))
     refine AG (Bc _ (decide ((((b.length)-(36))-(f):Nat)=((1024)+((36)*(n))))) 6) ?_ ?_
     rotate_left
     ·
      rintro ch l3 ⟨rfl,hb,hx⟩
      refine Af (AK ?_)
      have hno:=of_decide_eq_false hb
      exact .inr ⟨_,rfl,6,hP0.trans ((if_pos hA).trans (if_neg hno)),rfl,hE.trans hx⟩
     rintro v_ l4 ⟨rfl,f9,d8⟩
     have hE:=hE.trans d8
     have av:=av.keep d8
     have ga:=of_decide_eq_true f9
     refine oZ ?_
     have hq5:=ga
     have hP1:CM b=H6 b n (1+k) f:=hP0.trans ((if_pos hA).trans (if_pos hq5))
     refine tN (f8 _ _ (sk fun l5 gb=>(wt (oM rfl (oM rfl (oM rfl (oM rfl (oP rfl (Yp.callA4 M1 u T5 T6 T4 ?_)))))))))
     refine AG (KD _ v b (hr.keep hE) n (1+k) f (by omega) (by omega) (by omega) (by omega)) ?_ ?_
     rotate_left
     ·
      rintro ch l6 ⟨hno,rfl,hx⟩
      refine Af (AK ?_)
      exact .inr ⟨_,rfl,6,hP1.trans (by unfold H6;rw[hno]),rfl,hE.trans hx⟩
     rintro ax cw ⟨es,hes,bs,hok53,d9⟩
     have hE:=hE.trans d9
     have av:=av.keep d9
     have hok:=hok53
     have hel:=J1 hes (by omega)
     rw[List.length_map]at hel
     have heln:=hel.1
     have hP2:CM b=G4 b f (es.map Prod.fst):=hP1.trans (by unfold H6;rw[hes])
     refine oA rfl (oZ (tN (gb _ _ (sk fun l7 gc=>(wt (oM rfl (oM rfl (oS rfl (Yk.bin (xv:=NI f) (yv:=NI 1024) T4 rfl rfl (Ak _ _ _ (by omega)) (oM rfl (oS rfl (Yk.sliceLH (xs:=b) (l:=(f)+(1024)) (n:=(b.length)-(36)) DT Ls u (hr.keep hE) (vr (NI ((f)+(1024))) rfl) T3 (by omega) (by omega) fun ea gd ha61=>(oM rfl (oP rfl (Yp.callA2 M2 (vr ea rfl) (vr ax rfl) ?_)))))))))))))))
     refine AG (LM _ ea ((b.drop (f+1024)).take (b.length-36-(f+1024))) gd ax es bs hok (by rw[List.length_take,List.length_drop];omega) (by omega)) ?_ ?_
     rotate_left
     ·
      rintro ch l8 ⟨hno,rfl,hx⟩
      refine Af (AK ?_)
      exact .inr ⟨_,rfl,6,hP2.trans (by unfold G4;rw[List.length_map,EP,hno];rfl),rfl,hE.trans hx⟩
     rintro v_ cd ⟨s,ar,ao,his,rfl,ce,hm65,ec⟩
     have p:=Ext.refl cw
     have l9:=hE
     have ma:=hE.size
     have hE:=hE.trans ec
     have p:=p.trans ec
     have hI:=Il _ _ his
     have hMO:MOk cd s.M:=MOk.of (hok.keep p) hI hel.2 (by omega)
     have t:=Ext.refl cd
     have mb:=hE
     have mc:=p
     have md:=hE.size
     have me:=p.size
     have hIl:=hI.len
     have hlbe:=hm65.lt
     have hP3:CM b=Jl b f (es.map Prod.fst) s.plain:=hP2.trans (by unfold G4;rw[List.length_map,EP,his];rfl)
     refine oM rfl (oS rfl (Yk.extract (vs:= [ar, .map (some ao)]) (vr (.tuple #[ar, .map (some ao)]) rfl) (show _=some (ar:Value)from rfl) (oS rfl (Yk.extract (vs:= [ar, .map (some ao)]) (vr (.tuple #[ar, .map (some ao)]) rfl) (show _=some (.map (some ao):Value)from rfl) (oA rfl (oA rfl (oZ (tN (gc _ _ (sk fun mf ge=>(sk fun mg gf=>(wt (oM rfl (oS rfl (Yk.callA1 NW (vr ar rfl) ((Lc _ ar s.ids (ce.keep t)).mono ?_))))))))))))))))
     rintro e mh ⟨rfl,dq⟩
     refine⟨_,rfl,?_⟩
     have hE:=hE.trans dq
     have p:=p.trans dq
     have hm65:=hm65.keep dq
     have t:=t.trans dq
     refine oM rfl (AH [(0,v),(2, .pointer none),(3,NI ((b.length)-(36))),(4,NI f),(5,NI n),(6,NI (1+k)),(7,NI 0),(8,ax),(9,ar),(10, .map (some ao)),(85, .agg ((AY (s.ids)).map fun x=>NI x).toArray),(86,NI 0)] ⟨u,T2,T3,T4,T5,T6,T7,rfl,rfl,rfl,rfl,rfl,trivial⟩ fun mi ⟨u,T2,T3,T4,T5,T6,T7,T8,T9,ad,am,ac,_⟩=>(tN (gf _ _ (Aj (AX (fun(ρ:Aq) (wz:World)=>∃m:Nat,ρ 0=(v:Value)∧ρ 2=(.pointer none:Value)∧ρ 3=(NI ((b.length)-(36)):Value)∧ρ 4=(NI f:Value)∧ρ 5=(NI n:Value)∧ρ 6=(NI (1+k):Value)∧ρ 7=(NI 0:Value)∧ρ 8=(ax:Value)∧ρ 9=(ar:Value)∧ρ 10=(.map (some ao):Value)∧ρ 85=(.agg ((AY (s.ids)).map fun x=>NI x).toArray:Value)∧ρ 86=(NI m:Value)∧Ext w wz∧Ext cw wz∧MapF rk BH (fun id:List UInt8=>id.length=32) wz ao s.M∧Ext cd wz∧(m≤256)∧(∀j,j<m→DD (b.drop (f+4*j))=(AY s.ids).getD j 0)∧True) (fun ρ _=>256-(intOf (ρ 86)).toNat) ⟨0,u,T2,T3,T4,T5,T6,T7,T8,T9,ad,am,ac,hE,p,hm65,t,Nat.zero_le _,fun j hj=>absurd hj (Nat.not_lt_zero _),trivial⟩ ?_)))))
     clear hE p hm65 t
     rintro gg mj ⟨m,u,T2,T3,T4,T5,T6,T7,T8,T9,ad,am,ac,hE,p,hm65,t,hm,hfan,-⟩
     have q86:=ac
     refine sk fun mk gh=>(wt (oS rfl (Yk.eqI (a:=(m:Nat)) (b:=(256:Nat)) ac rfl (AN _ _ _ _) (oZ (tN (gh _ _ (sk fun ml gi=> ?_)))))))
     refine AO ((m)<(256)) (vr (.bool (decide ((m)<(256)))) rfl) (fun gj=> ?_) (fun gj=> ?_)
     ·refine Ah (tN (gi _ _ (sk fun mm gk=>(Aj (sk fun mn gl=>(wt (oM rfl (oS rfl (Yk.idxN (l:=AY (s.ids)) (i:=m) Eb NA rfl FL am ac (by omega) (by rw[BC]) (oA rfl (oA rfl (oZ (tN (gl _ _ (wt (oM rfl (oM rfl (oM rfl ?_))))))))))))))))))
      refine oS rfl (Yk.bin (xv:=NI 4) (yv:=NI m) rfl ac rfl (BG _ _ _ (by omega)) (oS rfl (Yk.bin (xv:=NI f) (yv:=NI ((4)*(m))) T4 rfl rfl (Ak _ _ _ (by omega)) (oS rfl (Yk.sliceLo (xs:=b) (l:=(f)+((4)*(m))) DT Ls u (hr.keep hE) (vr (NI ((f)+((4)*(m)))) rfl) (by omega) fun ed c6 ha91=>(oS rfl (Yk.callA1 Fr (vr ed rfl) (((show Calls _ _ _ _ (fun e w2=>e = .returned (NI (DD (b.drop (f+4*m))))∧Ext _ w2)from by skip;exact Dz _ ed (b.drop ((f)+((4)*(m)))) c6 (by simp only[List.length_drop];omega))).mono ?_))))))))
      rintro e mo ⟨rfl,c7⟩
      refine⟨_,rfl,?_⟩
      have hE:=hE.trans c7
      have p:=p.trans c7
      have hm65:=hm65.keep c7
      have t:=t.trans c7
      have c6:=c6.keep c7
      refine oM rfl (oS rfl (Yk.eqI (a:=(DD (b.drop (f+4*m)):Nat)) (b:=((AY (s.ids)).getD (m) 0:Nat)) rfl rfl (Br _ _ _ _) (oP rfl (Yp.callA2 Fo (vr (.bool (decide ((DD (b.drop (f+4*m)):Nat)=((AY (s.ids)).getD (m) 0)))) rfl) (vr (NI 6) rfl) ?_))))
      refine AG (Bc _ (decide ((DD (b.drop (f+4*m)):Nat)=((AY (s.ids)).getD (m) 0))) 6) ?_ ?_
      rotate_left
      ·
       rintro ch mp ⟨rfl,hb,hx⟩
       refine Aw (Af (Af (Aw (Af (AK ?_)))))
       have hno:=of_decide_eq_false hb
       exact .inr ⟨_,rfl,6,hP3.trans (if_neg (fun h=>hno (ON h (by omega)))),rfl,hE.trans hx⟩
      rintro v_ mq ⟨rfl,gm,c8⟩
      have hE:=hE.trans c8
      have p:=p.trans c8
      have hm65:=hm65.keep c8
      have t:=t.trans c8
      have c6:=c6.keep c8
      have gn:=of_decide_eq_true gm
      refine oZ (bN (tN (gk _ _ (wt (oS rfl (Yk.bin (xv:=NI m) (yv:=NI 1) ac rfl rfl (Ak _ _ _ (by omega)) (oM rfl (AH [(0,v),(2, .pointer none),(3,NI ((b.length)-(36))),(4,NI f),(5,NI n),(6,NI (1+k)),(7,NI 0),(8,ax),(9,ar),(10, .map (some ao)),(11,NI m),(12,NI ((AY (s.ids)).getD (m) 0)),(85, .agg ((AY (s.ids)).map fun x=>NI x).toArray),(86,NI ((m)+(1)))] ⟨u,T2,T3,T4,T5,T6,T7,T8,T9,ad,ac,rfl,am,rfl,trivial⟩ fun go ⟨u,T2,T3,T4,T5,T6,T7,T8,T9,ad,mr,ms,am,ac,_⟩=>(tN (And.intro ⟨m+1,u,T2,T3,T4,T5,T6,T7,T8,T9,ad,am,ac,hE,p,hm65,t,by omega,fun j hj=>by by_cases e:j=m;subst e;exact gn;exact hfan j (by omega),trivial⟩ ?_))))))))))
      show 256-(intOf (go 86)).toNat<256-(intOf (gg 86)).toNat
      rw[ac,q86]
      simp only[intOf,Int.toNat_natCast];omega
     have hfb:=fanB_of (fun j hj=>hfan j (by omega))
     have hP4:CM b=(if H5 (es.map Prod.fst) s.plain.M=true then G3 (H3 s.plain.M) s.plain.ids else .error 6):=hP3.trans (if_pos hfb)
     refine AJ (Ag (Ag (Ap (tN (ge _ _ (sk fun mt gp=>(sk fun mu gq=>(wt (oM rfl (oS rfl (Yk.lenRG EO (RG.of (bs.keep p) T8) (oM rfl (AH [(0,v),(2, .pointer none),(3,NI ((b.length)-(36))),(4,NI f),(5,NI n),(6,NI (1+k)),(7,NI 0),(8,ax),(9,ar),(10, .map (some ao)),(85, .agg ((AY (s.ids)).map fun x=>NI x).toArray),(86,NI m),(101,ax),(102,NI es.length),(103,NI 0)] ⟨u,T2,T3,T4,T5,T6,T7,T8,T9,ad,am,ac,T8,rfl,rfl,trivial⟩ fun mv ⟨u,T2,T3,T4,T5,T6,T7,T8,T9,ad,am,ac,au,aw,al,_⟩=>(tN (gq _ _ (Aj (AX (fun(ρ:Aq) (wz:World)=>∃q:Nat,ρ 0=(v:Value)∧ρ 2=(.pointer none:Value)∧ρ 3=(NI ((b.length)-(36)):Value)∧ρ 4=(NI f:Value)∧ρ 5=(NI n:Value)∧ρ 6=(NI (1+k):Value)∧ρ 7=(NI 0:Value)∧ρ 8=(ax:Value)∧ρ 9=(ar:Value)∧ρ 10=(.map (some ao):Value)∧ρ 85=(.agg ((AY (s.ids)).map fun x=>NI x).toArray:Value)∧ρ 86=(NI m:Value)∧ρ 101=(ax:Value)∧ρ 102=(NI es.length:Value)∧ρ 103=(NI q:Value)∧Ext w wz∧Ext cw wz∧MapF rk BH (fun id:List UInt8=>id.length=32) wz ao s.M∧Ext cd wz∧(q≤es.length)∧(∀j,j<q→(es.getD j dEnt).1.based=true→s.M (es.getD j dEnt).1.base≠none)∧True) (fun ρ _=>es.length-(intOf (ρ 103)).toNat) ⟨0,u,T2,T3,T4,T5,T6,T7,T8,T9,ad,am,ac,au,aw,al,hE,p,hm65,t,Nat.zero_le _,fun j hj=>absurd hj (Nat.not_lt_zero _),trivial⟩ ?_)))))))))))))))))
     clear hE p hm65 t
     rintro dx c9 ⟨q,u,T2,T3,T4,T5,T6,T7,T8,T9,ad,am,ac,au,aw,al,hE,p,hm65,t,hq,hbs,-⟩
     have q103:=al
     refine sk fun mw gr=>(wt (oS rfl (Yk.eqI (a:=(q:Nat)) (b:=(es.length:Nat)) al aw (AN _ _ _ _) (oZ (tN (gr _ _ (sk fun mx dr=> ?_)))))))
     refine AO ((q)<(es.length)) (vr (.bool (decide ((q)<(es.length)))) rfl) (fun ee=> ?_) (fun ee=> ?_)
     ·have hc2_:q<es.length:=ee
      have hcl:=hok _ (A6 dEnt (l:=es) (i:=q) hc2_)
      rcases hl:s.M (es.getD (q) dEnt).1.base with _ | c
      ·rcases hbx:(es.getD (q) dEnt).1.based with _ | _
       ·refine Ah (tN (dr _ _ (sk fun my gs=>(Aj (sk fun mz gt=>(wt ?_))))))
        have gu:(entC (es.getD (q) dEnt)).length=35:=(RG.elem (bs.keep p) dEnt (by omega))
        refine oS rfl (Yk.atRG EO KE (by decide) dEnt (RG.of (bs.keep p) au) al (by omega) fun gv ef=>(oS rfl (Yk.loadPR (PR.of ef (vr gv rfl)) (HY).choose_spec rfl (by rw[gu];exact D2) (oS rfl (Yk.alloc (cs:=(entC dEnt).toArray) F7 fun cf gw gx eg da m0=> ?_)))))
        have a8:=Ext.refl c9
        have m1:=hE
        have m2:=p
        have m3:=t
        have gy:=hE.size
        have gz:=p.size
        have g0:=t.size
        have m4:=AT hm65.lt gx
        have hE:=hE.trans da
        have p:=p.trans da
        have hm65:=hm65.keep da
        have t:=t.trans da
        have a8:=a8.trans da
        have a3:=eg;clear eg
        have m5:cf<gw.heap.size:=by omega
        refine oS rfl (Yk.storeAll (vr (PQ cf 0) rfl) (vr (.agg (entC (es.getD (q) dEnt)).toArray) rfl) a3 (BA (x:=((es.getD (q) dEnt):Av)) (y:=(dEnt:Av)) hcl.2 (by simp[dEnt])) (Bx (x:=((es.getD (q) dEnt):Av)) D2 hcl.2) (BD (x:=((es.getD (q) dEnt):Av)) (RB.one hcl.1).2) fun g1 eh db m6=> ?_)
        have hE:=Ac hE db (Nat.le_trans gy (by omega))
        have p:=Ac p db (Nat.le_trans gz (by omega))
        have hm65:=MapF.other hm65 db (AL (by omega))
        have t:=Ac t db (Nat.le_trans g0 (by omega))
        have a8:=Ac a8 db (Nat.le_trans (Nat.le_refl _) (by omega))
        clear a3
        have a3:=eh;clear eh
        have m7:=bl a3
        refine oZ ?_
        clear ef
        refine tN (gt _ _ (sk fun m8 g2=>(wt (oM rfl (oS rfl (Yk.fieldAt JW (vr (PQ cf 0) rfl) (oS rfl (Yk.loadPart (vr (PQ cf 2) rfl) (DS (x:=((es.getD (q) dEnt):Av)) a3) Ow rfl (by rw[Lib.byteCells_length,hcl.2];exact L9) (oS rfl (Yk.lookOkN (ek:=rk) (ev:=BH) (D:=(fun id:List UInt8=>id.length=32)) Cf Cg (fun _ _=>Cc) H2 (z:=BH dEnt) C1 ad (vr (AB (((es.getD (q) dEnt)).1.base)) rfl) hm65 hcl.2 hl (oM rfl (oS rfl (Yk.extract (vs:= [.agg (entC (dEnt)).toArray, .bool (false)]) (vr (.tuple #[.agg (entC (dEnt)).toArray, .bool (false)]) rfl) (show _=some (.agg (entC (dEnt)).toArray:Value)from rfl) (oS rfl (Yk.extract (vs:= [.agg (entC (dEnt)).toArray, .bool (false)]) (vr (.tuple #[.agg (entC (dEnt)).toArray, .bool (false)]) rfl) (show _=some (.bool (false):Value)from rfl) (oS rfl (Yk.alloc (cs:=(entC dEnt).toArray) F7 fun ei g3 ej el cg m9=> ?_)))))))))))))))))
        have cx:=Ext.refl g1
        have na:=hE
        have nb:=p
        have nc:=t
        have nd:=a8
        have g4:=hE.size
        have g5:=p.size
        have g6:=t.size
        have g7:=a8.size
        have ne:=AT hm65.lt ej
        have nf:=AT (bl a3) ej
        have hE:=hE.trans cg
        have p:=p.trans cg
        have hm65:=hm65.keep cg
        have t:=t.trans cg
        have a8:=a8.trans cg
        have a3:=eb cg a3
        have cx:=cx.trans cg
        have cy:=el;clear el
        have ng:ei<g3.heap.size:=by omega
        refine oS rfl (Yk.storeAll (vr (PQ ei 0) rfl) (vr (.agg (entC (dEnt)).toArray) rfl) cy (BA (x:=((dEnt):Av)) (y:=(dEnt:Av)) (by simp[dEnt]) (by simp[dEnt])) (Bx (x:=((dEnt):Av)) D2 (by simp[dEnt])) (BD (x:=((dEnt):Av)) rfl) fun nh em ci ni=> ?_)
        have hE:=Ac hE ci (Nat.le_trans g4 (by omega))
        have p:=Ac p ci (Nat.le_trans g5 (by omega))
        have hm65:=MapF.other hm65 ci (AL (by omega))
        have t:=Ac t ci (Nat.le_trans g6 (by omega))
        have a8:=Ac a8 ci (Nat.le_trans g7 (by omega))
        have a3:=kb ci a3 (by omega)
        have cx:=Ac cx ci (Nat.le_trans (Nat.le_refl _) (by omega))
        clear cy
        have cy:=em;clear em
        have nj:=bl cy
        refine oA rfl (oZ (tN (g2 _ _ (wt (oS rfl (Yk.fieldAt E6 (vr (PQ cf 0) rfl) (oS rfl (Yk.cell1 Hu rfl (vr (PQ cf 1) rfl) (Ai a3 ((show(entC ((es.getD (q) dEnt)))[1]? =some (.bool false:Value)from congrArg (fun b=>some (Value.bool b)) hbx))) (oS rfl (Yk.notB (vr (.bool (false)) rfl) (oM rfl (oN (d:=117) rfl rfl rfl (vr (.bool (true)) rfl) rfl (oS rfl (Yk.pickT (vr (.bool (true)) rfl) (vr (.bool (true)) rfl) (oP rfl (Yp.callA2 Fo (vr (.bool (true)) rfl) (vr (NI 6) rfl) ?_))))))))))))))))
        refine AG (Bc _ (true) 6) ?_ ?_
        rotate_left
        ·
         rintro ch nk ⟨rfl,hb,hx⟩
         refine Aw (Af (Af (Aw (Af (AK ?_)))))
         cases hb
        rintro v_ nl ⟨rfl,nm,b8⟩
        have hE:=hE.trans b8
        have p:=p.trans b8
        have hm65:=hm65.keep b8
        have t:=t.trans b8
        have a8:=a8.trans b8
        have a3:=eb b8 a3
        have cx:=cx.trans b8
        have cy:=eb b8 cy
        refine oZ (bN (tN (gs _ _ (wt (oS rfl (Yk.bin (xv:=NI q) (yv:=NI 1) al rfl rfl (Ak _ _ _ (by omega)) (oM rfl (AH [(0,v),(2, .pointer none),(3,NI ((b.length)-(36))),(4,NI f),(5,NI n),(6,NI (1+k)),(7,NI 0),(8,ax),(9,ar),(10, .map (some ao)),(14,PQ cf 0),(16, .bool (false)),(85, .agg ((AY (s.ids)).map fun x=>NI x).toArray),(86,NI m),(101,ax),(102,NI es.length),(103,NI ((q)+(1)))] ⟨u,T2,T3,T4,T5,T6,T7,T8,T9,ad,rfl,rfl,am,ac,au,aw,rfl,trivial⟩ fun g8 ⟨u,T2,T3,T4,T5,T6,T7,T8,T9,ad,en,eo,am,ac,au,aw,al,_⟩=>(tN (And.intro ⟨q+1,u,T2,T3,T4,T5,T6,T7,T8,T9,ad,am,ac,au,aw,al,hE,p,hm65,t,by omega,fun j hj=>by by_cases e:j=q;subst e;exact(fun hbt=>by rw[hbx]at hbt;cases hbt);exact hbs j (by omega),trivial⟩ ?_))))))))))
        show es.length-(intOf (g8 103)).toNat<es.length-(intOf (dx 103)).toNat
        rw[al,q103]
        simp only[intOf,Int.toNat_natCast];omega
       refine Ah (tN (dr _ _ (sk fun nn no=>(Aj (sk fun np g9=>(wt ?_))))))
       have ha:(entC (es.getD (q) dEnt)).length=35:=(RG.elem (bs.keep p) dEnt (by omega))
       refine oS rfl (Yk.atRG EO KE (by decide) dEnt (RG.of (bs.keep p) au) al (by omega) fun hg ep=>(oS rfl (Yk.loadPR (PR.of ep (vr hg rfl)) (HY).choose_spec rfl (by rw[ha];exact D2) (oS rfl (Yk.alloc (cs:=(entC dEnt).toArray) F7 fun cz hh ho eq dc nq=> ?_)))))
       have bt:=Ext.refl c9
       have nr:=hE
       have ns:=p
       have nt:=t
       have hp:=hE.size
       have ht:=p.size
       have hu:=t.size
       have nu:=AT hm65.lt ho
       have hE:=hE.trans dc
       have p:=p.trans dc
       have hm65:=hm65.keep dc
       have t:=t.trans dc
       have bt:=bt.trans dc
       have bf:=eq;clear eq
       have nv:cz<hh.heap.size:=by omega
       refine oS rfl (Yk.storeAll (vr (PQ cz 0) rfl) (vr (.agg (entC (es.getD (q) dEnt)).toArray) rfl) bf (BA (x:=((es.getD (q) dEnt):Av)) (y:=(dEnt:Av)) hcl.2 (by simp[dEnt])) (Bx (x:=((es.getD (q) dEnt):Av)) D2 hcl.2) (BD (x:=((es.getD (q) dEnt):Av)) (RB.one hcl.1).2) fun hv er de nw=> ?_)
       have hE:=Ac hE de (Nat.le_trans hp (by omega))
       have p:=Ac p de (Nat.le_trans ht (by omega))
       have hm65:=MapF.other hm65 de (AL (by omega))
       have t:=Ac t de (Nat.le_trans hu (by omega))
       have bt:=Ac bt de (Nat.le_trans (Nat.le_refl _) (by omega))
       clear bf
       have bf:=er;clear er
       have nx:=bl bf
       refine oZ ?_
       clear ep
       refine tN (g9 _ _ (sk fun ny hw=>(wt (oM rfl (oS rfl (Yk.fieldAt JW (vr (PQ cz 0) rfl) (oS rfl (Yk.loadPart (vr (PQ cz 2) rfl) (DS (x:=((es.getD (q) dEnt):Av)) bf) Ow rfl (by rw[Lib.byteCells_length,hcl.2];exact L9) (oS rfl (Yk.lookOkN (ek:=rk) (ev:=BH) (D:=(fun id:List UInt8=>id.length=32)) Cf Cg (fun _ _=>Cc) H2 (z:=BH dEnt) C1 ad (vr (AB (((es.getD (q) dEnt)).1.base)) rfl) hm65 hcl.2 hl (oM rfl (oS rfl (Yk.extract (vs:= [.agg (entC (dEnt)).toArray, .bool (false)]) (vr (.tuple #[.agg (entC (dEnt)).toArray, .bool (false)]) rfl) (show _=some (.agg (entC (dEnt)).toArray:Value)from rfl) (oS rfl (Yk.extract (vs:= [.agg (entC (dEnt)).toArray, .bool (false)]) (vr (.tuple #[.agg (entC (dEnt)).toArray, .bool (false)]) rfl) (show _=some (.bool (false):Value)from rfl) (oS rfl (Yk.alloc (cs:=(entC dEnt).toArray) F7 fun et hy eu ew cj nz=> ?_)))))))))))))))))
       have ds:=Ext.refl hv
       have n0:=hE
       have n1:=p
       have n2:=t
       have n3:=bt
       have hz:=hE.size
       have h0:=p.size
       have h3:=t.size
       have h4:=bt.size
       have n4:=AT hm65.lt eu
       have n5:=AT (bl bf) eu
       have hE:=hE.trans cj
       have p:=p.trans cj
       have hm65:=hm65.keep cj
       have t:=t.trans cj
       have bt:=bt.trans cj
       have bf:=eb cj bf
       have ds:=ds.trans cj
       have dt:=ew;clear ew
       have n6:et<hy.heap.size:=by omega
       refine oS rfl (Yk.storeAll (vr (PQ et 0) rfl) (vr (.agg (entC (dEnt)).toArray) rfl) dt (BA (x:=((dEnt):Av)) (y:=(dEnt:Av)) (by simp[dEnt]) (by simp[dEnt])) (Bx (x:=((dEnt):Av)) D2 (by simp[dEnt])) (BD (x:=((dEnt):Av)) rfl) fun n7 ex ck n8=> ?_)
       have hE:=Ac hE ck (Nat.le_trans hz (by omega))
       have p:=Ac p ck (Nat.le_trans h0 (by omega))
       have hm65:=MapF.other hm65 ck (AL (by omega))
       have t:=Ac t ck (Nat.le_trans h3 (by omega))
       have bt:=Ac bt ck (Nat.le_trans h4 (by omega))
       have bf:=kb ck bf (by omega)
       have ds:=Ac ds ck (Nat.le_trans (Nat.le_refl _) (by omega))
       clear dt
       have dt:=ex;clear ex
       have n9:=bl dt
       refine oA rfl (oZ (tN (hw _ _ (wt (oS rfl (Yk.fieldAt E6 (vr (PQ cz 0) rfl) (oS rfl (Yk.cell1 Hu rfl (vr (PQ cz 1) rfl) (Ai bf ((show(entC ((es.getD (q) dEnt)))[1]? =some (.bool true:Value)from congrArg (fun b=>some (Value.bool b)) hbx))) (oS rfl (Yk.notB (vr (.bool (true)) rfl) (oM rfl (oY (d:=117) rfl rfl (vr (.bool (false)) rfl) (Yk.move (vr (.bool (false)) rfl) (oS rfl (Yk.pickF (vr (.bool (false)) rfl) (vr (.bool (false)) rfl) (oP rfl (Yp.callA2 Fo (vr (.bool (false)) rfl) (vr (NI 6) rfl) ?_)))))))))))))))))
       refine AG (Bc _ (false) 6) ?_ ?_
       rotate_left
       ·
        rintro ch oa ⟨rfl,hb,hx⟩
        refine Aw (Af (Af (Aw (Af (AK ?_)))))
        exact .inr ⟨_,rfl,6,hP4.trans (if_neg (fun h=>MZ h hc2_ hbx hl)),rfl,hE.trans hx⟩
       rintro v_ ob ⟨rfl,h5,oc⟩
       cases h5
      have hcx:=hMO _ c hl
      rcases hbx:(es.getD (q) dEnt).1.based with _ | _
      ·refine Ah (tN (dr _ _ (sk fun od h6=>(Aj (sk fun oe h7=>(wt ?_))))))
       have h8:(entC (es.getD (q) dEnt)).length=35:=(RG.elem (bs.keep p) dEnt (by omega))
       refine oS rfl (Yk.atRG EO KE (by decide) dEnt (RG.of (bs.keep p) au) al (by omega) fun h9 ey=>(oS rfl (Yk.loadPR (PR.of ey (vr h9 rfl)) (HY).choose_spec rfl (by rw[h8];exact D2) (oS rfl (Yk.alloc (cs:=(entC dEnt).toArray) F7 fun cl ia ib ez df og=> ?_)))))
       have a9:=Ext.refl c9
       have oh:=hE
       have oi:=p
       have oj:=t
       have ic:=hE.size
       have ie:=p.size
       have ig:=t.size
       have ol:=AT hm65.lt ib
       have hE:=hE.trans df
       have p:=p.trans df
       have hm65:=hm65.keep df
       have t:=t.trans df
       have a9:=a9.trans df
       have a4:=ez;clear ez
       have om:cl<ia.heap.size:=by omega
       refine oS rfl (Yk.storeAll (vr (PQ cl 0) rfl) (vr (.agg (entC (es.getD (q) dEnt)).toArray) rfl) a4 (BA (x:=((es.getD (q) dEnt):Av)) (y:=(dEnt:Av)) hcl.2 (by simp[dEnt])) (Bx (x:=((es.getD (q) dEnt):Av)) D2 hcl.2) (BD (x:=((es.getD (q) dEnt):Av)) (RB.one hcl.1).2) fun ih e0 dg on=> ?_)
       have hE:=Ac hE dg (Nat.le_trans ic (by omega))
       have p:=Ac p dg (Nat.le_trans ie (by omega))
       have hm65:=MapF.other hm65 dg (AL (by omega))
       have t:=Ac t dg (Nat.le_trans ig (by omega))
       have a9:=Ac a9 dg (Nat.le_trans (Nat.le_refl _) (by omega))
       clear a4
       have a4:=e0;clear e0
       have oo:=bl a4
       refine oZ ?_
       clear ey
       refine tN (h7 _ _ (sk fun op ii=>(wt (oM rfl (oS rfl (Yk.fieldAt JW (vr (PQ cl 0) rfl) (oS rfl (Yk.loadPart (vr (PQ cl 2) rfl) (DS (x:=((es.getD (q) dEnt):Av)) a4) Ow rfl (by rw[Lib.byteCells_length,hcl.2];exact L9) (oS rfl (Yk.lookOkS (ek:=rk) (ev:=BH) (D:=(fun id:List UInt8=>id.length=32)) Cf Cg (fun _ _=>Cc) H2 (z:=BH dEnt) C1 ad (vr (AB (((es.getD (q) dEnt)).1.base)) rfl) hm65 hcl.2 hl (oM rfl (oS rfl (Yk.extract (vs:= [.agg (entC (c)).toArray, .bool (true)]) (vr (.tuple #[.agg (entC (c)).toArray, .bool (true)]) rfl) (show _=some (.agg (entC (c)).toArray:Value)from rfl) (oS rfl (Yk.extract (vs:= [.agg (entC (c)).toArray, .bool (true)]) (vr (.tuple #[.agg (entC (c)).toArray, .bool (true)]) rfl) (show _=some (.bool (true):Value)from rfl) (oS rfl (Yk.alloc (cs:=(entC dEnt).toArray) F7 fun e1 ij e2 e3 cm oq=> ?_)))))))))))))))))
       have c0:=Ext.refl ih
       have os:=hE
       have ot:=p
       have ou:=t
       have ov:=a9
       have ik:=hE.size
       have il:=p.size
       have im:=t.size
       have io:=a9.size
       have ow:=AT hm65.lt e2
       have ox:=AT (bl a4) e2
       have hE:=hE.trans cm
       have p:=p.trans cm
       have hm65:=hm65.keep cm
       have t:=t.trans cm
       have a9:=a9.trans cm
       have a4:=eb cm a4
       have c0:=c0.trans cm
       have c1:=e3;clear e3
       have oy:e1<ij.heap.size:=by omega
       refine oS rfl (Yk.storeAll (vr (PQ e1 0) rfl) (vr (.agg (entC (c)).toArray) rfl) c1 (BA (x:=((c):Av)) (y:=(dEnt:Av)) hcx.2.1 (by simp[dEnt])) (Bx (x:=((c):Av)) D2 hcx.2.1) (BD (x:=((c):Av)) (RB.one hcx.1).2) fun oz e4 cn o0=> ?_)
       have hE:=Ac hE cn (Nat.le_trans ik (by omega))
       have p:=Ac p cn (Nat.le_trans il (by omega))
       have hm65:=MapF.other hm65 cn (AL (by omega))
       have t:=Ac t cn (Nat.le_trans im (by omega))
       have a9:=Ac a9 cn (Nat.le_trans io (by omega))
       have a4:=kb cn a4 (by omega)
       have c0:=Ac c0 cn (Nat.le_trans (Nat.le_refl _) (by omega))
       clear c1
       have c1:=e4;clear e4
       have o1:=bl c1
       refine oA rfl (oZ (tN (ii _ _ (wt (oS rfl (Yk.fieldAt E6 (vr (PQ cl 0) rfl) (oS rfl (Yk.cell1 Hu rfl (vr (PQ cl 1) rfl) (Ai a4 ((show(entC ((es.getD (q) dEnt)))[1]? =some (.bool false:Value)from congrArg (fun b=>some (Value.bool b)) hbx))) (oS rfl (Yk.notB (vr (.bool (false)) rfl) (oM rfl (oN (d:=117) rfl rfl rfl (vr (.bool (true)) rfl) rfl (oS rfl (Yk.pickT (vr (.bool (true)) rfl) (vr (.bool (true)) rfl) (oP rfl (Yp.callA2 Fo (vr (.bool (true)) rfl) (vr (NI 6) rfl) ?_))))))))))))))))
       refine AG (Bc _ (true) 6) ?_ ?_
       rotate_left
       ·
        rintro ch o2 ⟨rfl,hb,hx⟩
        refine Aw (Af (Af (Aw (Af (AK ?_)))))
        cases hb
       rintro v_ o3 ⟨rfl,o4,b9⟩
       have hE:=hE.trans b9
       have p:=p.trans b9
       have hm65:=hm65.keep b9
       have t:=t.trans b9
       have a9:=a9.trans b9
       have a4:=eb b9 a4
       have c0:=c0.trans b9
       have c1:=eb b9 c1
       refine oZ (bN (tN (h6 _ _ (wt (oS rfl (Yk.bin (xv:=NI q) (yv:=NI 1) al rfl rfl (Ak _ _ _ (by omega)) (oM rfl (AH [(0,v),(2, .pointer none),(3,NI ((b.length)-(36))),(4,NI f),(5,NI n),(6,NI (1+k)),(7,NI 0),(8,ax),(9,ar),(10, .map (some ao)),(14,PQ cl 0),(16, .bool (true)),(85, .agg ((AY (s.ids)).map fun x=>NI x).toArray),(86,NI m),(101,ax),(102,NI es.length),(103,NI ((q)+(1)))] ⟨u,T2,T3,T4,T5,T6,T7,T8,T9,ad,rfl,rfl,am,ac,au,aw,rfl,trivial⟩ fun ip ⟨u,T2,T3,T4,T5,T6,T7,T8,T9,ad,en,eo,am,ac,au,aw,al,_⟩=>(tN (And.intro ⟨q+1,u,T2,T3,T4,T5,T6,T7,T8,T9,ad,am,ac,au,aw,al,hE,p,hm65,t,by omega,fun j hj=>by by_cases e:j=q;subst e;exact(fun hbt=>by rw[hbx]at hbt;cases hbt);exact hbs j (by omega),trivial⟩ ?_))))))))))
       show es.length-(intOf (ip 103)).toNat<es.length-(intOf (dx 103)).toNat
       rw[al,q103]
       simp only[intOf,Int.toNat_natCast];omega
      refine Ah (tN (dr _ _ (sk fun o5 iq=>(Aj (sk fun o6 ir=>(wt ?_))))))
      have iu:(entC (es.getD (q) dEnt)).length=35:=(RG.elem (bs.keep p) dEnt (by omega))
      refine oS rfl (Yk.atRG EO KE (by decide) dEnt (RG.of (bs.keep p) au) al (by omega) fun iv e5=>(oS rfl (Yk.loadPR (PR.of e5 (vr iv rfl)) (HY).choose_spec rfl (by rw[iu];exact D2) (oS rfl (Yk.alloc (cs:=(entC dEnt).toArray) F7 fun co iw ix e6 dh o7=> ?_)))))
      have ba:=Ext.refl c9
      have o8:=hE
      have o9:=p
      have pa:=t
      have iy:=hE.size
      have iz:=p.size
      have i0:=t.size
      have pb:=AT hm65.lt ix
      have hE:=hE.trans dh
      have p:=p.trans dh
      have hm65:=hm65.keep dh
      have t:=t.trans dh
      have ba:=ba.trans dh
      have a5:=e6;clear e6
      have pc:co<iw.heap.size:=by omega
      refine oS rfl (Yk.storeAll (vr (PQ co 0) rfl) (vr (.agg (entC (es.getD (q) dEnt)).toArray) rfl) a5 (BA (x:=((es.getD (q) dEnt):Av)) (y:=(dEnt:Av)) hcl.2 (by simp[dEnt])) (Bx (x:=((es.getD (q) dEnt):Av)) D2 hcl.2) (BD (x:=((es.getD (q) dEnt):Av)) (RB.one hcl.1).2) fun i1 e7 di pd=> ?_)
      have hE:=Ac hE di (Nat.le_trans iy (by omega))
      have p:=Ac p di (Nat.le_trans iz (by omega))
      have hm65:=MapF.other hm65 di (AL (by omega))
      have t:=Ac t di (Nat.le_trans i0 (by omega))
      have ba:=Ac ba di (Nat.le_trans (Nat.le_refl _) (by omega))
      clear a5
      have a5:=e7;clear e7
      have pe:=bl a5
      refine oZ ?_
      clear e5
      refine tN (ir _ _ (sk fun pf i2=>(wt (oM rfl (oS rfl (Yk.fieldAt JW (vr (PQ co 0) rfl) (oS rfl (Yk.loadPart (vr (PQ co 2) rfl) (DS (x:=((es.getD (q) dEnt):Av)) a5) Ow rfl (by rw[Lib.byteCells_length,hcl.2];exact L9) (oS rfl (Yk.lookOkS (ek:=rk) (ev:=BH) (D:=(fun id:List UInt8=>id.length=32)) Cf Cg (fun _ _=>Cc) H2 (z:=BH dEnt) C1 ad (vr (AB (((es.getD (q) dEnt)).1.base)) rfl) hm65 hcl.2 hl (oM rfl (oS rfl (Yk.extract (vs:= [.agg (entC (c)).toArray, .bool (true)]) (vr (.tuple #[.agg (entC (c)).toArray, .bool (true)]) rfl) (show _=some (.agg (entC (c)).toArray:Value)from rfl) (oS rfl (Yk.extract (vs:= [.agg (entC (c)).toArray, .bool (true)]) (vr (.tuple #[.agg (entC (c)).toArray, .bool (true)]) rfl) (show _=some (.bool (true):Value)from rfl) (oS rfl (Yk.alloc (cs:=(entC dEnt).toArray) F7 fun e8 i3 e9 fa cp pg=> ?_)))))))))))))))))
      have c2:=Ext.refl i1
      have ph:=hE
      have pi:=p
      have pj:=t
      have pk:=ba
      have i4:=hE.size
      have i5:=p.size
      have i6:=t.size
      have i7:=ba.size
      have pl:=AT hm65.lt e9
      have pm:=AT (bl a5) e9
      have hE:=hE.trans cp
      have p:=p.trans cp
      have hm65:=hm65.keep cp
      have t:=t.trans cp
      have ba:=ba.trans cp
      have a5:=eb cp a5
      have c2:=c2.trans cp
      have c3:=fa;clear fa
      have pn:e8<i3.heap.size:=by omega
      refine oS rfl (Yk.storeAll (vr (PQ e8 0) rfl) (vr (.agg (entC (c)).toArray) rfl) c3 (BA (x:=((c):Av)) (y:=(dEnt:Av)) hcx.2.1 (by simp[dEnt])) (Bx (x:=((c):Av)) D2 hcx.2.1) (BD (x:=((c):Av)) (RB.one hcx.1).2) fun po fb cq pp=> ?_)
      have hE:=Ac hE cq (Nat.le_trans i4 (by omega))
      have p:=Ac p cq (Nat.le_trans i5 (by omega))
      have hm65:=MapF.other hm65 cq (AL (by omega))
      have t:=Ac t cq (Nat.le_trans i6 (by omega))
      have ba:=Ac ba cq (Nat.le_trans i7 (by omega))
      have a5:=kb cq a5 (by omega)
      have c2:=Ac c2 cq (Nat.le_trans (Nat.le_refl _) (by omega))
      clear c3
      have c3:=fb;clear fb
      have pq:=bl c3
      refine oA rfl (oZ (tN (i2 _ _ (wt (oS rfl (Yk.fieldAt E6 (vr (PQ co 0) rfl) (oS rfl (Yk.cell1 Hu rfl (vr (PQ co 1) rfl) (Ai a5 ((show(entC ((es.getD (q) dEnt)))[1]? =some (.bool true:Value)from congrArg (fun b=>some (Value.bool b)) hbx))) (oS rfl (Yk.notB (vr (.bool (true)) rfl) (oM rfl (oY (d:=117) rfl rfl (vr (.bool (false)) rfl) (Yk.move (vr (.bool (true)) rfl) (oS rfl (Yk.pickF (vr (.bool (false)) rfl) (vr (.bool (true)) rfl) (oP rfl (Yp.callA2 Fo (vr (.bool (true)) rfl) (vr (NI 6) rfl) ?_)))))))))))))))))
      refine AG (Bc _ (true) 6) ?_ ?_
      rotate_left
      ·
       rintro ch pr ⟨rfl,hb,hx⟩
       refine Aw (Af (Af (Aw (Af (AK ?_)))))
       cases hb
      rintro v_ ps ⟨rfl,pt,ca⟩
      have hE:=hE.trans ca
      have p:=p.trans ca
      have hm65:=hm65.keep ca
      have t:=t.trans ca
      have ba:=ba.trans ca
      have a5:=eb ca a5
      have c2:=c2.trans ca
      have c3:=eb ca c3
      refine oZ (bN (tN (iq _ _ (wt (oS rfl (Yk.bin (xv:=NI q) (yv:=NI 1) al rfl rfl (Ak _ _ _ (by omega)) (oM rfl (AH [(0,v),(2, .pointer none),(3,NI ((b.length)-(36))),(4,NI f),(5,NI n),(6,NI (1+k)),(7,NI 0),(8,ax),(9,ar),(10, .map (some ao)),(14,PQ co 0),(16, .bool (true)),(85, .agg ((AY (s.ids)).map fun x=>NI x).toArray),(86,NI m),(101,ax),(102,NI es.length),(103,NI ((q)+(1)))] ⟨u,T2,T3,T4,T5,T6,T7,T8,T9,ad,rfl,rfl,am,ac,au,aw,rfl,trivial⟩ fun i8 ⟨u,T2,T3,T4,T5,T6,T7,T8,T9,ad,en,eo,am,ac,au,aw,al,_⟩=>(tN (And.intro ⟨q+1,u,T2,T3,T4,T5,T6,T7,T8,T9,ad,am,ac,au,aw,al,hE,p,hm65,t,by omega,fun j hj=>by by_cases e:j=q;subst e;exact(fun _ hn=>by rw[hl]at hn;cases hn);exact hbs j (by omega),trivial⟩ ?_))))))))))
      show es.length-(intOf (i8 103)).toNat<es.length-(intOf (dx 103)).toNat
      rw[al,q103]
      simp only[intOf,Int.toNat_natCast];omega
     have hbb:=M0 (fun j hj=>hbs j (by omega))
     have hP5:CM b=G3 (H3 s.plain.M) s.ids:=hP4.trans (if_pos hbb)
     refine AJ (Ag (Ag (Ap (tN (gp _ _ (sk fun pu i9=>(wt (oM rfl (oS rfl (Yk.mkMap rk Cl (fun id:List UInt8=>id.length=32) fun a6 fc ja bg dj pv=> ?_))))))))))
     have a0:=Ext.refl c9
     have pw:=hE
     have px:=p
     have py:=t
     have pz:=hE.size
     have p0:=p.size
     have p1:=t.size
     have p2:=AT hm65.lt ja
     have hE:=hE.trans dj
     have p:=p.trans dj
     have hm65:=hm65.keep dj
     have t:=t.trans dj
     have a0:=a0.trans dj
     have p3:a6<fc.heap.size:=by omega
     refine oS rfl (Yk.build2 ad (vr (.map (some a6)) rfl) (fun w=>H8 (ao) (a6) w) (oS rfl (Yk.box (cs:=([.map (some ao), .map (some a6)]:List Value).toArray) (show _=(.agg ([.map (some ao), .map (some a6)]).toArray:Value)from rfl) fun b0 fd fe ff cr p4=> ?_)))
     have bh:=Ext.refl fc
     have p5:=hE
     have p6:=p
     have p7:=t
     have p8:=a0
     have p9:=hE.size
     have qa:=p.size
     have qb:=t.size
     have qc:=a0.size
     have qd:=AT hm65.lt fe
     have qe:=AT bg.lt fe
     have hE:=hE.trans cr
     have p:=p.trans cr
     have hm65:=hm65.keep cr
     have t:=t.trans cr
     have a0:=a0.trans cr
     have bg:=bg.keep cr
     have bh:=bh.trans cr
     have aa:=ff;clear ff
     have qf:b0<fd.heap.size:=by omega
     refine oA rfl (oZ (tN (i9 _ _ (sk fun qg jb=>(wt (oM rfl (oS rfl (Yk.mkMap rk Cl (fun id:List UInt8=>id.length=32) fun a2 fg dy dk b1 qh=> ?_))))))))
     have ct:=Ext.refl fd
     have qi:=hE
     have qj:=p
     have qk:=t
     have ql:=a0
     have qm:=bh
     have qn:=hE.size
     have qo:=p.size
     have qp:=t.size
     have qq:=a0.size
     have qr:=bh.size
     have qs:=AT hm65.lt dy
     have qt:=AT bg.lt dy
     have qu:=AT (bl aa) dy
     have hE:=hE.trans b1
     have p:=p.trans b1
     have hm65:=hm65.keep b1
     have t:=t.trans b1
     have a0:=a0.trans b1
     have bg:=bg.keep b1
     have bh:=bh.trans b1
     have aa:=eb b1 aa
     have ct:=ct.trans b1
     have qv:a2<fg.heap.size:=by omega
     refine oS rfl (Yk.build2 T9 (vr (.map (some a2)) rfl) (fun w=>Ip (RG.slice (ce.keep t)) (a2) w) (oS rfl (Yk.box (cs:=([ar, .map (some a2)]:List Value).toArray) (show _=(.agg ([ar, .map (some a2)]).toArray:Value)from rfl) fun bc jc du fh bi qw=> ?_)))
     have dz:=Ext.refl fg
     have qx:=hE
     have qy:=p
     have qz:=t
     have q0:=a0
     have q4:=bh
     have q5:=ct
     have q6:=hE.size
     have q7:=p.size
     have q8:=t.size
     have q9:=a0.size
     have ra:=bh.size
     have rb:=ct.size
     have rc:=AT hm65.lt du
     have rd:=AT bg.lt du
     have re:=AT (bl aa) du
     have rf:=AT dk.lt du
     have hE:=hE.trans bi
     have p:=p.trans bi
     have hm65:=hm65.keep bi
     have t:=t.trans bi
     have a0:=a0.trans bi
     have bg:=bg.keep bi
     have bh:=bh.trans bi
     have aa:=eb bi aa
     have ct:=ct.trans bi
     have dk:=dk.keep bi
     have dz:=dz.trans bi
     have an:=fh;clear fh
     have rg:bc<jc.heap.size:=by omega
     refine oA rfl (oZ (tN (jb _ _ (sk fun rh jd=>(wt (oA rfl (oZ (tN (jd _ _ (sk fun ri je=>(sk fun rj jf=>(wt (oM rfl (oS rfl (Yk.lenRG JD (RG.of (ce.keep t) T9) (oM rfl (AH [(0,v),(2, .pointer none),(3,NI ((b.length)-(36))),(4,NI f),(5,NI n),(6,NI (1+k)),(7,NI 0),(8,ax),(9,ar),(10, .map (some ao)),(17,PQ b0 0),(18,PQ bc 0),(19,NI 0),(85, .agg ((AY (s.ids)).map fun x=>NI x).toArray),(86,NI m),(101,ax),(102,NI es.length),(103,NI q),(130,ar),(131,NI ((s.ids).length)),(132,NI 0)] ⟨u,T2,T3,T4,T5,T6,T7,T8,T9,ad,rfl,rfl,rfl,am,ac,au,aw,al,T9,rfl,rfl,trivial⟩ fun rl ⟨u,T2,T3,T4,T5,T6,T7,T8,T9,ad,bj,bk,b2,am,ac,au,aw,al,bu,bv,a7,_⟩=>(tN (jf _ _ ?_)))))))))))))))))))
     refine Aj (AX (fun(ρ:Aq) (wz:World)=>∃i:Nat,∃st:H4,∃H:Bs→Option Ch,∃O:Bs→Option Ch,ρ 0=(v:Value)∧ρ 2=(.pointer none:Value)∧ρ 3=(NI ((b.length)-(36)):Value)∧ρ 4=(NI f:Value)∧ρ 5=(NI n:Value)∧ρ 6=(NI (1+k):Value)∧ρ 7=(NI 0:Value)∧ρ 8=(ax:Value)∧ρ 9=(ar:Value)∧ρ 10=(.map (some ao):Value)∧ρ 17=(PQ b0 0:Value)∧ρ 18=(PQ bc 0:Value)∧ρ 85=(.agg ((AY (s.ids)).map fun x=>NI x).toArray:Value)∧ρ 86=(NI m:Value)∧ρ 101=(ax:Value)∧ρ 102=(NI es.length:Value)∧ρ 103=(NI q:Value)∧ρ 130=(ar:Value)∧ρ 131=(NI ((s.ids).length):Value)∧ρ 132=(NI i:Value)∧ρ 19=(NI st.total:Value)∧Ext w wz∧Ext cw wz∧MapF rk BH (fun id:List UInt8=>id.length=32) wz ao s.M∧Ext cd wz∧wz.heap[b0]? =some (.cells ([.map (some ao), .map (some a6)]).toArray 120 (0,0))∧wz.heap[bc]? =some (.cells ([ar, .map (some a2)]).toArray 74 (0,0))∧HOk wz s.M H∧OOk wz O∧MapF rk Cl (fun id:List UInt8=>id.length=32) wz a6 (H)∧MapF rk Cl (fun id:List UInt8=>id.length=32) wz a2 (O)∧(D8 (AU s.M) s.ids i = .ok st)∧(i≤s.ids.length)∧((fun k=>(O k).map Prod.fst)=st.O)∧(st.total≤4194304)∧True) (fun ρ _=>s.ids.length-(intOf (ρ 132)).toNat) ⟨0,⟨0,fun _=>none⟩,fun _=>none,fun _=>none,u,T2,T3,T4,T5,T6,T7,T8,T9,ad,bj,bk,am,ac,au,aw,al,bu,bv,a7,b2,hE,p,hm65,t,aa,an,HOk.nil,OOk.nil _,CY bg (rfl),CY dk (rfl),rfl,Nat.zero_le _,rfl,Nat.zero_le _,trivial⟩ ?_)
     clear a0
     clear bg
     clear bh
     clear ct
     clear dk
     clear dz
     clear hE p hm65 t aa an
     rintro jg jh ⟨i,st,H,O,u,T2,T3,T4,T5,T6,T7,T8,T9,ad,bj,bk,am,ac,au,aw,al,bu,bv,a7,b2,hE,p,hm65,t,aa,an,hHO,hOO,hb339l,hb374l,hs,hi,hO,htot,-⟩
     have q132:=a7
     refine sk fun rm ji=>(wt (oS rfl (Yk.eqI (a:=(i:Nat)) (b:=((s.ids).length:Nat)) a7 bv (AN _ _ _ _) (oZ (tN (ji _ _ (sk fun rn jj=> ?_)))))))
     refine AO ((i)<((s.ids).length)) (vr (.bool (decide ((i)<((s.ids).length)))) rfl) (fun fi=> ?_) (fun fi=> ?_)
     ·have hc3_:i<s.ids.length:=fi
      have hid32:(s.ids.getD i []).length=32:=by have:=RG.elem (ce.keep t) ([]:List UInt8) hc3_;rwa [Lib.byteCells_length]at this
      have oerr:∀c,DC (AU s.M) (s.ids.getD i []) st = .error c→CM b = .error c:=fun c hc=>by rw[hP5];unfold G3;rw[←Hf];have h1:=IT ((Ga hs).trans hc) (s.ids.length-(i+1));rw[show i+1+(s.ids.length-(i+1))=s.ids.length by omega]at h1;show(match D8 (AU s.M) s.ids s.ids.length with | .error e=>_ | .ok o=>_)=_;rw[h1]
      refine Ah (tN (jj _ _ (sk fun ro jk=>(Aj (sk fun rp jl=>(wt ?_))))))
      have cb:(Lib.byteCells ((s.ids).getD (i) ([]:List UInt8))).length=32:=(RG.elem (ce.keep t) ([]:List UInt8) (by omega))
      refine oS rfl (Yk.atRG JD Mn (by decide) ([]:List UInt8) (RG.of (ce.keep t) bu) a7 (by omega) fun jm fj=>(oS rfl (Yk.loadPR (PR.of fj (vr jm rfl)) Ow rfl (by rw[cb];exact L9) (oS rfl (Yk.alloc (cs:=(Lib.byteCells (List.replicate 32 0)).toArray) NH fun b3 jn dl fk b4 rq=> ?_)))))
      have b5:=Ext.refl jh
      have rr:=hE
      have rs:=p
      have rt:=t
      have jo:=hE.size
      have jp:=p.size
      have jq:=t.size
      have ru:=AT hm65.lt dl
      have rv:=AT (bl aa) dl
      have rx:=AT (bl an) dl
      have ry:=AT hb339l.lt dl
      have rz:=AT hb374l.lt dl
      have hE:=hE.trans b4
      have p:=p.trans b4
      have hm65:=hm65.keep b4
      have t:=t.trans b4
      have aa:=eb b4 aa
      have an:=eb b4 an
      have hb339l:=hb339l.keep b4
      have hb374l:=hb374l.keep b4
      have b5:=b5.trans b4
      have ap:=fk;clear fk
      have r0:b3<jn.heap.size:=by omega
      refine oS rfl (Yk.storeAll (vr (PQ b3 0) rfl) (vr (AB ((s.ids).getD (i) ([]:List UInt8))) rfl) ap (by exact C6 (A5 (cb)) List.length_replicate) (by exact AM (A5 (cb))) (AF _) fun r1 fl b6 r2=> ?_)
      have hE:=Ac hE b6 (Nat.le_trans jo (by omega))
      have p:=Ac p b6 (Nat.le_trans jp (by omega))
      have hm65:=MapF.other hm65 b6 (AL (by omega))
      have t:=Ac t b6 (Nat.le_trans jq (by omega))
      have aa:=kb b6 aa (by omega)
      have an:=kb b6 an (by omega)
      have hb339l:=MapF.other hb339l b6 (AL (by omega))
      have hb374l:=MapF.other hb374l b6 (AL (by omega))
      have b5:=Ac b5 b6 (Nat.le_trans (Nat.le_refl _) (by omega))
      clear ap
      have ap:=fl;clear fl
      have r3:=bl ap
      refine oZ ?_
      clear fj
      refine tN (jl _ _ (sk fun r4 jr=>(wt (oM rfl (oS rfl (Yk.loadAll (vr (PQ b3 0) rfl) ap Ow rfl (by exact AM (A5 (cb))) (oP rfl (Yp.callA2 M3 bj (vr (AB ((s.ids).getD (i) ([]:List UInt8))) rfl) ?_))))))))
      refine AG (LO _ b0 ao a6 s.M aa hm65 (hMO.keep t) (s.ids.getD i []) hid32) ?_ ?_
      rotate_left
      ·
       rintro ch r5 ⟨hno,rfl,hx⟩
       refine Af (Aw (Af (Af (Aw (Af (AK ?_))))))
       exact .inr ⟨_,rfl,17,oerr 17 (LQ hno),rfl,hE.trans hx⟩
      rintro v_ js ⟨dd,hdp,rfl,bw⟩
      have hE:=hE.trans bw
      have p:=p.trans bw
      have hm65:=hm65.keep bw
      have t:=t.trans bw
      have aa:=eb bw aa
      have an:=eb bw an
      have hb339l:=hb339l.keep bw
      have hb374l:=hb374l.keep bw
      have b5:=b5.trans bw
      have ap:=eb bw ap
      have hdle:=H7 hdp
      refine oA rfl (oZ (tN (jr _ _ (sk fun r6 jt=>(wt (oM rfl (oS rfl (Yk.loadAll (vr (PQ b3 0) rfl) ap Ow rfl (by exact AM (A5 (cb))) (oP rfl (Yp.callA2 MV bj (vr (AB ((s.ids).getD (i) ([]:List UInt8))) rfl) ?_))))))))))
      refine AG (MX b0 ao a6 s.M dd _ H (s.ids.getD i []) aa hm65 hb339l (hMO.keep t) (hHO.keep b5) (by omega) hid32 hdle 50 hdp) ?_ ?_
      rotate_left
      ·
       rintro ch r7 ⟨hno,rfl,hx⟩
       refine Af (Aw (Af (Af (Aw (Af (AK ?_))))))
       exact .inr ⟨_,rfl,6,oerr 6 (MY hdp hno),rfl,CB hE hx hE.size (fun k hk=>by cases hk;omega)⟩
      rintro v_ bm ⟨a1,bb,kk,H1,rfl,hcg,cu,hm463,hHO464,dv⟩
      have cv:=dv.grown
      have hm469:DK js a6:=(MapF.isMap hb339l).noB8
      have hE:Ext w bm:=CB hE dv hE.size (fun k hk=>by cases hk;omega)
      have p:Ext cw bm:=CB p dv p.size (fun k hk=>by cases hk;omega)
      have hm65:MapF rk BH (fun id:List UInt8=>id.length=32) bm ao s.M:=MapF.other hm65 cv (AL (by omega))
      have t:Ext cd bm:=CB t dv t.size (fun k hk=>by cases hk;omega)
      have aa:bm.heap[b0]? =some (.cells ([.map (some ao), .map (some a6)]).toArray 120 (0,0)):=kb cv aa (by omega)
      have an:bm.heap[bc]? =some (.cells ([ar, .map (some a2)]).toArray 74 (0,0)):=kb cv an (by omega)
      have hHO:HOk bm s.M H:=(hHO.keep b5).keepN hm469 cv
      have hOO:OOk bm O:=(hOO.keep b5).keepN hm469 cv
      clear hb339l
      have hb374l:MapF rk Cl (fun id:List UInt8=>id.length=32) bm a2 (O):=MapF.other hb374l cv (AL (by omega))
      have ap:bm.heap[b3]? =some (.cells (Lib.byteCells ((s.ids).getD (i) ([]:List UInt8))).toArray 38 (0,0)):=kb cv ap (by omega)
      have r8:=hE.size
      have r9:=p.size
      have sa:=t.size
      have hcl:=F8 hcg
      refine oS rfl (Yk.alloc (cs:=([(Value.slice none 0 0),NI 0]).toArray) DL fun b7 ju c4 fm bx sb=> ?_)
      have ay:=Ext.refl bm
      have sc:=hE
      have sd:=p
      have se:=t
      have jv:=hE.size
      have jw:=p.size
      have jx:=t.size
      have sf:=AT hm65.lt c4
      have sg:=AT (bl aa) c4
      have sh:=AT (bl an) c4
      have si:=AT hb374l.lt c4
      have sj:=AT (bl ap) c4
      have sl:=AT hm463.lt c4
      have hE:=hE.trans bx
      have p:=p.trans bx
      have hm65:=hm65.keep bx
      have t:=t.trans bx
      have aa:=eb bx aa
      have an:=eb bx an
      have hb374l:=hb374l.keep bx
      have ap:=eb bx ap
      have hm463:=hm463.keep bx
      have ay:=ay.trans bx
      have az:=fm;clear fm
      have sm:b7<ju.heap.size:=by omega
      refine oS rfl (Yk.storeAll (vr (PQ b7 0) rfl) (vr (.agg ([a1,NI kk]).toArray) rfl) az rfl (show(Tryd.prog.info? 81).map (·.size)=some 2 from BE) (Ck (RB.one (cu.keep ay)).2) fun sn fo bz so=> ?_)
      have hE:=Ac hE bz (Nat.le_trans jv (by omega))
      have p:=Ac p bz (Nat.le_trans jw (by omega))
      have hm65:=MapF.other hm65 bz (AL (by omega))
      have t:=Ac t bz (Nat.le_trans jx (by omega))
      have aa:=kb bz aa (by omega)
      have an:=kb bz an (by omega)
      have hb374l:=MapF.other hb374l bz (AL (by omega))
      have ap:=kb bz ap (by omega)
      have hm463:=MapF.other hm463 bz (AL (by omega))
      have ay:=Ac ay bz (Nat.le_trans (Nat.le_refl _) (by omega))
      clear az
      have az:=fo;clear fo
      have sp:=bl az
      refine oZ (tN (jt _ _ (sk fun sq jy=> ?_)))
      refine Cr 6 [Is (PQ b7 0),Is (a1),fun x w' =>RBs w' x [bb],Is (AB (Sha.sum (bb))),Is (AB ((s.ids).getD (i) ([]:List UInt8))),Is (.bool (decide ((Sha.sum (bb))=((s.ids).getD (i) ([]:List UInt8)))))] (by kernel_rfl) [142,143,144,145,146,147,148] (by kernel_rfl) (by kernel_rfl) (by kernel_rfl) (by kernel_rfl) rfl rfl (Ef ⟨(fun _ _ _ h k=>RBs.keep h k),(DV trivial)⟩) ?jz ?hQ3027
      case jz=>
       refine⟨?_,?_,?_,?_,?_,?_,?_,trivial⟩
       ·refine An (Aa rfl fun σ w1 hC h=> ?_)
        have d0:σ 23=PQ b7 0:=(Ab (h 23 (by decide))).trans rfl
        exact Yk.fieldAt Fz d0 ⟨Ext.refl _,rfl⟩
       ·refine An (Aa rfl fun σ w1 hC h=> ?_)
        have j0:=Ab (h 142 (by decide))
        exact Yk.cell1 DT rfl j0 (Ai (eb hC az) (show _=some (a1:Value)from rfl)) ⟨Ext.refl _,rfl⟩
       ·refine An (Aa rfl fun σ w1 hC h=> ?_)
        have j1:=Ab (h 143 (by decide))
        exact Yk.rows1 E5 (RB.of (cu.keep (ay.trans hC)) j1) fun v w2 h hx=>⟨hx,h⟩
       ·refine An (Aa rfl fun σ w1 hC h=> ?_)
        have j2:(fun x w' =>RBs w' x [bb]) (σ 144) w1:=h 144 (by decide)
        refine Yk.callA1 Hr rfl ((Es _ (hG.keep (hE.trans hC)) _ (bb) j2 (by omega)).mono ?_)
        rintro e w2 ⟨rfl,hx⟩
        exact⟨_,rfl,hx,rfl⟩
       ·refine An (Aa rfl fun σ w1 hC h=> ?_)
        have d1:σ 21=PQ b3 0:=(Ab (h 21 (by decide))).trans rfl
        exact Yk.loadAll d1 (eb hC ap) Ow rfl (by exact AM (A5 (cb))) ⟨Ext.refl _,rfl⟩
       ·refine An (Aa rfl fun σ w1 hC h=> ?_)
        have j3:=Ab (h 145 (by decide))
        have j4:=Ab (h 146 (by decide))
        exact Yk.eqArr (l1:=(Sha.sum (bb))) (l2:=((s.ids).getD (i) ([]:List UInt8))) Ow u5 Ls M4 j3 j4 ((Sha.sum_length _)) (hid32) ⟨Ext.refl _,rfl⟩
       ·exact trivial
      intro j5 sr bn he hf
      obtain⟨-,-,-,-,-,k147,-⟩:=hf
      obtain⟨u,T2,T3,T4,T5,T6,T7,T8,T9,ad,bj,bk,b2,dm,dn,c5,am,ac,au,aw,al,bu,bv,a7,-⟩:=he.hold [(0,_),(2,_),(3,_),(4,_),(5,_),(6,_),(7,_),(8,_),(9,_),(10,_),(17,_),(18,_),(19,_),(21,PQ b3 0),(22,NI dd),(23,PQ b7 0),(85,_),(86,_),(101,_),(102,_),(103,_),(130,_),(131,_),(132,_)] ⟨u,T2,T3,T4,T5,T6,T7,T8,T9,ad,bj,bk,b2,rfl,rfl,rfl,am,ac,au,aw,al,bu,bv,a7,trivial⟩ rfl
      clear he
      have hE:=hE.trans bn
      have p:=p.trans bn
      have hm65:=hm65.keep bn
      have t:=t.trans bn
      have aa:=eb bn aa
      have an:=eb bn an
      have hb374l:=hb374l.keep bn
      have ap:=eb bn ap
      have hm463:=hm463.keep bn
      have ay:=ay.trans bn
      have az:=eb bn az
      have j6:j5 147 = .bool (decide ((Sha.sum (bb))=((s.ids).getD (i) ([]:List UInt8)))):=k147
      clear k147
      refine oP rfl (Yp.callA2 Fo j6 (vr (NI 18) rfl) ?_)
      refine AG (Bc _ (decide ((Sha.sum (bb))=((s.ids).getD (i) ([]:List UInt8)))) 18) ?_ ?_
      rotate_left
      ·
       rintro ch ss ⟨rfl,hb,hx⟩
       refine Af (Aw (Af (Af (Aw (Af (AK ?_))))))
       have hno:=of_decide_eq_false hb
       exact .inr ⟨_,rfl,18,oerr 18 ((EQ hdp hcg).trans (if_neg hno)),rfl,hE.trans hx⟩
      rintro v_ su ⟨rfl,j7,bp⟩
      have hE:=hE.trans bp
      have p:=p.trans bp
      have hm65:=hm65.keep bp
      have t:=t.trans bp
      have aa:=eb bp aa
      have an:=eb bp an
      have hb374l:=hb374l.keep bp
      have ap:=eb bp ap
      have hm463:=hm463.keep bp
      have ay:=ay.trans bp
      have az:=eb bp az
      have j8:=of_decide_eq_true j7
      refine oZ ?_
      have hsum:=j8
      refine tN (jy _ _ (sk fun sv j9=>(wt (oM rfl (oS rfl (Yk.fieldAt Fz c5 (oS rfl (Yk.cell1 DT rfl (vr (PQ b7 0) rfl) (Ai az (show _=some (a1:Value)from rfl)) (oS rfl (Yk.lenRB DT (RB.of (cu.keep ay) (vr a1 rfl)) (oS rfl (Yk.bin (xv:=NI st.total) (yv:=NI bb.length) b2 rfl rfl (Ak _ _ _ (by omega)) (oA rfl (oZ (tN (j9 _ _ (sk fun sw ka=>(wt (oM rfl (oS rfl (Yk.eqI (a:=((st.total)+(bb.length):Nat)) (b:=(4194304:Nat)) rfl rfl (C5 _ _ _ _) (oP rfl (Yp.callA2 Fo (vr (.bool (decide (((st.total)+(bb.length))≤(4194304)))) rfl) (vr (NI 2) rfl) ?_)))))))))))))))))))))))
      refine AG (Bc _ (decide (((st.total)+(bb.length))≤(4194304))) 2) ?_ ?_
      rotate_left
      ·
       rintro ch sx ⟨rfl,hb,hx⟩
       refine Af (Aw (Af (Af (Aw (Af (AK ?_))))))
       have hno:=of_decide_eq_false hb
       exact .inr ⟨_,rfl,2,oerr 2 ((EQ hdp hcg).trans ((if_pos hsum).trans (if_neg hno))),rfl,hE.trans hx⟩
      rintro v_ sy ⟨rfl,kc,bq⟩
      have hE:=hE.trans bq
      have p:=p.trans bq
      have hm65:=hm65.keep bq
      have t:=t.trans bq
      have aa:=eb bq aa
      have an:=eb bq an
      have hb374l:=hb374l.keep bq
      have ap:=eb bq ap
      have hm463:=hm463.keep bq
      have ay:=ay.trans bq
      have az:=eb bq az
      have fp:=of_decide_eq_true kc
      refine oZ (tN (ka _ _ ?_))
      refine Cr 9 [Is (PQ bc 0),Is (PQ bc 0),Is (PQ bc 1),Is (.map (some a2)),Is (AB ((s.ids).getD (i) ([]:List UInt8))),Is (PQ b7 0),Is (a1),Is (NI dd),Is (.agg ([a1,NI dd]).toArray)] (by kernel_rfl) [157,158,159,160,161,162,163,164,165] (by kernel_rfl) (by kernel_rfl) (by kernel_rfl) (by kernel_rfl) rfl rfl (FF trivial) ?kd ?hQ4030
      case kd=>
       refine⟨?_,?_,?_,?_,?_,?_,?_,?_,?_,?_,trivial⟩
       ·refine An (Aa rfl fun σ w1 hC h=> ?_)
        have ke:=(Ab (h 18 (by decide))).trans bk
        exact Yk.move ke ⟨Ext.refl _,rfl⟩
       ·refine An (Aa rfl fun σ w1 hC h=> ?_)
        have kf:=Ab (h 157 (by decide))
        exact Yk.nilCheck kf ⟨Ext.refl _,rfl⟩
       ·refine An (Aa rfl fun σ w1 hC h=> ?_)
        have kg:=Ab (h 158 (by decide))
        exact Yk.fieldAt KG kg ⟨Ext.refl _,rfl⟩
       ·refine An (Aa rfl fun σ w1 hC h=> ?_)
        have kh:=Ab (h 159 (by decide))
        exact Yk.cell1 CT rfl kh (Ai (eb hC an) (show _=some (.map (some a2):Value)from rfl)) ⟨Ext.refl _,rfl⟩
       ·refine An (Aa rfl fun σ w1 hC h=> ?_)
        have d1:=(Ab (h 21 (by decide))).trans dm
        exact Yk.loadAll d1 (eb hC ap) Ow rfl (by exact AM (A5 (cb))) ⟨Ext.refl _,rfl⟩
       ·refine An (Aa rfl fun σ w1 hC h=> ?_)
        have d0:=(Ab (h 23 (by decide))).trans c5
        exact Yk.fieldAt Fz d0 ⟨Ext.refl _,rfl⟩
       ·refine An (Aa rfl fun σ w1 hC h=> ?_)
        have ki:=Ab (h 162 (by decide))
        exact Yk.cell1 DT rfl ki (Ai (eb hC az) (show _=some (a1:Value)from rfl)) ⟨Ext.refl _,rfl⟩
       ·refine An (Aa rfl fun σ w1 hC h=> ?_)
        have kj:=(Ab (h 22 (by decide))).trans dn
        exact Yk.move kj ⟨Ext.refl _,rfl⟩
       ·refine An (Aa rfl fun σ w1 hC h=> ?_)
        have kl:=Ab (h 163 (by decide))
        have km:=Ab (h 164 (by decide))
        exact Yk.build2 kl km (fun w=>Io (RB.slice (cu.keep (ay.trans hC))) (((dd:Nat):Int)) w) ⟨Ext.refl _,rfl⟩
       ·exact trivial
      intro d2 kn br he hf
      obtain⟨-,-,-,k160,k161,-,-,-,k165,-⟩:=hf
      obtain⟨u,T2,T3,T4,T5,T6,T7,T8,T9,ad,bj,bk,b2,dm,dn,c5,am,ac,au,aw,al,bu,bv,a7,-⟩:=he.hold [(0,_),(2,_),(3,_),(4,_),(5,_),(6,_),(7,_),(8,_),(9,_),(10,_),(17,_),(18,_),(19,NI ((st.total)+(bb.length))),(21,_),(22,_),(23,_),(85,_),(86,_),(101,_),(102,_),(103,_),(130,_),(131,_),(132,_)] ⟨u,T2,T3,T4,T5,T6,T7,T8,T9,ad,bj,bk,rfl,dm,dn,c5,am,ac,au,aw,al,bu,bv,a7,trivial⟩ rfl
      clear he
      have hE:=hE.trans br
      have p:=p.trans br
      have hm65:=hm65.keep br
      have t:=t.trans br
      have aa:=eb br aa
      have an:=eb br an
      have hb374l:=hb374l.keep br
      have ap:=eb br ap
      have hm463:=hm463.keep br
      have ay:=ay.trans br
      have az:=eb br az
      have ko:d2 160 = .map (some a2):=k160
      have kp:d2 161=AB ((s.ids).getD (i) ([]:List UInt8)):=k161
      have kq:d2 165 = .agg ([a1,NI dd]).toArray:=k165
      clear k160 k161 k165
      refine oS rfl (Yk.putM (ek:=rk) (ev:=Cl) (D:=(fun id:List UInt8=>id.length=32)) (c:=(((bb,dd),a1):Ch)) Cf Cg CT ko kp kq hb374l (A5 (cb)) fun bd kr be sz=> ?_)
      have hOO:=OOk.put (hOO.keep ay) (id:=s.ids.getD i []) (x:=(((bb,dd),a1):Ch)) (cu.keep ay)
      have hm524:DK kn a2:=(MapF.isMap hb374l).noB8
      have hE:Ext w bd:=CB hE (BX.ofGrown be (Nat.le_refl _) (fun k hk=> .inl hk)) hE.size (fun k hk=>by cases hk;omega)
      have p:Ext cw bd:=CB p (BX.ofGrown be (Nat.le_refl _) (fun k hk=> .inl hk)) p.size (fun k hk=>by cases hk;omega)
      have hm65:MapF rk BH (fun id:List UInt8=>id.length=32) bd ao s.M:=MapF.other hm65 be (AL (by omega))
      have t:Ext cd bd:=CB t (BX.ofGrown be (Nat.le_refl _) (fun k hk=> .inl hk)) t.size (fun k hk=>by cases hk;omega)
      have aa:bd.heap[b0]? =some (.cells ([.map (some ao), .map (some a6)]).toArray 120 (0,0)):=kb be aa (by omega)
      have an:bd.heap[bc]? =some (.cells ([ar, .map (some a2)]).toArray 74 (0,0)):=kb be an (by omega)
      have hOO:OOk bd (updM (O) (s.ids.getD (i) ([]:List UInt8)) (some ((((bb,dd),a1):Ch)))):=hOO.keepN hm524 be
      clear hb374l
      have ap:bd.heap[b3]? =some (.cells (Lib.byteCells ((s.ids).getD (i) ([]:List UInt8))).toArray 38 (0,0)):=kb be ap (by omega)
      have cu:RB bd a1 bb:=(cu.keep ay).keepN hm524 be
      have hm463:MapF rk Cl (fun id:List UInt8=>id.length=32) bd a6 H1:=MapF.other hm463 be (AL (by omega))
      have hHO464:HOk bd s.M H1:=(hHO464.keep ay).keepN hm524 be
      have az:bd.heap[b7]? =some (.cells ([a1,NI kk]).toArray 81 (0,0)):=kb be az (by omega)
      have s0:=hE.size
      have s1:=p.size
      have s2:=t.size
      refine oZ (bN (tN (jk _ _ (wt (oS rfl (Yk.bin (xv:=NI i) (yv:=NI 1) a7 rfl rfl (Ak _ _ _ (by omega)) (oM rfl (AH [(0,v),(2, .pointer none),(3,NI ((b.length)-(36))),(4,NI f),(5,NI n),(6,NI (1+k)),(7,NI 0),(8,ax),(9,ar),(10, .map (some ao)),(17,PQ b0 0),(18,PQ bc 0),(19,NI ((st.total)+(bb.length))),(21,PQ b3 0),(22,NI dd),(23,PQ b7 0),(85, .agg ((AY (s.ids)).map fun x=>NI x).toArray),(86,NI m),(101,ax),(102,NI es.length),(103,NI q),(130,ar),(131,NI ((s.ids).length)),(132,NI ((i)+(1)))] ⟨u,T2,T3,T4,T5,T6,T7,T8,T9,ad,bj,bk,b2,dm,dn,c5,am,ac,au,aw,al,bu,bv,rfl,trivial⟩ fun ks ⟨u,T2,T3,T4,T5,T6,T7,T8,T9,ad,bj,bk,b2,dm,dn,c5,am,ac,au,aw,al,bu,bv,a7,_⟩=>(tN (And.intro ⟨i+1,⟨st.total+bb.length,updM st.O (s.ids.getD i []) (some (bb,dd))⟩,H1,updM (O) (s.ids.getD (i) ([]:List UInt8)) (some ((((bb,dd),a1):Ch))),u,T2,T3,T4,T5,T6,T7,T8,T9,ad,bj,bk,am,ac,au,aw,al,bu,bv,a7,b2,hE,p,hm65,t,aa,an,hHO464,hOO,CY hm463 (rfl),CY kr (rfl),(Ga hs).trans ((EQ hdp hcg).trans ((if_pos hsum).trans (if_pos fp))),by omega,by rw[F9,hO];rfl,fp,trivial⟩ ?_))))))))))
      show s.ids.length-(intOf (ks 132)).toNat<s.ids.length-(intOf (jg 132)).toNat
      rw[a7,q132]
      simp only[intOf,Int.toNat_natCast];omega
     have hie:i=s.ids.length:=by omega
     refine AJ (Ag (Ag (Ap (tN (je _ _ (sk fun s3 kt=>(wt (oM rfl (oA rfl (oZ (tN (kt _ _ (As (Ca (fn:=Tryd.f37) _ rfl [PQ bc 0] (PQ bc 0) rfl ⟨bk,trivial⟩ ?_))))))))))))))
     exact .inl ⟨_,rfl,_,_,_,s.ids,O,rfl,by rw[hP5,←Hf,J2 (by rw[←hie];exact hs),hO],an,(ce.keep t),hb374l,hOO,hE⟩
    have hP:CM b = .error 6:=hP0.trans (if_neg (fun h=>by have h1:=h.2;exact q3 h1.2.2))
    refine tN (cc _ _ (sk fun s4 ku=>(wt (oM rfl (oS rfl (Yk.callA2 CL u (vr (NI 1) rfl) (((show Calls _ _ _ _ (fun e w2=>e = .returned (.tuple #[NI n,NI (1+k),NI 0])∧Ext _ w2)from(DZ _ v b (hr.keep hE) 1 (by omega)).mono fun e w2 ⟨h1,h2⟩=>by subst h2;subst h1;rw[hd];exact⟨rfl,Ext.refl _⟩)).mono ?_)))))))
    rintro e s5 ⟨rfl,fq⟩
    refine⟨_,rfl,?_⟩
    have hE:=hE.trans fq
    have av:=av.keep fq
    refine oM rfl (oS rfl (Yk.extract (vs:= [NI n,NI (1+k),NI 0]) (vr (.tuple #[NI n,NI (1+k),NI 0]) rfl) (show _=some (NI n:Value)from rfl) (oS rfl (Yk.extract (vs:= [NI n,NI (1+k),NI 0]) (vr (.tuple #[NI n,NI (1+k),NI 0]) rfl) (show _=some (NI (1+k):Value)from rfl) (oS rfl (Yk.extract (vs:= [NI n,NI (1+k),NI 0]) (vr (.tuple #[NI n,NI (1+k),NI 0]) rfl) (show _=some (NI 0:Value)from rfl) (oA rfl (oA rfl (oA rfl (oZ (tN (ku _ _ (sk fun s6 s7=>(wt (oM rfl (oS rfl (Yk.atRB (l:=b) (i:=0) DT Ls (RB.of (hr.keep hE) u) (vr (NI 0) rfl) (by omega) fun kv kw=>(oS rfl (Yk.loadC u5 rfl (PCell.of kw (vr kv rfl)) (oS rfl (Yk.eqI (a:=((b.getD (0) 0).toNat:Nat)) (b:=(80:Nat)) rfl rfl (Br _ _ _ _) (oM rfl ?_))))))))))))))))))))))
    refine oY (d:=41) rfl rfl (vr (.bool (true)) (congrArg Value.bool (decide_eq_true (h80)))) (Yk.move (vr (NI 0) rfl) (oY (d:=41) rfl rfl (vr (.bool (true)) (congrArg Value.bool (decide_eq_true (h80)))) (Yk.eqI (a:=(0:Nat)) (b:=(0:Nat)) rfl rfl (Br _ _ _ _) (oS rfl (Yk.pickT (vr (.bool (true)) (congrArg Value.bool (decide_eq_true (h80)))) (vr (.bool (true)) (congrArg Value.bool (decide_eq_true (rfl)))) (oM rfl (oY (d:=45) rfl rfl (vr (.bool (true)) rfl) (Yk.move (vr (NI f) rfl) (oY (d:=45) rfl rfl (vr (.bool (true)) rfl) (Yk.move (vr (NI (1+k)) rfl) (oY (d:=45) rfl rfl (vr (.bool (true)) rfl) (Yk.eqI (a:=(f:Nat)) (b:=(1+k:Nat)) rfl rfl (GY _ _ _ _) (oS rfl (Yk.pickT (vr (.bool (true)) rfl) (vr (.bool (true)) (congrArg Value.bool (decide_eq_true (q1)))) (oM rfl (oY (d:=50) rfl rfl (vr (.bool (true)) rfl) (Yk.move (vr (NI f) rfl) (oY (d:=50) rfl rfl (vr (.bool (true)) rfl) (Yk.move (vr (NI ((b.length)-(36))) rfl) (oY (d:=50) rfl rfl (vr (.bool (true)) rfl) (Yk.eqI (a:=(f:Nat)) (b:=((b.length)-(36):Nat)) rfl rfl (C5 _ _ _ _) (oS rfl (Yk.pickT (vr (.bool (true)) rfl) (vr (.bool (true)) (congrArg Value.bool (decide_eq_true (q2)))) (oM rfl (oY (d:=55) rfl rfl (vr (.bool (true)) rfl) (Yk.move (vr (NI n) rfl) (oY (d:=55) rfl rfl (vr (.bool (true)) rfl) (Yk.move (vr (NI ((b.length)-(36))) rfl) ?_))))))))))))))))))))))))))))
    refine oY (d:=55) rfl rfl (vr (.bool (true)) rfl) (Yk.eqI (a:=(n:Nat)) (b:=((b.length)-(36):Nat)) rfl rfl (C5 _ _ _ _) (oS rfl (Yk.pickT (vr (.bool (true)) rfl) (vr (.bool (false)) (congrArg Value.bool (decide_eq_false (q3)))) (oP rfl (Yp.callA2 Fo (vr (.bool (false)) rfl) (vr (NI 6) rfl) ?_)))))
    refine AG (Bc _ (false) 6) ?_ ?_
    rotate_left
    ·
     rintro ch s8 ⟨rfl,hb,hx⟩
     refine Af (AK ?_)
     exact .inr ⟨_,rfl,6,hP,rfl,hE.trans hx⟩
    rintro v_ s9 ⟨rfl,kx,ta⟩
    cases kx
   have hP:CM b = .error 6:=hP0.trans (if_neg (fun h=>by have h1:=h.2;exact q2 h1.2.1))
   refine tN (cc _ _ (sk fun tb ky=>(wt (oM rfl (oS rfl (Yk.callA2 CL u (vr (NI 1) rfl) (((show Calls _ _ _ _ (fun e w2=>e = .returned (.tuple #[NI n,NI (1+k),NI 0])∧Ext _ w2)from(DZ _ v b (hr.keep hE) 1 (by omega)).mono fun e w2 ⟨h1,h2⟩=>by subst h2;subst h1;rw[hd];exact⟨rfl,Ext.refl _⟩)).mono ?_)))))))
   rintro e tc ⟨rfl,fr⟩
   refine⟨_,rfl,?_⟩
   have hE:=hE.trans fr
   have av:=av.keep fr
   refine oM rfl (oS rfl (Yk.extract (vs:= [NI n,NI (1+k),NI 0]) (vr (.tuple #[NI n,NI (1+k),NI 0]) rfl) (show _=some (NI n:Value)from rfl) (oS rfl (Yk.extract (vs:= [NI n,NI (1+k),NI 0]) (vr (.tuple #[NI n,NI (1+k),NI 0]) rfl) (show _=some (NI (1+k):Value)from rfl) (oS rfl (Yk.extract (vs:= [NI n,NI (1+k),NI 0]) (vr (.tuple #[NI n,NI (1+k),NI 0]) rfl) (show _=some (NI 0:Value)from rfl) (oA rfl (oA rfl (oA rfl (oZ (tN (ky _ _ (sk fun td te=>(wt (oM rfl (oS rfl (Yk.atRB (l:=b) (i:=0) DT Ls (RB.of (hr.keep hE) u) (vr (NI 0) rfl) (by omega) fun kz k0=>(oS rfl (Yk.loadC u5 rfl (PCell.of k0 (vr kz rfl)) (oS rfl (Yk.eqI (a:=((b.getD (0) 0).toNat:Nat)) (b:=(80:Nat)) rfl rfl (Br _ _ _ _) (oM rfl ?_))))))))))))))))))))))
   refine oY (d:=41) rfl rfl (vr (.bool (true)) (congrArg Value.bool (decide_eq_true (h80)))) (Yk.move (vr (NI 0) rfl) (oY (d:=41) rfl rfl (vr (.bool (true)) (congrArg Value.bool (decide_eq_true (h80)))) (Yk.eqI (a:=(0:Nat)) (b:=(0:Nat)) rfl rfl (Br _ _ _ _) (oS rfl (Yk.pickT (vr (.bool (true)) (congrArg Value.bool (decide_eq_true (h80)))) (vr (.bool (true)) (congrArg Value.bool (decide_eq_true (rfl)))) (oM rfl (oY (d:=45) rfl rfl (vr (.bool (true)) rfl) (Yk.move (vr (NI f) rfl) (oY (d:=45) rfl rfl (vr (.bool (true)) rfl) (Yk.move (vr (NI (1+k)) rfl) (oY (d:=45) rfl rfl (vr (.bool (true)) rfl) (Yk.eqI (a:=(f:Nat)) (b:=(1+k:Nat)) rfl rfl (GY _ _ _ _) (oS rfl (Yk.pickT (vr (.bool (true)) rfl) (vr (.bool (true)) (congrArg Value.bool (decide_eq_true (q1)))) (oM rfl (oY (d:=50) rfl rfl (vr (.bool (true)) rfl) (Yk.move (vr (NI f) rfl) (oY (d:=50) rfl rfl (vr (.bool (true)) rfl) (Yk.move (vr (NI ((b.length)-(36))) rfl) (oY (d:=50) rfl rfl (vr (.bool (true)) rfl) (Yk.eqI (a:=(f:Nat)) (b:=((b.length)-(36):Nat)) rfl rfl (C5 _ _ _ _) (oS rfl (Yk.pickT (vr (.bool (true)) rfl) (vr (.bool (false)) (congrArg Value.bool (decide_eq_false (q2)))) (oM rfl (oN (d:=55) rfl rfl rfl (vr (.bool (false)) rfl) rfl (oN (d:=55) rfl rfl rfl (vr (.bool (false)) rfl) rfl ?_))))))))))))))))))))))))))
   refine oN (d:=55) rfl rfl rfl (vr (.bool (false)) rfl) rfl (oS rfl (Yk.pickF (vr (.bool (false)) rfl) (vr (.bool (false)) rfl) (oP rfl (Yp.callA2 Fo (vr (.bool (false)) rfl) (vr (NI 6) rfl) ?_))))
   refine AG (Bc _ (false) 6) ?_ ?_
   rotate_left
   ·
    rintro ch tf ⟨rfl,hb,hx⟩
    refine Af (AK ?_)
    exact .inr ⟨_,rfl,6,hP,rfl,hE.trans hx⟩
   rintro v_ tg ⟨rfl,k1,th⟩
   cases k1
  have hP:CM b = .error 6:=hP0.trans (if_neg (fun h=>by have h1:=h.2;exact q1 h1.1))
  refine tN (cc _ _ (sk fun ti k2=>(wt (oM rfl (oS rfl (Yk.callA2 CL u (vr (NI 1) rfl) (((show Calls _ _ _ _ (fun e w2=>e = .returned (.tuple #[NI n,NI (1+k),NI 0])∧Ext _ w2)from(DZ _ v b (hr.keep hE) 1 (by omega)).mono fun e w2 ⟨h1,h2⟩=>by subst h2;subst h1;rw[hd];exact⟨rfl,Ext.refl _⟩)).mono ?_)))))))
  rintro e tj ⟨rfl,fs⟩
  refine⟨_,rfl,?_⟩
  have hE:=hE.trans fs
  have av:=av.keep fs
  refine oM rfl (oS rfl (Yk.extract (vs:= [NI n,NI (1+k),NI 0]) (vr (.tuple #[NI n,NI (1+k),NI 0]) rfl) (show _=some (NI n:Value)from rfl) (oS rfl (Yk.extract (vs:= [NI n,NI (1+k),NI 0]) (vr (.tuple #[NI n,NI (1+k),NI 0]) rfl) (show _=some (NI (1+k):Value)from rfl) (oS rfl (Yk.extract (vs:= [NI n,NI (1+k),NI 0]) (vr (.tuple #[NI n,NI (1+k),NI 0]) rfl) (show _=some (NI 0:Value)from rfl) (oA rfl (oA rfl (oA rfl (oZ (tN (k2 _ _ (sk fun tk tl=>(wt (oM rfl (oS rfl (Yk.atRB (l:=b) (i:=0) DT Ls (RB.of (hr.keep hE) u) (vr (NI 0) rfl) (by omega) fun k3 k4=>(oS rfl (Yk.loadC u5 rfl (PCell.of k4 (vr k3 rfl)) (oS rfl (Yk.eqI (a:=((b.getD (0) 0).toNat:Nat)) (b:=(80:Nat)) rfl rfl (Br _ _ _ _) (oM rfl ?_))))))))))))))))))))))
  refine oY (d:=41) rfl rfl (vr (.bool (true)) (congrArg Value.bool (decide_eq_true (h80)))) (Yk.move (vr (NI 0) rfl) (oY (d:=41) rfl rfl (vr (.bool (true)) (congrArg Value.bool (decide_eq_true (h80)))) (Yk.eqI (a:=(0:Nat)) (b:=(0:Nat)) rfl rfl (Br _ _ _ _) (oS rfl (Yk.pickT (vr (.bool (true)) (congrArg Value.bool (decide_eq_true (h80)))) (vr (.bool (true)) (congrArg Value.bool (decide_eq_true (rfl)))) (oM rfl (oY (d:=45) rfl rfl (vr (.bool (true)) rfl) (Yk.move (vr (NI f) rfl) (oY (d:=45) rfl rfl (vr (.bool (true)) rfl) (Yk.move (vr (NI (1+k)) rfl) (oY (d:=45) rfl rfl (vr (.bool (true)) rfl) (Yk.eqI (a:=(f:Nat)) (b:=(1+k:Nat)) rfl rfl (GY _ _ _ _) (oS rfl (Yk.pickT (vr (.bool (true)) rfl) (vr (.bool (false)) (congrArg Value.bool (decide_eq_false (q1)))) (oM rfl (oN (d:=50) rfl rfl rfl (vr (.bool (false)) rfl) rfl (oN (d:=50) rfl rfl rfl (vr (.bool (false)) rfl) rfl (oN (d:=50) rfl rfl rfl (vr (.bool (false)) rfl) rfl (oS rfl (Yk.pickF (vr (.bool (false)) rfl) (vr (.bool (false)) rfl) (oM rfl (oN (d:=55) rfl rfl rfl (vr (.bool (false)) rfl) rfl (oN (d:=55) rfl rfl rfl (vr (.bool (false)) rfl) rfl ?_)))))))))))))))))))))))
  refine oN (d:=55) rfl rfl rfl (vr (.bool (false)) rfl) rfl (oS rfl (Yk.pickF (vr (.bool (false)) rfl) (vr (.bool (false)) rfl) (oP rfl (Yp.callA2 Fo (vr (.bool (false)) rfl) (vr (NI 6) rfl) ?_))))
  refine AG (Bc _ (false) 6) ?_ ?_
  rotate_left
  ·
   rintro ch tm ⟨rfl,hb,hx⟩
   refine Af (AK ?_)
   exact .inr ⟨_,rfl,6,hP,rfl,hE.trans hx⟩
  rintro v_ tn ⟨rfl,k5,tp⟩
  cases k5
 have hP:CM b = .error 6:=hP0.trans (if_neg (fun h=>h80 (by rw[h.1];rfl)))
 refine tN (cc _ _ (sk fun tq k6=>(wt (oM rfl (oS rfl (Yk.callA2 CL u (vr (NI 1) rfl) (((show Calls _ _ _ _ (fun e w2=>e = .returned (.tuple #[NI n,NI (1+k),NI 0])∧Ext _ w2)from(DZ _ v b (hr.keep hE) 1 (by omega)).mono fun e w2 ⟨h1,h2⟩=>by subst h2;subst h1;rw[hd];exact⟨rfl,Ext.refl _⟩)).mono ?_)))))))
 rintro e tr ⟨rfl,ft⟩
 refine⟨_,rfl,?_⟩
 have hE:=hE.trans ft
 have av:=av.keep ft
 refine oM rfl (oS rfl (Yk.extract (vs:= [NI n,NI (1+k),NI 0]) (vr (.tuple #[NI n,NI (1+k),NI 0]) rfl) (show _=some (NI n:Value)from rfl) (oS rfl (Yk.extract (vs:= [NI n,NI (1+k),NI 0]) (vr (.tuple #[NI n,NI (1+k),NI 0]) rfl) (show _=some (NI (1+k):Value)from rfl) (oS rfl (Yk.extract (vs:= [NI n,NI (1+k),NI 0]) (vr (.tuple #[NI n,NI (1+k),NI 0]) rfl) (show _=some (NI 0:Value)from rfl) (oA rfl (oA rfl (oA rfl (oZ (tN (k6 _ _ (sk fun ts tt=>(wt (oM rfl (oS rfl (Yk.atRB (l:=b) (i:=0) DT Ls (RB.of (hr.keep hE) u) (vr (NI 0) rfl) (by omega) fun k7 k8=>(oS rfl (Yk.loadC u5 rfl (PCell.of k8 (vr k7 rfl)) (oS rfl (Yk.eqI (a:=((b.getD (0) 0).toNat:Nat)) (b:=(80:Nat)) rfl rfl (Br _ _ _ _) (oM rfl ?_))))))))))))))))))))))
 refine oN (d:=41) rfl rfl rfl (vr (.bool (false)) (congrArg Value.bool (decide_eq_false (h80)))) rfl (oN (d:=41) rfl rfl rfl (vr (.bool (false)) (congrArg Value.bool (decide_eq_false (h80)))) rfl (oS rfl (Yk.pickF (vr (.bool (false)) (congrArg Value.bool (decide_eq_false (h80)))) (vr (.bool (false)) rfl) (oM rfl (oN (d:=45) rfl rfl rfl (vr (.bool (false)) rfl) rfl (oN (d:=45) rfl rfl rfl (vr (.bool (false)) rfl) rfl (oN (d:=45) rfl rfl rfl (vr (.bool (false)) rfl) rfl (oS rfl (Yk.pickF (vr (.bool (false)) rfl) (vr (.bool (false)) rfl) (oM rfl (oN (d:=50) rfl rfl rfl (vr (.bool (false)) rfl) rfl (oN (d:=50) rfl rfl rfl (vr (.bool (false)) rfl) rfl (oN (d:=50) rfl rfl rfl (vr (.bool (false)) rfl) rfl (oS rfl (Yk.pickF (vr (.bool (false)) rfl) (vr (.bool (false)) rfl) (oM rfl (oN (d:=55) rfl rfl rfl (vr (.bool (false)) rfl) rfl (oN (d:=55) rfl rfl rfl (vr (.bool (false)) rfl) rfl ?_))))))))))))))))))
 refine oN (d:=55) rfl rfl rfl (vr (.bool (false)) rfl) rfl (oS rfl (Yk.pickF (vr (.bool (false)) rfl) (vr (.bool (false)) rfl) (oP rfl (Yp.callA2 Fo (vr (.bool (false)) rfl) (vr (NI 6) rfl) ?_))))
 refine AG (Bc _ (false) 6) ?_ ?_
 rotate_left
 ·
  rintro ch tu ⟨rfl,hb,hx⟩
  refine Af (AK ?_)
  exact .inr ⟨_,rfl,6,hP,rfl,hE.trans hx⟩
 rintro v_ tv ⟨rfl,k9,tw⟩
 cases k9
open Go.RowKit
structure FitsD (n : Nat) (D : List Deferred) (ρ : Aq) (a : Act) : Prop where
  size:a.tmps.size=n
  defers:a.defers=D
  get:∀t,a.tmps.getD t undef=ρ t
theorem FitsD.fits{n:Nat}{D:List Deferred}{ρ:Aq}{a:Act}(h:FitsD n D ρ a):Fits n ρ { a with defers:= [] } :=⟨h.size,rfl,h.get⟩
theorem FitsD.ofFits{n:Nat}{ρ:Aq}{a:Act}(h:Fits n ρ a):FitsD n [] ρ a:=⟨h.size,h.defers,h.get⟩
theorem FitsD.toFits{n:Nat}{ρ:Aq}{a:Act}(h:FitsD n [] ρ a):Fits n ρ a:=⟨h.size,h.defers,h.get⟩
theorem FitsD.eval{n:Nat}{D:List Deferred}{ρ:Aq}{a:Act}(h:FitsD n D ρ a):a.eval=Ad ρ:=by
  funext x
  cases x with
  | tmp t=>exact h.get t
  | _=>rfl
theorem FitsD.put{n:Nat}{D:List Deferred}{ρ:Aq}{a:Act}(h:FitsD n D ρ a)(d:Option Tmp)(hd:∀t,d=some t→t<n)(v:Value):FitsD n D (Cb ρ d v) (a.put d v):=by
  have hf:=h.fits.put d hd v
  cases d with
  | none=>exact h
  | some d=>exact⟨hf.size,h.defers,hf.get⟩
def J3(P:Program)(n:Nat)(D:List Deferred)(c:Code)(QQ:Exit→Act→World→Prop)(ρ:Aq)(w:World):Prop:=∀a,FitsD n D ρ a→c.wp P QQ a w
def GN(P:Program)(ops:Array Oper)(n:Nat)(D:List Deferred)(QQ:Exit→Act→World→Prop)(l:List Oper)(ρ:Aq)(w:World):Prop:=∀a,FitsD n D ρ a→wpList P ops QQ l a w
section
variable {P : Program} {n : Nat} {D : List Deferred} {QQ : Exit → Act → World → Prop} {ρ : Aq} {w : World}
theorem Cs{x y:Code}(QR:B9)(hq:∀e ρ a w,e ≠ .normal→Fits n ρ a→QR e ρ w→QQ e a w)(h:∀K:Aq→World→Prop,(∀ρ w,J3 P n [] y QQ ρ w→K ρ w)→B2 P n x (Fe K QR) ρ w):J3 P n [] (.seq x y) QQ ρ w:=fun a ha=>
  wp_seq (wp_mono (h (fun ρ w=>J3 P n [] y QQ ρ w) (fun _ _ h=>h) a ha.toFits) fun e a' w' ⟨ρ',hf,hQ⟩=>by
    cases e with
    | normal=>exact hQ a' (FitsD.ofFits hf)
    | exit _=>exact hq _ ρ' a' w' (by simp) hf hQ
    | goto _=>exact hq _ ρ' a' w' (by simp) hf hQ
    | ret=>exact hq _ ρ' a' w' (by simp) hf hQ
    | panic _=>exact hq _ ρ' a' w' (by simp) hf hQ
    | outgrown=>exact hq _ ρ' a' w' (by simp) hf hQ)
theorem GO{id:Nat}{l:List Oper}{y:Code}(h:GN P l.toArray n D (Exit.then (y.wp P QQ) QQ) l ρ w):J3 P n D (.seq (.region id l.toArray false) y) QQ ρ w:=fun a ha=>wp_seq (wp_region_lit (h a ha))
theorem OO(h:∀a,FitsD n D ρ a→QQ .ret a w):J3 P n D .ret QQ ρ w:=fun a ha=>wp_ret (h a ha)
theorem J4{ops:Array Oper}{y:Code}(I:Aq→Prop)(hI:I ρ)(h:∀ρ',I ρ' →J3 P n D y QQ ρ' w):GN P ops n D (Exit.then (y.wp P QQ) QQ) [] ρ w:=fun a ha=>h ρ hI a ha
theorem H9{ops:Array Oper}{rest:List Oper}{dst:Option Tmp}{op:Op}{ty:TypeId}{pos:String}{af:Array Edge}(hd:(match dst with | some d=>Nat.blt d n | none=>true)=true) 
    (h:Yp P (fun v w' =>GN P ops n D QQ rest (Cb ρ dst v) w') (fun ch w' =>∀a,FitsD n D ρ a→QQ (.panic ch) a w') ((execOp (Ad ρ) ⟨dst,op,ty,pos,af,none⟩).run P w)):GN P ops n D QQ (⟨dst,op,ty,pos,af,none⟩ :: rest) ρ w:=by
  intro a ha
  have hdn:∀t,dst=some t→t<n:=fun t ht=>by subst ht;exact Nat.le_of_ble_eq_true hd
  refine wpList_plain rfl fun K hK=> ?_
  unfold Oper.wp Oper.upon
  rw[ha.eval]
  have hput:=fun v=>ha.put dst hdn v
  revert h
  generalize (execOp (Ad ρ) ⟨dst,op,ty,pos,af,none⟩).run P w=r
  intro h
  match r,h with
  | .ok (.value v) w',h=>exact hK _ _ (h _ (hput v))
  | .ok .skip w',h=>exact hK _ _ (h _ (hput undef))
  | .halt (.panic v) w',h=>exact h a ha
  | .ok (.enter f args) w',h=>
    refine Calls.mono h ?_
    intro e w'' hx
    match e,hx with
    | .returned v,hx=>exact hK _ _ (hx _ (hput v))
    | .panicked ch,hx=>exact hx a ha
theorem Fs{ops:Array Oper}{rest:List Oper}{dst:Option Tmp}{op:Op}{ty:TypeId}{pos:String}{af:Array Edge}(hd:(match dst with | some d=>Nat.blt d n | none=>true)=true) 
    (h:Yk P (fun v w' =>GN P ops n D QQ rest (Cb ρ dst v) w') ((execOp (Ad ρ) ⟨dst,op,ty,pos,af,none⟩).run P w)):GN P ops n D QQ (⟨dst,op,ty,pos,af,none⟩ :: rest) ρ w:=
  H9 hd (Yp.ofK h)
theorem LR{ops:Array Oper}{rest:List Oper}{x:Operand}{ty:TypeId}{pos:String}{af:Array Edge}{fv:Fn}{first cap:Array Value}(hx:Ad ρ x = .func fv first cap) 
    (hr:(execOp (Ad ρ) ⟨none, .defer ⟨.value x,#[],#[]⟩,ty,pos,af,none⟩).run P w = .ok (.defer ⟨.fn fv cap,first⟩) w)
    (h:GN P ops n (⟨.fn fv cap,first⟩ :: D) QQ rest ρ w):GN P ops n D QQ (⟨none, .defer ⟨.value x,#[],#[]⟩,ty,pos,af,none⟩ :: rest) ρ w:=by
  intro a ha
  refine wpList_plain rfl fun K hK=> ?_
  unfold Oper.wp Oper.upon
  rw[ha.eval,hr]
  refine hK _ _ (h _ ⟨ha.size,?_,ha.get⟩)
  show _ :: a.defers=_
  rw[ha.defers]
theorem B1{fn:Func}{R:Ending→World→Prop}:∀e ρ a w,e ≠ .normal→Fits n ρ a→GZ P fn R e ρ w→bodyPostD P fn R e a w:=fun e ρ a w he ha h=>by
  cases e with
  | normal=>exact absurd rfl he
  | ret=>
    show Leaves P fn a.tmps R a.defers .returning w
    rw[ha.defers]
    exact h a.tmps ha.get
  | panic ch=>
    show Leaves P fn a.tmps R a.defers (.panicking ch) w
    rw[ha.defers]
    exact h
  | exit _=>exact h.elim
  | goto _=>exact h.elim
  | outgrown=>exact h.elim
theorem J5{f:FuncId}{fn:Func}{c:Code}{args:List Value}{R:Ending→World→Prop}(hf:P.funcs[f]? =some fn)(hb:fn.body=some c)(m:Nat)(hm:fn.ntmps=m)(hn:args.length≤m) 
    (h:∀ρ,Jj args ρ→J3 P m [] c (bodyPostD P fn R) ρ w):Calls P f args.toArray w R:=by
  subst hm
  refine calls_of_wp_defers hf hb ?_
  have hget:∀t,(args.toArray++Array.replicate (fn.ntmps-args.toArray.size) undef).getD t undef=args.getD t undef:=fun t=>by
    simp only[Array.getD_eq_getD_getElem?,List.getD_eq_getElem?_getD,Array.getElem?_append,List.size_toArray,List.getElem?_toArray]
    by_cases ht:t<args.length
    · rw[if_pos ht]
    · rw[if_neg ht,List.getElem?_eq_none (by omega),Array.getElem?_replicate]
      split <;> rfl
  refine h (fun t=>args.getD t undef) ⟨fun _=>rfl⟩ _ ⟨?_,rfl,hget⟩
  simp
  omega
end
open Go.RowKit
section
variable {P : Program} {n : Nat}
theorem M5{c:Code}{QF:B9}{Q:Exit→Act→World→Prop}{ρ:Aq}{a:Act}{w:World}(h:B2 P n c QF ρ w)(ha:Fits n ρ a)(hq:∀e ρ' a' w',Fits n ρ' a' →QF e ρ' w' →Q e a' w'):c.wp P Q a w:=
  wp_mono (h a ha) fun e a' w' ⟨ρ',hf,hQ⟩=>hq e ρ' a' w' hf hQ
def B6:FrameMode→Value × FrameMode
  | .panicking ({ v,recovered:=false,goexit:=false } :: older)=>(v, .panicking ({ v,recovered:=true } :: older))
  | u=>(.nilIface,u)
theorem KH(c₀:Frame)(cs:List Frame)(u:FrameMode)(hu:c₀.mode=u)(K:Value→List Frame→Prop)(h:K (B6 u).1 ({ c₀ with mode:=(B6 u).2 } :: cs)):
    match recoverD (c₀ :: cs)with
    | some (v,cs')=>K v cs'
    | none=>K .nilIface (c₀ :: cs):=by
  subst hu
  obtain⟨cf,ct,ctodo,cd,cm,ck,cr⟩:=c₀
  match cm,h with
  | .run,h=>exact h
  | .returning,h=>exact h
  | .panicking [],h=>exact h
  | .panicking ({ v,recovered:=true,goexit:=g } :: older),h=>exact h
  | .panicking ({ v,recovered:=false,goexit:=true } :: older),h=>exact h
  | .panicking ({ v,recovered:=false,goexit:=false } :: older),h=>exact h
theorem FP{f:FuncId}{fn:Func}{c:Code}{args:List Value}{u:FrameMode}{w:World}{R:Ending→World→Prop}{id:Nat}{d0 d1:Tmp}{ty0 ty1:TypeId}{p0 p1:String}{af0 af1:Array Edge} 
    (hf:P.funcs[f]? =some fn) (hb:fn.body=some (.seq (.region id #[⟨some d0, .call ⟨.builtin .recover,#[],#[]⟩,ty0,p0,af0,none⟩,⟨some d1, .assign (.tmp d0),ty1,p1,af1,none⟩] false) c)) (m:Nat) (hm:fn.ntmps=m) (hn:args.length≤m) (h0:Nat.blt d0 m=true) (h1:Nat.blt d1 m=true)
    (h:∀b,Jj args b→B2 P m c (GZ P fn R) (Cb (Cb b (some d0) (B6 u).1) (some d1) (B6 u).1) w):
    CallsD P f args.toArray u w fun e u' w' =>u' =(B6 u).2∧R e w' :=by
  subst hm
  refine callsD_of_wpS hf hb fun c₀ cs hu=> ?_
  have hget:∀t,(args.toArray++Array.replicate (fn.ntmps-args.toArray.size) undef).getD t undef=args.getD t undef:=fun t=>by
    simp only[Array.getD_eq_getD_getElem?,List.getD_eq_getElem?_getD,Array.getElem?_append,List.size_toArray,List.getElem?_toArray]
    by_cases ht:t<args.length
    · rw[if_pos ht]
    · rw[if_neg ht,List.getElem?_eq_none (by omega),Array.getElem?_replicate]
      split <;> rfl
  have hF:Fits fn.ntmps (fun t=>args.getD t undef) { tmps:=args.toArray++Array.replicate (fn.ntmps-args.toArray.size) undef,defers:= [] } :=⟨by simp;omega,rfl,hget⟩
  generalize ({ tmps:=args.toArray++Array.replicate (fn.ntmps-args.toArray.size) undef,defers:= [] } :Act)=a at hF ⊢
  have hd0:∀t,some d0=some t→t<fn.ntmps:=fun t ht=>by cases ht;exact Nat.le_of_ble_eq_true h0
  have hd1:∀t,some d1=some t→t<fn.ntmps:=fun t ht=>by cases ht;exact Nat.le_of_ble_eq_true h1
  have hF1:=hF.put (some d0) hd0 (B6 u).1
  have hF2:=hF1.put (some d1) hd1 (B6 u).1
  apply wpS_seq
  apply wpS_region
  have g:(execOp a.eval (⟨some d0, .call ⟨.builtin .recover,#[],#[]⟩,ty0,p0,af0,none⟩:Oper)).run P w = .ok .recover w:=by
    simp[go_sem]
  have hkey:∀(v:Value) (cs' :List Frame),v=(B6 u).1→cs' = { c₀ with mode:=(B6 u).2 } :: cs→wpOpsS P #[⟨some d0, .call ⟨.builtin .recover,#[],#[]⟩,ty0,p0,af0,none⟩,⟨some d1, .assign (.tmp d0),ty1,p1,af1,none⟩] (Exit.thenS (c.wpS P (bodyPostS P fn c₀ cs fun e u' w' =>u' =(B6 u).2∧R e w')) (bodyPostS P fn c₀ cs fun e u' w' =>u' =(B6 u).2∧R e w')) [1] (a.put (some d0) v) cs' w:=by
    rintro v cs' rfl rfl
    have hv:(a.put (some d0) (B6 u).1).eval (.tmp d0)=(B6 u).1:=by
      rw[hF1.eval]
      show(bif Nat.beq d0 d0 then _ else _)=_
      rw[Nat.beq_refl]
      rfl
    have i:(execOp (a.put (some d0) (B6 u).1).eval (⟨some d1, .assign (.tmp d0),ty1,p1,af1,none⟩:Oper)).run P w = .ok (.value (B6 u).1) w:=by
      simp[execOp,hv]
    simp only[wpOpsS,List.getElem?_toArray,List.getElem?_cons_succ,List.getElem?_cons_zero,Region.wanted,i,Oper.upon,if_true]
    refine wpS_of_wp (M5 (h _ ⟨fun _=>rfl⟩) hF2 fun e ρ' a' w' hf' hQ=> ?_)
    cases e with
    | normal=>obtain⟨v,hv,hR⟩:=hQ a'.tmps hf'.get;exact⟨hf'.defers,_,rfl,v,hv,rfl,hR⟩
    | ret=>obtain⟨v,hv,hR⟩:=hQ a'.tmps hf'.get;exact⟨hf'.defers,_,rfl,v,hv,rfl,hR⟩
    | panic ch=>exact⟨hf'.defers,_,rfl,rfl,hQ⟩
    | exit _=>exact hQ.elim
    | goto _=>exact hQ.elim
    | outgrown=>exact hQ.elim
  show wpOpsS P _ _ [0,1] a (c₀ :: cs) w
  unfold wpOpsS
  simp only[List.getElem?_toArray,List.getElem?_cons_zero,Region.wanted,if_true,g]
  exact KH c₀ cs u hu (fun v cs' =>wpOpsS P _ _ [1] (a.put (some d0) v) cs' w) (hkey _ _ rfl rfl)
end
open Go.RowKit
section
variable {P : Program} {K : Value → World → Prop} {ρ : Aq} {w : World} {d : Option Tmp} {ty : TypeId} {pos : String} {af : Array Edge} {gd : Option (Nat × Bool)} {t ty2 : TypeId}
theorem Yk.assertOk{x:Operand}{u:TypeId}{v:Value}{fs}(hu:P.underlying u=some (.struct fs))(hx:Ad ρ x = .iface u v)(hk:K (.tuple #[v, .bool true]) w):Yk P K ((execOp (Ad ρ) ⟨d, .typeAssert x t u true,ty,pos,af,gd⟩).run P w):=by
  refine Yk.value (v:= .tuple #[v, .bool true]) (w' :=w) ?_ hk
  unfold execOp
  simp[Instr.typeAssert,hx,run_underlying hu,Result.andThen]
theorem Yk.neqNilN{x:Operand}(he:(Op.equal t .nilIface .nilIface).run P w = .ok true w)(hx:Ad ρ x = .nilIface)(hk:K (.bool false) w):Yk P K ((execOp (Ad ρ) ⟨d, .binOp .neq t x (.const .nilIface) ty2,ty,pos,af,gd⟩).run P w):=by
  have hy:Ad ρ (.const .nilIface) = .nilIface:=rfl
  refine Yk.value (v:= .bool false) (w' :=w) ?_ hk
  unfold execOp
  simp only[hx,hy]
  simp[eqGuard,Go.binOp,he,Result.andThen]
theorem Yk.neqNilS{x:Operand}{u:TypeId}{v:Value}(he:(Op.equal t (.iface u v) .nilIface).run P w = .ok false w)(hx:Ad ρ x = .iface u v)(hk:K (.bool true) w):Yk P K ((execOp (Ad ρ) ⟨d, .binOp .neq t x (.const .nilIface) ty2,ty,pos,af,gd⟩).run P w):=by
  have hy:Ad ρ (.const .nilIface) = .nilIface:=rfl
  refine Yk.value (v:= .bool true) (w' :=w) ?_ hk
  unfold execOp
  simp only[hx,hy]
  simp[eqGuard,Go.binOp,he,Result.andThen]
theorem OP{x:Operand}{fv:Fn}{first cap:Array Value}(hx:Ad ρ x = .func fv first cap):(execOp (Ad ρ) ⟨none, .defer ⟨.value x,#[],#[]⟩,ty,pos,af,none⟩).run P w = .ok (.defer ⟨.fn fv cap,first⟩) w:=by
  unfold execOp
  simp[resolve,hx,Deferred.ofValue]
theorem ResF.cell1{p:Tmp}{ty:TypeId}{g:Nat}{t:TypeId}{v:Value}{fr:Nat × Nat}{d:TypeDesc}(hp:ρ p = .pointer (some ⟨g,0,none⟩))(hg:w.heap[g]? =some (.cells ([v]).toArray t fr)) 
    (hu:P.underlying ty=some d) (hd:(match d with | .struct _ | .array _ _=>false | _=>true)=true):ResF P ρ w (.cell p ty) v:=by
  refine⟨_,hp,?_⟩
  have hc:w.cell? ⟨g,0,none⟩=some v:=Ai hg rfl
  have hagg:(isAgg ty).run P w = .ok false w:=by
    unfold isAgg
    cases d <;> first | (simp at hd;done) | simp[run_underlying hu,Result.andThen]
  simp[loadVar,hagg,hc]
theorem Ia{fn:Func}{tmps:Array Value}{R:Ending→World→Prop}(rs:List ResultVar)(hrs:fn.results=rs.toArray)(vs:List Value)(v:Value)(hv:EY vs=v)(ht:∀t,tmps.getD t undef=ρ t)(h:EB P ρ w rs vs)(hR:R (.returned v) w):Leaves P fn tmps R [] .returning w:=
  ⟨_,Ei hrs ht h,by rw[hv];exact hR⟩
end
open Go.RowKit
section
variable {P : Program} {n : Nat} {ρ : Aq} {w : World} {Q : B9}
theorem J6{l r:List Oper}(kS k0:Nat)(S:World→World→Prop)(Φs:List Bn){id:Nat}(hm:P.follows .mixedOrders=true)(ds:List Tmp)(hg:B7 l n=true)(hn:G2 l k0=true)(c:Nat.ble Φs.length k0=true)(hds:slotsW l=ds)(hr:(l.drop k0)=r)(hlt:Nat.blt k0 l.length=true) 
    (f:Nat.blt kS k0=true) (hgS:(l[kS]?.bind (·.guard))=none) (hst:AllStab (fun a b=>a=b∨S w.drew b) Φs)
    (hs:StepsFC P l k0 (fun m w1=>bif Nat.beq m kS then w1=w.drew else(w1=w.drew∨S w.drew w1)) (fun m a b=>bif Nat.beq m kS then S w.drew b else a=b) (AQ Φs) ρ 0 l)
    (hQ:∀(ρ' :Aq) w1,S w.drew w1→EndF ds ρ ρ' →Bb l (fun _=> []) (AQ Φs) ρ' w1 ds→Dm P l.toArray n Q r ρ' w1):B2 P n (.region id l.toArray true) Q ρ w:=by
  have bf:∀ {a b:Nat},a≠b→Nat.beq a b=false:=fun h=>by rw[←Bool.not_eq_true,Nat.beq_eq];exact h
  refine EG k0 (fun _=> []) _ _ (fun listed w1=>On listed kS→S w.drew w1) Φs hm ds hg hn c (by unfold BW;simp) hds hr (fun i m _ _ hne' hbit a b hc hr=> ?_) (fun i j _ _ _ _ _ v a b h hr=> ?_) (fun i listed a b _ hsz hno hcl he hr=> ?_) (fun h=> ?_) (fun i o a ho hgo=> ?_) (fun m _=> ?_) hs hlt (fun ρ' w1 listed hon he hc h2 h3=> ?_)
  · by_cases hmS:m=kS
    · subst hmS
      rw[Nat.beq_refl]at hc ⊢
      rw[bf hne']at hr
      simp only[cond_true,cond_false]at hc hr ⊢
      rw[←hr];exact hc
    · rw[bf hmS]at hc ⊢
      simp only[cond_false]at hc ⊢
      by_cases hiS:i=kS
      · subst hiS
        rw[Nat.beq_refl]at hr
        exact .inr hr
      · rw[bf hiS]at hr
        simp only[cond_false]at hr
        rw[←hr];exact hc
  · refine hst.get Φs j v a b h ?_
    by_cases hiS:i=kS
    · subst hiS
      rw[Nat.beq_refl]at hr
      exact .inr hr
    · rw[bf hiS]at hr
      exact .inl hr
  · intro hon
    by_cases hiS:i=kS
    · subst hiS
      rw[Nat.beq_refl]at hr
      exact hr
    · have hon' :On listed kS:=by
        rcases(on_set (by omega)).1 hon with h1 | h1
        · exact absurd h1.symm hiS
        · exact h1
      rw[bf hiS]at hr
      simp only[cond_false]at hr
      rw[←hr];exact he hon'
  · exact absurd h On.not_replicate
  · have hiS:i≠kS:=fun e=>by rw[e]at ho;rw[ho]at hgS;simp only[Option.bind_some]at hgS;rw[hgS]at hgo;cases hgo
    rw[bf hiS]
    rfl
  · by_cases hmS:m=kS
    · subst hmS;rw[Nat.beq_refl];rfl
    · rw[bf hmS];exact .inl rfl
  · exact hQ ρ' w1 (he ((hon kS).2 (Nat.le_of_ble_eq_true f))) h2 h3
end
open Go.RowKit
set_option maxRecDepth 100000
theorem OQ(w:World):(Op.equal 20 .nilIface .nilIface).run Tryd.prog w = .ok true w:=by kernel_rfl
theorem OR(u:TypeId)(v:Value)(w:World):(Op.equal 20 (.iface u v) .nilIface).run Tryd.prog w = .ok false w:=by kernel_rfl
theorem LS:(Tryd.prog.info? 69).map (·.size)=some 1:=by kernel_rfl
theorem M6{d:Option Tmp}{ty:TypeId}{pos:String}{af:Array Edge}{gd:Option (Nat × Bool)}(σ:Operand→Value)(w:World):(execOp σ ⟨d, .alloc 69,ty,pos,af,gd⟩).run Tryd.prog w = .ok (.value (PQ w.heap.size 0)) (w.alloc (.cells ([NI 0]).toArray 69)):=by kernel_rfl
theorem KI:BK Tryd.prog 69 0 0:=fun b o w=>by simp[go_sem]
theorem M7:Tryd.prog.underlying 25=some (.int .i64):=by kernel_rfl
theorem LT:(Tryd.prog.info? 33).map (·.size)=some 1:=by kernel_rfl
theorem LU:(Tryd.prog.info? 25).map (·.size)=some 1:=by kernel_rfl
theorem LV(b2 b3:Nat)(w:World):CallsD Tryd.prog 36 #[PQ b2 0,PQ b3 0] (.returning) w fun e u' w' =>u' =(B6 (.returning)).2∧(e = .returned (.tuple #[])∧Ext w w'):=by
 have hE:=Ext.refl w
 refine FP (u:= .returning) (args:= [PQ b2 0,PQ b3 0]) Tryd.func36 rfl 18 rfl (Nat.le_of_ble_eq_true rfl) rfl rfl (R:=fun e w' =>e = .returned (.tuple #[])∧Ext w w') ?_
 intro ρz hb
 have b:(Cb (Cb ρz (some 5) (B6 (.returning)).1) (some 2) (B6 (.returning)).1) 0=(PQ b2 0:Value):=hb.get 0
 have c:(Cb (Cb ρz (some 5) (B6 (.returning)).1) (some 2) (B6 (.returning)).1) 1=(PQ b3 0:Value):=hb.get 1
 have a:(Cb (Cb ρz (some 5) (B6 (.returning)).1) (some 2) (B6 (.returning)).1) 2=(.nilIface:Value):=rfl
 generalize Cb (Cb ρz (some 5) (B6 (.returning)).1) (some 2) (B6 (.returning)).1=g at b c a ⊢
 clear hb
 refine sk fun h f=>(wt (oM rfl (oS rfl (Yk.neqNilN (OQ _) a (oZ (tN (f _ _ (Ar (vr (.bool (false)) rfl) (Ah (Gr (fn:=Tryd.f36) [] rfl [] (.tuple #[]) rfl trivial ?_))))))))))
 exact⟨rfl,hE⟩

theorem LW(w0:World)(b2 b3 c:Nat)(v2 v3:Value)(w:World)(h0:Ext w0 w)(l2:w0.heap.size≤b2)(l3:w0.heap.size≤b3)(hne:b2≠b3)(h2:w.heap[b2]? =some (.cells ([v2]).toArray 33 (0,0)))(h3:w.heap[b3]? =some (.cells ([v3]).toArray 25 (0,0))):CallsD Tryd.prog 36 #[PQ b2 0,PQ b3 0] (.panicking [CF c]) w fun e u' w' =>u' =(B6 (.panicking [CF c])).2∧(e = .returned (.tuple #[])∧w'.heap[b2]? =some (.cells ([.pointer none]).toArray 33 (0,0))∧w'.heap[b3]? =some (.cells ([NI c]).toArray 25 (0,0))∧Ext w0 w'):=by
 have hl2_:=(bl h2)
 have hl3_:=(bl h3)
 refine FP (u:= .panicking [CF c]) (args:= [PQ b2 0,PQ b3 0]) Tryd.func36 rfl 18 rfl (Nat.le_of_ble_eq_true rfl) rfl rfl (R:=fun e w' =>e = .returned (.tuple #[])∧w'.heap[b2]? =some (.cells ([.pointer none]).toArray 33 (0,0))∧w'.heap[b3]? =some (.cells ([NI c]).toArray 25 (0,0))∧Ext w0 w') ?_
 intro ρz hb
 have m:(Cb (Cb ρz (some 5) (B6 (.panicking [CF c])).1) (some 2) (B6 (.panicking [CF c])).1) 0=(PQ b2 0:Value):=hb.get 0
 have n:(Cb (Cb ρz (some 5) (B6 (.panicking [CF c])).1) (some 2) (B6 (.panicking [CF c])).1) 1=(PQ b3 0:Value):=hb.get 1
 have g:(Cb (Cb ρz (some 5) (B6 (.panicking [CF c])).1) (some 2) (B6 (.panicking [CF c])).1) 2=((.iface 69 (.agg ([NI c]).toArray)):Value):=rfl
 generalize Cb (Cb ρz (some 5) (B6 (.panicking [CF c])).1) (some 2) (B6 (.panicking [CF c])).1=ap at m n g ⊢
 clear hb
 refine sk fun K1 ac=>(wt (oM rfl (oS rfl (Yk.neqNilS (OR _ _ _) g (oZ (tN (ac _ _ (AE (vr (.bool (true)) rfl) (sk fun K2 ad=>(wt (oM rfl (oS rfl (Yk.assertOk (NF).choose_spec g (oM rfl (oS rfl (Yk.extract (vs:= [.agg ([NI c]:List Value).toArray, .bool (true)]) (vr (.tuple #[.agg ([NI c]:List Value).toArray, .bool (true)]) rfl) (show _=some (.agg ([NI c]:List Value).toArray:Value)from rfl) (oS rfl (Yk.extract (vs:= [.agg ([NI c]:List Value).toArray, .bool (true)]) (vr (.tuple #[.agg ([NI c]:List Value).toArray, .bool (true)]) rfl) (show _=some (.bool (true):Value)from rfl) (oS rfl (Yk.alloc (cs:=([NI 0]).toArray) M6 fun j w4 s t o au=> ?_))))))))))))))))))))
 have f:=Ext.refl w
 have av:=h0
 have af:=h0.size
 have aw:=AT (bl h2) s
 have ax:=AT (bl h3) s
 have h0:=h0.trans o
 have h2:=eb o h2
 have h3:=eb o h3
 have f:=f.trans o
 have b:=t;clear t
 have ay:j<w4.heap.size:=by omega
 refine oS rfl (Yk.storeAll (vr (PQ j 0) rfl) (vr (.agg ([NI c]:List Value).toArray) rfl) b (rfl) ((show(Tryd.prog.info? 69).map (·.size)=some 1 from LS)) ((by intro u hu;simp only[List.mem_cons,List.not_mem_nil,or_false]at hu;subst hu;rfl)) fun a x p az=> ?_)
 have h0:=Ac h0 p (Nat.le_trans af (by omega))
 have h2:=kb p h2 (by omega)
 have h3:=kb p h3 (by omega)
 have f:=Ac f p (Nat.le_trans (Nat.le_refl _) (by omega))
 clear b
 have b:=x;clear x
 have a0:=bl b
 refine oA rfl (oZ (tN (ad _ _ (sk fun a1 ag=>(sk fun a2 ah=>(wt (oM rfl (oS rfl (Yk.notB (vr (.bool (true)) rfl) (oZ (tN (ah _ _ (Ar (vr (.bool (false)) rfl) (Ah (tN (ag _ _ ?_))))))))))))))))
 refine J6 2 3 (fun(a_ b_:World)=>b_.heap[b2]? =some (.cells ([.pointer none]).toArray 33 (0,0))∧a_.grownBy b_ (some b2)∧b_.heap.size=a_.heap.size) [Is (PQ j 0),Is (NI c),(fun _ _=>True)] (by kernel_rfl) [16,17] (by kernel_rfl) (by kernel_rfl) (by kernel_rfl) (by kernel_rfl) rfl rfl rfl rfl (Ef ⟨Stab.any,trivial⟩) ?ai ?hQ1005
 case ai=>
  refine⟨?_,?_,?_,?_,trivial⟩
  ·refine An (Aa rfl fun σ w1 hC h=> ?_)
   have hq:w1=World.drew a∨(fun(a_ b_:World)=>b_.heap[b2]? =some (.cells ([.pointer none]).toArray 33 (0,0))∧a_.grownBy b_ (some b2)∧b_.heap.size=a_.heap.size) (World.drew a) w1:=hC
   have hC:BX a.heap.size (some b2) a w1:=by rcases hq with hq | hq;(rw[hq];exact BX.ofExt ((Below.refl _ _).drew) (Nat.le_refl _));exact(BX.ofExt ((Below.refl _ _).drew) (Nat.le_refl _)).trans (BX.ofGrown hq.2.1 (Nat.le_refl _) (fun k hk=> .inl hk))
   have e3:σ 3=PQ j 0:=(Ab (h 3 (by decide))).trans rfl
   exact Yk.fieldAt KI e3 ⟨rfl,rfl⟩
  ·refine An (Aa rfl fun σ w1 hC h=> ?_)
   have hq:w1=World.drew a∨(fun(a_ b_:World)=>b_.heap[b2]? =some (.cells ([.pointer none]).toArray 33 (0,0))∧a_.grownBy b_ (some b2)∧b_.heap.size=a_.heap.size) (World.drew a) w1:=hC
   have hC:BX a.heap.size (some b2) a w1:=by rcases hq with hq | hq;(rw[hq];exact BX.ofExt ((Below.refl _ _).drew) (Nat.le_refl _));exact(BX.ofExt ((Below.refl _ _).drew) (Nat.le_refl _)).trans (BX.ofGrown hq.2.1 (Nat.le_refl _) (fun k hk=> .inl hk))
   have ak:=Ab (h 16 (by decide))
   exact Yk.cell1 M7 rfl ak (Ai (BX.blk hC b (AL (by omega))) (show _=some (NI c:Value)from rfl)) ⟨rfl,rfl⟩
  ·refine An (Aa rfl fun σ w1 hC h=> ?_)
   have hq:w1=World.drew a:=hC
   subst hq
   have hC:BX a.heap.size (some b2) a (World.drew a):=BX.ofExt ((Below.refl _ _).drew) (Nat.le_refl _)
   have e0:=(Ab (h 0 (by decide))).trans m
   exact Yk.storeC (i:=0) (v:= .pointer none) e0 (vr (.pointer none) rfl) (eb ((Below.refl _ _).drew) h2) (Nat.le_of_ble_eq_true rfl) LT rfl rfl fun w2 h1 h2 h3=>⟨⟨h1,h2,h3⟩,trivial⟩
  ·exact trivial
 intro am a4 an he hf
 obtain⟨-,k17,-⟩:=hf
 obtain⟨m,n,g,T3,T4,T7,a8,-⟩:=he.hold [(0,_),(1,_),(2,_),(3,PQ j 0),(4, .bool (true)),(7, .bool (true)),(14, .bool (false))] ⟨m,n,g,rfl,rfl,rfl,rfl,trivial⟩ rfl
 clear he
 have l:Ext a (World.drew a):=(Below.refl _ _).drew
 obtain⟨y,q,a9⟩:=an
 have h0:=h0.trans l
 have h2:=eb l h2
 have h3:=eb l h3
 have f:=f.trans l
 have b:=eb l b
 have h0:=Ac h0 q (Nat.le_trans (Nat.le_refl _) (by omega))
 clear h2
 have h3:=kb q h3 (by omega)
 clear f
 have b:=kb q b (by omega)
 have h2:=y;clear y
 have ao:am 17=NI c:=k17
 clear k17
 refine oS rfl (Yk.storeC (i:=0) (v:=NI c) n ao h3 (Nat.le_of_ble_eq_true rfl) LU rfl rfl fun ba z r bb=> ?_)
 have h0:=Ac h0 r (Nat.le_trans (Nat.le_refl _) (by omega))
 clear h3
 have b:=kb r b (by omega)
 have h2:=kb r h2 (by omega)
 have h3:=z;clear z
 have bc:=bl h3
 refine oZ (Gr (fn:=Tryd.f36) [] rfl [] (.tuple #[]) rfl trivial ?_)
 exact⟨rfl,h2,h3,h0⟩
open Go.RowKit
theorem Reads.keepN{w w' :World}{b z n:Nat}{v:Value}{xs:List Value}(h:Reads w z v n xs)(hb:∀u∈xs,∃x,u=B8 x)(hm:DK w b)(hg:w.grownBy w' (some b)):Reads w' z v n xs:=by
  obtain⟨h1,ao,cap,rfl,h2,h3,h4,h5⟩:=h
  refine⟨h1,ao,cap,rfl,h2,h3,h4,fun a ha j u hu=> ?_⟩
  have hc:=h5 a ha j u hu
  have hlt:=World.block_lt_of_cell? w _ hc
  have hsp:=World.cell?_spot hc
  generalize a.add j=q at hc hlt hsp ⊢
  obtain⟨q1,q2,q3⟩:=q
  simp only at hsp hlt
  subst hsp
  by_cases e:q1=b
  · exfalso
    obtain⟨x,rfl⟩:=hb u (List.mem_of_getElem? hu)
    rw[e]at hc
    exact hm _ _ hc
  · have:=hg.block q1 hlt (fun e' =>e (Option.some.inj e'))
    unfold World.cell? at hc ⊢
    rw[this]
    exact hc
theorem RG.keepN{w w' :World}{b:Nat}{v:Value}{l:List Bs}(h:RG 32 Lib.byteCells w v l)(hm:DK w b)(hg:w.grownBy w' (some b)):RG 32 Lib.byteCells w' v l:=
  ⟨h.1,h.2.keepN (fun u hu=>by
    obtain⟨x,-,hx⟩:=List.mem_flatMap.1 hu
    obtain⟨c,-,rfl⟩:=List.mem_map.1 hx
    exact⟨c,rfl⟩) hm hg⟩
theorem N1{w:World}{g:Nat}{v:Value}{T:TypeId}{fr:Nat × Nat}(hb:w.heap[g]? =some (.cells ([v]).toArray T fr))(hv:∀x,v≠B8 x):DK w g:=fun j x hc=>by
  unfold World.cell? at hc
  rw[hb]at hc
  match j,hc with
  | 0,hc=>simp at hc;exact hv x hc
  | j+1,hc=>simp at hc
open Go.RowKit
set_option maxRecDepth 100000
def Ft(b:Bs):Except Nat Cv:=if 1048576<b.length then .error 2 else if b.length<36 then .error 6 else if Sha.sum (b.take (b.length-32))=b.drop (b.length-32)then CM b else .error 18
def PackAt(w:World)(v:Value)(p:Cv):Prop:=∃g vi bo O,v=PQ g 0∧p.2=(fun k=>(O k).map Prod.fst)∧w.heap[g]? =some (.cells ([vi, .map (some bo)]).toArray 74 (0,0))∧RG 32 Lib.byteCells w vi p.1∧MapF rk Cl (fun id:List UInt8=>id.length=32) w bo O∧OOk w O
def OS(w:World)(v:Value):Except Nat Cv→Nat→Prop
 | .ok p,c=>c=0∧PackAt w v p
 | .error e,c=>c=e∧v = .pointer none
theorem PackAt.keep{w w' :World}{v:Value}{p:Cv}(h:PackAt w v p)(k:Ext w w'):PackAt w' v p:=by
 obtain⟨g,vi,bo,O,h1,h2,h3,h4,h5,h6⟩:=h
 exact⟨g,vi,bo,O,h1,h2,eb k h3,h4.keep k,h5.keep k,h6.keep k⟩
theorem PackAt.keepN{w w' :World}{v c:Value}{p:Cv}{b:Nat}{T:TypeId}{fr:Nat × Nat}(h:PackAt w v p)(hb:w.heap[b]? =some (.cells ([c]).toArray T fr))(hc:∀x,c≠B8 x)(hg:w.grownBy w' (some b)):PackAt w' v p:=by
 obtain⟨g,vi,bo,O,h1,h2,h3,h4,h5,h6⟩:=h
 have hm:=N1 hb hc
 have a:g≠b:=fun e=>by rw[e,hb]at h3;simp at h3
 have f:bo≠b:=fun e=>by obtain⟨es,cl,h,-⟩:=h5;rw[e,hb]at h;cases h
 exact⟨g,vi,bo,O,h1,h2,(hg.block g (bl h3) (fun e=>a (Option.some.inj e))).trans h3,h4.keepN hm hg,h5.other hg (fun e=>f (Option.some.inj e).symm),fun id x hx=>(h6 id x hx).keepN hm hg⟩
theorem M8{d:Option Tmp}{ty:TypeId}{pos:String}{af:Array Edge}{gd:Option (Nat × Bool)}(σ:Operand→Value)(w:World):(execOp σ ⟨d, .alloc 33,ty,pos,af,gd⟩).run Tryd.prog w = .ok (.value (PQ w.heap.size 0)) (w.alloc (.cells ([.pointer none]).toArray 33)):=by kernel_rfl
theorem M9{d:Option Tmp}{ty:TypeId}{pos:String}{af:Array Edge}{gd:Option (Nat × Bool)}(σ:Operand→Value)(w:World):(execOp σ ⟨d, .alloc 25,ty,pos,af,gd⟩).run Tryd.prog w = .ok (.value (PQ w.heap.size 0)) (w.alloc (.cells ([NI 0]).toArray 25)):=by kernel_rfl
theorem EF:Tryd.prog.underlying 33=some (.pointer 74):=by kernel_rfl
theorem Na:A2 Tryd.prog 37:=fun _ _=>by kernel_rfl
set_option maxHeartbeats 1600000
theorem N2(w:World)(hG:Laid w)(v:Value)(b:Bs)(hr:RB w v b):
  Calls Tryd.prog 15 #[v] w fun e w' =>∃x,e = .returned x∧∃p c,x = .tuple #[p,NI c]∧OS w' p (Ft b) c∧Ext w w' :=by
 refine J5 (args:= [v]) Tryd.func15 rfl 30 rfl (Nat.le_of_ble_eq_true rfl) ?_
 intro b6 hb
 have o:b6 0=(v:Value):=hb.get 0
 clear hb
 have hE:=Ext.refl w
 refine Cs _ B1 fun K1 ay=>(wt (oS rfl (Yk.alloc (cs:=([.pointer none]).toArray) M8 fun u w3 dh bh b7 di=> ?_)))
 have hE:=hE.trans b7
 have g:=bh;clear bh
 have dj:u<w3.heap.size:=by omega
 refine oS rfl (Yk.alloc (cs:=([NI 0]).toArray) M9 fun y b8 b9 bi a3 dk=> ?_)
 have s:=Ext.refl w3
 have dl:=hE
 have a0:=hE.size
 have dm:=AT (bl g) b9
 have hE:=hE.trans a3
 have g:=eb a3 g
 have s:=s.trans a3
 have j:=bi;clear bi
 have dn:y<b8.heap.size:=by omega
 refine AH [(0,v),(2,PQ u 0),(3,PQ y 0)] ⟨o,rfl,rfl,trivial⟩ fun dp ⟨o,q,r,_⟩=> ?_
 by_cases q1:1048576<b.length
 ·have hP:Ft b = .error 2:=if_pos q1
  refine tN (ay _ _ (Cs _ B1 fun dq dr=>(sk fun ds ca=>(wt (oM rfl (oS rfl (Yk.lenRB DT (RB.of (hr.keep hE) o) (oS rfl (Yk.eqI (a:=(b.length:Nat)) (b:=(1048576:Nat)) rfl rfl (Bm _ _ _ _) (AH [(0,v),(2,PQ u 0),(3,PQ y 0),(7, .bool (true))] ⟨o,q,r,(congrArg Value.bool (decide_eq_true (q1))),trivial⟩ fun dt ⟨o,q,r,t,_⟩=>(tN (ca _ _ (AE t (sk fun du cb=>(wt (oS rfl (Yk.storeC (i:=0) (v:= .pointer none) q (vr (.pointer none) rfl) g (Nat.le_of_ble_eq_true rfl) LT rfl rfl fun dv bj bk dw=> ?_)))))))))))))))))
  have hE:=Ac hE bk (Nat.le_trans (Nat.le_refl _) (by omega))
  clear g
  clear s
  have j:=kb bk j (by omega)
  have g:=bj;clear bj
  have dx:=bl g
  refine oS rfl (Yk.storeC (i:=0) (v:=NI 2) r (vr (NI 2) rfl) j (Nat.le_of_ble_eq_true rfl) LU rfl rfl fun dy bm bn dz=> ?_)
  have hE:=Ac hE bn (Nat.le_trans a0 (by omega))
  clear j
  have g:=kb bn g (by omega)
  have j:=bm;clear bm
  have d0:=bl j
  refine AH [(0,v),(2,PQ u 0),(3,PQ y 0),(7, .bool (true))] ⟨o,q,r,t,trivial⟩ fun d1 ⟨o,q,r,t,_⟩=>(tN (cb _ _ (As (Am (Ca (fn:=Tryd.f15) _ rfl [.pointer none,NI 2] (.tuple #[.pointer none,NI 2]) rfl ⟨ResF.cell1 q g EF rfl,ResF.cell1 r j M7 rfl,trivial⟩ ?_)))))
  exact⟨_,rfl,_,_,rfl,by rw[hP];exact⟨rfl,rfl⟩,hE⟩
 by_cases q2:b.length<36
 ·have hP:Ft b = .error 6:=(if_neg q1).trans (if_pos q2)
  refine tN (ay _ _ (Cs _ B1 fun d2 cc=>(sk fun d3 cd=>(wt (oM rfl (oS rfl (Yk.lenRB DT (RB.of (hr.keep hE) o) (oS rfl (Yk.eqI (a:=(b.length:Nat)) (b:=(1048576:Nat)) rfl rfl (Bm _ _ _ _) (AH [(0,v),(2,PQ u 0),(3,PQ y 0),(7, .bool (false))] ⟨o,q,r,(congrArg Value.bool (decide_eq_false (q1))),trivial⟩ fun d4 ⟨o,q,r,t,_⟩=>(tN (cd _ _ (Ar t (Ah (tN (cc _ _ (Cs _ B1 fun d5 d6=>(sk fun d7 ce=>(wt (oM rfl ?_))))))))))))))))))))
  refine oS rfl (Yk.lenRB DT (RB.of (hr.keep hE) o) (oS rfl (Yk.eqI (a:=(b.length:Nat)) (b:=(36:Nat)) rfl rfl (AN _ _ _ _) (AH [(0,v),(2,PQ u 0),(3,PQ y 0),(7, .bool (false)),(10, .bool (true))] ⟨o,q,r,t,(congrArg Value.bool (decide_eq_true (q2))),trivial⟩ fun d8 ⟨o,q,r,t,z,_⟩=>(tN (ce _ _ (AE z (sk fun d9 cf=>(wt (oS rfl (Yk.storeC (i:=0) (v:= .pointer none) q (vr (.pointer none) rfl) g (Nat.le_of_ble_eq_true rfl) LT rfl rfl fun ea bp bq ec=> ?_)))))))))))
  have hE:=Ac hE bq (Nat.le_trans (Nat.le_refl _) (by omega))
  clear g
  clear s
  have j:=kb bq j (by omega)
  have g:=bp;clear bp
  have ed:=bl g
  refine oS rfl (Yk.storeC (i:=0) (v:=NI 6) r (vr (NI 6) rfl) j (Nat.le_of_ble_eq_true rfl) LU rfl rfl fun ee br bs ef=> ?_)
  have hE:=Ac hE bs (Nat.le_trans a0 (by omega))
  clear j
  have g:=kb bs g (by omega)
  have j:=br;clear br
  have eg:=bl j
  refine AH [(0,v),(2,PQ u 0),(3,PQ y 0),(7, .bool (false)),(10, .bool (true))] ⟨o,q,r,t,z,trivial⟩ fun eh ⟨o,q,r,t,z,_⟩=>(tN (cf _ _ (As (Am (Ca (fn:=Tryd.f15) _ rfl [.pointer none,NI 6] (.tuple #[.pointer none,NI 6]) rfl ⟨ResF.cell1 q g EF rfl,ResF.cell1 r j M7 rfl,trivial⟩ ?_)))))
  exact⟨_,rfl,_,_,rfl,by rw[hP];exact⟨rfl,rfl⟩,hE⟩
 by_cases q3:Sha.sum (b.take (b.length-32))=b.drop (b.length-32)
 ·have hP:Ft b=CM b:=(if_neg q1).trans ((if_neg q2).trans (if_pos q3))
  refine tN (ay _ _ (Cs _ B1 fun ei cg=>(sk fun ej ci=>(wt (oM rfl (oS rfl (Yk.lenRB DT (RB.of (hr.keep hE) o) (oS rfl (Yk.eqI (a:=(b.length:Nat)) (b:=(1048576:Nat)) rfl rfl (Bm _ _ _ _) (AH [(0,v),(2,PQ u 0),(3,PQ y 0),(7, .bool (false))] ⟨o,q,r,(congrArg Value.bool (decide_eq_false (q1))),trivial⟩ fun el ⟨o,q,r,t,_⟩=>(tN (ci _ _ (Ar t (Ah (tN (cg _ _ (Cs _ B1 fun em cj=>(sk fun en ck=>(wt (oM rfl ?_))))))))))))))))))))
  refine oS rfl (Yk.lenRB DT (RB.of (hr.keep hE) o) (oS rfl (Yk.eqI (a:=(b.length:Nat)) (b:=(36:Nat)) rfl rfl (AN _ _ _ _) (AH [(0,v),(2,PQ u 0),(3,PQ y 0),(7, .bool (false)),(10, .bool (false))] ⟨o,q,r,t,(congrArg Value.bool (decide_eq_false (q2))),trivial⟩ fun eo ⟨o,q,r,t,z,_⟩=>(tN (ck _ _ (Ar z (Ah (tN (cj _ _ (Cs _ B1 fun ep cl=>(wt (oM rfl (oM rfl (oS rfl (Yk.lenRB DT (RB.of (hr.keep hE) o) (oS rfl (Yk.bin (xv:=NI b.length) (yv:=NI 32) rfl rfl rfl (Bj _ _ _ (by omega) (by omega)) (oS rfl (Yk.sliceHi (xs:=b) (n:=(b.length)-(32)) DT Ls o (hr.keep hE) (vr (NI ((b.length)-(32))) rfl) (by omega) fun cm an ha65=>(oS rfl (Yk.rows1 E5 (RB.of an (vr cm rfl)) fun bt eq a4 ao=> ?_))))))))))))))))))))))
  have hE:=hE.trans ao
  have g:=eb ao g
  have s:=s.trans ao
  have j:=eb ao j
  have an:=an.keep ao
  refine oS rfl (Yk.callA1 Hr (vr bt rfl) ((Es _ (hG.keep hE) bt (b.take ((b.length)-(32))) a4 (by simp only[List.length_take];omega)).mono ?_))
  rintro e cn ⟨rfl,ah⟩
  refine⟨_,rfl,?_⟩
  have hE:=hE.trans ah
  have g:=eb ah g
  have s:=s.trans ah
  have j:=eb ah j
  have an:=an.keep ah
  have a4:=a4.keep ah
  refine oS rfl (Yk.alloc (cs:=(Lib.byteCells (List.replicate 32 0)).toArray) NH fun ai co bu bv ap er=> ?_)
  have ad:=Ext.refl cn
  have es:=hE
  have et:=s
  have cp:=hE.size
  have cq:=s.size
  have eu:=AT (bl g) bu
  have ew:=AT (bl j) bu
  have hE:=hE.trans ap
  have g:=eb ap g
  have s:=s.trans ap
  have j:=eb ap j
  have ad:=ad.trans ap
  have aa:=bv;clear bv
  have ex:ai<co.heap.size:=by omega
  refine oS rfl (Yk.storeAll (vr (PQ ai 0) rfl) (vr (AB (Sha.sum (b.take ((b.length)-(32))))) rfl) aa (by exact C6 (Sha.sum_length _) List.length_replicate) (by exact AM (Sha.sum_length _)) (AF _) fun ey bw aq ez=> ?_)
  have hE:=Ac hE aq (Nat.le_trans cp (by omega))
  have g:=kb aq g (by omega)
  have s:=Ac s aq (Nat.le_trans cq (by omega))
  have j:=kb aq j (by omega)
  have ad:=Ac ad aq (Nat.le_trans (Nat.le_refl _) (by omega))
  clear aa
  have aa:=bw;clear bw
  have e1:=bl aa
  refine AH [(0,v),(2,PQ u 0),(3,PQ y 0),(4,PQ ai 0),(7, .bool (false)),(10, .bool (false))] ⟨o,q,r,rfl,t,z,trivial⟩ fun e2 ⟨o,q,r,T4,t,z,_⟩=>(tN (cl _ _ (Cs _ B1 fun e3 cr=>(sk fun e5 ct=> ?_))))
  refine Be [Is (.slice (some ⟨ai,0,none⟩) 32 32),Is (St ((Sha.sum (b.take ((b.length)-(32)))))),Is (v),Is (v),Is (NI b.length),Is (NI ((b.length)-(32))),fun x w' =>RB w' x (b.drop ((b.length)-(32))),Is (St (b.drop ((b.length)-(32)))),Is (.bool (false))] (by kernel_rfl) [18,19,20,21,22,23,24,25,26] (by kernel_rfl) (by kernel_rfl) (Gd ⟨(fun _ _ _ h k=>RB.keep h k),(Ef trivial)⟩) ?cu ?hQ1006
  case cu=>
   refine⟨?_,?_,?_,?_,?_,?_,?_,?_,?_,trivial⟩
   ·refine Aa rfl fun σ w1 hC h=> ?_
    have e4:=(Ab (h 4 (by decide))).trans T4
    exact Yk.sliceArr Ow Ls e4 ⟨Ext.refl _,rfl⟩
   ·refine Aa rfl fun σ w1 hC h=> ?_
    have a6:=Ab (h 18 (by decide))
    exact Yk.convRB DT u5 Lg (RB.of (RB.ofBlkN (eb hC aa) (Sha.sum_length _) (by decide)) a6) ⟨Ext.refl _,rfl⟩
   ·refine Aa rfl fun σ w1 hC h=> ?_
    have e0:=(Ab (h 0 (by decide))).trans o
    exact Yk.move e0 ⟨Ext.refl _,rfl⟩
   ·refine Aa rfl fun σ w1 hC h=> ?_
    have e0:=(Ab (h 0 (by decide))).trans o
    exact Yk.move e0 ⟨Ext.refl _,rfl⟩
   ·refine Aa rfl fun σ w1 hC h=> ?_
    have a7:=Ab (h 21 (by decide))
    exact Yk.lenRB DT (RB.of (hr.keep (hE.trans hC)) a7) ⟨Ext.refl _,rfl⟩
   ·refine Aa rfl fun σ w1 hC h=> ?_
    have a8:=Ab (h 22 (by decide))
    exact Yk.bin (xv:=NI b.length) (yv:=NI 32) a8 rfl rfl (Bj _ _ _ (by omega) (by omega)) ⟨Ext.refl _,rfl⟩
   ·refine Aa rfl fun σ w1 hC h=> ?_
    have a9:=Ab (h 20 (by decide))
    have ba:=Ab (h 23 (by decide))
    exact Yk.sliceLo (xs:=b) (l:=(b.length)-(32)) DT Ls rfl (RB.of (hr.keep (hE.trans hC)) a9) ba (by omega) fun v hr _=>⟨Ext.refl _,hr⟩
   ·refine Aa rfl fun σ w1 hC h=> ?_
    have bb:(fun x w' =>RB w' x (b.drop ((b.length)-(32)))) (σ 24) w1:=h 24 (by decide)
    exact Yk.convRB DT u5 Lg bb ⟨Ext.refl _,rfl⟩
   ·refine Aa rfl fun σ w1 hC h=> ?_
    have bc:=Ab (h 19 (by decide))
    have bd:=Ab (h 25 (by decide))
    exact Yk.eqSt (l:=(Sha.sum (b.take ((b.length)-(32))))) (m:=b.drop ((b.length)-(32))) (.inr rfl) bc bd (decide ((Sha.sum (b.take ((b.length)-(32))))≠(b.drop ((b.length)-(32)):List UInt8))) rfl ⟨Ext.refl _,(congrArg Value.bool (decide_eq_false (fun h=>h q3)))⟩
  intro cv e6 aj he hf
  obtain⟨-,-,-,-,-,-,-,-,k26,-⟩:=hf
  obtain⟨o,q,r,T4,t,z,-⟩:=he.hold [(0,_),(2,_),(3,_),(4,_),(7,_),(10,_)] ⟨o,q,r,T4,t,z,trivial⟩ rfl
  clear he
  have hE:=hE.trans aj
  have g:=eb aj g
  have s:=s.trans aj
  have j:=eb aj j
  have ad:=ad.trans aj
  have aa:=eb aj aa
  have ae:cv 26 = .bool (false):=k26
  clear k26
  refine tN (ct _ _ (Ar ae (Ah (tN (cr _ _ (GO (Fs rfl (Yk.mkFunc (vs:= #[PQ u 0,PQ y 0]) (by simp only[List.map_toArray,List.map_cons,List.map_nil];exact congrArg List.toArray (Ov q r)) (LR (vr (.func (.func 36) #[] #[PQ u 0,PQ y 0]) rfl) (OP (vr (.func (.func 36) #[] #[PQ u 0,PQ y 0]) rfl)) (J4 (fun ρ=>ρ 0=(v:Value)∧ρ 2=(PQ u 0:Value)∧ρ 3=(PQ y 0:Value)∧ρ 4=(PQ ai 0:Value)∧ρ 7=(.bool (false):Value)∧ρ 10=(.bool (false):Value)∧ρ 26=(.bool (false):Value)∧True) ⟨o,q,r,T4,t,z,ae,trivial⟩ fun e7 ⟨o,q,r,T4,t,z,ae,_⟩=>(GO (Fs rfl (Yk.move o (H9 rfl (Yp.callA1 Na (vr v rfl) ?_)))))))))))))))
  refine AG (N0 _ (hG.keep hE) v b (hr.keep hE) (by omega) (by omega)) ?_ ?_
  rotate_left
  ·
   rintro ch e8 ⟨c,hce,rfl,hx⟩
   intro a_ ha_
   show Leaves _ _ a_.tmps _ a_.defers (.panicking _) _
   rw[ha_.defers]
   refine leaves_cons (f:=36) (args:= #[PQ u 0,PQ y 0]) (by simp) (by simp[go_sem]) ((LW w u y c _ _ _ (hE.trans hx) (by omega) (by omega) (by omega) (eb hx g) (eb hx j)).mono ?_)
   rintro e u' w3 ⟨rfl,rfl,cw,cx,cy⟩
   exact Ia (ρ:=_) _ rfl [.pointer none,NI c] (.tuple #[.pointer none,NI c]) rfl ha_.get ⟨ResF.cell1 (q) cw EF rfl,ResF.cell1 (r) cx M7 rfl,trivial⟩ ⟨_,rfl,_,_,rfl,by rw[hP,hce];exact⟨rfl,rfl⟩,cy⟩
  rintro v_ cz ⟨gp,vi,bo,ids,O,rfl,hrd,hgb,hgi,hmo,hoo,ak⟩
  have hE:=hE.trans ak
  have g:=eb ak g
  have s:=s.trans ak
  have j:=eb ak j
  have ad:=ad.trans ak
  have aa:=eb ak aa
  have hPk:PackAt cz (PQ gp 0) (ids,fun k=>(O k).map Prod.fst):=⟨gp,vi,bo,O,rfl,rfl,hgb,hgi,hmo,hoo⟩
  have hob_n2:=g
  refine Fs rfl (Yk.storeC (i:=0) (v:=PQ gp 0) q (vr (PQ gp 0) rfl) g (Nat.le_of_ble_eq_true rfl) LT rfl rfl fun c0 bx a1 e9=> ?_)
  have hE:=Ac hE a1 (Nat.le_trans (Nat.le_refl _) (by omega))
  clear g
  clear s
  have j:=kb a1 j (by omega)
  clear ad
  have aa:=kb a1 aa (by omega)
  have hPk:PackAt c0 (PQ gp 0) (ids,fun k=>(O k).map Prod.fst):=PackAt.keepN hPk hob_n2 (fun _ h=>by cases h) a1
  have g:=bx;clear bx
  have fa:=bl g
  have hob_n10:=j
  refine Fs rfl (Yk.storeC (i:=0) (v:=NI 0) r (vr (NI 0) rfl) j (Nat.le_of_ble_eq_true rfl) LU rfl rfl fun c1 bz a2 fb=> ?_)
  have hE:=Ac hE a2 (Nat.le_trans a0 (by omega))
  clear j
  have aa:=kb a2 aa (by omega)
  have hPk:PackAt c1 (PQ gp 0) (ids,fun k=>(O k).map Prod.fst):=PackAt.keepN hPk hob_n10 (fun _ h=>by cases h) a2
  have g:=kb a2 g (by omega)
  have j:=bz;clear bz
  have fc:=bl j
  refine J4 (fun ρ=>ρ 0=(v:Value)∧ρ 2=(PQ u 0:Value)∧ρ 3=(PQ y 0:Value)∧ρ 4=(PQ ai 0:Value)∧ρ 7=(.bool (false):Value)∧ρ 10=(.bool (false):Value)∧ρ 26=(.bool (false):Value)∧True) ⟨o,q,r,T4,t,z,ae,trivial⟩ fun fd ⟨o,q,r,T4,t,z,ae,_⟩=>(OO fun a_ ha_=> ?_)
  show Leaves _ _ a_.tmps _ a_.defers .returning _
  rw[ha_.defers]
  refine leaves_cons (f:=36) (args:= #[PQ u 0,PQ y 0]) (by simp) (by simp[go_sem]) ((LV u y _).mono ?_)
  rintro e u' w3 ⟨rfl,rfl,hxi⟩
  exact Ia (ρ:=_) _ rfl [PQ gp 0,NI 0] (.tuple #[PQ gp 0,NI 0]) rfl ha_.get ⟨ResF.cell1 (q) (eb hxi g) EF rfl,ResF.cell1 (r) (eb hxi j) M7 rfl,trivial⟩ ⟨_,rfl,_,_,rfl,by rw[hP,hrd];exact⟨rfl,(hPk).keep hxi⟩,hE.trans hxi⟩
 have hP:Ft b = .error 18:=(if_neg q1).trans ((if_neg q2).trans (if_neg q3))
 refine tN (ay _ _ (Cs _ B1 fun fe c2=>(sk fun ff c3=>(wt (oM rfl (oS rfl (Yk.lenRB DT (RB.of (hr.keep hE) o) (oS rfl (Yk.eqI (a:=(b.length:Nat)) (b:=(1048576:Nat)) rfl rfl (Bm _ _ _ _) (AH [(0,v),(2,PQ u 0),(3,PQ y 0),(7, .bool (false))] ⟨o,q,r,(congrArg Value.bool (decide_eq_false (q1))),trivial⟩ fun fg ⟨o,q,r,t,_⟩=>(tN (c3 _ _ (Ar t (Ah (tN (c2 _ _ (Cs _ B1 fun fh c4=>(sk fun fi c5=>(wt (oM rfl ?_))))))))))))))))))))
 refine oS rfl (Yk.lenRB DT (RB.of (hr.keep hE) o) (oS rfl (Yk.eqI (a:=(b.length:Nat)) (b:=(36:Nat)) rfl rfl (AN _ _ _ _) (AH [(0,v),(2,PQ u 0),(3,PQ y 0),(7, .bool (false)),(10, .bool (false))] ⟨o,q,r,t,(congrArg Value.bool (decide_eq_false (q2))),trivial⟩ fun fj ⟨o,q,r,t,z,_⟩=>(tN (c5 _ _ (Ar z (Ah (tN (c4 _ _ (Cs _ B1 fun fk c6=>(wt (oM rfl (oM rfl (oS rfl (Yk.lenRB DT (RB.of (hr.keep hE) o) (oS rfl (Yk.bin (xv:=NI b.length) (yv:=NI 32) rfl rfl rfl (Bj _ _ _ (by omega) (by omega)) (oS rfl (Yk.sliceHi (xs:=b) (n:=(b.length)-(32)) DT Ls o (hr.keep hE) (vr (NI ((b.length)-(32))) rfl) (by omega) fun c7 ar ha123=>(oS rfl (Yk.rows1 E5 (RB.of ar (vr c7 rfl)) fun b0 fl be au=> ?_))))))))))))))))))))))
 have hE:=hE.trans au
 have g:=eb au g
 have s:=s.trans au
 have j:=eb au j
 have ar:=ar.keep au
 refine oS rfl (Yk.callA1 Hr (vr b0 rfl) ((Es _ (hG.keep hE) b0 (b.take ((b.length)-(32))) be (by simp only[List.length_take];omega)).mono ?_))
 rintro e c8 ⟨rfl,al⟩
 refine⟨_,rfl,?_⟩
 have hE:=hE.trans al
 have g:=eb al g
 have s:=s.trans al
 have j:=eb al j
 have ar:=ar.keep al
 have be:=be.keep al
 refine oS rfl (Yk.alloc (cs:=(Lib.byteCells (List.replicate 32 0)).toArray) NH fun av c9 b1 b2 aw fm=> ?_)
 have ag:=Ext.refl c8
 have fo:=hE
 have fp:=s
 have da:=hE.size
 have db:=s.size
 have fq:=AT (bl g) b1
 have fr:=AT (bl j) b1
 have hE:=hE.trans aw
 have g:=eb aw g
 have s:=s.trans aw
 have j:=eb aw j
 have ag:=ag.trans aw
 have ac:=b2;clear b2
 have fs:av<c9.heap.size:=by omega
 refine oS rfl (Yk.storeAll (vr (PQ av 0) rfl) (vr (AB (Sha.sum (b.take ((b.length)-(32))))) rfl) ac (by exact C6 (Sha.sum_length _) List.length_replicate) (by exact AM (Sha.sum_length _)) (AF _) fun ft b3 ax fu=> ?_)
 have hE:=Ac hE ax (Nat.le_trans da (by omega))
 have g:=kb ax g (by omega)
 have s:=Ac s ax (Nat.le_trans db (by omega))
 have j:=kb ax j (by omega)
 have ag:=Ac ag ax (Nat.le_trans (Nat.le_refl _) (by omega))
 clear ac
 have ac:=b3;clear b3
 have fv:=bl ac
 refine AH [(0,v),(2,PQ u 0),(3,PQ y 0),(4,PQ av 0),(7, .bool (false)),(10, .bool (false))] ⟨o,q,r,rfl,t,z,trivial⟩ fun fw ⟨o,q,r,T4,t,z,_⟩=>(tN (c6 _ _ (Cs _ B1 fun fx fy=>(sk fun fz dc=> ?_))))
 refine Be [Is (.slice (some ⟨av,0,none⟩) 32 32),Is (St ((Sha.sum (b.take ((b.length)-(32)))))),Is (v),Is (v),Is (NI b.length),Is (NI ((b.length)-(32))),fun x w' =>RB w' x (b.drop ((b.length)-(32))),Is (St (b.drop ((b.length)-(32)))),Is (.bool (true))] (by kernel_rfl) [18,19,20,21,22,23,24,25,26] (by kernel_rfl) (by kernel_rfl) (Gd ⟨(fun _ _ _ h k=>RB.keep h k),(Ef trivial)⟩) ?dd ?hQ2006
 case dd=>
  refine⟨?_,?_,?_,?_,?_,?_,?_,?_,?_,trivial⟩
  ·refine Aa rfl fun σ w1 hC h=> ?_
   have e4:=(Ab (h 4 (by decide))).trans T4
   exact Yk.sliceArr Ow Ls e4 ⟨Ext.refl _,rfl⟩
  ·refine Aa rfl fun σ w1 hC h=> ?_
   have a6:=Ab (h 18 (by decide))
   exact Yk.convRB DT u5 Lg (RB.of (RB.ofBlkN (eb hC ac) (Sha.sum_length _) (by decide)) a6) ⟨Ext.refl _,rfl⟩
  ·refine Aa rfl fun σ w1 hC h=> ?_
   have e0:=(Ab (h 0 (by decide))).trans o
   exact Yk.move e0 ⟨Ext.refl _,rfl⟩
  ·refine Aa rfl fun σ w1 hC h=> ?_
   have e0:=(Ab (h 0 (by decide))).trans o
   exact Yk.move e0 ⟨Ext.refl _,rfl⟩
  ·refine Aa rfl fun σ w1 hC h=> ?_
   have a7:=Ab (h 21 (by decide))
   exact Yk.lenRB DT (RB.of (hr.keep (hE.trans hC)) a7) ⟨Ext.refl _,rfl⟩
  ·refine Aa rfl fun σ w1 hC h=> ?_
   have a8:=Ab (h 22 (by decide))
   exact Yk.bin (xv:=NI b.length) (yv:=NI 32) a8 rfl rfl (Bj _ _ _ (by omega) (by omega)) ⟨Ext.refl _,rfl⟩
  ·refine Aa rfl fun σ w1 hC h=> ?_
   have a9:=Ab (h 20 (by decide))
   have ba:=Ab (h 23 (by decide))
   exact Yk.sliceLo (xs:=b) (l:=(b.length)-(32)) DT Ls rfl (RB.of (hr.keep (hE.trans hC)) a9) ba (by omega) fun v hr _=>⟨Ext.refl _,hr⟩
  ·refine Aa rfl fun σ w1 hC h=> ?_
   have bb:(fun x w' =>RB w' x (b.drop ((b.length)-(32)))) (σ 24) w1:=h 24 (by decide)
   exact Yk.convRB DT u5 Lg bb ⟨Ext.refl _,rfl⟩
  ·refine Aa rfl fun σ w1 hC h=> ?_
   have bc:=Ab (h 19 (by decide))
   have bd:=Ab (h 25 (by decide))
   exact Yk.eqSt (l:=(Sha.sum (b.take ((b.length)-(32))))) (m:=b.drop ((b.length)-(32))) (.inr rfl) bc bd (decide ((Sha.sum (b.take ((b.length)-(32))))≠(b.drop ((b.length)-(32)):List UInt8))) rfl ⟨Ext.refl _,(congrArg Value.bool (decide_eq_true (q3)))⟩
 intro de f0 am he hf
 obtain⟨-,-,-,-,-,-,-,-,k26,-⟩:=hf
 obtain⟨o,q,r,T4,t,z,-⟩:=he.hold [(0,_),(2,_),(3,_),(4,_),(7,_),(10,_)] ⟨o,q,r,T4,t,z,trivial⟩ rfl
 clear he
 have hE:=hE.trans am
 have g:=eb am g
 have s:=s.trans am
 have j:=eb am j
 have ag:=ag.trans am
 have ac:=eb am ac
 have ae:de 26 = .bool (true):=k26
 clear k26
 refine tN (dc _ _ (AE ae (sk fun f1 df=>(wt (oS rfl (Yk.storeC (i:=0) (v:= .pointer none) q (vr (.pointer none) rfl) g (Nat.le_of_ble_eq_true rfl) LT rfl rfl fun f2 b4 bf f3=> ?_))))))
 have hE:=Ac hE bf (Nat.le_trans (Nat.le_refl _) (by omega))
 clear g
 clear s
 have j:=kb bf j (by omega)
 clear ag
 have ac:=kb bf ac (by omega)
 have g:=b4;clear b4
 have f4:=bl g
 refine oS rfl (Yk.storeC (i:=0) (v:=NI 18) r (vr (NI 18) rfl) j (Nat.le_of_ble_eq_true rfl) LU rfl rfl fun f5 b5 bg f6=> ?_)
 have hE:=Ac hE bg (Nat.le_trans a0 (by omega))
 clear j
 have ac:=kb bg ac (by omega)
 have g:=kb bg g (by omega)
 have j:=b5;clear b5
 have f7:=bl j
 refine AH [(0,v),(2,PQ u 0),(3,PQ y 0),(4,PQ av 0),(7, .bool (false)),(10, .bool (false)),(26, .bool (true))] ⟨o,q,r,T4,t,z,ae,trivial⟩ fun f8 ⟨o,q,r,T4,t,z,ae,_⟩=>(tN (df _ _ (As (Am (Ca (fn:=Tryd.f15) _ rfl [.pointer none,NI 18] (.tuple #[.pointer none,NI 18]) rfl ⟨ResF.cell1 q g EF rfl,ResF.cell1 r j M7 rfl,trivial⟩ ?_)))))
 exact⟨_,rfl,_,_,rfl,by rw[hP];exact⟨rfl,rfl⟩,hE⟩
open Go.RowKit
theorem Eu{α:Type}(A X:List α)(n:Nat)(h:A.length≤n):(A++X).take n=A++X.take (n-A.length):=by
  rw[List.take_append,List.take_of_length_le h]
theorem Gb{α:Type}(A X:List α)(n:Nat):(A++X).drop (A.length+n)=X.drop n:=by
  rw[List.drop_append,List.drop_of_length_le (by omega),List.nil_append,show A.length+n-A.length=n by omega]
theorem GP(s:Bs):(Bh s).length=(Lib.uvarint s.length).length+s.length:=by simp[Bh]
theorem IU(A s X:Bs)(fin:Nat)(hs:s.length≤1048576)(h1:A.length+(Bh s).length≤fin):BY (A++(Bh s++X)) A.length fin=some (s,A.length+(Bh s).length):=by
  have hl:=GP s
  have ht:(A++(Bh s++X)).take fin=A++(Lib.uvarint s.length++(s++X.take (fin-A.length-(Bh s).length))):=by
    rw[Eu _ _ _ (by omega),Eu _ _ _ (by omega)]
    simp only[Bh,List.append_assoc]
  unfold BY
  rw[ht,List.drop_left,DG _ (by omega)]
  dsimp only
  rw[if_neg (by omega),if_neg (by simp only[List.length_append];omega)]
  congr 1
  rw[Gb,List.drop_left,List.take_left]
  rw[hl,Nat.add_assoc]
def entB(ps:List Pt)(i:Nat)(s:BS):Ent:=
  if(ps.getD i dPt).base<0 then⟨s.b.length,false,List.replicate 32 0,(ps.getD i dPt).bytes⟩
  else⟨s.b.length,true,s.ids.getD (ps.getD i dPt).base.toNat [],Bv (ps.getD (ps.getD i dPt).base.toNat dPt).bytes (ps.getD i dPt).bytes⟩
def DN(ps:List Pt)(i:Nat)(s:BS):Bs:=
  if(ps.getD i dPt).base<0 then [0]++Bh (ps.getD i dPt).bytes
  else [1]++s.ids.getD (ps.getD i dPt).base.toNat []++Bh (Bv (ps.getD (ps.getD i dPt).base.toNat dPt).bytes (ps.getD i dPt).bytes)
theorem Lh(ps:List Pt)(i:Nat)(s:BS):(bnext ps (ps.getD i dPt) s).b=s.b++DN ps i s:=by
  unfold bnext DN
  dsimp only
  split <;> simp only[List.append_assoc]
theorem LX{ps:List Pt}(hL:Co ps){i:Nat}(hi:i<ps.length){s:BS}(h:BOk i s)(hb:(ps.getD i dPt).base<i)(X:Bs)(fin:Nat)(hf:s.b.length+(DN ps i s).length≤fin):
    entOne (s.b++(DN ps i s++X)) fin s.b.length=some (entB ps i s,s.b.length+(DN ps i s).length):=by
  have hp:=hL.2 _ (A6 dPt hi)
  by_cases hbase:(ps.getD i dPt).base<0
  · have hc:DN ps i s= [0]++Bh (ps.getD i dPt).bytes:=if_pos hbase
    have he:entB ps i s=⟨s.b.length,false,List.replicate 32 0,(ps.getD i dPt).bytes⟩:=if_pos hbase
    rw[hc]at hf ⊢
    rw[he]
    have hg:(s.b++([0]++Bh (ps.getD i dPt).bytes++X)).getD s.b.length 0=0:=by
      rw[List.getD_eq_getElem?_getD,List.getElem?_append_right (Nat.le_refl _),Nat.sub_self];rfl
    have ht:=IU (s.b++ [0]) (ps.getD i dPt).bytes X fin (by omega) (by simp only[List.length_append]at hf ⊢;omega)
    have e:s.b++ [0]++(Bh (ps.getD i dPt).bytes++X)=s.b++([0]++Bh (ps.getD i dPt).bytes++X):=by simp only[List.append_assoc]
    rw[e,List.length_append,List.length_singleton]at ht
    unfold entOne
    rw[hg,if_pos ⟨by simp only[List.length_append,List.length_singleton]at hf;omega,by decide⟩,if_neg (by decide),ht,Option.map_some]
    simp only[List.length_append,List.length_singleton,Nat.add_assoc]
  · have hc:DN ps i s= [1]++s.ids.getD (ps.getD i dPt).base.toNat []++Bh (Bv (ps.getD (ps.getD i dPt).base.toNat dPt).bytes (ps.getD i dPt).bytes):=if_neg hbase
    have he:entB ps i s=⟨s.b.length,true,s.ids.getD (ps.getD i dPt).base.toNat [],Bv (ps.getD (ps.getD i dPt).base.toNat dPt).bytes (ps.getD i dPt).bytes⟩:=if_neg hbase
    have a:(ps.getD i dPt).base.toNat<s.ids.length:=by rw[h.ids];omega
    have h32:=h.len _ (A6 [] a)
    have hq:=hL.2 _ (A6 dPt (l:=ps) (i:=(ps.getD i dPt).base.toNat) (by rw[h.ids]at a;omega))
    have hm:=Fj (ps.getD (ps.getD i dPt).base.toNat dPt).bytes (ps.getD i dPt).bytes (by omega) (by omega)
    rw[hc]at hf ⊢
    rw[he]
    generalize Bv (ps.getD (ps.getD i dPt).base.toNat dPt).bytes (ps.getD i dPt).bytes=m at hm hf ⊢
    generalize s.ids.getD (ps.getD i dPt).base.toNat []=id at h32 hf ⊢
    have hg:(s.b++([1]++id++Bh m++X)).getD s.b.length 0=1:=by
      rw[List.getD_eq_getElem?_getD,List.getElem?_append_right (Nat.le_refl _),Nat.sub_self];rfl
    have ht:=IU (s.b++ [1]++id) m X fin (by omega) (by simp only[List.length_append]at hf ⊢;omega)
    have e:s.b++ [1]++id++(Bh m++X)=s.b++([1]++id++Bh m++X):=by simp only[List.append_assoc]
    rw[e,List.length_append,List.length_append,List.length_singleton,h32]at ht
    have hd:((s.b++([1]++id++Bh m++X)).take fin).drop (s.b.length+1)=id++(Bh m++X.take (fin-s.b.length-1-id.length-(Bh m).length)):=by
      simp only[List.length_append,List.length_singleton]at hf
      have c:s.b++([1]++id++Bh m++X)=s.b++([1]++(id++(Bh m++X))):=by simp only[List.append_assoc]
      rw[c,Eu _ _ _ (by omega),Eu [1] _ _ (by simp only[List.length_singleton];omega),Eu id _ _ (by simp only[List.length_singleton];omega),Eu (Bh m) _ _ (by simp only[List.length_singleton];omega),Gb]
      rfl
    unfold entOne
    rw[hg,if_pos ⟨by simp only[List.length_append,List.length_singleton]at hf;omega,by decide⟩,if_pos rfl,if_neg (by simp only[List.length_append,List.length_singleton]at hf;omega),ht,Option.map_some,hd,←h32,List.take_left]
    simp only[List.length_append,List.length_singleton,Nat.add_assoc]
structure BInv (ps : List Pt) (i : Nat) (s : BS) (es : List Ent) : Prop where
  ok:BOk i s
  len:es.length=i
  ids:s.ids=(ps.take i).map fun p=>Sha.sum p.bytes
  nodup:s.ids.Nodup
  pos:es.map Ent.pos=s.places
  asc:s.places.Pairwise (· < ·)
  top:∀p∈s.places,p<s.b.length
  ent:∀X fin,s.b.length≤fin→CZ (s.b++X) fin (1+(Lib.uvarint ps.length).length) i=some (es,s.b.length)
  flat:∀j,j<i→(ps.getD j dPt).base<0→(es.getD j dEnt.1).based=false∧(es.getD j dEnt.1).bytes=(ps.getD j dPt).bytes∧s.depths.getD j 0=0
  upon:∀j,j<i→¬(ps.getD j dPt).base<0→(ps.getD j dPt).base.toNat<j∧(es.getD j dEnt.1).based=true∧(es.getD j dEnt.1).base=s.ids.getD (ps.getD j dPt).base.toNat []∧(es.getD j dEnt.1).bytes=Bv (ps.getD (ps.getD j dPt).base.toNat dPt).bytes (ps.getD j dPt).bytes∧s.depths.getD j 0=s.depths.getD (ps.getD j dPt).base.toNat 0+1
theorem Ds{α:Type}(l m:List α)(d:α){i:Nat}(h:i<l.length):(l++m).getD i d=l.getD i d:=by
  rw[List.getD_eq_getElem?_getD,List.getD_eq_getElem?_getD,List.getElem?_append_left h]
theorem Fu{α:Type}(l:List α)(x d:α){i:Nat}(h:l.length=i):(l++ [x]).getD i d=x:=by
  rw[List.getD_eq_getElem?_getD,List.getElem?_append_right (by omega),h,Nat.sub_self];rfl
theorem G5{ps:List Pt}(hL:Co ps):∀(i:Nat) (s:BS),i≤ps.length→CS ps i = .ok s→∃es,BInv ps i s es
  | 0,s,hi,h=>by
    have hk:=E3 hL 0 s hi h
    cases h
    refine⟨[],hk,rfl,rfl,List.nodup_nil,rfl,List.Pairwise.nil,(fun p hp=>by cases hp),fun X fin hf=> ?_,(fun j hj=>by omega),(fun j hj=>by omega)⟩
    show some ([],_)=some ([],_)
    rw[List.length_cons,Nat.add_comm]
  | i+1,s,hi,h=>by
    have hk:=E3 hL (i+1) s hi h
    cases hb:CS ps i with
    | error e=>rw[Er hb 1]at h;cases h
    | ok s0=>
      rw[Dp hb]at h
      obtain⟨es,I⟩:=G5 hL i s0 (by omega) hb
      unfold Em at h
      split at h
      · cases h
      · split at h
        · cases h
        · split at h
          · cases h
          · rename_i h1 h2 h3
            cases h
            have hbase:(ps.getD i dPt).base<i:=by omega
            have hl:s0.ids.length=i:=I.ok.ids
            have hd:s0.depths.length=i:=I.ok.depths
            have hbn:=Lh ps i s0
            have hcl:1≤(DN ps i s0).length:=by unfold DN;split <;> simp only[List.length_append,List.length_singleton] <;> omega
            refine⟨es++ [entB ps i s0],hk,by rw[List.length_append,I.len];rfl,?_,?_,?_,?_,?_,?_,?_,?_⟩
            · show s0.ids++ [_]=_
              rw[I.ids,List.take_succ_eq_append_getElem (by omega),List.map_append,List.map_singleton]
              rw[List.getD_eq_getElem?_getD,List.getElem?_eq_getElem (show i<ps.length by omega)];rfl
            · show(s0.ids++ [_]).Nodup
              rw[List.nodup_append]
              refine⟨I.nodup,by simp,fun a ha b hb e=> ?_⟩
              rw[List.mem_singleton.1 hb]at e
              exact h2 (e▸ha)
            · show _=s0.places++ [_]
              rw[List.map_append,I.pos]
              congr 1
              unfold entB
              split <;> rfl
            · show(s0.places++ [_]).Pairwise _
              rw[List.pairwise_append]
              exact⟨I.asc,by simp,fun a ha b hb=>by rw[List.mem_singleton.1 hb];exact I.top a ha⟩
            · intro p hp
              rw[hbn,List.length_append]
              rcases List.mem_append.1 (show p∈s0.places++ [_]from hp)with hp | hp
              · have:=I.top p hp;omega
              · rw[List.mem_singleton.1 hp];omega
            · intro X fin hf
              rw[hbn,List.length_append]at hf ⊢
              rw[List.append_assoc,F5 (I.ent (DN ps i s0++X) fin (by omega)),LX hL (by omega) I.ok hbase X fin hf]
              rfl
            · intro j hj hjb
              by_cases e:j=i
              · subst e
                rw[Fu _ _ _ I.len]
                have he:entB ps j s0=⟨s0.b.length,false,List.replicate 32 0,(ps.getD j dPt).bytes⟩:=if_pos hjb
                rw[he]
                refine⟨rfl,rfl,?_⟩
                show(s0.depths++ [_]).getD j 0=0
                rw[Fu _ _ _ hd]
                exact if_pos hjb
              · rw[Ds _ _ _ (by rw[I.len];omega)]
                have:=I.flat j (by omega) hjb
                refine⟨this.1,this.2.1,?_⟩
                show(s0.depths++ [_]).getD j 0=0
                rw[Ds _ _ _ (by omega)]
                exact this.2.2
            · intro j hj hjb
              have f:∀k,k<i→(bnext ps (ps.getD i dPt) s0).ids.getD k []=s0.ids.getD k []:=fun k hk=>Ds _ _ _ (by omega)
              have c:∀k,k<i→(bnext ps (ps.getD i dPt) s0).depths.getD k 0=s0.depths.getD k 0:=fun k hk=>Ds _ _ _ (by omega)
              by_cases e:j=i
              · subst e
                rw[Fu _ _ _ I.len]
                have he:entB ps j s0=⟨s0.b.length,true,s0.ids.getD (ps.getD j dPt).base.toNat [],Bv (ps.getD (ps.getD j dPt).base.toNat dPt).bytes (ps.getD j dPt).bytes⟩:=if_neg hjb
                rw[he]
                have hlt:(ps.getD j dPt).base.toNat<j:=by omega
                refine⟨hlt,rfl,(f _ hlt).symm,rfl,?_⟩
                rw[c _ hlt]
                show(s0.depths++ [_]).getD j 0=_
                rw[Fu _ _ _ hd]
                exact if_neg hjb
              · rw[Ds _ _ _ (by rw[I.len];omega)]
                have:=I.upon j (by omega) hjb
                have hlt:=this.1
                refine⟨hlt,this.2.1,?_,this.2.2.2.1,?_⟩
                · rw[f _ (by omega)];exact this.2.2.1
                · rw[c _ (by omega),c _ (by omega)];exact this.2.2.2.2
open Go.RowKit
theorem Dw{α β:Type}[BEq α][LawfulBEq α]:∀(l:List α) (m:List β) (j:Nat) (x:α) (y:β),l.Nodup→l[j]? =some x→m[j]? =some y→(l.zip m).lookup x=some y
  | [],_,_,_,_,_,h,_=>by simp at h
  | _ :: _,[],_,_,_,_,_,h=>by simp at h
  | a :: l,b :: m,0,x,y,_,h1,h2=>by
    simp only[List.getElem?_cons_zero,Option.some.injEq]at h1 h2
    rw[h1,h2,List.zip_cons_cons,List.lookup_cons];simp
  | a :: l,b :: m,j+1,x,y,hn,h1,h2=>by
    simp only[List.getElem?_cons_succ]at h1 h2
    have hn' :=List.nodup_cons.1 hn
    have:(x==a)=false:=by
      simp only[beq_eq_false_iff_ne]
      intro e
      exact hn'.1 (e▸List.mem_of_getElem? h1)
    rw[List.zip_cons_cons,List.lookup_cons,this]
    exact Dw l m j x y hn'.2 h1 h2
theorem FQ{α β γ:Type}[BEq α](f:β→γ)(x:α):∀(l:List α) (m:List β),(l.zip (m.map f)).lookup x=((l.zip m).lookup x).map f
  | [],_=>by simp
  | _ :: _,[]=>by simp
  | a :: l,b :: m=>by
    rw[List.map_cons,List.zip_cons_cons,List.zip_cons_cons,List.lookup_cons,List.lookup_cons,FQ f x l m]
    split <;> rfl
def Gc(s:BS)(es:List Ent)(id:Bs):Option Ent:=(s.ids.zip es).lookup id
theorem Dl{α:Type}{l:List α}{i:Nat}(d:α)(h:i<l.length):l[i]? =some (l.getD i d):=by
  rw[List.getD_eq_getElem?_getD,List.getElem?_eq_getElem h];rfl
section
variable {ps : List Pt} {n : Nat} {s : BS} {es : List Ent}
theorem BInv.at_(I:BInv ps n s es){j:Nat}(hj:j<n):Gc s es (s.ids.getD j [])=some (es.getD j dEnt.1):=
  Dw _ _ j _ _ I.nodup (Dl [] (by rw[I.ok.ids];exact hj)) (Dl _ (by rw[I.len];exact hj))
theorem BInv.place(I:BInv ps n s es)(id:Bs):Bo s id=(Gc s es id).map Ent.pos:=by
  unfold Bo Gc
  rw[←I.pos,FQ]
theorem BInv.ix(I:BInv ps n s es){id:Bs}(h:id∈s.ids):∃j,j<n∧s.ids.getD j []=id:=by
  obtain⟨j,hj,e⟩:=List.getElem_of_mem h
  refine⟨j,by rw[I.ok.ids]at hj;exact hj,?_⟩
  rw[List.getD_eq_getElem?_getD,List.getElem?_eq_getElem hj]
  exact e
theorem BInv.miss(I:BInv ps n s es){id:Bs}(h:id∉s.ids):Gc s es id=none:=C8 _ _ _ h
theorem BInv.posj(I:BInv ps n s es){j:Nat}(hj:j<n):s.places.getD j 0=(es.getD j dEnt.1).pos:=by
  rw[←I.pos,List.getD_eq_getElem?_getD,List.getElem?_map,Dl dEnt.1 (by rw[I.len];exact hj)];rfl
theorem BInv.lt(I:BInv ps n s es){i j:Nat}(hi:i<j)(hj:j<n):(es.getD i dEnt.1).pos<(es.getD j dEnt.1).pos:=by
  rw[←I.posj (by omega),←I.posj hj]
  have h1:i<s.places.length:=by rw[I.ok.places];omega
  have h2:j<s.places.length:=by rw[I.ok.places];omega
  have:=List.pairwise_iff_getElem.1 I.asc i j h1 h2 hi
  rw[List.getD_eq_getElem?_getD,List.getElem?_eq_getElem h1,List.getD_eq_getElem?_getD,List.getElem?_eq_getElem h2]
  exact this
theorem BInv.inj(I:BInv ps n s es){i j:Nat}(hi:i<n)(hj:j<n)(h:(es.getD i dEnt.1).pos=(es.getD j dEnt.1).pos):i=j:=by
  rcases Nat.lt_trichotomy i j with h1 | h1 | h1
  · have:=I.lt h1 hj;omega
  · exact h1
  · have:=I.lt h1 hi;omega
theorem BInv.placeGo(I:BInv ps n s es):∀(i j:Nat),j<i→i≤n→DB Ent.pos dEnt.1 es i (es.getD j dEnt.1).pos=some (es.getD j dEnt.1)
  | 0,_,h,_=>by omega
  | i+1,j,h,hi=>by
    show updM (Go.Proofs.YtcegdjpdnlaleaaDoor.DB Ent.pos dEnt.1 es i) _ _ _=_
    unfold updM
    by_cases e:j=i
    · subst e;rw[if_pos rfl]
    · rw[if_neg (fun q=>e (I.inj (by omega) (by omega) q))]
      exact I.placeGo i j (by omega) (by omega)
end
def Hw(s:BS)(id:Bs):Bs:=id++AI ((Bo s id).getD 0)
def CN(s:BS):Bs:=(Az s.ids).flatMap (Hw s)
theorem GQ{α:Type}(g:α→Bs)(k:Nat):∀(l:List α) (i:Nat),(∀x∈l,(g x).length=k)→(l.flatMap g).drop (k*i)=(l.drop i).flatMap g
  | [],i,_=>by simp
  | a :: l,0,_=>by simp
  | a :: l,i+1,h=>by
    rw[List.flatMap_cons,List.drop_succ_cons,show k*(i+1)=(g a).length+k*i by rw[h a (by simp),Nat.mul_succ,Nat.add_comm],Gb]
    exact GQ g k l i fun x hx=>h x (by simp[hx])
theorem IV{α:Type}{l:List α}{i:Nat}(d:α)(h:i<l.length):l.drop i=l.getD i d :: l.drop (i+1):=by
  rw[List.drop_eq_getElem_cons h,List.getD_eq_getElem?_getD,List.getElem?_eq_getElem h];rfl
section
variable {ps : List Pt} {n : Nat} {s : BS} {es : List Ent}
theorem BInv.sortlen(I:BInv ps n s es):(Az s.ids).length=n:=by rw[BQ,I.ok.ids]
theorem BInv.sortnd(I:BInv ps n s es):(Az s.ids).Nodup:=(sortB_perm s.ids).nodup_iff.2 I.nodup
theorem DO{l:List Bs}{x:Bs}:x∈Az l↔x∈l:=(sortB_perm l).mem_iff
theorem BInv.row(I:BInv ps n s es){i:Nat}(hi:i<n):(CN s).drop (36*i)=Hw s ((Az s.ids).getD i [])++((Az s.ids).drop (i+1)).flatMap (Hw s):=by
  unfold CN
  rw[GQ (Hw s) 36 _ i (fun x hx=>by unfold Hw;rw[List.length_append,C7,I.ok.len x (DO.1 hx)]),IV [] (by rw[I.sortlen];exact hi),List.flatMap_cons]
theorem BInv.sorted_mem(I:BInv ps n s es){i:Nat}(hi:i<n):(Az s.ids).getD i []∈s.ids:=DO.1 (A6 [] (by rw[I.sortlen];exact hi))
theorem BInv.rowId(I:BInv ps n s es){i:Nat}(hi:i<n):Bi (CN s) i=(Az s.ids).getD i []:=by
  unfold Go.Proofs.YtcegdjpdnlaleaaDoor.Bi
  have h32:=I.ok.len _ (I.sorted_mem hi)
  rw[I.row hi]
  unfold Hw
  rw[List.append_assoc,←h32,List.take_left]
theorem BInv.rowAt(hL:Co ps)(hn:n≤ps.length)(I:BInv ps n s es){i:Nat}(hi:i<n):De (CN s) i=(Bo s ((Az s.ids).getD i [])).getD 0:=by
  unfold Go.Proofs.YtcegdjpdnlaleaaDoor.De
  have hm:=I.sorted_mem hi
  have h32:=I.ok.len _ hm
  rw[I.row hi]
  unfold Hw
  rw[List.append_assoc,←h32,List.drop_left]
  refine F2 _ ?_ _
  obtain⟨j,hj,e⟩:=I.ix hm
  rw[←e,I.place,I.at_ hj,Option.map_some,Option.getD_some,←I.posj hj]
  have h1:=I.ok.pl _ (A6 0 (l:=s.places) (i:=j) (by rw[I.ok.places];exact hj))
  have:=hL.1
  omega
theorem BInv.fresh(I:BInv ps n s es){i:Nat}(hi:i<n):(Az s.ids).getD i []∉(Az s.ids).take i:=by
  intro h
  obtain⟨j,hj,e⟩:=List.getElem_of_mem h
  rw[List.length_take,I.sortlen]at hj
  have hlen:=I.sortlen
  have:=List.pairwise_iff_getElem.1 I.sortnd j i (by omega) (by omega) (by omega)
  apply this
  rw[List.getElem_take]at e
  rw[e,List.getD_eq_getElem?_getD,List.getElem?_eq_getElem (by omega)]
  rfl
theorem BInv.index(hL:Co ps)(hn:n≤ps.length)(I:BInv ps n s es):∀i,i≤n→∃S,Dh Ent.pos dEnt.1 (CN s) es i=some S∧S.ids=(Az s.ids).take i∧(∀id∈s.ids,id∉(Az s.ids).take i→S.G ((Bo s id).getD 0)=Gc s es id)∧∀id,S.M id=if id∈(Az s.ids).take i then Gc s es id else none
  | 0,_=>by
    refine⟨_,rfl,rfl,fun id hid _=> ?_,fun id=>by simp⟩
    obtain⟨j,hj,rfl⟩:=I.ix hid
    rw[I.place,I.at_ hj,Option.map_some,Option.getD_some,I.len]
    exact I.placeGo n j hj (Nat.le_refl _)
  | i+1,hi=>by
    obtain⟨S,h1,h2,h3,h4⟩:=I.index hL hn i (by omega)
    have hlen:=I.sortlen
    have hx:=I.sorted_mem (show i<n by omega)
    have hf:=I.fresh (show i<n by omega)
    obtain⟨j,hj,e⟩:=I.ix hx
    have hc:Gc s es ((Az s.ids).getD i [])=some (es.getD j dEnt.1):=by rw[←e];exact I.at_ hj
    have ht:(Az s.ids).take (i+1)=(Az s.ids).take i++ [(Az s.ids).getD i []]:=by
      rw[List.take_succ_eq_append_getElem (by omega),List.getD_eq_getElem?_getD,List.getElem?_eq_getElem (show i<(Az s.ids).length by omega)];rfl
    have hG:S.G (Go.Proofs.YtcegdjpdnlaleaaDoor.De (CN s) i)=some (es.getD j dEnt.1):=by
      rw[I.rowAt hL hn (by omega),h3 _ hx hf,hc]
    have ho:i=0∨Lib.compareBytes (S.ids.getD (i-1) []) (Go.Proofs.YtcegdjpdnlaleaaDoor.Bi (CN s) i)<0:=by
      rcases Nat.eq_zero_or_pos i with h0 | h0
      · exact .inl h0
      · refine .inr ?_
        rw[I.rowId (by omega),h2]
        have g1:((Az s.ids).take i).getD (i-1) []=(Az s.ids)[i-1]'(by omega):=by
          rw[List.getD_eq_getElem?_getD,List.getElem?_take,if_pos (by omega),List.getElem?_eq_getElem (by omega)];rfl
        have g2:(Az s.ids).getD i []=(Az s.ids)[i]'(by omega):=by
          rw[List.getD_eq_getElem?_getD,List.getElem?_eq_getElem (by omega)];rfl
        rw[g1,g2]
        have a1:=List.pairwise_iff_getElem.1 (Gu s.ids) (i-1) i (by omega) (by omega) (by omega)
        have a2:=List.pairwise_iff_getElem.1 I.sortnd (i-1) i (by omega) (by omega) (by omega)
        have a3:Lib.compareBytes ((Az s.ids)[i-1]'(by omega)) ((Az s.ids)[i]'(by omega))≠0:=fun q=>a2 (Hl q)
        omega
    refine⟨Dv Ent.pos (CN s) i S (es.getD j dEnt.1),?_,?_,?_,?_⟩
    · rw[EE h1]
      unfold C9
      rw[hG]
      exact if_pos ho
    · show S.ids++ [_]=_
      rw[h2,I.rowId (by omega),ht]
    · intro id hid hni
      rw[ht]at hni
      simp only[List.mem_append,List.mem_singleton,not_or]at hni
      obtain⟨k,hk,rfl⟩:=I.ix hid
      have hne:(Bo s (s.ids.getD k [])).getD 0≠(es.getD j dEnt.1).pos:=by
        rw[I.place,I.at_ hk,Option.map_some,Option.getD_some]
        intro q
        have:=I.inj hk hj q
        subst this
        exact hni.2 e
      show updM S.G _ none _=_
      unfold updM
      rw[if_neg hne]
      exact h3 _ hid hni.1
    · intro id
      show updM S.M _ _ _=_
      unfold updM
      rw[I.rowId (by omega),ht,h4]
      by_cases q:id=(Az s.ids).getD i []
      · rw[if_pos q,if_pos (by rw[q];simp),q,hc]
      · rw[if_neg q]
        by_cases q2:id∈(Az s.ids).take i
        · rw[if_pos q2,if_pos (by simp[q2])]
        · rw[if_neg q2,if_neg (by simp only[List.mem_append,List.mem_singleton,not_or];exact⟨q2,q⟩)]
def Hx(s:BS)(es:List Ent)(k:Bs):Ent:=(Gc s es k).getD dEnt.1
theorem BInv.E(I:BInv ps n s es){j:Nat}(hj:j<n):Hx s es (s.ids.getD j [])=es.getD j dEnt.1:=by unfold Hx;rw[I.at_ hj];rfl
theorem BInv.depth(I:BInv ps n s es):∀(m j:Nat),j<n→s.depths.getD j 0≤m→Bp (Hx s es) m (es.getD j dEnt.1)=some (s.depths.getD j 0)
  | m,j,hj,hm=>by
    by_cases hb:(ps.getD j dPt).base<0
    · have:=I.flat j hj hb
      rw[DJ this.1,this.2.2]
    · obtain⟨h1,h2,h3,h4,h5⟩:=I.upon j hj hb
      cases m with
      | zero=>omega
      | succ m=>
        rw[Di h2,h3,I.E (by omega),I.depth m _ (by omega) (by omega),h5]
        rfl
theorem BInv.chain(hL:Co ps)(hn:n≤ps.length)(I:BInv ps n s es):∀(m j:Nat),j<n→s.depths.getD j 0=m→BP (Hx s es) (m+1) (s.ids.getD j [])=some ((ps.getD j dPt).bytes,m)
  | m,j,hj,hm=>by
    have hp:=hL.2 _ (A6 dPt (l:=ps) (i:=j) (by omega))
    by_cases hb:(ps.getD j dPt).base<0
    · obtain⟨h1,h2,h3⟩:=I.flat j hj hb
      rw[Fb (by rw[I.E hj];exact h1),I.E hj,h2,if_pos (by omega)]
      rw[h3]at hm
      rw[hm]
    · obtain⟨h1,h2,h3,h4,h5⟩:=I.upon j hj hb
      have hq:=hL.2 _ (A6 dPt (l:=ps) (i:=(ps.getD j dPt).base.toNat) (by omega))
      cases m with
      | zero=>omega
      | succ m=>
        rw[EH (by rw[I.E hj];exact h2),I.E hj,h3,I.chain hL hn m _ (by omega) (by omega),h4]
        show(if _ then(if _ then some (_,m+1)else none)else none)=_
        dsimp only
        rw[LF _ _ (by omega) (by omega),if_pos rfl,if_pos (by dsimp only;omega)]
def Iq(ps:List Pt)(s:BS)(id:Bs):Option (Bs × Nat):=(s.ids.zip ((ps.map Pt.bytes).zip s.depths)).lookup id
theorem BInv.obj(hL:Co ps)(hn:n=ps.length)(I:BInv ps n s es){j:Nat}(hj:j<n):Iq ps s (s.ids.getD j [])=some ((ps.getD j dPt).bytes,s.depths.getD j 0):=
  Dw _ _ j _ _ I.nodup (Dl [] (by rw[I.ok.ids];exact hj)) (by
    rw[List.getElem?_zip_eq_some]
    dsimp only
    exact⟨by rw[List.getElem?_map,Dl dPt (by omega)];rfl,Dl 0 (by rw[I.ok.depths];exact hj)⟩)
theorem BInv.sum(hn:n≤ps.length)(I:BInv ps n s es){j:Nat}(hj:j<n):Sha.sum (ps.getD j dPt).bytes=s.ids.getD j []:=by
  have:s.ids[j]? =some (Sha.sum (ps.getD j dPt).bytes):=by
    rw[I.ids,List.getElem?_map,List.getElem?_take,if_pos hj,Dl dPt (by omega)];rfl
  rw[show s.ids.getD j []=(s.ids[j]?).getD []from List.getD_eq_getElem?_getD,this];rfl
theorem BInv.objs(hL:Co ps)(hn:n=ps.length)(I:BInv ps n s es):∀i,i≤n→∃o,D8 (Hx s es) (Az s.ids) i = .ok o∧o.total≤200*i∧∀id,o.O id=if id∈(Az s.ids).take i then Iq ps s id else none
  | 0,_=>⟨_,rfl,Nat.le_refl _,fun id=>by simp⟩
  | i+1,hi=>by
    obtain⟨o,h1,h2,h3⟩:=I.objs hL hn i (by omega)
    have hlen:=I.sortlen
    have hx:=I.sorted_mem (show i<n by omega)
    obtain⟨j,hj,e⟩:=I.ix hx
    have hp:=hL.2 _ (A6 dPt (l:=ps) (i:=j) (by omega))
    have h60:=hL.1
    have hd:=I.ok.dp _ (A6 0 (l:=s.depths) (i:=j) (by rw[I.ok.depths];exact hj))
    have ht:(Az s.ids).take (i+1)=(Az s.ids).take i++ [(Az s.ids).getD i []]:=by
      rw[List.take_succ_eq_append_getElem (by omega),List.getD_eq_getElem?_getD,List.getElem?_eq_getElem (show i<(Az s.ids).length by omega)];rfl
    have g:DC (Hx s es) ((Az s.ids).getD i []) o = .ok ⟨o.total+(ps.getD j dPt).bytes.length,updM o.O ((Az s.ids).getD i []) (some ((ps.getD j dPt).bytes,s.depths.getD j 0))⟩:=by
      rw[←e,EQ (by rw[I.E hj];exact I.depth 50 j hj hd) (I.chain hL (by omega) _ j hj rfl),if_pos (I.sum (by omega) hj),if_pos (by omega)]
    refine⟨_,by rw[Ga h1];exact g,by dsimp only;omega,fun id=> ?_⟩
    dsimp only
    unfold updM
    rw[ht,h3]
    by_cases q:id=(Az s.ids).getD i []
    · rw[if_pos q,if_pos (by rw[q];simp),q,←e,I.obj hL hn hj]
    · rw[if_neg q]
      by_cases q2:id∈(Az s.ids).take i
      · rw[if_pos q2,if_pos (by simp[q2])]
      · rw[if_neg q2,if_neg (by simp only[List.mem_append,List.mem_singleton,not_or];exact⟨q2,q⟩)]
theorem countP_perm{l m:List Bs}(h:l.Perm m)(p:Bs→Bool):l.countP p=m.countP p:=h.countP_eq p
theorem fanL_sort(l:List Bs):AY (Az l)=AY l:=by
  unfold AY
  congr 1
  funext c
  exact countP_perm (sortB_perm l) _
theorem flat4_drop(l:List Nat)(X:Bs)(i:Nat)(hi:i<l.length)(hv:∀x∈l,x<2^32):DD ((l.flatMap AI++X).drop (4*i))=l.getD i 0:=by
  have hl:=Fl l
  rw[List.drop_append,GQ AI 4 l i (fun _ _=>rfl),IV 0 hi,List.flatMap_cons,List.append_assoc]
  exact F2 _ (hv _ (A6 0 hi)) _
theorem LY(hL:Co ps)(h:CS ps ps.length = .ok s):Ft (A3 ps).1 = .ok (Az s.ids,Iq ps s):=by
  obtain⟨es,I⟩:=G5 hL ps.length s (Nat.le_refl _) h
  have h60:=hL.1
  have hB:=I.ok.b
  have hbl:=Ex I.ok s.b.length
  have hsl:∀x,(Sha.sum x).length=32:=Sha.sum_length
  have f:(A3 ps).1=s.b++BV s s.b.length++Sha.sum (s.b++BV s s.b.length):=by unfold A3;rw[h]
  have hlen:(A3 ps).1.length=s.b.length+(1028+36*ps.length)+32:=by rw[f,List.length_append,List.length_append,hbl,hsl]
  have hbeh:BV s s.b.length=(AY s.ids).flatMap AI++CN s++AI s.b.length:=rfl
  have hfan:((AY s.ids).flatMap AI).length=1024:=by rw[Fl,BC]
  have hrows:(CN s).length=36*ps.length:=by
    have:=JO (fun id=>(Bo s id).getD 0) (Az s.ids) (fun x hx=>I.ok.len x (DO.1 hx))
    rw[I.sortlen]at this
    exact this
  have huv:=JN (n:=ps.length) (by omega)
  generalize hC:(A3 ps).1=c at f hlen ⊢
  unfold Ft
  rw[if_neg (by omega),if_neg (by omega),if_pos (by
    rw[f,List.length_append,hsl,Nat.add_sub_cancel,List.take_left,List.drop_left])]
  -- the head
  obtain⟨r,hr⟩:∃r,s.b=80 :: Lib.uvarint ps.length++r:=by
    have:∀i t,CS ps i = .ok t→∃r,t.b=80 :: Lib.uvarint ps.length++r:=by
      intro i
      induction i with
      | zero=>intro t ht;cases ht;exact⟨[],by simp⟩
      | succ i ih=>
        intro t ht
        cases hb:CS ps i with
        | error e=>rw[Er hb 1]at ht;cases ht
        | ok t0=>
          obtain⟨r,hr⟩:=ih t0 hb
          rw[Dp hb]at ht
          unfold Em at ht
          split at ht
          · cases ht
          · split at ht
            · cases ht
            · split at ht
              · cases ht
              · cases ht
                exact⟨r++DN ps i t0,by rw[Lh,hr,List.append_assoc]⟩
    exact this _ _ h
  have hd1:c.drop 1=Lib.uvarint ps.length++(r++BV s s.b.length++Sha.sum (s.b++BV s s.b.length)):=by
    rw[f,hr]
    simp only[List.cons_append,List.append_assoc,List.drop_succ_cons,List.drop_zero]
  have h80:c.getD 0 0=80:=by rw[f,hr];rfl
  have hat:DD (c.drop (c.length-36))=s.b.length:=by
    have g:c=(s.b++(AY s.ids).flatMap AI++CN s)++(AI s.b.length++Sha.sum (s.b++BV s s.b.length)):=by rw[f,hbeh];simp only[List.append_assoc]
    have l:c.length-36=(s.b++(AY s.ids).flatMap AI++CN s).length:=by rw[hlen];simp only[List.length_append,hfan,hrows];omega
    rw[l,g,List.drop_left]
    exact F2 _ (by omega) _
  have hfirst:1+(Lib.uvarint ps.length).length≤s.b.length:=by rw[hr];simp only[List.cons_append,List.length_cons,List.length_append];omega
  have hent:Cq c ps.length (1+(Lib.uvarint ps.length).length) s.b.length=some es:=by
    unfold Cq
    rw[f,List.append_assoc,I.ent _ _ (Nat.le_refl _)]
    show(if s.b.length=s.b.length then some es else none)=_
    rw[if_pos rfl]
  obtain⟨S,g1,g2,g3,g4⟩:=I.index hL (Nat.le_refl _) ps.length (Nat.le_refl _)
  have htake:(Az s.ids).take ps.length=Az s.ids:=List.take_of_length_le (by rw[I.sortlen];exact Nat.le_refl _)
  rw[htake]at g2 g4
  have hM:S.M=Gc s es:=by
    funext id
    rw[g4]
    split
    · rfl
    · rename_i q
      exact(I.miss (fun q2=>q (DO.2 q2))).symm
  have hE:H3 S.M=Hx s es:=by rw[hM];rfl
  obtain⟨o,o1,o2,o3⟩:=I.objs hL rfl ps.length (Nat.le_refl _)
  have hO:o.O=Iq ps s:=by
    funext id
    rw[o3,htake]
    split
    · rfl
    · rename_i q
      exact(C8 _ _ _ (fun q2=>q (DO.2 q2))).symm
  have ht:(c.drop (s.b.length+1024)).take (c.length-36-(s.b.length+1024))=CN s:=by
    have g:c=(s.b++(AY s.ids).flatMap AI)++(CN s++(AI s.b.length++Sha.sum (s.b++BV s s.b.length))):=by rw[f,hbeh];simp only[List.append_assoc]
    have l:s.b.length+1024=(s.b++(AY s.ids).flatMap AI).length:=by rw[List.length_append,hfan]
    rw[g,l,List.drop_left,show ∀a:Nat,a-(s.b++(AY s.ids).flatMap AI).length=a-(s.b.length+1024)from fun a=>by rw[l],←g,hlen,show s.b.length+(1028+36*ps.length)+32-36-(s.b.length+1024)=(CN s).length by rw[hrows];omega,List.take_left]
  unfold CM
  rw[hd1,DG _ (by omega)]
  dsimp only
  rw[hat]
  unfold Jm
  rw[if_pos ⟨h80,hfirst,by omega,by omega⟩,if_pos (by omega)]
  unfold H6
  rw[hent]
  show G4 c s.b.length es=_
  unfold G4
  rw[ht,I.len,g1]
  show Jl c s.b.length es S=_
  unfold Jl
  rw[if_pos (fanB_of fun i hi=>by
    rw[g2,fanL_sort,f,hbeh]
    have g:s.b++((AY s.ids).flatMap AI++CN s++AI s.b.length)++Sha.sum (s.b++((AY s.ids).flatMap AI++CN s++AI s.b.length))=s.b++((AY s.ids).flatMap AI++(CN s++(AI s.b.length++Sha.sum (s.b++((AY s.ids).flatMap AI++CN s++AI s.b.length))))):=by simp only[List.append_assoc]
    rw[g,Gb]
    refine flat4_drop _ _ i (by rw[BC];exact hi) fun x hx=> ?_
    obtain⟨k,hk,rfl⟩:=List.getElem_of_mem hx
    have:=G0 s.ids k
    rw[List.getD_eq_getElem?_getD,List.getElem?_eq_getElem hk,I.ok.ids]at this
    have:(AY s.ids)[k]≤ps.length:=this
    omega),if_pos (by
    refine List.all_eq_true.2 fun e he=> ?_
    obtain⟨j,hj,rfl⟩:=List.getElem_of_mem he
    rw[I.len]at hj
    have ej:es[j]=es.getD j dEnt.1:=by rw[List.getD_eq_getElem?_getD,List.getElem?_eq_getElem];rfl
    rw[ej,hM]
    by_cases hb:(ps.getD j dPt).base<0
    · rw[(I.flat j hj hb).1];rfl
    · obtain⟨k1,k2,k3,-⟩:=I.upon j hj hb
      rw[k2,k3,I.at_ (by omega)]
      rfl)]
  rw[hE,g2,J2 (o:=o) (by rw[I.sortlen];exact o1),hO]
end
open Go.RowKit
set_option maxRecDepth 100000
def PackO(w:World)(v:Value):Option Cv→Prop
 | none=>v = .pointer none
 | some p=>PackAt w v p
theorem PackO.keep{w w' :World}{v:Value}:∀ {q:Option Cv},PackO w v q→Ext w w' →PackO w' v q
 | none,h,_=>h
 | some _,h,k=>PackAt.keep h k
def Pi(q:Option Cv):List Bs:=match q with | none=> [] | some p=>p.1
def J7(q:Option Cv):Nat:=(Pi q).length
def BL(q:Option Cv)(id:Bs):(Bs × Nat)× Nat:=
 match q with
 | none=>(([],0),1)
 | some p=>match p.2 id with
  | none=>(([],0),12)
  | some x=>(x,0)
theorem KJ:BK Tryd.prog 74 0 0:=fun b o w=>by simp[go_sem]
theorem Nb:A2 Tryd.prog 41:=fun _ _=>by kernel_rfl
set_option maxHeartbeats 1600000
theorem N3(w:World):
  Calls Tryd.prog 16 #[.pointer none] w fun e w' =>e = .returned (NI (J7 (none:Option Cv)))∧Ext w w' :=by
 refine AA (args:= [.pointer none]) Tryd.func16 rfl 10 rfl (Nat.le_of_ble_eq_true rfl) ?_
 intro a hb
 have b:a 0=(.pointer none:Value):=hb.get 0
 clear hb
 have hE:=Ext.refl w
 refine sk fun h c=>(wt (oA rfl (oZ (tN (c _ _ (sk fun i j=>(sk fun k f=>(wt (oM rfl (oS rfl (Yk.eqlNil EF b (oZ (tN (f _ _ (AE (vr (.bool (true)) rfl) (sk fun l g=>(wt (oA rfl ?_))))))))))))))))))
 refine oZ (tN (g _ _ (As (Am (Ao (fn:=Tryd.f16) _ rfl [NI 0] (NI 0) rfl ⟨rfl,trivial⟩ ?_)))))
 exact⟨rfl,hE⟩

theorem OT(w:World)(g bo:Nat)(vi:Value)(ids:List Bs)(O:Bs→Option Ch)(hg:w.heap[g]? =some (.cells ([vi, .map (some bo)]).toArray 74 (0,0)))(hrg:RG 32 Lib.byteCells w vi ids)(hmo:MapF rk Cl (fun id:List UInt8=>id.length=32) w bo O)(hoo:OOk w O):
  Calls Tryd.prog 16 #[PQ g 0] w fun e w' =>e = .returned (NI (J7 (some (ids,fun k=>(O k).map Prod.fst))))∧Ext w w' :=by
 refine AA (args:= [PQ g 0]) Tryd.func16 rfl 10 rfl (Nat.le_of_ble_eq_true rfl) ?_
 intro b hb
 have a:b 0=(PQ g 0:Value):=hb.get 0
 clear hb
 have hE:=Ext.refl w
 refine sk fun j c=>(wt (oA rfl (oZ (tN (c _ _ (sk fun l f=>(sk fun m h=>(wt (oM rfl (oS rfl (Yk.eqlNil EF a (oZ (tN (h _ _ (Ar (vr (.bool (false)) rfl) (Ah (tN (f _ _ (sk fun n i=> ?_)))))))))))))))))))
 refine wt (oM rfl (oS rfl (Yk.nilCheck a (oS rfl (Yk.fieldAt KJ (vr (PQ g 0) rfl) (oS rfl (Yk.cell1 JD rfl (vr (PQ g 0) rfl) (Ai hg (show _=some (vi:Value)from rfl)) (oS rfl (Yk.lenRG JD (RG.of hrg (vr vi rfl)) (oA rfl (oZ (tN (i _ _ (As (Ao (fn:=Tryd.f16) _ rfl [NI ids.length] (NI ids.length) rfl ⟨rfl,trivial⟩ ?_)))))))))))))))
 exact⟨rfl,hE⟩

theorem N4(w:World)(v:Value)(q:Option Cv)(h:PackO w v q):
  Calls Tryd.prog 16 #[v] w fun e w' =>e = .returned (NI (J7 q))∧Ext w w' :=by
 match q,h with
 | none,h=>rw[show v = .pointer none from h];exact N3 w
 | some p,h=>
  obtain⟨g,vi,bo,O,rfl,h2,hg,hrg,hmo,hoo⟩:=h
  obtain⟨ids,P⟩:=p
  subst h2
  exact OT w g bo vi ids O hg hrg hmo hoo

theorem Nc(w:World)(id:Bs)(hid:id.length=32):
  Calls Tryd.prog 41 #[.pointer none,AB id] w fun e w' =>∃x,e = .returned x∧∃(o:Bs × Nat) (s:Value),x = .tuple #[.agg ([s,NI o.2]).toArray,NI (BL (none:Option Cv) id).2]∧o=(BL (none:Option Cv) id).1∧RB w' s o.1∧Ext w w' :=by
 refine AA (args:= [.pointer none,AB id]) Tryd.func41 rfl 24 rfl (Nat.le_of_ble_eq_true rfl) ?_
 intro h hb
 have n:h 0=(.pointer none:Value):=hb.get 0
 have p:h 1=(AB id:Value):=hb.get 1
 clear hb
 have hE:=Ext.refl w
 refine sk fun K1 q=>(wt (oS rfl (Yk.box (cs:=(Lib.byteCells id:List Value).toArray) p fun r i ad j t ae=> ?_)))
 have hE:=hE.trans t
 have a:=j;clear j
 have af:r<i.heap.size:=by omega
 refine oS rfl (Yk.alloc (cs:=([(Value.slice none 0 0),NI 0]).toArray) DL fun k u y l f ag=> ?_)
 have c:=Ext.refl i
 have ah:=hE
 have z:=hE.size
 have ai:=AT (bl a) y
 have hE:=hE.trans f
 have a:=eb f a
 have c:=c.trans f
 have b:=l;clear l
 have aj:k<u.heap.size:=by omega
 refine oA rfl (oZ (tN (q _ _ (sk fun ak al=>(sk fun am aa=>(wt (oM rfl (oS rfl (Yk.eqlNil EF n (oZ (tN (aa _ _ (AE (vr (.bool (true)) rfl) (sk fun an ab=>(wt (oS rfl (Yk.run (v:= .agg ([(Value.slice none 0 0),NI 0]).toArray) (by kernel_rfl) (oS rfl (Yk.storeAll (vr (PQ k 0) rfl) (vr (.agg ([(Value.slice none 0 0),NI 0]).toArray) rfl) b rfl (show(Tryd.prog.info? 81).map (·.size)=some 2 from BE) (Ck rfl) fun ao m g ap=> ?_)))))))))))))))))))
 have hE:=Ac hE g (Nat.le_trans z (by omega))
 have a:=kb g a (by omega)
 have c:=Ac c g (Nat.le_trans (Nat.le_refl _) (by omega))
 clear b
 have b:=m;clear m
 have aq:=bl b
 refine oA rfl (oZ (tN (ab _ _ (As (Am (Ao (fn:=Tryd.f41) _ rfl [.agg ([(Value.slice none 0 0),NI 0]).toArray,NI 1] (.tuple #[.agg ([(Value.slice none 0 0),NI 0]).toArray,NI 1]) rfl ⟨ResF.row rfl b (Dk).choose_spec rfl ((show(Tryd.prog.info? 81).map (·.size)=some 2 from BE)),rfl,trivial⟩ ?_))))))
 exact⟨_,rfl,([],0),_,rfl,rfl,RB.nil _,hE⟩

theorem N5(w:World)(g bo:Nat)(vi:Value)(ids:List Bs)(O:Bs→Option Ch)(hg:w.heap[g]? =some (.cells ([vi, .map (some bo)]).toArray 74 (0,0)))(hrg:RG 32 Lib.byteCells w vi ids)(hmo:MapF rk Cl (fun id:List UInt8=>id.length=32) w bo O)(hoo:OOk w O)(id:Bs)(hid:id.length=32):
  Calls Tryd.prog 41 #[PQ g 0,AB id] w fun e w' =>∃x,e = .returned x∧∃(o:Bs × Nat) (s:Value),x = .tuple #[.agg ([s,NI o.2]).toArray,NI (BL (some (ids,fun k=>(O k).map Prod.fst)) id).2]∧o=(BL (some (ids,fun k=>(O k).map Prod.fst)) id).1∧RB w' s o.1∧Ext w w' :=by
 refine AA (args:= [PQ g 0,AB id]) Tryd.func41 rfl 24 rfl (Nat.le_of_ble_eq_true rfl) ?_
 intro aw hb
 have i:aw 0=(PQ g 0:Value):=hb.get 0
 have r:aw 1=(AB id:Value):=hb.get 1
 clear hb
 have hE:=Ext.refl w
 refine sk fun K1 a8=>(wt (oS rfl (Yk.box (cs:=(Lib.byteCells id:List Value).toArray) r fun j w3 ay az ad bv=> ?_)))
 have bw:=AT (bl hg) ay
 have bx:=AT hmo.lt ay
 have hg:=eb ad hg
 have hmo:=hmo.keep ad
 have hE:=hE.trans ad
 have c:=az;clear az
 have bz:j<w3.heap.size:=by omega
 refine oS rfl (Yk.alloc (cs:=([(Value.slice none 0 0),NI 0]).toArray) DL fun t a ae a0 u b0=> ?_)
 have f:=Ext.refl w3
 have b1:=hE
 have a1:=hE.size
 have b2:=AT (bl hg) ae
 have b3:=AT hmo.lt ae
 have b4:=AT (bl c) ae
 have hg:=eb u hg
 have hmo:=hmo.keep u
 have hE:=hE.trans u
 have c:=eb u c
 have f:=f.trans u
 have b:=a0;clear a0
 have b5:t<a.heap.size:=by omega
 refine oA rfl (oZ (tN (a8 _ _ (sk fun b6 a2=>(sk fun b7 a3=>(wt (oM rfl (oS rfl (Yk.eqlNil EF i (oZ ?_))))))))))
 rcases hO:O id with _ | x
 ·have hQ:BL (some (ids,fun k=>(O k).map Prod.fst)) id=(([],0),12):=by show(match (O id).map Prod.fst with | none=>_ | some x=>_)=_;rw[hO];rfl
  refine tN (a3 _ _ (Ar (vr (.bool (false)) rfl) (Ah (tN (a2 _ _ (sk fun b8 a9=> ?_))))))
  have af:=Ext.refl a
  have b9:=hE
  have ca:=f
  have cb:=hE.size
  have cc:=f.size
  have cd:g<a.heap.size:=(bl hg)
  have ce:bo<a.heap.size:=hmo.lt
  have cf:j<a.heap.size:=(bl c)
  have cg:t<a.heap.size:=(bl b)
  refine DI 9 10 11 81 ([(Value.slice none 0 0),NI 0]).toArray ([(Value.slice none 0 0),NI 0]).toArray [Is (PQ g 0),Is (PQ g 0),Is (PQ g 1),Is (.map (some bo)),Is (AB id),Is (.tuple #[.agg ([(Value.slice none 0 0),NI 0]).toArray, .bool (false)]),Is (.tuple #[.agg ([(Value.slice none 0 0),NI 0]).toArray, .bool (false)]),Is (.agg ([(Value.slice none 0 0),NI 0]).toArray),Is (.bool (false)),fun x w' =>x=PQ a.heap.size 0∧a.heap.size<w'.heap.size,(fun _ _=>True)] (by kernel_rfl) [12,13,14,15,16,17,11,18,19,6,7] (by kernel_rfl) (by kernel_rfl) (by kernel_rfl) (by kernel_rfl) rfl rfl (by kernel_rfl) rfl rfl rfl rfl rfl (FF ⟨(fun _ _ _ h k=>k.elim (fun e=>e▸h) (fun e=>⟨h.1,e⟩)),Stab.any,trivial⟩) ?ba ?hQ1003
  case ba=>
   refine⟨?_,?_,?_,?_,?_,?_,?_,?_,?_,?_,?_,?_,trivial⟩
   ·refine An (Aa rfl fun σ w1 hC h=> ?_)
    have hC:Ext a w1:=hC
    have e0:=(Ab (h 0 (by decide))).trans i
    exact Yk.move e0 ⟨rfl,rfl⟩
   ·refine An (Aa rfl fun σ w1 hC h=> ?_)
    have hC:Ext a w1:=hC
    have ah:=Ab (h 12 (by decide))
    exact Yk.nilCheck ah ⟨rfl,rfl⟩
   ·refine An (Aa rfl fun σ w1 hC h=> ?_)
    have hC:Ext a w1:=hC
    have ai:=Ab (h 13 (by decide))
    exact Yk.fieldAt KG ai ⟨rfl,rfl⟩
   ·refine An (Aa rfl fun σ w1 hC h=> ?_)
    have hC:Ext a w1:=hC
    have aj:=Ab (h 14 (by decide))
    exact Yk.cell1 CT rfl aj (Ai (eb hC hg) (show _=some (.map (some bo):Value)from rfl)) ⟨rfl,rfl⟩
   ·refine An (Aa rfl fun σ w1 hC h=> ?_)
    have hC:Ext a w1:=hC
    have e3:σ 3=PQ j 0:=(Ab (h 3 (by decide))).trans rfl
    exact Yk.loadAll e3 (eb hC c) Ow rfl (by exact AM hid) ⟨rfl,rfl⟩
   ·refine An (Aa rfl fun σ w1 hC h=> ?_)
    have hC:Ext a w1:=hC
    have al:=Ab (h 15 (by decide))
    have am:=Ab (h 16 (by decide))
    exact Yk.lookOkN (ek:=rk) (ev:=Cl) (D:=(fun id:List UInt8=>id.length=32)) Cf Cg (fun _ _=>Cc) CT (z:=Cl In) FO al am (hmo.keep hC) hid hO ⟨rfl,rfl⟩
   ·refine An (Aa rfl fun σ w1 hC h=> ?_)
    have hC:Ext a w1:=hC
    have an:=Ab (h 17 (by decide))
    exact Yk.move an ⟨rfl,rfl⟩
   ·refine An (Aa rfl fun σ w1 hC h=> ?_)
    have hC:Ext a w1:=hC
    have l:=Ab (h 11 (by decide))
    exact Yk.extract (vs:= [.agg ([(Value.slice none 0 0),NI 0]).toArray, .bool (false)]) l (show _=some (.agg ([(Value.slice none 0 0),NI 0]).toArray:Value)from rfl) ⟨rfl,rfl⟩
   ·refine An (Aa rfl fun σ w1 hC h=> ?_)
    have hC:Ext a w1:=hC
    have l:=Ab (h 11 (by decide))
    exact Yk.extract (vs:= [.agg ([(Value.slice none 0 0),NI 0]).toArray, .bool (false)]) l (show _=some (.bool (false):Value)from rfl) ⟨rfl,rfl⟩
   ·refine An (Aa rfl fun σ w1 hC h=> ?_)
    have hC:w1=World.drew a:=hC
    subst hC
    exact Yk.allocX DL ⟨rfl,rfl,by simp⟩
   ·refine An (Aa rfl fun σ w1 hC h=> ?_)
    have y:(fun x w' =>x=PQ a.heap.size 0∧a.heap.size<w'.heap.size) (σ 6) w1:=h 6 (by decide)
    have ao:=Ab (h 18 (by decide))
    rcases(show w1=World.drew a∨w1=(World.drew a).alloc (.cells ([(Value.slice none 0 0),NI 0]).toArray 81)from hC)with hC | hC
    ·subst hC;exact absurd y.2 (Nat.lt_irrefl _)
    ·subst hC
     exact Yk.storeAll y.1 ao (heap_alloc_new _ _) rfl (show(Tryd.prog.info? 81).map (·.size)=some 2 from BE) (Ck rfl) fun w2 h1 h2 h3=>⟨⟨h1,Ac ((Below.refl _ _).drew.alloc (Nat.le_refl _) _) h2 (Nat.le_refl _),by rw[h3];simp⟩,trivial⟩
   ·exact trivial
  intro ap a4 m aq bc he hf
  obtain⟨-,-,-,-,-,-,-,-,k19,k6,-⟩:=hf
  obtain⟨i,r,T3,T4,T5,T9,-⟩:=he.hold [(0,_),(1,_),(3,PQ j 0),(4,PQ t 0),(5,NI 0),(9, .bool (false))] ⟨i,r,rfl,rfl,rfl,rfl,trivial⟩ rfl
  clear he
  have hg:=eb m hg
  have hmo:=hmo.keep m
  have hE:=hE.trans m
  have c:=eb m c
  have f:=f.trans m
  have b:=eb m b
  have af:=af.trans m
  obtain⟨bg,bh⟩:∃g,a.heap.size=g:=⟨_,rfl⟩
  have T6:ap 6=_:=(show(fun x w' =>x=PQ a.heap.size 0∧a.heap.size<w'.heap.size) (ap 6) a4 from k6).1
  rw[bh]at T6 aq bc;clear k6
  have ch:bg<a4.heap.size:=by omega
  have ar:ap 19 = .bool (false):=k19
  clear k19
  refine oA rfl (oZ (tN (a9 _ _ (sk fun ci cj=>(sk fun ck bi=>(wt (oM rfl (oS rfl (Yk.notB ar (oZ (tN (bi _ _ (AE (vr (.bool (true)) rfl) (sk fun cl bj=>(wt (oS rfl (Yk.run (v:= .agg ([(Value.slice none 0 0),NI 0]).toArray) (by kernel_rfl) (oS rfl (Yk.storeAll T4 (vr (.agg ([(Value.slice none 0 0),NI 0]).toArray) rfl) b rfl (show(Tryd.prog.info? 81).map (·.size)=some 2 from BE) (Ck rfl) fun cm a5 p cn=> ?_)))))))))))))))))))
  have hg:=kb p hg (by omega)
  have hmo:=MapF.other hmo p (AL (by omega))
  have hE:=Ac hE p (Nat.le_trans a1 (by omega))
  have c:=kb p c (by omega)
  have f:=Ac f p (Nat.le_trans (Nat.le_refl _) (by omega))
  clear b
  clear af
  have aq:=kb p aq (by omega)
  have b:=a5;clear a5
  have co:=bl b
  refine oA rfl (oZ (tN (bj _ _ (As (Am (Ao (fn:=Tryd.f41) _ rfl [.agg ([(Value.slice none 0 0),NI 0]).toArray,NI 12] (.tuple #[.agg ([(Value.slice none 0 0),NI 0]).toArray,NI 12]) rfl ⟨ResF.row T4 b (Dk).choose_spec rfl ((show(Tryd.prog.info? 81).map (·.size)=some 2 from BE)),rfl,trivial⟩ ?_))))))
  exact⟨_,rfl,([],0),_,by rw[hQ],by rw[hQ],RB.nil _,hE⟩
 have hQ:BL (some (ids,fun k=>(O k).map Prod.fst)) id=(x.1,0):=by show(match (O id).map Prod.fst with | none=>_ | some x=>_)=_;rw[hO];rfl
 have hxr:=hoo id x hO
 refine tN (a3 _ _ (Ar (vr (.bool (false)) rfl) (Ah (tN (a2 _ _ (sk fun cp bk=> ?_))))))
 have au:=Ext.refl a
 have cq:=hE
 have cr:=f
 have ct:=hE.size
 have cu:=f.size
 have cv:g<a.heap.size:=(bl hg)
 have cw:bo<a.heap.size:=hmo.lt
 have cx:j<a.heap.size:=(bl c)
 have cy:t<a.heap.size:=(bl b)
 refine DI 9 10 11 81 ([(Value.slice none 0 0),NI 0]).toArray ([x.2,NI x.1.2]).toArray [Is (PQ g 0),Is (PQ g 0),Is (PQ g 1),Is (.map (some bo)),Is (AB id),Is (.tuple #[.agg ([x.2,NI x.1.2]).toArray, .bool (true)]),Is (.tuple #[.agg ([x.2,NI x.1.2]).toArray, .bool (true)]),Is (.agg ([x.2,NI x.1.2]).toArray),Is (.bool (true)),fun x w' =>x=PQ a.heap.size 0∧a.heap.size<w'.heap.size,(fun _ _=>True)] (by kernel_rfl) [12,13,14,15,16,17,11,18,19,6,7] (by kernel_rfl) (by kernel_rfl) (by kernel_rfl) (by kernel_rfl) rfl rfl (by kernel_rfl) rfl rfl rfl rfl rfl (FF ⟨(fun _ _ _ h k=>k.elim (fun e=>e▸h) (fun e=>⟨h.1,e⟩)),Stab.any,trivial⟩) ?bm ?hQ2003
 case bm=>
  refine⟨?_,?_,?_,?_,?_,?_,?_,?_,?_,?_,?_,?_,trivial⟩
  ·refine An (Aa rfl fun σ w1 hC h=> ?_)
   have hC:Ext a w1:=hC
   have e0:=(Ab (h 0 (by decide))).trans i
   exact Yk.move e0 ⟨rfl,rfl⟩
  ·refine An (Aa rfl fun σ w1 hC h=> ?_)
   have hC:Ext a w1:=hC
   have ah:=Ab (h 12 (by decide))
   exact Yk.nilCheck ah ⟨rfl,rfl⟩
  ·refine An (Aa rfl fun σ w1 hC h=> ?_)
   have hC:Ext a w1:=hC
   have ai:=Ab (h 13 (by decide))
   exact Yk.fieldAt KG ai ⟨rfl,rfl⟩
  ·refine An (Aa rfl fun σ w1 hC h=> ?_)
   have hC:Ext a w1:=hC
   have aj:=Ab (h 14 (by decide))
   exact Yk.cell1 CT rfl aj (Ai (eb hC hg) (show _=some (.map (some bo):Value)from rfl)) ⟨rfl,rfl⟩
  ·refine An (Aa rfl fun σ w1 hC h=> ?_)
   have hC:Ext a w1:=hC
   have e3:σ 3=PQ j 0:=(Ab (h 3 (by decide))).trans rfl
   exact Yk.loadAll e3 (eb hC c) Ow rfl (by exact AM hid) ⟨rfl,rfl⟩
  ·refine An (Aa rfl fun σ w1 hC h=> ?_)
   have hC:Ext a w1:=hC
   have al:=Ab (h 15 (by decide))
   have am:=Ab (h 16 (by decide))
   exact Yk.lookOkS (ek:=rk) (ev:=Cl) (D:=(fun id:List UInt8=>id.length=32)) Cf Cg (fun _ _=>Cc) CT (z:=Cl In) FO al am (hmo.keep hC) hid hO ⟨rfl,rfl⟩
  ·refine An (Aa rfl fun σ w1 hC h=> ?_)
   have hC:Ext a w1:=hC
   have an:=Ab (h 17 (by decide))
   exact Yk.move an ⟨rfl,rfl⟩
  ·refine An (Aa rfl fun σ w1 hC h=> ?_)
   have hC:Ext a w1:=hC
   have l:=Ab (h 11 (by decide))
   exact Yk.extract (vs:= [.agg ([x.2,NI x.1.2]).toArray, .bool (true)]) l (show _=some (.agg ([x.2,NI x.1.2]).toArray:Value)from rfl) ⟨rfl,rfl⟩
  ·refine An (Aa rfl fun σ w1 hC h=> ?_)
   have hC:Ext a w1:=hC
   have l:=Ab (h 11 (by decide))
   exact Yk.extract (vs:= [.agg ([x.2,NI x.1.2]).toArray, .bool (true)]) l (show _=some (.bool (true):Value)from rfl) ⟨rfl,rfl⟩
  ·refine An (Aa rfl fun σ w1 hC h=> ?_)
   have hC:w1=World.drew a:=hC
   subst hC
   exact Yk.allocX DL ⟨rfl,rfl,by simp⟩
  ·refine An (Aa rfl fun σ w1 hC h=> ?_)
   have y:(fun x w' =>x=PQ a.heap.size 0∧a.heap.size<w'.heap.size) (σ 6) w1:=h 6 (by decide)
   have ao:=Ab (h 18 (by decide))
   rcases(show w1=World.drew a∨w1=(World.drew a).alloc (.cells ([(Value.slice none 0 0),NI 0]).toArray 81)from hC)with hC | hC
   ·subst hC;exact absurd y.2 (Nat.lt_irrefl _)
   ·subst hC
    exact Yk.storeAll y.1 ao (heap_alloc_new _ _) rfl (show(Tryd.prog.info? 81).map (·.size)=some 2 from BE) (Ck (RB.one hxr).2) fun w2 h1 h2 h3=>⟨⟨h1,Ac ((Below.refl _ _).drew.alloc (Nat.le_refl _) _) h2 (Nat.le_refl _),by rw[h3];simp⟩,trivial⟩
  ·exact trivial
 intro av a6 n ac bn he hf
 obtain⟨-,-,-,-,-,-,-,-,k19,k6,-⟩:=hf
 obtain⟨i,r,T3,T4,T5,T9,-⟩:=he.hold [(0,_),(1,_),(3,PQ j 0),(4,PQ t 0),(5,NI 0),(9, .bool (false))] ⟨i,r,rfl,rfl,rfl,rfl,trivial⟩ rfl
 clear he
 have hg:=eb n hg
 have hmo:=hmo.keep n
 have hE:=hE.trans n
 have c:=eb n c
 have f:=f.trans n
 have b:=eb n b
 have au:=au.trans n
 obtain⟨bp,bq⟩:∃g,a.heap.size=g:=⟨_,rfl⟩
 have T6:av 6=_:=(show(fun x w' =>x=PQ a.heap.size 0∧a.heap.size<w'.heap.size) (av 6) a6 from k6).1
 rw[bq]at T6 ac bn;clear k6
 have cz:bp<a6.heap.size:=by omega
 have ar:av 19 = .bool (true):=k19
 clear k19
 refine oA rfl (oZ (tN (bk _ _ (sk fun c0 br=>(sk fun c1 bs=>(wt (oM rfl (oS rfl (Yk.notB ar (oZ (tN (bs _ _ (Ar (vr (.bool (false)) rfl) (Ah (tN (br _ _ (sk fun c2 bt=>(wt (oS rfl (Yk.loadAll T6 ac (Dk).choose_spec rfl (show(Tryd.prog.info? 81).map (·.size)=some 2 from BE) ?_))))))))))))))))))))
 refine oS rfl (Yk.storeAll T4 (vr (.agg ([x.2,NI x.1.2]).toArray) rfl) b rfl (show(Tryd.prog.info? 81).map (·.size)=some 2 from BE) (Ck (RB.one (hxr.keep hE)).2) fun c3 a7 q c4=> ?_)
 have hg:=kb q hg (by omega)
 have hmo:=MapF.other hmo q (AL (by omega))
 have hE:=Ac hE q (Nat.le_trans a1 (by omega))
 have c:=kb q c (by omega)
 have f:=Ac f q (Nat.le_trans (Nat.le_refl _) (by omega))
 clear b
 clear au
 have ac:=kb q ac (by omega)
 have b:=a7;clear a7
 have c5:=bl b
 refine oA rfl (oZ (tN (bt _ _ (As (Ao (fn:=Tryd.f41) _ rfl [.agg ([x.2,NI x.1.2]).toArray,NI 0] (.tuple #[.agg ([x.2,NI x.1.2]).toArray,NI 0]) rfl ⟨ResF.row T4 b (Dk).choose_spec rfl ((show(Tryd.prog.info? 81).map (·.size)=some 2 from BE)),rfl,trivial⟩ ?_)))))
 exact⟨_,rfl,x.1,x.2,by rw[hQ],by rw[hQ],(hxr.keep hE),hE⟩

theorem Nd(w:World)(v:Value)(q:Option Cv)(h:PackO w v q)(id:Bs)(hid:id.length=32):
  Calls Tryd.prog 41 #[v,AB id] w fun e w' =>∃x,e = .returned x∧∃(o:Bs × Nat) (s:Value),x = .tuple #[.agg ([s,NI o.2]).toArray,NI (BL q id).2]∧o=(BL q id).1∧RB w' s o.1∧Ext w w' :=by
 match q,h with
 | none,h=>rw[show v = .pointer none from h];exact Nc w id hid
 | some p,h=>
  obtain⟨g,vi,bo,O,rfl,h2,hg,hrg,hmo,hoo⟩:=h
  obtain⟨ids,P⟩:=p
  subst h2
  exact N5 w g bo vi ids O hg hrg hmo hoo id hid

theorem N6(w:World)(v:Value)(q:Option Cv)(hq:PackO w v q)(id:Bs)(hid:id.length=32):
  Calls Tryd.prog 19 #[v,AB id] w fun e w' =>e = .returned (.tuple #[NI (BL q id).1.2,NI (BL q id).2])∧Ext w w' :=by
 refine AA (args:= [v,AB id]) Tryd.func19 rfl 17 rfl (Nat.le_of_ble_eq_true rfl) ?_
 intro j hb
 have r:j 0=(v:Value):=hb.get 0
 have s:j 1=(AB id:Value):=hb.get 1
 clear hb
 have hE:=Ext.refl w
 refine sk fun K1 t=>(wt (oS rfl (Yk.box (cs:=(Lib.byteCells id:List Value).toArray) s fun k u ag l x ah=> ?_)))
 have hE:=hE.trans x
 have a:=l;clear l
 have ai:k<u.heap.size:=by omega
 refine oA rfl (oA rfl (oZ (tN (t _ _ (sk fun aj y=>(wt (oM rfl (oS rfl (Yk.loadAll (vr (PQ k 0) rfl) a Ow rfl (by exact AM hid) (oS rfl (Yk.callA2 Nb r (vr (AB id) rfl) ((Nd _ v q (hq.keep hE) id hid).mono ?_))))))))))))
 rintro e z ⟨_,rfl,o,b,rfl,ho,aa,m⟩
 refine⟨_,rfl,?_⟩
 have hE:=hE.trans m
 have a:=eb m a
 subst ho
 refine oM rfl (oS rfl (Yk.extract (vs:= [.agg ([b,NI ((BL q id).1.2)]).toArray,NI ((BL q id).2)]) (vr (.tuple #[.agg ([b,NI ((BL q id).1.2)]).toArray,NI ((BL q id).2)]) rfl) (show _=some (.agg ([b,NI ((BL q id).1.2)]).toArray:Value)from rfl) (oS rfl (Yk.extract (vs:= [.agg ([b,NI ((BL q id).1.2)]).toArray,NI ((BL q id).2)]) (vr (.tuple #[.agg ([b,NI ((BL q id).1.2)]).toArray,NI ((BL q id).2)]) rfl) (show _=some (NI ((BL q id).2):Value)from rfl) (oS rfl (Yk.alloc (cs:=([(Value.slice none 0 0),NI 0]).toArray) DL fun g ab ac n h ak=> ?_))))))
 have c:=Ext.refl z
 have al:=hE
 have ad:=hE.size
 have am:=AT (bl a) ac
 have hE:=hE.trans h
 have a:=eb h a
 have c:=c.trans h
 have f:=n;clear n
 have an:g<ab.heap.size:=by omega
 refine oS rfl (Yk.storeAll (vr (PQ g 0) rfl) (vr (.agg ([b,NI ((BL q id).1.2)]).toArray) rfl) f rfl (show(Tryd.prog.info? 81).map (·.size)=some 2 from BE) (Ck (RB.one (aa.keep c)).2) fun ao p i ap=> ?_)
 have hE:=Ac hE i (Nat.le_trans ad (by omega))
 have a:=kb i a (by omega)
 have c:=Ac c i (Nat.le_trans (Nat.le_refl _) (by omega))
 clear f
 have f:=p;clear p
 have aq:=bl f
 refine oA rfl (oZ (tN (y _ _ (sk fun ar ae=>(wt (oS rfl (Yk.fieldAt KF (vr (PQ g 0) rfl) (oS rfl (Yk.cell1 NA rfl (vr (PQ g 1) rfl) (Ai f (show _=some (NI ((BL q id).1.2):Value)from rfl)) (oM rfl (oA rfl (oA rfl (oZ (tN (ae _ _ (As (Ao (fn:=Tryd.f19) _ rfl [NI ((BL q id).1.2),NI ((BL q id).2)] (.tuple #[NI ((BL q id).1.2),NI ((BL q id).2)]) rfl ⟨rfl,rfl,trivial⟩ ?_)))))))))))))))))
 exact⟨rfl,hE⟩

open Go.RowKit
section
variable {P : Program} {K : Value → World → Prop} {ρ : Aq} {w : World} {d : Option Tmp} {ty : TypeId} {pos : String} {af : Array Edge} {gd : Option (Nat × Bool)}
theorem RG.pair{α:Type}{k:Nat}{enc:α→List Value}{g:Nat}{e:TypeId}{fr:Nat × Nat}{a b:α}(ha:(enc a).length=k)(hb:(enc b).length=k)(h:w.heap[g]? =some (.cells ((enc a).toArray++(enc b).toArray) e fr)):RG k enc w (.slice (some ⟨g,0,none⟩) 2 2) [a,b]:=by
  refine⟨fun x hx=> ?_,by simp[ha,hb];omega,_,2,rfl,Nat.le_refl _,by simp[maxLen],(fun h=>by cases h),fun q hq j u hu=> ?_⟩
  · simp only[List.mem_cons,List.not_mem_nil,or_false]at hx
    rcases hx with rfl | rfl
    · exact ha
    · exact hb
  · cases hq
    rw[Addr.add_lit,Nat.zero_add]
    exact Ai (l:=enc a++enc b) (t:=e) (fr:=fr) (by rw[h];simp) (by simpa using hu)
theorem Yk.lit2G{α:Type}{k:Nat}{enc:α→List Value}{t e:TypeId}{x y:Operand}{a b:α}(hx:Ad ρ x = .agg (enc a).toArray)(hy:Ad ρ y = .agg (enc b).toArray)(ha:(enc a).length=k)(hb:(enc b).length=k) 
    (hr:∀(cs cs' :Array Value),cs.size=k→cs'.size=k→∀w:World,(Instr.buildSlice t 2 #[(0, .agg cs),(1, .agg cs')]).run P w = .ok (.slice (some ⟨w.heap.size,0,none⟩) 2 2) (w.alloc (.cells (cs++cs') e)))
    (hk:∀v w',RG k enc w' v [a,b]→Ext w w' →K v w'):Yk P K ((execOp (Ad ρ) ⟨d, .buildSlice t 2 #[(0,x),(1,y)],ty,pos,af,gd⟩).run P w):=by
  have hE:Ext w (w.alloc (.cells ((enc a).toArray++(enc b).toArray) e)):=(Below.refl _ _).alloc (Nat.le_refl _) _
  refine Yk.value (v:= .slice (some ⟨w.heap.size,0,none⟩) 2 2) (w' :=w.alloc (.cells ((enc a).toArray++(enc b).toArray) e)) ?_ (hk _ _ (RG.pair ha hb (heap_alloc_new w _)) hE)
  unfold execOp
  simp only[List.map_toArray,List.map_cons,List.map_nil,hx,hy,Sem.run_bind,hr _ _ (show(enc a).toArray.size=k by rw[List.size_toArray];exact ha) (show(enc b).toArray.size=k by rw[List.size_toArray];exact hb),Result.andThen_ok,Sem.run_pure]
end
abbrev J8:Bs:= [97,98,99,100,101,102,103,104]
abbrev GR:Bs:= [97,98,99,100,101,102,103,104,105]
theorem ex_sums:Sha.sum GR≠Sha.sum J8:=by decide+kernel
def exPs(va vb:Value):List Pt:= [⟨va,J8,-1⟩,⟨vb,GR,0⟩]
theorem J9(va vb:Value):Co (exPs va vb):=⟨by show 2≤60;omega,fun p hp=>by
  simp only[exPs,List.mem_cons,List.not_mem_nil,or_false]at hp
  rcases hp with rfl | rfl <;> (simp only[List.length_cons,List.length_nil];omega)⟩
theorem Ox(va vb:Value):∃s,CS (exPs va vb) 2 = .ok s∧s.ids= [Sha.sum J8,Sha.sum GR]∧s.depths= [0,1]:=by
  let s0:BS:=⟨80 :: Lib.uvarint 2,[],[],[],0⟩
  let s1:BS:=bnext (exPs va vb) ⟨va,J8,-1⟩ s0
  have h0:CS (exPs va vb) 0 = .ok s0:=rfl
  have h1:CS (exPs va vb) 1 = .ok s1:=by
    rw[Dp h0]
    show(if(-1:Int) < -1∨((0:Nat):Int)≤(-1:Int)then _ else if Sha.sum J8∈([]:List Bs)then _ else if 50<depthB ⟨va,J8,-1⟩ s0 then _ else _)=_
    rw[if_neg (by omega),if_neg (by simp),if_neg (by show ¬50<0;omega)]
    rfl
  refine⟨bnext (exPs va vb) ⟨vb,GR,0⟩ s1,?_,rfl,rfl⟩
  rw[Dp h1]
  show(if(0:Int) < -1∨((1:Nat):Int)≤(0:Int)then _ else if Sha.sum GR∈ [Sha.sum J8]then _ else if 50<depthB ⟨vb,GR,0⟩ s1 then _ else _)=_
  rw[if_neg (by omega),if_neg (by rw[List.mem_singleton];exact ex_sums),if_neg (by show ¬50<1;omega)]
  rfl
theorem Hy(va vb:Value):(A3 (exPs va vb)).2=0:=by
  obtain⟨s,h,-⟩:=Ox va vb
  unfold A3
  rw[show(exPs va vb).length=2 from rfl,h]
theorem OU(va vb:Value):∃p,Ft (A3 (exPs va vb)).1 = .ok p∧J7 (some p)=2∧BL (some p) (Sha.sum GR)=((GR,1),0):=by
  obtain⟨s,h,hi,hd⟩:=Ox va vb
  refine⟨_,LY (J9 va vb) h,?_,?_⟩
  · show(Az s.ids).length=2
    rw[BQ,hi];rfl
  · have:Iq (exPs va vb) s (Sha.sum GR)=some (GR,1):=by
      refine Dw _ _ 1 _ _ ?_ ?_ ?_
      · rw[hi];simp[ex_sums.symm]
      · rw[hi];rfl
      · rw[hd];rfl
    show(match Iq (exPs va vb) s (Sha.sum GR)with | none=>_ | some x=>_)=_
    rw[this]
theorem Li:(A3 []).1.length=1062∧(A3 []).2=0:=by
  have h:CS [] 0 = .ok ⟨80 :: Lib.uvarint 0,[],[],[],0⟩:=rfl
  have hk:=E3 (ps:= []) ⟨by simp,fun p hp=>by cases hp⟩ 0 _ (Nat.le_refl _) h
  have e:A3 []=((80 :: Lib.uvarint 0)++BV ⟨80 :: Lib.uvarint 0,[],[],[],0⟩ (80 :: Lib.uvarint 0).length++Sha.sum ((80 :: Lib.uvarint 0)++BV ⟨80 :: Lib.uvarint 0,[],[],[],0⟩ (80 :: Lib.uvarint 0).length),0):=rfl
  rw[e]
  refine⟨?_,rfl⟩
  rw[List.length_append,List.length_append,Ex hk,Sha.sum_length,Lib.uvarint_small (by omega)]
  rfl
open Go.RowKit
set_option maxRecDepth 100000
theorem FR{z0:Value}(h0:∃ao n c,z0 = .slice ao n c)(z1:Int)(w:World):(Instr.build 55 #[(0,z0),(1, .int .i64 z1)]).run Tryd.prog w = .ok (.agg ([z0, .int .i64 z1]:List Value).toArray) w:=by obtain⟨_,_,_,rfl⟩:=h0;kernel_rfl
theorem LZ(c0 c1 d0 d1:Value)(w:World):(Instr.buildSlice 28 2 #[(0, .agg #[c0,c1]),(1, .agg #[d0,d1])]).run Tryd.prog w = .ok (.slice (some ⟨w.heap.size,0,none⟩) 2 2) (w.alloc (.cells #[c0,c1,d0,d1] 55)):=by kernel_rfl
theorem L0:∀(cs cs' :Array Value),cs.size=2→cs'.size=2→∀w:World,(Instr.buildSlice 28 2 #[(0, .agg cs),(1, .agg cs')]).run Tryd.prog w = .ok (.slice (some ⟨w.heap.size,0,none⟩) 2 2) (w.alloc (.cells (cs++cs') 55))
 | ⟨[c0,c1]⟩,⟨[d0,d1]⟩,_,_,w=>LZ c0 c1 d0 d1 w
theorem IW:A2 Tryd.prog 11:=fun _ _=>by kernel_rfl
theorem Nf:A2 Tryd.prog 15:=fun _ _=>by kernel_rfl
theorem Ng:A2 Tryd.prog 19:=fun _ _=>by kernel_rfl
theorem Nh:A2 Tryd.prog 16:=fun _ _=>by kernel_rfl
set_option maxHeartbeats 1600000
theorem OV(w:World)(hG:Laid w):
  Calls Tryd.prog 14 #[] w fun e w' =>e = .returned (.bool true)∧Ext w w' :=by
 refine AA (args:= []) Tryd.func14 rfl 66 rfl (Nat.le_of_ble_eq_true rfl) ?_
 intro a3 hb
 clear hb
 have hE:=Ext.refl w
 refine sk fun K1 ao=>(wt (oA rfl (oZ (tN (ao _ _ (sk fun K2 ap=>(wt (oS rfl (Yk.litN (e:=5) ([97,98,99,100,101,102,103,104]:List UInt8) (by decide) (fun _ _=>by kernel_rfl) fun f w4 ac=> ?_)))))))))
 have hE:=hE.trans ac.ext
 have ad:=ac.own;clear ac
 refine oS rfl (Yk.convMark DT u5 (vr f rfl) ad (by decide) fun w7 ai ar=> ?_)
 have hE:=AC hE ar ad (Nat.le_refl _)
 clear ad
 refine oS rfl (Yk.build2 (vr f rfl) (vr (.int .i64 (-1:Int)) rfl) (fun w=>FR (RB.slice ai) (-1) w) (oS rfl (Yk.litN (e:=5) ([97,98,99,100,101,102,103,104,105]:List UInt8) (by decide) (fun _ _=>by kernel_rfl) fun g a7 y=> ?_)))
 have c:=Ext.refl w7
 have a8:=hE
 have au:=hE.size
 have hE:=hE.trans y.ext
 have c:=c.trans y.ext
 have z:=y.own;clear y
 refine oS rfl (Yk.convMark DT u5 (vr g rfl) z (by decide) fun a9 l aj=> ?_)
 have hE:=AC hE aj z au
 have c:=AC c aj z (Nat.le_refl _)
 clear z
 refine oS rfl (Yk.build2 (vr g rfl) (vr (NI 0) rfl) (fun w=>FR (RB.slice l) (((0:Nat):Int)) w) (oS rfl (Yk.lit2G (a:=(⟨f,([97,98,99,100,101,102,103,104]:List UInt8),-1⟩:Pt)) (b:=(⟨g,([97,98,99,100,101,102,103,104,105]:List UInt8),0⟩:Pt)) (enc:=partC) (show _=(.agg ([f, .int .i64 (-1:Int)]).toArray:Value)from rfl) (vr (.agg ([g,NI 0]).toArray) rfl) (rfl) (rfl) L0 fun ak ba q ae=> ?_)))
 have hE:=hE.trans ae
 have c:=c.trans ae
 have l:=l.keep ae
 refine oS rfl (Yk.callA1 IW (vr ak rfl) ((GJ _ (hG.keep hE) ak (exPs f g) q (by intro p hp;simp only[exPs,List.mem_cons,List.not_mem_nil,or_false]at hp;rcases hp with rfl | rfl;exact⟨(ai.keep c),by dsimp only;omega,by dsimp only;omega⟩;exact⟨l,by dsimp only;omega,by dsimp only;omega⟩) (J9 _ _)).mono ?_))
 rintro e bb ⟨m,rfl,af,aa⟩
 refine⟨_,rfl,?_⟩
 have hE:=hE.trans aa
 have c:=c.trans aa
 have l:=l.keep aa
 have q:=q.keep aa
 refine oM rfl (oS rfl (Yk.extract (vs:= [m,NI ((A3 (exPs f g)).2)]) (vr (.tuple #[m,NI ((A3 (exPs f g)).2)]) rfl) (show _=some (m:Value)from rfl) (oS rfl (Yk.extract (vs:= [m,NI ((A3 (exPs f g)).2)]) (vr (.tuple #[m,NI ((A3 (exPs f g)).2)]) rfl) (show _=some (NI ((A3 (exPs f g)).2):Value)from rfl) (oA rfl (oA rfl (oZ (tN (ap _ _ (sk fun bc av=>(wt (oM rfl (oS rfl (Yk.callA1 Nf (vr m rfl) ((N2 _ (hG.keep hE) m ((A3 (exPs f g)).1) af).mono ?_)))))))))))))))
 rintro e al ⟨_,rfl,i,k30,rfl,hO31,r⟩
 refine⟨_,rfl,?_⟩
 have hE:=hE.trans r
 have c:=c.trans r
 have l:=l.keep r
 have q:=q.keep r
 have af:=af.keep r
 obtain⟨pk,hpk,hlen,hget⟩:=OU f g
 rw[hpk]at hO31
 obtain⟨aw,hat⟩:=hO31
 subst aw
 have hq:PackO al i (some pk):=hat
 refine oM rfl (oS rfl (Yk.extract (vs:= [i,NI 0]) (vr (.tuple #[i,NI 0]) rfl) (show _=some (i:Value)from rfl) (oS rfl (Yk.extract (vs:= [i,NI 0]) (vr (.tuple #[i,NI 0]) rfl) (show _=some (NI 0:Value)from rfl) (oA rfl (oA rfl (oZ (tN (av _ _ (sk fun bd ax=>(wt (oM rfl (oS rfl (Yk.litN (e:=5) ([97,98,99,100,101,102,103,104,105]:List UInt8) (by decide) (fun _ _=>by kernel_rfl) fun am be s=> ?_))))))))))))))
 have h:=Ext.refl al
 have bf:=hE
 have bg:=c
 have ay:=hE.size
 have az:=c.size
 have hE:=hE.trans s.ext
 have c:=c.trans s.ext
 have h:=h.trans s.ext
 have t:=s.own;clear s
 refine oS rfl (Yk.convMark DT u5 (vr am rfl) t (by decide) fun bh j ag=> ?_)
 have hE:=AC hE ag t ay
 have c:=AC c ag t az
 have h:=AC h ag t (Nat.le_refl _)
 clear t
 refine oS rfl (Yk.rows1 E5 (RB.of j (vr am rfl)) fun an bi k ab=> ?_)
 have hE:=hE.trans ab
 have c:=c.trans ab
 have h:=h.trans ab
 have j:=j.keep ab
 refine oS rfl (Yk.callA1 Hr (vr an rfl) ((Es _ (hG.keep hE) an (([97,98,99,100,101,102,103,104,105]:List UInt8)) k (by decide)).mono ?_))
 rintro e bj ⟨rfl,u⟩
 refine⟨_,rfl,?_⟩
 have hE:=hE.trans u
 have c:=c.trans u
 have h:=h.trans u
 have j:=j.keep u
 have k:=k.keep u
 refine oS rfl (Yk.callA2 Ng (vr i rfl) (vr (AB (Sha.sum (([97,98,99,100,101,102,103,104,105]:List UInt8)))) rfl) ((N6 _ (i) (some pk) (hq.keep h) (Sha.sum (([97,98,99,100,101,102,103,104,105]:List UInt8))) (Sha.sum_length _)).mono ?_))
 rintro e bk ⟨rfl,v⟩
 refine⟨_,rfl,?_⟩
 have hE:=hE.trans v
 have c:=c.trans v
 have h:=h.trans v
 have j:=j.keep v
 have k:=k.keep v
 refine oM rfl (oS rfl (Yk.extract (vs:= [NI ((BL (some pk) (Sha.sum (([97,98,99,100,101,102,103,104,105]:List UInt8)))).1.2),NI ((BL (some pk) (Sha.sum (([97,98,99,100,101,102,103,104,105]:List UInt8)))).2)]) (vr (.tuple #[NI ((BL (some pk) (Sha.sum (([97,98,99,100,101,102,103,104,105]:List UInt8)))).1.2),NI ((BL (some pk) (Sha.sum (([97,98,99,100,101,102,103,104,105]:List UInt8)))).2)]) rfl) (show _=some (NI ((BL (some pk) (Sha.sum (([97,98,99,100,101,102,103,104,105]:List UInt8)))).1.2):Value)from rfl) (oS rfl (Yk.extract (vs:= [NI ((BL (some pk) (Sha.sum (([97,98,99,100,101,102,103,104,105]:List UInt8)))).1.2),NI ((BL (some pk) (Sha.sum (([97,98,99,100,101,102,103,104,105]:List UInt8)))).2)]) (vr (.tuple #[NI ((BL (some pk) (Sha.sum (([97,98,99,100,101,102,103,104,105]:List UInt8)))).1.2),NI ((BL (some pk) (Sha.sum (([97,98,99,100,101,102,103,104,105]:List UInt8)))).2)]) rfl) (show _=some (NI ((BL (some pk) (Sha.sum (([97,98,99,100,101,102,103,104,105]:List UInt8)))).2):Value)from rfl) (oA rfl (oA rfl (oZ (tN (ax _ _ (sk fun bm a0=>(wt (oS rfl (Yk.callA1 IW (vr (Value.slice none 0 0) rfl) ((GJ _ (hG.keep hE) (.slice none 0 0) [] (RG.nil _ _ _) (fun p hp=>by cases hp) ⟨by simp,fun p hp=>by cases hp⟩).mono ?_))))))))))))))
 rintro e bn ⟨n,rfl,ah,x⟩
 refine⟨_,rfl,?_⟩
 have hE:=hE.trans x
 have c:=c.trans x
 have h:=h.trans x
 have j:=j.keep x
 have k:=k.keep x
 refine oM rfl (oS rfl (Yk.extract (vs:= [n,NI ((A3 []).2)]) (vr (.tuple #[n,NI ((A3 []).2)]) rfl) (show _=some (n:Value)from rfl) (oS rfl (Yk.extract (vs:= [n,NI ((A3 []).2)]) (vr (.tuple #[n,NI ((A3 []).2)]) rfl) (show _=some (NI ((A3 []).2):Value)from rfl) (oA rfl (oA rfl (oZ (tN (a0 _ _ (sk fun bo a1=>(wt (oM rfl (oS rfl (Yk.eqI (a:=((A3 (exPs f g)).2:Nat)) (b:=(0:Nat)) rfl rfl (Br _ _ _ _) (oM rfl (oY (d:=40) rfl rfl (vr (.bool (true)) (congrArg Value.bool (decide_eq_true (Hy f g)))) (Yk.move (vr (NI 0) rfl) (oY (d:=40) rfl rfl (vr (.bool (true)) (congrArg Value.bool (decide_eq_true (Hy f g)))) (Yk.eqI (a:=(0:Nat)) (b:=(0:Nat)) rfl rfl (Br _ _ _ _) (oS rfl (Yk.pickT (vr (.bool (true)) (congrArg Value.bool (decide_eq_true (Hy f g)))) (vr (.bool (true)) (congrArg Value.bool (decide_eq_true (rfl)))) (oM rfl ?_))))))))))))))))))))))
 refine oY (d:=44) rfl rfl (vr (.bool (true)) rfl) (Yk.move (vr (NI ((BL (some pk) (Sha.sum (([97,98,99,100,101,102,103,104,105]:List UInt8)))).2)) rfl) (oY (d:=44) rfl rfl (vr (.bool (true)) rfl) (Yk.eqI (a:=((BL (some pk) (Sha.sum (([97,98,99,100,101,102,103,104,105]:List UInt8)))).2:Nat)) (b:=(0:Nat)) rfl rfl (Br _ _ _ _) (oS rfl (Yk.pickT (vr (.bool (true)) rfl) (vr (.bool (true)) (congrArg Value.bool (decide_eq_true (by rw[hget])))) (oM rfl (oY (d:=48) rfl rfl (vr (.bool (true)) rfl) (Yk.move (vr (NI ((A3 []).2)) rfl) (oY (d:=48) rfl rfl (vr (.bool (true)) rfl) (Yk.eqI (a:=((A3 []).2:Nat)) (b:=(0:Nat)) rfl rfl (Br _ _ _ _) (oS rfl (Yk.pickT (vr (.bool (true)) rfl) (vr (.bool (true)) (congrArg Value.bool (decide_eq_true (Li.2)))) (oM rfl (oY (d:=52) rfl rfl (vr (.bool (true)) rfl) (Yk.move (vr (NI ((BL (some pk) (Sha.sum (([97,98,99,100,101,102,103,104,105]:List UInt8)))).1.2)) rfl) (oY (d:=52) rfl rfl (vr (.bool (true)) rfl) (Yk.eqI (a:=((BL (some pk) (Sha.sum (([97,98,99,100,101,102,103,104,105]:List UInt8)))).1.2:Nat)) (b:=(1:Nat)) rfl rfl (Br _ _ _ _) (oS rfl (Yk.pickT (vr (.bool (true)) rfl) (vr (.bool (true)) (congrArg Value.bool (decide_eq_true (by rw[hget])))) (oM rfl (oY (d:=56) rfl rfl (vr (.bool (true)) rfl) (Yk.move (vr i rfl) (oY (d:=56) rfl rfl (vr (.bool (true)) rfl) (Yk.callA1 Nh (vr i rfl) ((N4 _ (i) (some pk) (hq.keep h)).mono ?_)))))))))))))))))))))))))
 rintro e bp ⟨rfl,o⟩
 refine⟨_,rfl,?_⟩
 have hE:=hE.trans o
 have c:=c.trans o
 have h:=h.trans o
 have j:=j.keep o
 have k:=k.keep o
 have ah:=ah.keep o
 refine oY (d:=56) rfl rfl (vr (.bool (true)) rfl) (Yk.eqI (a:=(J7 (some pk):Nat)) (b:=(2:Nat)) rfl rfl (Br _ _ _ _) (oS rfl (Yk.pickT (vr (.bool (true)) rfl) (vr (.bool (true)) (congrArg Value.bool (decide_eq_true (hlen)))) (oM rfl (oY (d:=61) rfl rfl (vr (.bool (true)) rfl) (Yk.move (vr n rfl) (oY (d:=61) rfl rfl (vr (.bool (true)) rfl) (Yk.lenRB DT (RB.of ah (vr n rfl)) (oY (d:=61) rfl rfl (vr (.bool (true)) rfl) (Yk.eqI (a:=(((A3 []).1:List UInt8).length:Nat)) (b:=(1062:Nat)) rfl rfl (Br _ _ _ _) (oS rfl (Yk.pickT (vr (.bool (true)) rfl) (vr (.bool (true)) (congrArg Value.bool (decide_eq_true (Li.1)))) (oA rfl (AH [(0, .bool (true)),(1,m),(2,NI ((A3 (exPs f g)).2)),(3,i),(4,NI 0),(5,NI ((BL (some pk) (Sha.sum (([97,98,99,100,101,102,103,104,105]:List UInt8)))).1.2)),(6,NI ((BL (some pk) (Sha.sum (([97,98,99,100,101,102,103,104,105]:List UInt8)))).2)),(7,n),(8,NI ((A3 []).2))] ⟨rfl,rfl,rfl,rfl,rfl,rfl,rfl,rfl,rfl,trivial⟩ fun bq ⟨T0,T1,T2,T3,T4,T5,T6,T7,T8,_⟩=>(tN (a1 _ _ (As (Ao (fn:=Tryd.f14) _ rfl [.bool (true)] (.bool (true)) rfl ⟨T0,trivial⟩ ?_))))))))))))))))))
 exact⟨rfl,hE⟩

open Go.ChangeShapes Go.WideShapes Go.ChangeAt Go.RowKit
theorem Lj:Tryd.prog.globalNamed "variorum/sha.first" = some 0:=by kernel_rfl
theorem N7:(Tryd.prog.globals[0]?).map (·.type)=some 88:=by kernel_rfl
theorem N8:Tryd.prog.cellsOf 88=8:=by kernel_rfl
def zs_first:List Int:= [1779033703,3144134277,1013904242,2773480762,1359893119,2600822924,528734635,1541459225]
theorem KK:(zs_first.map fun z=>Value.int .u32 z).toArray=cellsU Sha.first:=by kernel_rfl
theorem Lk:Tryd.prog.globalNamed "variorum/sha.words" = some 1:=by kernel_rfl
theorem N9:(Tryd.prog.globals[1]?).map (·.type)=some 89:=by kernel_rfl
theorem Oa:Tryd.prog.cellsOf 89=64:=by kernel_rfl
def zs_words:List Int:= [1116352408,1899447441,3049323471,3921009573,961987163,1508970993,2453635748,2870763221,3624381080,310598401,607225278,1426881987,1925078388,2162078206,2614888103,3248222580,3835390401,4022224774,264347078,604807628,770255983,1249150122,1555081692,1996064986,2554220882,2821834349,2952996808,3210313671,3336571891,3584528711,113926993,338241895,666307205,773529912,1294757372,1396182291,1695183700,1986661051,2177026350,2456956037,2730485921,2820302411,3259730800,3345764771,3516065817,3600352804,4094571909,275423344,430227734,506948616,659060556,883997877,958139571,1322822218,1537002063,1747873779,1955562222,2024104815,2227730452,2361852424,2428436474,2756734187,3204031479,3329325298]
theorem KM:(zs_words.map fun z=>Value.int .u32 z).toArray=cellsU Sha.words:=by kernel_rfl
theorem O7:Tryd.prog.cellsOf 87=1:=by kernel_rfl
theorem IY{P:Program}{W:World}{name:String}{g:Nat}{cs:Array Value}(hg:P.globalNamed name=some g)(h:W.var? P name=some cs):∃t fr,W.heap[g]? =some (.cells cs t fr):=by
 unfold World.var? at h
 rw[hg]at h
 simp only[Option.bind_some]at h
 split at h
 ·rename_i cs' t fr he
  cases h
  exact⟨t,fr,he⟩
 ·cases h
theorem OW{W:World}(h:laidMetH Tryd.prog [("variorum/sha.first",Rows.laid_variorum_sha_first),("variorum/sha.words",Rows.laid_variorum_sha_words)] W):Laid W:=by
 have h1:Lib.TabIs Tryd.prog W "variorum/sha.first" .u32 zs_first:=Lib.tabIs_of_head Lj N7 Tryd.underlying88 Tryd.underlying87 O7 N8 h
 have h2:Lib.TabIs Tryd.prog W "variorum/sha.words" .u32 zs_words:=Lib.tabIs_of_head (rest:= []) Lk N9 Tryd.underlying89 Tryd.underlying87 O7 Oa (laidMet.tail h)
 unfold Lib.TabIs at h1 h2
 rw[KK]at h1
 rw[KM]at h2
 exact⟨IY Lj h1,IY Lk h2⟩
noncomputable def GS(os:Os):World:=
 let h0:=(World.holding Tryd.prog os ⟨#[],#[],[]⟩).heap
 let h1:=h0.modify 0 fun
   | .cells _ t frozen=> .cells (cellsU Sha.first) t frozen
   | o=>o
 let h2:=h1.modify 1 fun
   | .cells _ t frozen=> .cells (cellsU Sha.words) t frozen
   | o=>o
 { World.holding Tryd.prog os ⟨#[],#[],[]⟩with heap:=h2 }
theorem Ob(os:Os)(args:Array Value):laidMet Tryd.prog [("variorum/sha.first",Rows.laid_variorum_sha_first),("variorum/sha.words",Rows.laid_variorum_sha_words)] ((GS os).forCall (fun _ _=>0) ⟨#[],args,[]⟩).memory:=
 laidMet_of_run' 8 (by kernel_rfl) (by kernel_rfl)
open Go.RowKit
def D3(p:Pt):Bs × Int:=(p.bytes,p.base)
theorem Ir{ps qs:List Pt}(h:qs.map D3=ps.map D3)(i:Nat):(qs.getD i dPt).bytes=(ps.getD i dPt).bytes∧(qs.getD i dPt).base=(ps.getD i dPt).base:=by
  have h1:(qs.map D3)[i]? =(ps.map D3)[i]? :=by rw[h]
  rw[List.getElem?_map,List.getElem?_map]at h1
  rw[List.getD_eq_getElem?_getD,List.getD_eq_getElem?_getD]
  cases ha:qs[i]? <;> cases hb:ps[i]? <;> rw[ha,hb]at h1
  · exact⟨rfl,rfl⟩
  · cases h1
  · cases h1
  · injection h1 with h1
    exact⟨congrArg Prod.fst h1,congrArg Prod.snd h1⟩
theorem G6{ps qs:List Pt}(h:qs.map D3=ps.map D3):qs.length=ps.length:=by simpa using congrArg List.length h
theorem IZ{ps qs:List Pt}(h:qs.map D3=ps.map D3):∀i,CS qs i=CS ps i
  | 0=>by unfold CS;rw[G6 h]
  | i+1=>by
    have ih:=IZ h i
    have hi:=Ir h i
    cases hb:CS ps i with
    | error e=>rw[Er hb 1,Er (ih.trans hb) 1]
    | ok s=>
      rw[Dp hb,Dp (ih.trans hb)]
      have hd:depthB (qs.getD i dPt) s=depthB (ps.getD i dPt) s:=by unfold depthB;rw[hi.2]
      have hn:bnext qs (qs.getD i dPt) s=bnext ps (ps.getD i dPt) s:=by
        unfold bnext
        rw[hd,hi.1,hi.2,(Ir h (ps.getD i dPt).base.toNat).1]
      unfold Em
      rw[hi.1,hi.2,hd,hn]
theorem Ka{ps qs:List Pt}(h:qs.map D3=ps.map D3):A3 qs=A3 ps:=by
  unfold A3
  rw[G6 h,IZ h]
theorem KN{ps qs:List Pt}(h:qs.map D3=ps.map D3)(hL:Co ps):Co qs:=by
  refine⟨by rw[G6 h];exact hL.1,fun p hp=> ?_⟩
  obtain⟨i,hi,rfl⟩:=List.getElem_of_mem hp
  have h1:=(Ir h i).1
  rw[List.getD_eq_getElem?_getD,List.getElem?_eq_getElem hi]at h1
  have h2:=hL.2 _ (A6 dPt (l:=ps) (i:=i) (by rw[←G6 h];exact hi))
  have h3:(qs[i]).bytes=(ps.getD i dPt).bytes:=h1
  rw[h3]
  exact h2
theorem L1(w:World)(hG:Laid w)(v:Value)(ps qs:List Pt)(hr:RG 2 partC w v qs)(hps:PartsOk w qs)(hq:qs.map D3=ps.map D3)(hL:Co ps):
    Calls Tryd.prog 11 #[v] w fun e w' =>∃v',e = .returned (.tuple #[v',NI (A3 ps).2])∧RB w' v' (A3 ps).1∧Ext w w' :=by
  have h:=GJ w hG v qs hr hps (KN hq hL)
  rw[Ka hq]at h
  exact h
def PartsIn(w:World)(va:Value)(qs:List Pt):Prop:=∀x∈qs,RB w x.v x.bytes∧(-9223372036854775808≤x.base∧x.base≤9223372036854775807)∧∀k,x.v.ownBlock=some k→k<w.heap.size∧va.ownBlock≠some k
theorem PartsIn.keep{w w' :World}{va:Value}{qs:List Pt}(h:PartsIn w va qs)(k:Ext w w'):PartsIn w' va qs:=fun x hx=>
  ⟨(h x hx).1.keep k,(h x hx).2.1,fun j hj=>⟨Nat.lt_of_lt_of_le ((h x hx).2.2 j hj).1 k.size,((h x hx).2.2 j hj).2⟩⟩
theorem PartsIn.nil(w:World)(va:Value):PartsIn w va []:=fun x hx=>by cases hx
theorem PartsIn.snoc{w:World}{va:Value}{qs:List Pt}(h:PartsIn w va qs){x:Pt}(h1:RB w x.v x.bytes)(h2: -9223372036854775808≤x.base∧x.base≤9223372036854775807)(h3:∀k,x.v.ownBlock=some k→k<w.heap.size∧va.ownBlock≠some k):PartsIn w va (qs++ [x]):=fun y hy=>by
  rcases List.mem_append.1 hy with hy | hy
  · exact h y hy
  · rw[List.mem_singleton.1 hy];exact⟨h1,h2,h3⟩
theorem PartsIn.grew{w w' :World}{va va' :Value}{qs:List Pt}(h:PartsIn w va qs)(g:Grew w w' va va'):PartsIn w' va' qs:=fun x hx=>
  ⟨JV (h x hx).1 (fun k hk=>((h x hx).2.2 k hk).2) g,(h x hx).2.1,fun j hj=>⟨Nat.lt_of_lt_of_le ((h x hx).2.2 j hj).1 g.by_.size,fun e=>(g.fresh j e).elim (fun q=>((h x hx).2.2 j hj).2 q) (fun q=>by have:=((h x hx).2.2 j hj).1;omega)⟩⟩
theorem PartsIn.ok{w:World}{va:Value}{qs:List Pt}(h:PartsIn w va qs):PartsOk w qs:=fun x hx=>⟨(h x hx).1,(h x hx).2.1⟩
def NewR(w0:World)(B:Bs)(x:Value)(w:World):Prop:=RB w x B∧∀k,x.ownBlock=some k→w0.heap.size≤k∧k<w.heap.size
def NewP(w0:World)(B:Bs)(z:Int)(x:Value)(w:World):Prop:=∃v,x = .agg (partC ⟨v,B,z⟩).toArray∧NewR w0 B v w
def NewPs(w0:World)(B:Bs)(z:Int)(x:Value)(w:World):Prop:=∃v,RG 2 partC w x [⟨v,B,z⟩]∧NewR w0 B v w
theorem NewR.keep{w0 w w' :World}{B:Bs}{x:Value}(h:NewR w0 B x w)(k:Ext w w'):NewR w0 B x w' :=⟨h.1.keep k,fun j hj=>⟨(h.2 j hj).1,Nat.lt_of_lt_of_le (h.2 j hj).2 k.size⟩⟩
theorem NewP.keep{w0 w w' :World}{B:Bs}{z:Int}{x:Value}(h:NewP w0 B z x w)(k:Ext w w'):NewP w0 B z x w' :=by
  obtain⟨v,h1,h2⟩:=h
  exact⟨v,h1,h2.keep k⟩
theorem NewPs.keep{w0 w w' :World}{B:Bs}{z:Int}{x:Value}(h:NewPs w0 B z x w)(k:Ext w w'):NewPs w0 B z x w' :=by
  obtain⟨v,h1,h2⟩:=h
  exact⟨v,h1.keep k,h2.keep k⟩
theorem NewR.of{e:TypeId}{w0 w1 a:World}{B:Bs}{v:Value}(h:NewB e w1 a v B)(k:Ext w0 w1):NewR w0 B v a:=⟨h.rb,fun j hj=>⟨Nat.le_trans k.size (h.own.lt j hj).1,(h.own.lt j hj).2⟩⟩
theorem Ni(ps:List Pt){i:Nat}(h:i<ps.length)(v:Value):(ps.take i).map D3++ [D3 ⟨v,(ps.getD i dPt).bytes,(ps.getD i dPt).base⟩]=(ps.take (i+1)).map D3:=by
  rw[List.take_succ_eq_append_getElem h,List.map_append]
  rw[List.getD_eq_getElem?_getD,List.getElem?_eq_getElem h]
  rfl
open Go.RowKit
set_option maxRecDepth 100000
theorem CD:Tryd.prog.underlying 22=some (.slice 41):=by kernel_rfl
theorem ER:∀w' :World,(sizeOf 41).run Tryd.prog w' = .ok 2 w' :=fun _=>by kernel_rfl
theorem FA:BK Tryd.prog 41 0 0:=fun b o w=>by simp[go_sem]
theorem Nj:A2 Tryd.prog 29:=fun _ _=>by kernel_rfl
theorem KO:BK Tryd.prog 41 1 1:=fun b o w=>by simp[go_sem]
theorem Oc{v:Value}(h:∃ao n c,v = .slice ao n c)(z:Int)(w:World):(Instr.build 55 #[(0,v),(1, .int .i64 z)]).run Tryd.prog w = .ok (.agg ([v, .int .i64 z]:List Value).toArray) w:=by obtain⟨_,_,_,rfl⟩:=h;kernel_rfl
theorem Nk(c0 c1:Value)(w:World):(Instr.buildSlice 28 1 #[(0, .agg #[c0,c1])]).run Tryd.prog w = .ok (.slice (some ⟨w.heap.size,0,none⟩) 1 1) (w.alloc (.cells #[c0,c1] 55)):=by kernel_rfl
theorem Nl:∀(cs:Array Value),cs.size=2→∀w:World,(Instr.buildSlice 28 1 #[(0, .agg cs)]).run Tryd.prog w = .ok (.slice (some ⟨w.heap.size,0,none⟩) 1 1) (w.alloc (.cells cs 55))
 | ⟨[c0,c1]⟩,_,w=>Nk c0 c1 w
theorem pk26_ig55:∃z,(Tryd.prog.info? 55).map (fun i=>(i.zero,i.size,i.bytes))=some (some z,2,32)∧z.cells.size=2:=G1 (by kernel_rfl)
set_option maxHeartbeats 1600000
theorem Od(w:World)(v:Value)(ps:List Pt)(hr:RG 2 partC w v ps)(hps:PartsOk w ps)(hL:Co ps):
  Calls Tryd.prog 12 #[v] w fun e w' =>∃v' qs,e = .returned v' ∧RG 2 partC w' v' qs∧PartsOk w' qs∧qs.map D3=ps.map D3∧Ext w w' :=by
 refine AA (args:= [v]) Tryd.func12 rfl 27 rfl (Nat.le_of_ble_eq_true rfl) ?_
 intro af hb
 have c:af 0=(v:Value):=hb.get 0
 clear hb
 have hE:=Ext.refl w
 refine sk fun K1 ag=>(wt (oA rfl (oZ (tN (ag _ _ (sk fun K2 ah=>(wt (oA rfl (oZ ?_)))))))))
 have hrow0:OG w.heap.size 55 2 partC w (Value.slice none 0 0) ([]:List Pt):=OG.nil _ _ _ _ _
 refine tN (ah _ _ (sk fun K3 ai=>(sk fun K4 aj=>(wt (oA rfl (AH [(0,v),(2,(Value.slice none 0 0)),(3,(Value.slice none 0 0)),(4,NI 0)] ⟨c,rfl,rfl,rfl,trivial⟩ fun be ⟨c,g,l,f,_⟩=>(tN (aj _ _ (Aj (AX (fun(ρ:Aq) (wz:World)=>∃i:Nat,∃qs:List Pt,∃va:Value,ρ 0=(v:Value)∧ρ 2=((Value.slice none 0 0):Value)∧ρ 4=(NI i:Value)∧ρ 3=(va:Value)∧Ext w wz∧PartsIn wz va qs∧OG w.heap.size 55 2 (partC) wz va (qs)∧(i≤ps.length)∧(qs.map D3=(ps.take i).map D3)∧True) (fun ρ _=>ps.length-(intOf (ρ 4)).toNat) ⟨0,[],(Value.slice none 0 0),c,g,f,l,hE,PartsIn.nil _ _,B5 hrow0 (rfl),Nat.zero_le _,rfl,trivial⟩ ?_))))))))))
 clear hrow0
 clear hE
 rintro ak j ⟨i,qs,va,c,g,f,l,hE,hIn,hr_va,hi,hq,-⟩
 have q4:=f
 by_cases hlt:i<ps.length
 ·have bf:=hL.2 _ (A6 dPt hlt)
  have h60:=hL.1
  have hqn:qs.length≤60:=by have:=congrArg List.length hq;simp only[List.length_map,List.length_take]at this;have:=hL.1;omega
  have hpr:RB w (ps.getD (i) dPt).v (ps.getD (i) dPt).bytes:=(hps _ (A6 dPt hlt)).1
  have hpb: -9223372036854775808≤(ps.getD (i) dPt).base∧(ps.getD (i) dPt).base≤9223372036854775807:=(hps _ (A6 dPt hlt)).2
  refine sk fun K8 al=>(sk fun K9 am=>(wt (oM rfl (oM rfl (oS rfl (Yk.lenRG CD (RG.of (hr.keep hE) c) (oS rfl (Yk.eqI (a:=(i:Nat)) (b:=(ps.length:Nat)) f rfl (AN _ _ _ _) (oZ ?_)))))))))
  have hva0:∀k,Value.ownBlock va=some k→k<j.heap.size:=fun k hk=>((hr_va).2.lt k hk).2
  refine tN (am _ _ (AE (vr (.bool (true)) (congrArg Value.bool (decide_eq_true (hlt)))) (Ah (tN (al _ _ (sk fun bi an=>(Aj ?_)))))))
  refine Cr 14 [Is (va),Is (v),Is (NI i),fun x w' =>PR (partC (ps.getD (i) dPt)) x w',fun x w' =>PR (((partC (ps.getD (i) dPt)).drop 0).take 1) x w',Is ((ps.getD (i) dPt).v),fun x w' =>NewR j (ps.getD (i) dPt).bytes x w',Is (v),Is (NI i),fun x w' =>PR (partC (ps.getD (i) dPt)) x w',fun x w' =>PR (((partC (ps.getD (i) dPt)).drop 1).take 1) x w',Is (.int .i64 ((ps.getD (i) dPt).base:Int)),fun x w' =>NewP j (ps.getD (i) dPt).bytes (ps.getD (i) dPt).base x w',fun x w' =>NewPs j (ps.getD (i) dPt).bytes (ps.getD (i) dPt).base x w'] (by kernel_rfl) [11,12,13,14,15,16,17,18,19,20,21,22,23,24,25,3] (by kernel_rfl) (by kernel_rfl) (by kernel_rfl) (by kernel_rfl) rfl rfl (DV ⟨(fun _ _ _ h k=>PR.keep h k),(fun _ _ _ h k=>PR.keep h k),Stab.is _,(fun _ _ _ h k=>NewR.keep h k),(Ef ⟨(fun _ _ _ h k=>PR.keep h k),(fun _ _ _ h k=>PR.keep h k),Stab.is _,(fun _ _ _ h k=>NewP.keep h k),(fun _ _ _ h k=>NewPs.keep h k),trivial⟩)⟩) ?ao ?hQ1005
  case ao=>
   refine⟨?_,?_,?_,?_,?_,?_,?_,?_,?_,?_,?_,?_,?_,?_,?_,?_,trivial⟩
   ·refine An (Aa rfl fun σ w1 hC h=> ?_)
    have e3:=(Ab (h 3 (by decide))).trans l
    exact Yk.move e3 ⟨Ext.refl _,rfl⟩
   ·refine An (Aa rfl fun σ w1 hC h=> ?_)
    have s:=(Ab (h 0 (by decide))).trans c
    exact Yk.move s ⟨Ext.refl _,rfl⟩
   ·refine An (Aa rfl fun σ w1 hC h=> ?_)
    have t:=(Ab (h 4 (by decide))).trans f
    exact Yk.move t ⟨Ext.refl _,rfl⟩
   ·refine An (Aa rfl fun σ w1 hC h=> ?_)
    have aq:=Ab (h 12 (by decide))
    have ar:=Ab (h 13 (by decide))
    exact Yk.atRG CD ER (by decide) dPt (RG.of (hr.keep (hE.trans hC)) aq) ar (by omega) fun v h=>⟨Ext.refl _,h⟩
   ·refine An (Aa rfl fun σ w1 hC h=> ?_)
    have au:(fun x w' =>PR (partC (ps.getD (i) dPt)) x w') (σ 14) w1:=h 14 (by decide)
    exact Yk.fieldPR (n:=1) FA au fun v h=>⟨Ext.refl _,h⟩
   ·refine An (Aa rfl fun σ w1 hC h=> ?_)
    have av:(fun x w' =>PR (((partC (ps.getD (i) dPt)).drop 0).take 1) x w') (σ 15) w1:=h 15 (by decide)
    exact Yk.loadC DT rfl (PR.cell av (show _=some ((ps.getD (i) dPt).v:Value)from rfl)) ⟨Ext.refl _,rfl⟩
   ·refine An (Aa rfl fun σ w1 hC h=> ?_)
    have aw:=Ab (h 16 (by decide))
    refine Yk.callA1 Nj aw ((Nz _ (ps.getD (i) dPt).v ((ps.getD (i) dPt).bytes) (hpr.keep (hE.trans hC)) (by omega)).mono ?_)
    rintro e w2 ⟨v,rfl,hN⟩
    exact⟨_,rfl,hN.ext,NewR.of hN hC⟩
   ·refine An (Aa rfl fun σ w1 hC h=> ?_)
    have s:=(Ab (h 0 (by decide))).trans c
    exact Yk.move s ⟨Ext.refl _,rfl⟩
   ·refine An (Aa rfl fun σ w1 hC h=> ?_)
    have t:=(Ab (h 4 (by decide))).trans f
    exact Yk.move t ⟨Ext.refl _,rfl⟩
   ·refine An (Aa rfl fun σ w1 hC h=> ?_)
    have ay:=Ab (h 18 (by decide))
    have az:=Ab (h 19 (by decide))
    exact Yk.atRG CD ER (by decide) dPt (RG.of (hr.keep (hE.trans hC)) ay) az (by omega) fun v h=>⟨Ext.refl _,h⟩
   ·refine An (Aa rfl fun σ w1 hC h=> ?_)
    have a0:(fun x w' =>PR (partC (ps.getD (i) dPt)) x w') (σ 20) w1:=h 20 (by decide)
    exact Yk.fieldPR (n:=1) KO a0 fun v h=>⟨Ext.refl _,h⟩
   ·refine An (Aa rfl fun σ w1 hC h=> ?_)
    have a1:(fun x w' =>PR (((partC (ps.getD (i) dPt)).drop 1).take 1) x w') (σ 21) w1:=h 21 (by decide)
    exact Yk.loadC NA rfl (PR.cell a1 (show _=some (.int .i64 ((ps.getD (i) dPt).base:Int):Value)from rfl)) ⟨Ext.refl _,rfl⟩
   ·refine An (Aa rfl fun σ w1 hC h=> ?_)
    have aa:(fun x w' =>NewR j (ps.getD (i) dPt).bytes x w') (σ 17) w1:=h 17 (by decide)
    have a2:=Ab (h 22 (by decide))
    exact Yk.build2 rfl a2 (fun w=>Oc (RB.slice aa.1) _ w) ⟨Ext.refl _,_,rfl,aa⟩
   ·refine An (Aa rfl fun σ w1 hC h=> ?_)
    have a3:(fun x w' =>NewP j (ps.getD (i) dPt).bytes (ps.getD (i) dPt).base x w') (σ 23) w1:=h 23 (by decide)
    obtain⟨v0,e23_,hn_⟩:=a3
    exact Yk.lit1G (enc:=partC) (show _=Value.agg (partC _).toArray from e23_) rfl Nl fun v w2 h hx=>⟨hx,v0,h,hn_.keep hx⟩
   ·exact trivial
   ·exact trivial
  intro u o z he hf
  obtain⟨k11,-,-,-,-,-,-,-,-,-,-,-,-,k24,-⟩:=hf
  obtain⟨c,g,f,T8,-⟩:=he.hold [(0,_),(2,_),(4,_),(8,_)] ⟨c,g,f,(congrArg Value.bool (decide_eq_true (hlt))),trivial⟩ rfl
  clear he
  have hE:=hE.trans z
  have hIn:PartsIn o va qs:=(hIn.keep z)
  have hr_va:=hr_va.keep z
  have ac:u 11=va:=k11
  have k24:(fun x w' =>NewPs j (ps.getD (i) dPt).bytes (ps.getD (i) dPt).base x w') (u 24) o:=k24
  obtain⟨bj,ad⟩:∃v,u 24=v:=⟨_,rfl⟩
  rw[ad]at k24
  have a5:=k24;clear k24
  obtain⟨m,hR17,p⟩:=a5
  clear k11
  have hIn:PartsIn o va (qs++ [(⟨m,(ps.getD (i) dPt).bytes,(ps.getD (i) dPt).base⟩:Pt)]):=PartsIn.snoc hIn p.1 hpb (fun k hk=>⟨(p.2 k hk).2,fun e=>by have h1:=(p.2 k hk).1;have h2:=hva0 k e;omega⟩)
  refine oS rfl (Yk.appendRG _ _ w.heap.size _ 32 E4 pk26_ig55.choose_spec.1 pk26_ig55.choose_spec.2 E4 (qs) ([(⟨m,(ps.getD (i) dPt).bytes,(ps.getD (i) dPt).base⟩:Pt)]) (OG.of hr_va ac) (RG.of hR17 ad) (fun y hy=>by rw[List.mem_singleton.1 hy];exact partC_one (RB.one p.1)) (by simp only[List.length_cons,List.length_nil];omega) (by simp only[List.length_cons,List.length_nil];omega) hE.size fun q ae a6 r=> ?_)
  have hIn_:=hIn
  have r:Grew o ae va q:= .eqv ac r
  have hE:=AC hE r hr_va.2 (Nat.le_refl _)
  clear hr_va
  clear hR17
  have hIn:PartsIn ae q (qs++ [(⟨m,(ps.getD (i) dPt).bytes,(ps.getD (i) dPt).base⟩:Pt)]):=PartsIn.grew hIn_ r;clear hIn_
  refine oA rfl (oZ (bN (tN (an _ _ (wt (oM rfl (oS rfl (Yk.bin (xv:=NI i) (yv:=NI 1) f rfl rfl (Ak _ _ _ (by omega)) (oA rfl (AH [(0,v),(2,(Value.slice none 0 0)),(3,q),(4,NI ((i)+(1))),(8, .bool (true))] ⟨c,g,rfl,rfl,T8,trivial⟩ fun a7 ⟨c,g,l,f,T8,_⟩=>(tN (And.intro ⟨i+1,qs++ [(⟨m,(ps.getD (i) dPt).bytes,(ps.getD (i) dPt).base⟩:Pt)],q,c,g,f,l,hE,hIn,B5 a6 (rfl),by omega,by rw[List.map_append,hq];exact Ni ps hlt m,trivial⟩ ?_))))))))))))
  show ps.length-(intOf (a7 4)).toNat<ps.length-(intOf (ak 4)).toNat
  rw[f,q4]
  simp only[intOf,Int.toNat_natCast];omega
 refine sk fun bk bm=>(sk fun bn a8=>(wt (oM rfl (oM rfl (oS rfl (Yk.lenRG CD (RG.of (hr.keep hE) c) (oS rfl (Yk.eqI (a:=(i:Nat)) (b:=(ps.length:Nat)) f rfl (AN _ _ _ _) (oZ (tN (a8 _ _ (Ar (vr (.bool (false)) (congrArg Value.bool (decide_eq_false (hlt)))) (AJ (Ag (Ag (Ap (tN (ai _ _ (sk fun bo a9=>(wt (oM rfl (oA rfl ?_))))))))))))))))))))))
 refine oZ (tN (a9 _ _ (As (Ao (fn:=Tryd.f12) _ rfl [va] (va) rfl ⟨l,trivial⟩ ?_))))
 have hil:i=ps.length:=by omega
 rw[hil,List.take_length]at hq
 exact⟨_,qs,rfl,RG.ofOwn hr_va,(hIn).ok,hq,hE⟩

theorem I0(w:World)(v:Value)(ps:List Pt)(hr:RG 2 partC w v ps)(hps:PartsOk w ps):
  Calls Tryd.prog 10 #[v] w fun e w' =>∃c,e = .returned (.bool c)∧(c=true↔Co ps)∧Ext w w' :=by
 refine AA (args:= [v]) Tryd.func10 rfl 20 rfl (Nat.le_of_ble_eq_true rfl) ?_
 intro r hb
 have f:r 0=(v:Value):=hb.get 0
 clear hb
 have hE:=Ext.refl w
 refine sk fun K1 k=>(wt (oA rfl (oZ ?_)))
 by_cases q1:60<ps.length
 ·refine tN (k _ _ (sk fun K2 au=>(sk fun K3 s=>(wt (oM rfl (oS rfl (Yk.lenRG CD (RG.of (hr.keep hE) f) (oS rfl (Yk.eqI (a:=(ps.length:Nat)) (b:=(60:Nat)) rfl rfl (Bm _ _ _ _) (oZ (tN (s _ _ (AE (vr (.bool (true)) (congrArg Value.bool (decide_eq_true (q1)))) (sk fun K4 t=>(wt (oA rfl (oZ (tN (t _ _ (As (Am ?_)))))))))))))))))))))
  refine Ao (fn:=Tryd.f10) _ rfl [.bool (false)] (.bool (false)) rfl ⟨rfl,trivial⟩ ?_
  exact⟨_,rfl,⟨fun h=>Bool.noConfusion h,fun h=>absurd h.1 (by omega)⟩,hE⟩
 refine tN (k _ _ (sk fun K5 u=>(sk fun K6 x=>(wt (oM rfl (oS rfl (Yk.lenRG CD (RG.of (hr.keep hE) f) (oS rfl (Yk.eqI (a:=(ps.length:Nat)) (b:=(60:Nat)) rfl rfl (Bm _ _ _ _) (oZ (tN (x _ _ (Ar (vr (.bool (false)) (congrArg Value.bool (decide_eq_false (q1)))) (Ah (tN (u _ _ (sk fun K7 y=>(sk fun K8 z=>(wt (oA rfl ?_))))))))))))))))))))
 refine AH [(0,v),(2, .bool (false)),(3,NI 0),(6, .bool (false))] ⟨f,rfl,rfl,(congrArg Value.bool (decide_eq_false (q1))),trivial⟩ fun a1 ⟨f,T2,g,j,_⟩=>(tN (z _ _ (Aj (AX (fun(ρ:Aq) (wz:World)=>∃i:Nat,ρ 0=(v:Value)∧ρ 6=(.bool (false):Value)∧ρ 3=(NI i:Value)∧Ext w wz∧(i≤ps.length)∧(∀p∈ps.take i,p.bytes.length≤200)∧True) (fun ρ _=>ps.length-(intOf (ρ 3)).toNat) ⟨0,f,j,g,hE,Nat.zero_le _,(fun p hp=>by cases hp),trivial⟩ ?_))))
 clear hE
 rintro aa a3 ⟨i,f,j,g,hE,hi,hq,-⟩
 have q3:=g
 by_cases hlt:i<ps.length
 ·have hpr:RB w (ps.getD (i) dPt).v (ps.getD (i) dPt).bytes:=(hps _ (A6 dPt hlt)).1
  have hpb: -9223372036854775808≤(ps.getD (i) dPt).base∧(ps.getD (i) dPt).base≤9223372036854775807:=(hps _ (A6 dPt hlt)).2
  by_cases q2:200<(ps.getD (i) dPt).bytes.length
  ·refine sk fun a4 ab=>(sk fun a5 ac=>(wt (oM rfl (oM rfl (oS rfl (Yk.lenRG CD (RG.of (hr.keep hE) f) (oS rfl (Yk.eqI (a:=(i:Nat)) (b:=(ps.length:Nat)) g rfl (AN _ _ _ _) (oZ (tN (ac _ _ (AE (vr (.bool (true)) (congrArg Value.bool (decide_eq_true (hlt)))) (Ah (tN (ab _ _ (sk fun a6 a7=>(Aj (sk fun a8 ad=>(wt ?_)))))))))))))))))))
   refine oM rfl (oM rfl ?_)
   have a9:(partC (ps.getD (i) dPt)).length=2:=(RG.elem (hr.keep hE) dPt (by omega))
   refine oS rfl (Yk.atRG CD ER (by decide) dPt (RG.of (hr.keep hE) f) g (by omega) fun ae l=>(oS rfl (Yk.fieldPR (n:=1) FA (PR.of l (vr ae rfl)) fun af m=>(oS rfl (Yk.loadC DT rfl (PR.cell (PR.of m (vr af rfl)) (show _=some ((ps.getD (i) dPt).v:Value)from rfl)) (oS rfl (Yk.lenRB DT (RB.of (hpr.keep hE) (vr ((ps.getD (i) dPt).v) rfl)) (oS rfl (Yk.eqI (a:=(((ps.getD (i) dPt).bytes:List UInt8).length:Nat)) (b:=(200:Nat)) rfl rfl (Bm _ _ _ _) (oZ ?_))))))))))
   clear l
   clear m
   refine tN (ad _ _ (AE (vr (.bool (true)) (congrArg Value.bool (decide_eq_true (q2)))) (sk fun ba ag=>(wt (oA rfl (oZ (tN (ag _ _ (As (AR (Am (Am (AR (Am (Ao (fn:=Tryd.f10) _ rfl [.bool (false)] (.bool (false)) rfl ⟨rfl,trivial⟩ ?_)))))))))))))))
   exact⟨_,rfl,⟨fun h=>Bool.noConfusion h,fun h=>absurd (h.2 _ (A6 dPt hlt)) (by omega)⟩,hE⟩
  refine sk fun bb ah=>(sk fun bc ai=>(wt (oM rfl (oM rfl (oS rfl (Yk.lenRG CD (RG.of (hr.keep hE) f) (oS rfl (Yk.eqI (a:=(i:Nat)) (b:=(ps.length:Nat)) g rfl (AN _ _ _ _) (oZ (tN (ai _ _ (AE (vr (.bool (true)) (congrArg Value.bool (decide_eq_true (hlt)))) (Ah (tN (ah _ _ (sk fun bd aj=>(Aj (sk fun be ak=>(wt ?_)))))))))))))))))))
  refine oM rfl (oM rfl ?_)
  have bf:(partC (ps.getD (i) dPt)).length=2:=(RG.elem (hr.keep hE) dPt (by omega))
  refine oS rfl (Yk.atRG CD ER (by decide) dPt (RG.of (hr.keep hE) f) g (by omega) fun al o=>(oS rfl (Yk.fieldPR (n:=1) FA (PR.of o (vr al rfl)) fun am q=>(oS rfl (Yk.loadC DT rfl (PR.cell (PR.of q (vr am rfl)) (show _=some ((ps.getD (i) dPt).v:Value)from rfl)) (oS rfl (Yk.lenRB DT (RB.of (hpr.keep hE) (vr ((ps.getD (i) dPt).v) rfl)) (oS rfl (Yk.eqI (a:=(((ps.getD (i) dPt).bytes:List UInt8).length:Nat)) (b:=(200:Nat)) rfl rfl (Bm _ _ _ _) (oZ ?_))))))))))
  clear o
  clear q
  refine tN (ak _ _ (Ar (vr (.bool (false)) (congrArg Value.bool (decide_eq_false (q2)))) (Ah (bN (tN (aj _ _ (wt (oM rfl (oS rfl (Yk.bin (xv:=NI i) (yv:=NI 1) g rfl rfl (Ak _ _ _ (by omega)) (oA rfl (AH [(0,v),(3,NI ((i)+(1))),(6, .bool (false)),(10, .bool (true)),(19, .bool (false))] ⟨f,rfl,j,(congrArg Value.bool (decide_eq_true (hlt))),(congrArg Value.bool (decide_eq_false (q2))),trivial⟩ fun an ⟨f,g,j,bg,bh,_⟩=> ?_))))))))))))
  refine tN (And.intro ⟨i+1,f,j,g,hE,by omega,(fun p hp=>by rw[List.take_succ_eq_append_getElem hlt]at hp;rcases List.mem_append.1 hp with hp | hp;exact hq p hp;rw[List.mem_singleton.1 hp];have h2:¬200<(ps.getD i dPt).bytes.length:=q2;rw[List.getD_eq_getElem?_getD,List.getElem?_eq_getElem hlt]at h2;exact Nat.le_of_not_lt h2),trivial⟩ ?_)
  show ps.length-(intOf (an 3)).toNat<ps.length-(intOf (aa 3)).toNat
  rw[g,q3]
  simp only[intOf,Int.toNat_natCast];omega
 refine sk fun bi bj=>(sk fun bk ao=>(wt (oM rfl (oM rfl (oS rfl (Yk.lenRG CD (RG.of (hr.keep hE) f) (oS rfl (Yk.eqI (a:=(i:Nat)) (b:=(ps.length:Nat)) g rfl (AN _ _ _ _) (oZ (tN (ao _ _ (Ar (vr (.bool (false)) (congrArg Value.bool (decide_eq_false (hlt)))) (AJ (Ag (Ag (Ap (tN (y _ _ (sk fun bm ap=>(wt (oA rfl (oZ ?_))))))))))))))))))))))
 refine tN (ap _ _ (As (Ao (fn:=Tryd.f10) _ rfl [.bool (true)] (.bool (true)) rfl ⟨rfl,trivial⟩ ?_)))
 rw[show i=ps.length by omega,List.take_length]at hq
 exact⟨_,rfl,⟨fun _=>⟨by omega,hq⟩,fun _=>rfl⟩,hE⟩

open Go.ChangeShapes Go.WideShapes Go.ChangeAt Go.RowKit Go.Deep
instance:Inhabited Pt:=⟨dPt⟩
theorem I1:∀(l:List Pt) (i r:Nat),r<2→i<l.length→(l.flatMap partC)[i*2+r]? =(partC (l.getD i dPt))[r]?
  | [],i,_,_,h=>by simp at h
  | a :: l,0,r,hr,_=>by
    rw[List.flatMap_cons,Nat.zero_mul,Nat.zero_add,List.getElem?_append_left (by simpa [partC] using hr)]
    rfl
  | a :: l,i+1,r,hr,h=>by
    rw[List.flatMap_cons,List.getElem?_append_right (by simp[partC];omega)]
    have:=I1 l i r hr (by simpa using h)
    rw[show(i+1)*2+r-(partC a).length=i*2+r by simp[partC];omega,this]
    rfl
section
variable {H : Type} {enc : TypeId × Value → H} {P : Program} {W : World}
theorem L2{t e e8:TypeId}{f0 f1:Field}{r:Reach}{b0:Nat}{v:Value}{d:DataW H}{ps:List MemPlace}(ht:P.underlying t=some (.slice e))(he:P.underlying e=some (.struct #[f0,f1]))(ce:P.cellsOf e=2)(o0:f0.offset=0)(o1:f1.offset=1)(c0:P.cellsOf f0.type=1)(c1:P.cellsOf f1.type=1) 
    (h8:P.underlying f0.type=some (.slice e8)) (hu:P.underlying e8=some (.int .u8)) (c8:P.cellsOf e8=1) (hi1:P.underlying f1.type=some (.int .i64))
    (hval:Value.okWide P W r b0 t v) (hd:DataW.Trod enc P W 0 (fun _=>true) true t v d ps):∃qs,RG 2 partC W v qs∧PartsOk W qs∧∀x∈ps,x.block<W.heap.size:=by
  obtain⟨a0,len0,cap0,rfl⟩:=okWide_slice ht hval
  obtain⟨fuel,hf⟩:=hd
  have hlt:=DataW.trod_lt fuel _ _ _ hf
  rcases open_slice_pairs ht he ce o0 o1 c0 c1 hf with ⟨hcs,hx⟩ | ⟨a,len,cap,m,n,V0,V1,D0,D1,P0,P1,hcs,_,hl,hm,hmm,hx,hel⟩
  · simp[Value.cells]at hcs
    obtain⟨rfl,rfl,rfl⟩:=hcs
    exact⟨[],RG.nil _ _ _,(fun p hp=>by cases hp),hlt⟩
  · simp[Value.cells]at hcs
    obtain⟨rfl,rfl,rfl⟩:=hcs
    have hmc:m=cap0:=by simpa using hmm
    obtain⟨L,hL⟩:=choose_lt (α:=Pt) (p:=fun i q=>V0 i=q.v∧V1 i = .int .i64 q.base∧RB W q.v q.bytes ∧ -9223372036854775808≤q.base∧q.base≤9223372036854775807) (fun i (hi:i<len0)=>by
      obtain⟨-,-,g0,g1⟩:=hel i (by omega)
      obtain⟨c,l,h1,h2,_⟩:=Kn h8 hu c8 g0
      simp only[List.cons.injEq,and_true]at h1
      obtain⟨z,b,_,wz⟩:=DataW.trod_int hi1 g1
      simp only[List.cons.injEq,and_true]at b
      have hz: -9223372036854775808≤z∧z≤9223372036854775807:=by simpa [Lit.wf,IntKind.min,IntKind.max,IntKind.signed,IntKind.bits] using wz
      exact⟨⟨c,l,z⟩,h1,b,h2,hz⟩)
    have hg:∀i,i<len0→((List.range len0).map L).getD i dPt=L i:=fun i hi=>by
      rw[List.getD_eq_getElem?_getD,List.getElem?_map,List.getElem?_range hi];rfl
    have hlen:∀l:List Pt,(l.flatMap partC).length=l.length*2:=fun l=>by
      induction l with
      | nil=>rfl
      | cons a l ih=>rw[List.flatMap_cons,List.length_append,ih,List.length_cons];simp[partC];omega
    refine⟨(List.range len0).map L,⟨fun x _=>rfl,hlen _,some a,cap0,by simp,by simpa using hl,hm,(fun h=>by cases h),fun a' ha j u hu=> ?_⟩,fun p hp=> ?_,hlt⟩
    · cases ha
      have hj:j<len0*2:=by
        have:=(List.getElem?_eq_some_iff.1 hu).1
        rw[hlen]at this
        simpa using this
      have hi:j/2<len0:=by omega
      have hu' :((List.range len0).map L |>.flatMap partC)[j/2*2+j%2]? =some u:=by rw[show j/2*2+j%2=j by omega];exact hu
      rw[I1 _ _ _ (by omega) (by simpa using hi),hg _ hi]at hu'
      obtain⟨k0,k1,-,-⟩:=hL _ hi
      obtain⟨w0,w1,-,-⟩:=hel (j/2) (by omega)
      rcases(by omega:j%2=0∨j%2=1)with h | h
      · rw[h]at hu'
        have:j=j/2*2:=by omega
        rw[this,w0,k0]
        exact hu'
      · rw[h]at hu'
        have:j=j/2*2+1:=by omega
        rw[this,w1,k1]
        exact hu'
    · obtain⟨i,hi,rfl⟩:=List.mem_map.1 hp
      obtain⟨-,-,k2,k3⟩:=hL i (by simpa using hi)
      exact⟨k2,k3⟩
end
open Go.RowKit
theorem Ey{α:Type}{enc:α→List Value}{k:Nat}:∀(l:List α) (_:∀x∈l,(enc x).length=k),(l.flatMap enc).length=l.length*k
  | [],_=>by simp
  | a :: l,h=>by rw[List.flatMap_cons,List.length_append,h a (by simp),Ey l (fun x hx=>h x (by simp[hx])),List.length_cons,Nat.succ_mul,Nat.add_comm]
theorem Hg{α:Type}{enc:α→List Value}{k:Nat}(d:α):∀(l:List α) (i:Nat) (x:α) (_:∀y∈l,(enc y).length=k) (_:i<l.length),
    l.flatMap enc=(l.take i).flatMap enc++enc (l.getD i d)++(l.drop (i+1)).flatMap enc∧(l.set i x).flatMap enc=(l.take i).flatMap enc++enc x++(l.drop (i+1)).flatMap enc
  | [],_,_,_,h=>by simp at h
  | a :: l,0,x,_,_=>by simp
  | a :: l,i+1,x,h,hi=>by
    obtain⟨h1,h2⟩:=Hg d l i x (fun y hy=>h y (by simp[hy])) (by simpa using hi)
    constructor
    · rw[List.flatMap_cons,h1];simp
    · rw[List.set_cons_succ,List.flatMap_cons,h2];simp
theorem OG.block{α:Type}{b k:Nat}{t:TypeId}{enc:α→List Value}{w:World}{v:Value}{l:List α}(h:OG b t k enc w v l){i:Nat}(hi:i<l.length):∃g,v.ownBlock=some g:=by
  obtain⟨-,-,⟨-,h⟩ | ⟨g,cap,cur,rfl,-⟩⟩:=h
  · omega
  · exact⟨g,rfl⟩
theorem Pg{b:Nat}{t:TypeId}{w:World}{v:Value}{n z:Nat}{xs:List Value}(h:w.ownsRow b t z v n xs){i:Nat}(hi:i<n):∃g,v.ownBlock=some g:=by
  obtain⟨-,⟨-,h⟩ | ⟨g,cap,cur,rfl,-⟩⟩:=h
  · omega
  · exact⟨g,rfl⟩
section
variable {P : Program} {K : Value → World → Prop} {ρ : Aq} {w : World} {d : Option Tmp} {ty : TypeId} {pos : String} {af : Array Edge} {gd : Option (Nat × Bool)}
theorem Yk.atOwnK{k:Nat}{t e:TypeId}(ht:P.underlying t=some (.slice e))(he:∀w' :World,(sizeOf e).run P w' = .ok k w'){b n g:Nat}{xs:List Value}{e' :TypeId}{v:Value}{x y:Operand}(hx:Ad ρ x=v)(h:w.ownsRow b e' k v n xs)(hg:v.ownBlock=some g){kd:IntKind}{i:Nat}(hy:Ad ρ y = .int kd (i:Int))(hi:i<n) 
    (hk:K (PQ g (i*k)) w):Yk P K ((execOp (Ad ρ) ⟨d, .indexAddr t x y,ty,pos,af,gd⟩).run P w):=by
  obtain⟨-,⟨-,h0⟩ | ⟨g',cap,cur,rfl,-⟩⟩:=h
  · omega
  · obtain rfl:g' =g:=by simpa [Value.ownBlock] using hg
    refine Yk.value (v:=PQ g' (i*k)) (w' :=w) ?_ hk
    have hE:P.elem t=e:=by simp[Program.elem,ht]
    have hr:=run_indexAt_slice (P:=P) w t ⟨g',0,none⟩ n cap kd (i:Int) (by rw[hE];exact ht)
    rw[if_pos (by omega),hE,he]at hr
    unfold execOp
    simp only[hx,hy,Sem.run_bind,hr,Result.andThen_ok,Sem.run_pure]
    simp[Addr.add_lit]
theorem Yk.storeOG{α:Type}{b k:Nat}{t t' :TypeId}{enc:α→List Value}{v:Value}{l:List α}{g i:Nat}{a:α}{x y:Operand}(dd:α)(hx:Ad ρ x=PQ g (i*k))(hy:Ad ρ y = .agg (enc a).toArray)(h:OG b t k enc w v l)(hg:v.ownBlock=some g)(hi:i<l.length)(hl:(enc a).length=k)(h1:∀u∈enc a,u.oneCell' =true)(hinfo:(P.info? t').map (·.size)=some k) 
    (hk:∀w',OG b t k enc w' v (l.set i a)→Grew w w' v v→K undef w'):Yk P K ((execOp (Ad ρ) ⟨d, .store t' x y,ty,pos,af,gd⟩).run P w):=by
  obtain⟨hen,hxl,⟨-,h0⟩ | ⟨g',cap,cur,rfl,hb,hc,hn,hm,hs,ht⟩⟩:=h
  · omega
  · obtain rfl:g' =g:=by simpa [Value.ownBlock] using hg
    obtain⟨c1,c2⟩:=Hg dd l i a hen hi
    have hpre:=Ey (l.take i) (fun y hy=>hen y (List.mem_of_mem_take hy))
    rw[List.length_take,Nat.min_eq_left (Nat.le_of_lt hi)]at hpre
    obtain⟨T,hcur⟩:∃T,cur=((l.take i).flatMap enc++enc (l.getD i dd)++((l.drop (i+1)).flatMap enc++T)).toArray:=by
      refine⟨cur.toList.drop (l.length*k),?_⟩
      apply Array.toList_inj.1
      rw[List.toList_toArray,←List.append_assoc,←c1,←ht,List.take_append_drop]
    rw[hcur]at hc
    refine Yk.storeMid hx hy hc hpre (by rw[hl];exact hen _ (A6 dd hi)) (by rw[hl];exact hinfo) h1 fun w' c e f=>hk w' ⟨fun y hy=> ?_,?_, .inr ⟨g',cap,_,by rw[List.length_set],hb,c,by rw[List.length_set];exact hn,hm,?_,?_⟩⟩ ⟨e,fun k hk=> .inl hk⟩
    · rcases List.mem_or_eq_of_mem_set hy with hy | rfl
      · exact hen y hy
      · exact hl
    · rw[Ey _ (fun y hy=>by rcases List.mem_or_eq_of_mem_set hy with hy | rfl;exact hen y hy;exact hl)]
    · rw[←hs,hcur]
      simp only[List.size_toArray,List.length_append,hl,hen _ (A6 dd hi)]
    · have hlen:((l.set i a).flatMap enc).length=(l.set i a).length*k:=Ey _ (fun y hy=>by rcases List.mem_or_eq_of_mem_set hy with hy | rfl;exact hen y hy;exact hl)
      rw[List.toList_toArray,←List.append_assoc,←c2,←hlen,List.take_left]
end
open Go.RowKit
theorem GT{α:Type}{l:List α}{i:Nat}(d:α)(h:i<l.length):l.drop i=l.getD i d :: l.drop (i+1):=by
  rw[List.drop_eq_getElem_cons h,List.getD_eq_getElem?_getD,List.getElem?_eq_getElem h];rfl
section
variable {x y : Bs} {i : Nat}
theorem O8(hx:i<x.length)(hy:i<y.length):Lib.compareBytes (x.drop i) (y.drop i)=if(x.getD i 0).toNat<(y.getD i 0).toNat then -1 else if(y.getD i 0).toNat<(x.getD i 0).toNat then 1 else Lib.compareBytes (x.drop (i+1)) (y.drop (i+1)):=by
  rw[GT 0 hx,GT 0 hy]
  rfl
end
theorem OX{α:Type}{l:List α}{i:Nat}{a d:α}(h:i<l.length)(h1:a∉l.take i)(h2:l.getD i d≠a):a∉l.take (i+1):=by
  rw[List.take_succ_eq_append_getElem h]
  rw[List.getD_eq_getElem?_getD,List.getElem?_eq_getElem h]at h2
  simp only[List.mem_append,List.mem_singleton,not_or]
  exact⟨h1,fun e=>h2 e.symm⟩
end Go.Proofs.YtcegdjpdnlaleaaDoor
