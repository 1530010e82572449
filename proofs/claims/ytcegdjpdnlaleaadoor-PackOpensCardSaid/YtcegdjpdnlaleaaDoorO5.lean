/- Part 5 of what stands behind these statements: laws and walks of the functions that are reached. Conditions: those that each theorem names. -/
import Derived.Test.YtcegdjpdnlaleaaDoorO4
set_option linter.unusedVariables false
set_option linter.unusedSimpArgs false
namespace Go.Proofs.YtcegdjpdnlaleaaDoor
open Go.RowKit
set_option maxRecDepth 100000
theorem OX:AA Tryd.prog 65:=fun _ _=>by kernel_rfl
theorem OY:AA Tryd.prog 66:=fun _ _=>by kernel_rfl
theorem I6(z0:Nat)(z1:Nat)(w:World):(Instr.build 120 #[(0, .map (some z0)),(1, .map (some z1))]).run Tryd.prog w = .ok (.agg ([.map (some z0), .map (some z1)]:List Value).toArray) w:=by kernel_rfl
theorem Jt{z0:Value}(h0:∃ao n c,z0 = .slice ao n c)(z1:Nat)(w:World):(Instr.build 74 #[(0,z0),(1, .map (some z1))]).run Tryd.prog w = .ok (.agg ([z0, .map (some z1)]:List Value).toArray) w:=by obtain⟨_,_,_,rfl⟩:=h0;kernel_rfl
theorem OZ:AA Tryd.prog 67:=fun _ _=>by kernel_rfl
theorem O0:Tryd.prog.eqGuardType Tryd.prog.depth 38=false:=by kernel_rfl
theorem L9:A6 Tryd.prog 74 1 1:=fun b o w=>by simp[go_sem]
set_option maxHeartbeats 1600000
theorem P9(w:World)(hG:Laid w)(v:Value)(b:Bs)(hr:RB w v b)(h36:36≤b.length)(hb:b.length≤1048576):
  Calls Tryd.prog 37 #[v] w fun r w' =>(∃x,r = .returned x∧∃g vi bo ids O,x=PQ g 0∧Ci b = .ok (ids,fun k=>(O k).map Prod.fst)∧w'.heap[g]? =some (.cells ([vi, .map (some bo)]).toArray 74 (0,0))∧RG 32 Lib.byteCells w' vi ids∧MapF rk B9 (fun id:List UInt8=>id.length=32) w' bo O∧OOk w' O∧Ext w w')∨∃ch,r = .panicked ch∧∃c,Ci b = .error c∧ch= [Cz c]∧Ext w w' :=by
 obtain⟨f,hf⟩:∃f,f=BI (b.drop (b.length-36)):=⟨_,rfl⟩
 refine gG (args:= [v]) Tryd.func37 rfl 168 rfl rfl ?_
 have hE:=Ext.refl w
 refine gS (Yk.lenRB EX (RB.of (hr.keep hE) rfl) (gS (Yk.bin (xv:=NI b.length) (yv:=NI 36) rfl rfl rfl (Ay _ _ _ (by omega) (by omega)) (gS (Yk.sliceLo (xs:=b) (l:=(b.length)-(36)) EX M4 rfl (hr.keep hE) rfl (by omega) fun v4 ey ha6=>(gS (Yk.callA1 FX rfl (((show Calls _ _ _ _ (fun e w2=>e = .returned (NI (f))∧Ext _ w2)from by rw[hf];exact Dv _ v4 (b.drop ((b.length)-(36))) ey (by simp only[List.length_drop];omega))).mono ?_))))))))
 rintro e w8 ⟨rfl,bc⟩
 refine⟨_,rfl,?_⟩
 rcases hd:Ax 0 (b.drop 1)with _ | ⟨n,k⟩
 ·have hP:Ci b = .error 6:=by unfold Ci;rw[hd]
  by_cases h80:(b.getD 0 0).toNat=80
  ·have hE:=hE.trans bc
   refine gS (Yk.callA2 CG rfl rfl (((show Calls _ _ _ _ (fun e w2=>e = .returned (.tuple #[NI 0,NI 0,NI 6])∧Ext _ w2)from(Eb _ v b (hr.keep hE) 1 (by omega)).mono fun e w2 ⟨h1,h2⟩=>by subst h2;subst h1;rw[hd];exact⟨rfl,Ext.refl _⟩)).mono ?_))
   rintro e ho ⟨rfl,ez⟩
   refine⟨_,rfl,?_⟩
   have hE:=hE.trans ez
   refine gS (Yk.extract (vs:= [NI 0,NI 0,NI 6]) rfl rfl (gS (Yk.extract (vs:= [NI 0,NI 0,NI 6]) rfl rfl (gS (Yk.extract (vs:= [NI 0,NI 0,NI 6]) rfl rfl (gS (Yk.atRB (l:=b) (i:=0) EX M4 (RB.of (hr.keep hE) rfl) rfl (by omega) fun hp e0=>(gS (Yk.loadC u5 rfl (PCell.of e0 rfl) (gS (Yk.eqI (a:=((b.getD (0) 0).toNat:Nat)) (b:=(80:Nat)) rfl rfl (AO _ _ _ _) (kT (h80) (gS (Yk.eqI (a:=(6:Nat)) (b:=(0:Nat)) rfl rfl (AO _ _ _ _) (kF (by decide) (gS (Yk.pickT rfl rfl (gS (Yk.pickF rfl rfl (gS (Yk.pickF rfl rfl (gS (Yk.pickF rfl rfl (gP (Yp.callA2 FW rfl rfl ?_)))))))))))))))))))))))))
   refine Ap (AR _ (false) 6) ?_ ?_
   rotate_left
   ·rintro ch ht ⟨rfl,hb,hx⟩
    refine Aq ?_
    exact .inr ⟨_,rfl,6,hP,rfl,hE.trans hx⟩
   rintro v_ hu ⟨rfl,e1,hv⟩
   cases e1
  have hE:=hE.trans bc
  refine gS (Yk.callA2 CG rfl rfl (((show Calls _ _ _ _ (fun e w2=>e = .returned (.tuple #[NI 0,NI 0,NI 6])∧Ext _ w2)from(Eb _ v b (hr.keep hE) 1 (by omega)).mono fun e w2 ⟨h1,h2⟩=>by subst h2;subst h1;rw[hd];exact⟨rfl,Ext.refl _⟩)).mono ?_))
  rintro e hw ⟨rfl,e2⟩
  refine⟨_,rfl,?_⟩
  have hE:=hE.trans e2
  refine gS (Yk.extract (vs:= [NI 0,NI 0,NI 6]) rfl rfl (gS (Yk.extract (vs:= [NI 0,NI 0,NI 6]) rfl rfl (gS (Yk.extract (vs:= [NI 0,NI 0,NI 6]) rfl rfl (gS (Yk.atRB (l:=b) (i:=0) EX M4 (RB.of (hr.keep hE) rfl) rfl (by omega) fun hy e3=>(gS (Yk.loadC u5 rfl (PCell.of e3 rfl) (gS (Yk.eqI (a:=((b.getD (0) 0).toNat:Nat)) (b:=(80:Nat)) rfl rfl (AO _ _ _ _) (kF (h80) (gS (Yk.pickF rfl rfl (gS (Yk.pickF rfl rfl (gS (Yk.pickF rfl rfl (gS (Yk.pickF rfl rfl (gP (Yp.callA2 FW rfl rfl ?_))))))))))))))))))))))
  refine Ap (AR _ (false) 6) ?_ ?_
  rotate_left
  ·rintro ch hz ⟨rfl,hb,hx⟩
   refine Aq ?_
   exact .inr ⟨_,rfl,6,hP,rfl,hE.trans hx⟩
  rintro v_ h0 ⟨rfl,e4,h3⟩
  cases e4
 have hP0:Ci b=GN b f n (1+k):=by unfold Ci;rw[hd];show GN b (BI _) n (1+k)=_;rw[←hf]
 by_cases h80:(b.getD 0 0).toNat=80
 ·by_cases q1:1+k≤f
  ·by_cases q2:f≤b.length-36
   ·by_cases q3:n≤b.length-36
    ·have hA:b.getD 0 0=80∧1+k≤f∧f≤b.length-36∧n≤b.length-36:=⟨UInt8.toNat_inj.1 (by rw[h80];rfl),q1,q2,q3⟩
     have hE:=hE.trans bc
     refine gS (Yk.callA2 CG rfl rfl (((show Calls _ _ _ _ (fun e w2=>e = .returned (.tuple #[NI n,NI (1+k),NI 0])∧Ext _ w2)from(Eb _ v b (hr.keep hE) 1 (by omega)).mono fun e w2 ⟨h1,h2⟩=>by subst h2;subst h1;rw[hd];exact⟨rfl,Ext.refl _⟩)).mono ?_))
     rintro e h4 ⟨rfl,e5⟩
     refine⟨_,rfl,?_⟩
     have hE:=hE.trans e5
     refine gS (Yk.extract (vs:= [NI n,NI (1+k),NI 0]) rfl rfl (gS (Yk.extract (vs:= [NI n,NI (1+k),NI 0]) rfl rfl (gS (Yk.extract (vs:= [NI n,NI (1+k),NI 0]) rfl rfl (gS (Yk.atRB (l:=b) (i:=0) EX M4 (RB.of (hr.keep hE) rfl) rfl (by omega) fun h5 c9=>(gS (Yk.loadC u5 rfl (PCell.of c9 rfl) (gS (Yk.eqI (a:=((b.getD (0) 0).toNat:Nat)) (b:=(80:Nat)) rfl rfl (AO _ _ _ _) (kT (h80) (gS (Yk.eqI (a:=(0:Nat)) (b:=(0:Nat)) rfl rfl (AO _ _ _ _) (kT (rfl) (gS (Yk.pickT rfl rfl (gS (Yk.eqI (a:=(f:Nat)) (b:=(1+k:Nat)) rfl rfl (DB _ _ _ _) (kT (q1) (gS (Yk.pickT rfl rfl (gS (Yk.eqI (a:=(f:Nat)) (b:=((b.length)-(36):Nat)) rfl rfl (BU _ _ _ _) (kT (q2) (gS (Yk.pickT rfl rfl (gS (Yk.eqI (a:=(n:Nat)) (b:=((b.length)-(36):Nat)) rfl rfl (BU _ _ _ _) (kT (q3) (gS (Yk.pickT rfl rfl (gP (Yp.callA2 FW rfl rfl ?_))))))))))))))))))))))))))))))))))
     refine Ap (AR _ (true) 6) ?_ ?_
     rotate_left
     ·rintro ch h6 ⟨rfl,hb,hx⟩
      refine Aq ?_
      cases hb
     rintro v_ h7 ⟨rfl,h8,da⟩
     clear c9
     refine gS (Yk.bin (xv:=NI ((b.length)-(36))) (yv:=NI f) rfl rfl rfl (Ay _ _ _ (by omega) (by omega)) (gS (Yk.bin (xv:=NI 36) (yv:=NI n) rfl rfl rfl (A0 _ _ _ (by omega)) (gS (Yk.bin (xv:=NI 1024) (yv:=NI ((36)*(n))) rfl rfl rfl (Ac _ _ _ (by omega)) (gS (Yk.eqI (a:=(((b.length)-(36))-(f):Nat)) (b:=((1024)+((36)*(n)):Nat)) rfl rfl (AO _ _ _ _) (gP (Yp.callA2 FW rfl rfl ?_)))))))))
     refine Ap (AR _ (decide ((((b.length)-(36))-(f):Nat)=((1024)+((36)*(n))))) 6) ?_ ?_
     rotate_left
     ·rintro ch h9 ⟨rfl,hb,hx⟩
      refine Aq ?_
      have hno:=of_decide_eq_false hb
      have hE:=hE.trans da
      exact .inr ⟨_,rfl,6,hP0.trans ((if_pos hA).trans (if_neg hno)),rfl,hE.trans hx⟩
     rintro v_ ia ⟨rfl,e6,e7⟩
     have e8:=of_decide_eq_true e6
     have hq5:=e8
     have hP1:Ci b=GM b n (1+k) f:=hP0.trans ((if_pos hA).trans (if_pos hq5))
     have hE:=hE.trans (da.trans e7)
     refine gP (Yp.callA4 OX rfl rfl rfl rfl ?_)
     refine Ap (L6 _ v b (hr.keep hE) n (1+k) f (by omega) (by omega) (by omega) (by omega)) ?_ ?_
     rotate_left
     ·rintro ch ib ⟨hno,rfl,hx⟩
      refine Aq ?_
      exact .inr ⟨_,rfl,6,hP1.trans (by unfold GM;rw[hno]),rfl,hE.trans hx⟩
     rintro br bs ⟨es,hes,av,hok52,e9⟩
     have hok:=hok52
     have hel:=DQ hes (by omega)
     rw[List.length_map]at hel
     have heln:=hel.1
     have hP2:Ci b=Fk b f (es.map Prod.fst):=hP1.trans (by unfold GM;rw[hes])
     have hE:=hE.trans e9
     refine gS (Yk.bin (xv:=NI f) (yv:=NI 1024) rfl rfl rfl (Ac _ _ _ (by omega)) (gS (Yk.sliceLH (xs:=b) (l:=(f)+(1024)) (n:=(b.length)-(36)) EX M4 rfl (hr.keep hE) rfl rfl (by omega) (by omega) fun fa fb ha60=>(gP (Yp.callA2 OY rfl rfl ?_)))))
     refine Ap (No _ fa ((b.drop (f+1024)).take (b.length-36-(f+1024))) fb br es av hok (by rw[List.length_take,List.length_drop];omega) (by omega)) ?_ ?_
     rotate_left
     ·rintro ch ic ⟨hno,rfl,hx⟩
      refine Aq ?_
      exact .inr ⟨_,rfl,6,hP2.trans (by unfold Fk;rw[List.length_map,Fj,hno];rfl),rfl,hE.trans hx⟩
     rintro v_ bd ⟨s,ak,ac,his,rfl,be,hm64,db⟩
     have p:=Ext.refl bs
     have ie:=hE.size
     have hI:=H4 _ _ his
     have p:=p.trans db
     have hMO:MOk bd s.M:=MOk.of (hok.keep p) hI hel.2 (by omega)
     have t:=Ext.refl bd
     have hE:=hE.trans db
     have ig:=hE.size
     have ih:=p.size
     have hIl:=hI.len
     have hlbe:=hm64.lt
     have hP3:Ci b=GL b f (es.map Prod.fst) s.plain:=hP2.trans (by unfold Fk;rw[List.length_map,Fj,his];rfl)
     refine gS (Yk.extract (vs:= [ak, .map (some ac)]) rfl rfl (gS (Yk.extract (vs:= [ak, .map (some ac)]) rfl rfl (gS (Yk.callA1 P7 rfl ((MB _ ak s.ids (be.keep t)).mono ?_))))))
     rintro e ii ⟨rfl,b9⟩
     refine⟨_,rfl,?_⟩
     have hE:=hE.trans b9
     have p:=p.trans b9
     have hm64:=hm64.keep b9
     have t:=t.trans b9
     refine gL (fun(ρ:Ae) (wz:World)=>∃m:Nat,ρ 0=(v:Value)∧ρ 2=(.pointer none:Value)∧ρ 3=(NI ((b.length)-(36)):Value)∧ρ 4=(NI f:Value)∧ρ 5=(NI n:Value)∧ρ 6=(NI (1+k):Value)∧ρ 7=(NI 0:Value)∧ρ 8=(br:Value)∧ρ 9=(ak:Value)∧ρ 10=(.map (some ac):Value)∧ρ 85=(.agg ((AK (s.ids)).map fun x=>NI x).toArray:Value)∧ρ 86=(NI m:Value)∧Ext w wz∧Ext bs wz∧MapF rk Bm (fun id:List UInt8=>id.length=32) wz ac s.M∧Ext bd wz∧(m≤256)∧(∀j,j<m→BI (b.drop (f+4*j))=(AK s.ids).getD j 0)∧True) (fun ρ _=>256-(intOf (ρ 86)).toNat) ⟨0,rfl,rfl,rfl,rfl,rfl,rfl,rfl,rfl,rfl,rfl,rfl,rfl,hE,p,hm64,t,Nat.zero_le _,fun j hj=>absurd hj (Nat.not_lt_zero _),trivial⟩ ?_
     clear hE hm64
     rintro fc ij ⟨m,T0,T2,T3,T4,T5,T6,T7,T8,T9,ag,ay,ai,hE,p,hm64,t,hm,hfan,-⟩
     have q86:=ai
     refine gS (Yk.eqI (a:=(m:Nat)) (b:=(256:Nat)) ai rfl (Ah _ _ _ _) ?_)
     refine cD rfl (fun fd=> ?_) fun fd=> ?_
     ·refine gS (Yk.idxN (l:=AK (s.ids)) (i:=m) Es PJ rfl Gk ay ai (by omega) (by rw[Bi]) (gS (Yk.bin (xv:=NI 4) (yv:=NI m) rfl ai rfl (A0 _ _ _ (by omega)) (gS (Yk.bin (xv:=NI f) (yv:=NI ((4)*(m))) T4 rfl rfl (Ac _ _ _ (by omega)) (gS (Yk.sliceLo (xs:=b) (l:=(f)+((4)*(m))) EX M4 T0 (hr.keep hE) rfl (by omega) fun fe ff ha89=>(gS (Yk.callA1 FX rfl (((show Calls _ _ _ _ (fun e w2=>e = .returned (NI (BI (b.drop (f+4*m))))∧Ext _ w2)from by skip;exact Dv _ fe (b.drop ((f)+((4)*(m)))) ff (by simp only[List.length_drop];omega))).mono ?_))))))))))
      rintro e ik ⟨rfl,dc⟩
      refine⟨_,rfl,?_⟩
      refine gS (Yk.eqI (a:=(BI (b.drop (f+4*m)):Nat)) (b:=((AK (s.ids)).getD (m) 0:Nat)) rfl rfl (AO _ _ _ _) (gP (Yp.callA2 FW rfl rfl ?_)))
      refine Ap (AR _ (decide ((BI (b.drop (f+4*m)):Nat)=((AK (s.ids)).getD (m) 0))) 6) ?_ ?_
      rotate_left
      ·rintro ch il ⟨rfl,hb,hx⟩
       refine Aq ?_
       have hno:=of_decide_eq_false hb
       have hE:=hE.trans dc
       exact .inr ⟨_,rfl,6,hP3.trans (if_neg (fun h=>hno (MJ h (by omega)))),rfl,hE.trans hx⟩
      rintro v_ im ⟨rfl,fg,fh⟩
      have fi:=of_decide_eq_true fg
      have hZ1:=dc.trans fh
      have hE:=hE.trans hZ1
      have p:=p.trans hZ1
      have hm64:=hm64.keep hZ1
      have t:=t.trans hZ1
      refine gS (Yk.bin (xv:=NI m) (yv:=NI 1) ai rfl rfl (Ac _ _ _ (by omega)) (gK (And.intro ⟨m+1,T0,T2,T3,T4,T5,T6,T7,T8,T9,ag,ay,rfl,hE,p,hm64,t,by omega,fun j hj=>by by_cases e:j=m;subst e;exact fi;exact hfan j (by omega),trivial⟩ ?_)))
      show 256-(intOf (NI ((m)+(1)))).toNat<256-(intOf (fc 86)).toNat
      rw[q86]
      simp only[intOf,Int.toNat_natCast];omega
     have hfb:=fanB_of (fun j hj=>hfan j (by omega))
     have hP4:Ci b=(if FG (es.map Prod.fst) s.plain.M=true then En (entOf s.plain.M) s.plain.ids else .error 6):=hP3.trans (if_pos hfb)
     refine gS (Yk.lenRG Fi (RG.of (av.keep p) T8) (gL (fun(ρ:Ae) (wz:World)=>∃q:Nat,ρ 0=(v:Value)∧ρ 2=(.pointer none:Value)∧ρ 3=(NI ((b.length)-(36)):Value)∧ρ 4=(NI f:Value)∧ρ 5=(NI n:Value)∧ρ 6=(NI (1+k):Value)∧ρ 7=(NI 0:Value)∧ρ 8=(br:Value)∧ρ 9=(ak:Value)∧ρ 10=(.map (some ac):Value)∧ρ 85=(.agg ((AK (s.ids)).map fun x=>NI x).toArray:Value)∧ρ 86=(NI m:Value)∧ρ 101=(br:Value)∧ρ 102=(NI es.length:Value)∧ρ 103=(NI q:Value)∧Ext w wz∧Ext bs wz∧MapF rk Bm (fun id:List UInt8=>id.length=32) wz ac s.M∧Ext bd wz∧(q≤es.length)∧(∀j,j<q→(es.getD j dEnt).1.based=true→s.M (es.getD j dEnt).1.base≠none)∧True) (fun ρ _=>es.length-(intOf (ρ 103)).toNat) ⟨0,T0,T2,T3,T4,T5,T6,T7,T8,T9,ag,ay,ai,T8,rfl,rfl,hE,p,hm64,t,Nat.zero_le _,fun j hj=>absurd hj (Nat.not_lt_zero _),trivial⟩ ?_))
     clear hE p hm64 t
     rintro cx ca ⟨q,T0,T2,T3,T4,T5,T6,T7,T8,T9,ag,ay,ai,az,bf,am,hE,p,hm64,t,hq,hbs,-⟩
     have q103:=am
     refine gS (Yk.eqI (a:=(q:Nat)) (b:=(es.length:Nat)) am bf (Ah _ _ _ _) ?_)
     refine cD rfl (fun de=> ?_) fun de=> ?_
     ·have hc2_:q<es.length:=de
      have hcl:=hok _ (getD_mem dEnt (l:=es) (i:=q) hc2_)
      rcases hl:s.M (es.getD (q) dEnt).1.base with _ | c
      ·rcases hbx:(es.getD (q) dEnt).1.based with _ | _
       ·have fj:(entC (es.getD (q) dEnt)).length=35:=(RG.elem (av.keep p) dEnt (by omega))
        refine gS (Yk.atRG Fi L7 (by decide) dEnt (RG.of (av.keep p) az) am (by omega) fun io df=>(gS (Yk.loadPR (PR.of df rfl) (I1).choose_spec rfl (by rw[fj];exact Ed) (gS (Yk.alloc GJ fun dg fk fl dh di ip=> ?_)))))
        have bg:=Ext.refl ca
        have iq:=hE.size
        have ir:=p.size
        have iu:=t.size
        have iv:=Aw hm64.lt fl
        have a6:=dh;clear dh
        have iw:dg<fk.heap.size:=by omega
        refine gS (Yk.storeAll (vr (PQ dg 0) rfl) (vr (.agg (entC (es.getD (q) dEnt)).toArray) rfl) a6 (AW (x:=((es.getD (q) dEnt):Ad)) (y:=(dEnt:Ad)) hcl.2 (by simp[dEnt])) (AP (x:=((es.getD (q) dEnt):Ad)) Ed hcl.2) (AS (x:=((es.getD (q) dEnt):Ad)) (RB.one hcl.1).2) fun fm dj dk ix=> ?_)
        have hm64:=hm64.keep di
        have hm64:=MapF.other hm64 dk (Ao (by omega))
        clear a6
        have a6:=dj;clear dj
        have iy:=bl a6
        clear df
        refine gS (Yk.fieldAt Lq rfl (gS (Yk.loadPart rfl (Dk (x:=((es.getD (q) dEnt):Ad)) a6) QJ rfl (by rw[Lib.byteCells_length,hcl.2];exact N2) (gS (Yk.lookOkN (ek:=rk) (ev:=Bm) (D:=(fun id:List UInt8=>id.length=32)) B4 B5 (fun _ _=>BY) I3 (z:=Bm dEnt) CY ag rfl hm64 hcl.2 hl (gS (Yk.extract (vs:= [.agg (entC (dEnt)).toArray, .bool (false)]) rfl rfl (gS (Yk.extract (vs:= [.agg (entC (dEnt)).toArray, .bool (false)]) rfl rfl (gS (Yk.alloc GJ fun dl fn fo dm bu iz=> ?_)))))))))))
        have bv:=Ext.refl fm
        have bg:=bg.trans di
        have bg:=Aa bg dk (Nat.le_trans (Nat.le_refl _) (by omega))
        have hE:=hE.trans bg
        have p:=p.trans bg
        have t:=t.trans bg
        have fp:=hE.size
        have fq:=p.size
        have fr:=t.size
        have i0:=Aw hm64.lt fo
        have cb:=dm;clear dm
        have i1:dl<fn.heap.size:=by omega
        refine gS (Yk.storeAll (vr (PQ dl 0) rfl) (vr (.agg (entC (dEnt)).toArray) rfl) cb (AW (x:=((dEnt):Ad)) (y:=(dEnt:Ad)) (by simp[dEnt]) (by simp[dEnt])) (AP (x:=((dEnt):Ad)) Ed (by simp[dEnt])) (AS (x:=((dEnt):Ad)) rfl) fun i2 dn bw i3=> ?_)
        have hm64:=hm64.keep bu
        have hm64:=MapF.other hm64 bw (Ao (by omega))
        clear cb
        have cb:=dn;clear dn
        have i4:=bl cb
        have bv:=bv.trans bu
        have bv:=Aa bv bw (Nat.le_trans (Nat.le_refl _) (by omega))
        have a6:=eb bv a6
        refine gS (Yk.fieldAt FC rfl (gS (Yk.cell1 IB rfl rfl (cellAt a6 ((show(entC ((es.getD (q) dEnt)))[1]? =some (.bool false:Value)from congrArg (fun b=>some (Value.bool b)) hbx))) (gS (Yk.notB rfl (gS (Yk.pickT rfl rfl (gP (Yp.callA2 FW rfl rfl ?_)))))))))
        refine Ap (AR _ (true) 6) ?_ ?_
        rotate_left
        ·rintro ch i5 ⟨rfl,hb,hx⟩
         refine Aq ?_
         cases hb
        rintro v_ i6 ⟨rfl,i7,cc⟩
        have hE:=hE.trans bu
        have hE:=Aa hE bw (Nat.le_trans fp (by omega))
        have hE:=hE.trans cc
        have p:=p.trans bu
        have p:=Aa p bw (Nat.le_trans fq (by omega))
        have p:=p.trans cc
        have t:=t.trans bu
        have t:=Aa t bw (Nat.le_trans fr (by omega))
        have t:=t.trans cc
        have hm64:=hm64.keep cc
        refine gS (Yk.bin (xv:=NI q) (yv:=NI 1) am rfl rfl (Ac _ _ _ (by omega)) (gK (And.intro ⟨q+1,T0,T2,T3,T4,T5,T6,T7,T8,T9,ag,ay,ai,az,bf,rfl,hE,p,hm64,t,by omega,fun j hj=>by by_cases e:j=q;subst e;exact(fun hbt=>by rw[hbx]at hbt;cases hbt);exact hbs j (by omega),trivial⟩ ?_)))
        show es.length-(intOf (NI ((q)+(1)))).toNat<es.length-(intOf (cx 103)).toNat
        rw[q103]
        simp only[intOf,Int.toNat_natCast];omega
       have fs:(entC (es.getD (q) dEnt)).length=35:=(RG.elem (av.keep p) dEnt (by omega))
       refine gS (Yk.atRG Fi L7 (by decide) dEnt (RG.of (av.keep p) az) am (by omega) fun i8 dp=>(gS (Yk.loadPR (PR.of dp rfl) (I1).choose_spec rfl (by rw[fs];exact Ed) (gS (Yk.alloc GJ fun dq ft fu dr ds i9=> ?_)))))
       have bh:=Ext.refl ca
       have ja:=hE.size
       have jb:=p.size
       have jc:=t.size
       have jd:=Aw hm64.lt fu
       have a7:=dr;clear dr
       have je:dq<ft.heap.size:=by omega
       refine gS (Yk.storeAll (vr (PQ dq 0) rfl) (vr (.agg (entC (es.getD (q) dEnt)).toArray) rfl) a7 (AW (x:=((es.getD (q) dEnt):Ad)) (y:=(dEnt:Ad)) hcl.2 (by simp[dEnt])) (AP (x:=((es.getD (q) dEnt):Ad)) Ed hcl.2) (AS (x:=((es.getD (q) dEnt):Ad)) (RB.one hcl.1).2) fun fv dt du jf=> ?_)
       have hm64:=hm64.keep ds
       have hm64:=MapF.other hm64 du (Ao (by omega))
       clear a7
       have a7:=dt;clear dt
       have jg:=bl a7
       clear dp
       refine gS (Yk.fieldAt Lq rfl (gS (Yk.loadPart rfl (Dk (x:=((es.getD (q) dEnt):Ad)) a7) QJ rfl (by rw[Lib.byteCells_length,hcl.2];exact N2) (gS (Yk.lookOkN (ek:=rk) (ev:=Bm) (D:=(fun id:List UInt8=>id.length=32)) B4 B5 (fun _ _=>BY) I3 (z:=Bm dEnt) CY ag rfl hm64 hcl.2 hl (gS (Yk.extract (vs:= [.agg (entC (dEnt)).toArray, .bool (false)]) rfl rfl (gS (Yk.extract (vs:= [.agg (entC (dEnt)).toArray, .bool (false)]) rfl rfl (gS (Yk.alloc GJ fun dv fw fx dw cy jh=> ?_)))))))))))
       have bx:=Ext.refl fv
       have bh:=bh.trans ds
       have bh:=Aa bh du (Nat.le_trans (Nat.le_refl _) (by omega))
       have hE:=hE.trans bh
       have p:=p.trans bh
       have t:=t.trans bh
       have fy:=hE.size
       have ji:=p.size
       have jj:=t.size
       have jk:=Aw hm64.lt fx
       have cd:=dw;clear dw
       have jl:dv<fw.heap.size:=by omega
       refine gS (Yk.storeAll (vr (PQ dv 0) rfl) (vr (.agg (entC (dEnt)).toArray) rfl) cd (AW (x:=((dEnt):Ad)) (y:=(dEnt:Ad)) (by simp[dEnt]) (by simp[dEnt])) (AP (x:=((dEnt):Ad)) Ed (by simp[dEnt])) (AS (x:=((dEnt):Ad)) rfl) fun jm dx cz jn=> ?_)
       have hm64:=hm64.keep cy
       have hm64:=MapF.other hm64 cz (Ao (by omega))
       clear cd
       have cd:=dx;clear dx
       have jo:=bl cd
       have bx:=bx.trans cy
       have bx:=Aa bx cz (Nat.le_trans (Nat.le_refl _) (by omega))
       have a7:=eb bx a7
       refine gS (Yk.fieldAt FC rfl (gS (Yk.cell1 IB rfl rfl (cellAt a7 ((show(entC ((es.getD (q) dEnt)))[1]? =some (.bool true:Value)from congrArg (fun b=>some (Value.bool b)) hbx))) (gS (Yk.notB rfl (gS (Yk.pickF rfl rfl (gP (Yp.callA2 FW rfl rfl ?_)))))))))
       refine Ap (AR _ (false) 6) ?_ ?_
       rotate_left
       ·rintro ch jp ⟨rfl,hb,hx⟩
        refine Aq ?_
        have hE:=hE.trans cy
        have hE:=Aa hE cz (Nat.le_trans fy (by omega))
        exact .inr ⟨_,rfl,6,hP4.trans (if_neg (fun h=>OV h hc2_ hbx hl)),rfl,hE.trans hx⟩
       rintro v_ jq ⟨rfl,fz,jr⟩
       cases fz
      have hcx:=hMO _ c hl
      rcases hbx:(es.getD (q) dEnt).1.based with _ | _
      ·have f0:(entC (es.getD (q) dEnt)).length=35:=(RG.elem (av.keep p) dEnt (by omega))
       refine gS (Yk.atRG Fi L7 (by decide) dEnt (RG.of (av.keep p) az) am (by omega) fun js dy=>(gS (Yk.loadPR (PR.of dy rfl) (I1).choose_spec rfl (by rw[f0];exact Ed) (gS (Yk.alloc GJ fun dz f1 f2 d0 d1 jt=> ?_)))))
       have bi:=Ext.refl ca
       have ju:=hE.size
       have jv:=p.size
       have jw:=t.size
       have jx:=Aw hm64.lt f2
       have a8:=d0;clear d0
       have jy:dz<f1.heap.size:=by omega
       refine gS (Yk.storeAll (vr (PQ dz 0) rfl) (vr (.agg (entC (es.getD (q) dEnt)).toArray) rfl) a8 (AW (x:=((es.getD (q) dEnt):Ad)) (y:=(dEnt:Ad)) hcl.2 (by simp[dEnt])) (AP (x:=((es.getD (q) dEnt):Ad)) Ed hcl.2) (AS (x:=((es.getD (q) dEnt):Ad)) (RB.one hcl.1).2) fun f3 d2 d3 jz=> ?_)
       have hm64:=hm64.keep d1
       have hm64:=MapF.other hm64 d3 (Ao (by omega))
       clear a8
       have a8:=d2;clear d2
       have j0:=bl a8
       clear dy
       refine gS (Yk.fieldAt Lq rfl (gS (Yk.loadPart rfl (Dk (x:=((es.getD (q) dEnt):Ad)) a8) QJ rfl (by rw[Lib.byteCells_length,hcl.2];exact N2) (gS (Yk.lookOkS (ek:=rk) (ev:=Bm) (D:=(fun id:List UInt8=>id.length=32)) B4 B5 (fun _ _=>BY) I3 (z:=Bm dEnt) CY ag rfl hm64 hcl.2 hl (gS (Yk.extract (vs:= [.agg (entC (c)).toArray, .bool (true)]) rfl rfl (gS (Yk.extract (vs:= [.agg (entC (c)).toArray, .bool (true)]) rfl rfl (gS (Yk.alloc GJ fun d4 f4 f5 d5 bz j1=> ?_)))))))))))
       have b0:=Ext.refl f3
       have bi:=bi.trans d1
       have bi:=Aa bi d3 (Nat.le_trans (Nat.le_refl _) (by omega))
       have hE:=hE.trans bi
       have p:=p.trans bi
       have t:=t.trans bi
       have f6:=hE.size
       have f7:=p.size
       have f8:=t.size
       have j2:=Aw hm64.lt f5
       have ce:=d5;clear d5
       have j3:d4<f4.heap.size:=by omega
       refine gS (Yk.storeAll (vr (PQ d4 0) rfl) (vr (.agg (entC (c)).toArray) rfl) ce (AW (x:=((c):Ad)) (y:=(dEnt:Ad)) hcx.2.1 (by simp[dEnt])) (AP (x:=((c):Ad)) Ed hcx.2.1) (AS (x:=((c):Ad)) (RB.one hcx.1).2) fun j4 d6 b1 j5=> ?_)
       have hm64:=hm64.keep bz
       have hm64:=MapF.other hm64 b1 (Ao (by omega))
       clear ce
       have ce:=d6;clear d6
       have j6:=bl ce
       have b0:=b0.trans bz
       have b0:=Aa b0 b1 (Nat.le_trans (Nat.le_refl _) (by omega))
       have a8:=eb b0 a8
       refine gS (Yk.fieldAt FC rfl (gS (Yk.cell1 IB rfl rfl (cellAt a8 ((show(entC ((es.getD (q) dEnt)))[1]? =some (.bool false:Value)from congrArg (fun b=>some (Value.bool b)) hbx))) (gS (Yk.notB rfl (gS (Yk.pickT rfl rfl (gP (Yp.callA2 FW rfl rfl ?_)))))))))
       refine Ap (AR _ (true) 6) ?_ ?_
       rotate_left
       ·rintro ch j7 ⟨rfl,hb,hx⟩
        refine Aq ?_
        cases hb
       rintro v_ j8 ⟨rfl,j9,cf⟩
       have hE:=hE.trans bz
       have hE:=Aa hE b1 (Nat.le_trans f6 (by omega))
       have hE:=hE.trans cf
       have p:=p.trans bz
       have p:=Aa p b1 (Nat.le_trans f7 (by omega))
       have p:=p.trans cf
       have t:=t.trans bz
       have t:=Aa t b1 (Nat.le_trans f8 (by omega))
       have t:=t.trans cf
       have hm64:=hm64.keep cf
       refine gS (Yk.bin (xv:=NI q) (yv:=NI 1) am rfl rfl (Ac _ _ _ (by omega)) (gK (And.intro ⟨q+1,T0,T2,T3,T4,T5,T6,T7,T8,T9,ag,ay,ai,az,bf,rfl,hE,p,hm64,t,by omega,fun j hj=>by by_cases e:j=q;subst e;exact(fun hbt=>by rw[hbx]at hbt;cases hbt);exact hbs j (by omega),trivial⟩ ?_)))
       show es.length-(intOf (NI ((q)+(1)))).toNat<es.length-(intOf (cx 103)).toNat
       rw[q103]
       simp only[intOf,Int.toNat_natCast];omega
      have f9:(entC (es.getD (q) dEnt)).length=35:=(RG.elem (av.keep p) dEnt (by omega))
      refine gS (Yk.atRG Fi L7 (by decide) dEnt (RG.of (av.keep p) az) am (by omega) fun ka d7=>(gS (Yk.loadPR (PR.of d7 rfl) (I1).choose_spec rfl (by rw[f9];exact Ed) (gS (Yk.alloc GJ fun d8 ga gb d9 ea kc=> ?_)))))
      have bj:=Ext.refl ca
      have kd:=hE.size
      have ke:=p.size
      have kf:=t.size
      have kg:=Aw hm64.lt gb
      have a9:=d9;clear d9
      have kh:d8<ga.heap.size:=by omega
      refine gS (Yk.storeAll (vr (PQ d8 0) rfl) (vr (.agg (entC (es.getD (q) dEnt)).toArray) rfl) a9 (AW (x:=((es.getD (q) dEnt):Ad)) (y:=(dEnt:Ad)) hcl.2 (by simp[dEnt])) (AP (x:=((es.getD (q) dEnt):Ad)) Ed hcl.2) (AS (x:=((es.getD (q) dEnt):Ad)) (RB.one hcl.1).2) fun gc ec ed ki=> ?_)
      have hm64:=hm64.keep ea
      have hm64:=MapF.other hm64 ed (Ao (by omega))
      clear a9
      have a9:=ec;clear ec
      have kj:=bl a9
      clear d7
      refine gS (Yk.fieldAt Lq rfl (gS (Yk.loadPart rfl (Dk (x:=((es.getD (q) dEnt):Ad)) a9) QJ rfl (by rw[Lib.byteCells_length,hcl.2];exact N2) (gS (Yk.lookOkS (ek:=rk) (ev:=Bm) (D:=(fun id:List UInt8=>id.length=32)) B4 B5 (fun _ _=>BY) I3 (z:=Bm dEnt) CY ag rfl hm64 hcl.2 hl (gS (Yk.extract (vs:= [.agg (entC (c)).toArray, .bool (true)]) rfl rfl (gS (Yk.extract (vs:= [.agg (entC (c)).toArray, .bool (true)]) rfl rfl (gS (Yk.alloc GJ fun ee gd ge ef b2 kl=> ?_)))))))))))
      have b3:=Ext.refl gc
      have bj:=bj.trans ea
      have bj:=Aa bj ed (Nat.le_trans (Nat.le_refl _) (by omega))
      have hE:=hE.trans bj
      have p:=p.trans bj
      have t:=t.trans bj
      have gf:=hE.size
      have gg:=p.size
      have gh:=t.size
      have km:=Aw hm64.lt ge
      have cg:=ef;clear ef
      have kn:ee<gd.heap.size:=by omega
      refine gS (Yk.storeAll (vr (PQ ee 0) rfl) (vr (.agg (entC (c)).toArray) rfl) cg (AW (x:=((c):Ad)) (y:=(dEnt:Ad)) hcx.2.1 (by simp[dEnt])) (AP (x:=((c):Ad)) Ed hcx.2.1) (AS (x:=((c):Ad)) (RB.one hcx.1).2) fun ko eg b4 kp=> ?_)
      have hm64:=hm64.keep b2
      have hm64:=MapF.other hm64 b4 (Ao (by omega))
      clear cg
      have cg:=eg;clear eg
      have kq:=bl cg
      have b3:=b3.trans b2
      have b3:=Aa b3 b4 (Nat.le_trans (Nat.le_refl _) (by omega))
      have a9:=eb b3 a9
      refine gS (Yk.fieldAt FC rfl (gS (Yk.cell1 IB rfl rfl (cellAt a9 ((show(entC ((es.getD (q) dEnt)))[1]? =some (.bool true:Value)from congrArg (fun b=>some (Value.bool b)) hbx))) (gS (Yk.notB rfl (gS (Yk.pickF rfl rfl (gP (Yp.callA2 FW rfl rfl ?_)))))))))
      refine Ap (AR _ (true) 6) ?_ ?_
      rotate_left
      ·rintro ch kr ⟨rfl,hb,hx⟩
       refine Aq ?_
       cases hb
      rintro v_ ks ⟨rfl,kt,ci⟩
      have hE:=hE.trans b2
      have hE:=Aa hE b4 (Nat.le_trans gf (by omega))
      have hE:=hE.trans ci
      have p:=p.trans b2
      have p:=Aa p b4 (Nat.le_trans gg (by omega))
      have p:=p.trans ci
      have t:=t.trans b2
      have t:=Aa t b4 (Nat.le_trans gh (by omega))
      have t:=t.trans ci
      have hm64:=hm64.keep ci
      refine gS (Yk.bin (xv:=NI q) (yv:=NI 1) am rfl rfl (Ac _ _ _ (by omega)) (gK (And.intro ⟨q+1,T0,T2,T3,T4,T5,T6,T7,T8,T9,ag,ay,ai,az,bf,rfl,hE,p,hm64,t,by omega,fun j hj=>by by_cases e:j=q;subst e;exact(fun _ hn=>by rw[hl]at hn;cases hn);exact hbs j (by omega),trivial⟩ ?_)))
      show es.length-(intOf (NI ((q)+(1)))).toNat<es.length-(intOf (cx 103)).toNat
      rw[q103]
      simp only[intOf,Int.toNat_natCast];omega
     have hbb:=OW (fun j hj=>hbs j (by omega))
     have hP5:Ci b=En (entOf s.plain.M) s.ids:=hP4.trans (if_pos hbb)
     refine gS (Yk.mkMap rk B9 (fun id:List UInt8=>id.length=32) fun aj gi gj ar cj ku=> ?_)
     have kv:=hE.size
     have kw:=p.size
     have kx:=t.size
     have ky:=Aw hm64.lt gj
     have kz:aj<gi.heap.size:=by omega
     refine gS (Yk.build2 ag (vr (.map (some aj)) rfl) (fun w=>I6 (ac) (aj) w) (gS (Yk.box (cs:=([.map (some ac), .map (some aj)]:List Value).toArray) (show _=(.agg ([.map (some ac), .map (some aj)]).toArray:Value)from rfl) fun bk gk eh ei b5 k0=> ?_)))
     have hE:=hE.trans cj
     have p:=p.trans cj
     have t:=t.trans cj
     have k1:=hE.size
     have k2:=p.size
     have k3:=t.size
     have hm64:=hm64.keep cj
     have k4:=Aw hm64.lt eh
     have k5:=Aw ar.lt eh
     have ab:=ei;clear ei
     have k6:bk<gk.heap.size:=by omega
     refine gS (Yk.mkMap rk B9 (fun id:List UInt8=>id.length=32) fun an gl c0 b6 bt k7=> ?_)
     have hE:=hE.trans b5
     have p:=p.trans b5
     have t:=t.trans b5
     have k8:=hE.size
     have k9:=p.size
     have la:=t.size
     have hm64:=hm64.keep b5
     have lb:=Aw hm64.lt c0
     have ar:=ar.keep b5
     have lc:=Aw ar.lt c0
     have ld:an<gl.heap.size:=by omega
     have t:=t.trans bt
     refine gS (Yk.build2 T9 (vr (.map (some an)) rfl) (fun w=>Jt (RG.slice (be.keep t)) (an) w) (gS (Yk.box (cs:=([ak, .map (some an)]:List Value).toArray) (show _=(.agg ([ak, .map (some an)]).toArray:Value)from rfl) fun b7 gm ck ej bm le=> ?_)))
     have hE:=hE.trans bt
     have p:=p.trans bt
     have lf:=hE.size
     have lg:=p.size
     have lh:=t.size
     have hm64:=hm64.keep bt
     have li:=Aw hm64.lt ck
     have ar:=ar.keep bt
     have lj:=Aw ar.lt ck
     have lk:=Aw b6.lt ck
     have ah:=ej;clear ej
     have ll:b7<gm.heap.size:=by omega
     have lm:=Aw (bl ab) c0
     have ab:=eb bt ab
     have ln:=Aw (bl ab) ck
     have ab:=eb bm ab
     have hE:=hE.trans bm
     have p:=p.trans bm
     have hm64:=hm64.keep bm
     have t:=t.trans bm
     have ar:=ar.keep bm
     have b6:=b6.keep bm
     refine gS (Yk.lenRG Lc (RG.of (be.keep t) T9) (gL (fun(ρ:Ae) (wz:World)=>∃i:Nat,∃st:G3,∃H:Bs→Option B0,∃O:Bs→Option B0,ρ 0=(v:Value)∧ρ 2=(.pointer none:Value)∧ρ 3=(NI ((b.length)-(36)):Value)∧ρ 4=(NI f:Value)∧ρ 5=(NI n:Value)∧ρ 6=(NI (1+k):Value)∧ρ 7=(NI 0:Value)∧ρ 8=(br:Value)∧ρ 9=(ak:Value)∧ρ 10=(.map (some ac):Value)∧ρ 17=(PQ bk 0:Value)∧ρ 18=(PQ b7 0:Value)∧ρ 85=(.agg ((AK (s.ids)).map fun x=>NI x).toArray:Value)∧ρ 86=(NI m:Value)∧ρ 101=(br:Value)∧ρ 102=(NI es.length:Value)∧ρ 103=(NI q:Value)∧ρ 130=(ak:Value)∧ρ 131=(NI ((s.ids).length):Value)∧ρ 132=(NI i:Value)∧ρ 19=(NI st.total:Value)∧Ext w wz∧Ext bs wz∧MapF rk Bm (fun id:List UInt8=>id.length=32) wz ac s.M∧Ext bd wz∧wz.heap[bk]? =some (.cells ([.map (some ac), .map (some aj)]).toArray 120 (0,0))∧wz.heap[b7]? =some (.cells ([ak, .map (some an)]).toArray 74 (0,0))∧HOk wz s.M H∧OOk wz O∧MapF rk B9 (fun id:List UInt8=>id.length=32) wz aj (H)∧MapF rk B9 (fun id:List UInt8=>id.length=32) wz an (O)∧(C9 (AG s.M) s.ids i = .ok st)∧(i≤s.ids.length)∧((fun k=>(O k).map Prod.fst)=st.O)∧(st.total≤4194304)∧True) (fun ρ _=>s.ids.length-(intOf (ρ 132)).toNat) ⟨0,⟨0,fun _=>none⟩,fun _=>none,fun _=>none,T0,T2,T3,T4,T5,T6,T7,T8,T9,ag,rfl,rfl,ay,ai,az,bf,am,T9,rfl,rfl,rfl,hE,p,hm64,t,ab,ah,HOk.nil,OOk.nil _,CU ar (rfl),CU b6 (rfl),rfl,Nat.zero_le _,rfl,Nat.zero_le _,trivial⟩ ?_))
     clear ar
     clear b6
     clear hE p hm64 t ab ah
     rintro gn go ⟨i,st,H,O,T0,T2,T3,T4,T5,T6,T7,T8,T9,ag,c1,c2,ay,ai,az,bf,am,el,em,cl,gp,hE,p,hm64,t,ab,ah,hHO,hOO,hb332l,hb367l,hs,hi,hO,htot,-⟩
     have q132:=cl
     refine gS (Yk.eqI (a:=(i:Nat)) (b:=((s.ids).length:Nat)) cl em (Ah _ _ _ _) ?_)
     refine cD rfl (fun en=> ?_) fun en=> ?_
     ·have hc3_:i<s.ids.length:=en
      have hid32:(s.ids.getD i []).length=32:=by have:=RG.elem (be.keep t) ([]:List UInt8) hc3_;rwa [Lib.byteCells_length]at this
      have oerr:∀c,Df (AG s.M) (s.ids.getD i []) st = .error c→Ci b = .error c:=fun c hc=>by rw[hP5];unfold En;rw[←Id];have h1:=FY ((EI hs).trans hc) (s.ids.length-(i+1));rw[show i+1+(s.ids.length-(i+1))=s.ids.length by omega]at h1;show(match C9 (AG s.M) s.ids s.ids.length with | .error e=>_ | .ok o=>_)=_;rw[h1]
      have ba:(Lib.byteCells ((s.ids).getD (i) ([]:List UInt8))).length=32:=(RG.elem (be.keep t) ([]:List UInt8) (by omega))
      refine gS (Yk.atRG Lc Og (by decide) ([]:List UInt8) (RG.of (be.keep t) el) cl (by omega) fun lo eo=>(gS (Yk.loadPR (PR.of eo rfl) QJ rfl (by rw[ba];exact N2) (gS (Yk.alloc PP fun cm gq c3 ep cn lp=> ?_)))))
      have ae:=Ext.refl go
      have lq:=hE.size
      have lr:=p.size
      have ls:=t.size
      have lu:=Aw hm64.lt c3
      have lv:=Aw hb332l.lt c3
      have lw:=Aw hb367l.lt c3
      have ad:=ep;clear ep
      have lx:cm<gq.heap.size:=by omega
      refine gS (Yk.storeAll (vr (PQ cm 0) rfl) (vr (AB ((s.ids).getD (i) ([]:List UInt8))) rfl) ad (by exact BQ (As (ba)) List.length_replicate) (by exact Ag (As (ba))) (Ai _) fun ly eq co lz=> ?_)
      have hm64:=hm64.keep cn
      have hm64:=MapF.other hm64 co (Ao (by omega))
      have hb332l:=hb332l.keep cn
      have hb332l:=MapF.other hb332l co (Ao (by omega))
      have hb367l:=hb367l.keep cn
      have hb367l:=MapF.other hb367l co (Ao (by omega))
      clear ad
      have ad:=eq;clear eq
      have l0:=bl ad
      clear eo
      have ae:=ae.trans cn
      have ae:=Aa ae co (Nat.le_trans (Nat.le_refl _) (by omega))
      have ab:=eb ae ab
      have t:=t.trans ae
      refine gS (Yk.loadAll rfl ad QJ rfl (by exact Ag (As (ba))) (gP (Yp.callA2 OZ c1 rfl ?_)))
      refine Ap (Np _ bk ac aj s.M ab hm64 (hMO.keep t) (s.ids.getD i []) hid32) ?_ ?_
      rotate_left
      ·rintro ch l3 ⟨hno,rfl,hx⟩
       refine Aq ?_
       have hE:=hE.trans ae
       exact .inr ⟨_,rfl,17,oerr 17 (I5 hno),rfl,hE.trans hx⟩
      rintro v_ gr ⟨dd,hdp,rfl,bn⟩
      have hdle:=GO hdp
      have hm64:=hm64.keep bn
      have t:=t.trans bn
      have ab:=eb bn ab
      have hb332l:=hb332l.keep bn
      have ae:=ae.trans bn
      have ad:=eb bn ad
      refine gS (Yk.loadAll rfl ad QJ rfl (by exact Ag (As (ba))) (gP (Yp.callA2 OS c1 rfl ?_)))
      refine Ap (OU bk ac aj s.M dd _ H (s.ids.getD i []) ab hm64 hb332l (hMO.keep t) (hHO.keep ae) (by omega) hid32 hdle 50 hdp) ?_ ?_
      rotate_left
      ·rintro ch l4 ⟨hno,rfl,hx⟩
       refine Aq ?_
       have hE:=hE.trans ae
       exact .inr ⟨_,rfl,6,oerr 6 (J3 hdp hno),rfl,Db hE hx hE.size (fun k hk=>by cases hk;omega)⟩
      rintro v_ au ⟨a0,bb,kk,H1,rfl,hcg,bp,hm455,hHO456,cp⟩
      have bq:=cp.grown
      have hm461:Dm gr aj:=(MapF.isMap hb332l).noB8
      have hE:=hE.trans ae
      have hE:Ext w au:=Db hE cp hE.size (fun k hk=>by cases hk;omega)
      have p:=p.trans ae
      have p:Ext bs au:=Db p cp p.size (fun k hk=>by cases hk;omega)
      have hm64:MapF rk Bm (fun id:List UInt8=>id.length=32) au ac s.M:=MapF.other hm64 bq (Ao (by omega))
      have t:Ext bd au:=Db t cp t.size (fun k hk=>by cases hk;omega)
      have ab:au.heap[bk]? =some (.cells ([.map (some ac), .map (some aj)]).toArray 120 (0,0)):=kb bq ab (by omega)
      have ah:=eb ae ah
      have ah:au.heap[b7]? =some (.cells ([ak, .map (some an)]).toArray 74 (0,0)):=kb bq ah (by omega)
      have hHO:HOk au s.M H:=(hHO.keep ae).keepN hm461 bq
      have hOO:OOk au O:=(hOO.keep ae).keepN hm461 bq
      clear hb332l
      have hb367l:=hb367l.keep bn
      have hb367l:MapF rk B9 (fun id:List UInt8=>id.length=32) au an (O):=MapF.other hb367l bq (Ao (by omega))
      have ad:au.heap[cm]? =some (.cells (Lib.byteCells ((s.ids).getD (i) ([]:List UInt8))).toArray 38 (0,0)):=kb bq ad (by omega)
      have l5:=hE.size
      have l6:=p.size
      have l7:=t.size
      have hcl:=EG hcg
      refine gS (Yk.alloc DO fun c4 gs c5 er cq l8=> ?_)
      have u:=Ext.refl au
      have l9:=hE.size
      have ma:=p.size
      have mb:=t.size
      have mc:=Aw hm64.lt c5
      have md:=Aw hb367l.lt c5
      have me:=Aw hm455.lt c5
      have af:=er;clear er
      have mf:c4<gs.heap.size:=by omega
      have u:=u.trans cq
      refine gS (Yk.storeAll (vr (PQ c4 0) rfl) (vr (.agg ([a0,NI kk]).toArray) rfl) af rfl (show(Tryd.prog.info? 81).map (·.size)=some 2 from Bk) (BW (RB.one (bp.keep u)).2) fun mg et cr mh=> ?_)
      have hm64:=hm64.keep cq
      have hm64:=MapF.other hm64 cr (Ao (by omega))
      have hb367l:=hb367l.keep cq
      have hb367l:=MapF.other hb367l cr (Ao (by omega))
      have hm455:=hm455.keep cq
      have hm455:=MapF.other hm455 cr (Ao (by omega))
      clear af
      have af:=et;clear et
      have mi:=bl af
      refine DC [0,1,4,2,3,5,6] [2,3,6] [] [4] fun gt c6=> ?_
      have ct:=Ext.refl gt
      have u:=Aa u cr (Nat.le_trans (Nat.le_refl _) (by omega))
      have u:=u.trans c6
      have ad:=eb u ad
      have af:=eb c6 af
      refine C3 ct ?_
      refine ys (Yk.fieldAt F8 rfl zz) (ys (Yk.cell1 EX rfl rfl (cellAt af rfl) zz) (yf (fun _ ⟨hZ,_⟩=>Yk.loadAll rfl (eb hZ ad) QJ rfl (by exact Ag (As (ba))) zz) (yE (Yk.rows1 FA (RB.of (bp.keep u) (vr a0 rfl)) fun gu gv eu cu=> ?_))))
      have ct:=ct.trans cu
      refine⟨ct,?_⟩
      have c7:=Ext.refl gv
      have u:=u.trans cu
      have hE:=hE.trans u
      refine yE (Yk.callA1 Iy rfl ((EM _ (hG.keep hE) gu (bb) eu (by omega)).mono ?_))
      rintro e mj ⟨rfl,b8⟩
      refine⟨_,rfl,?_⟩
      have c7:=c7.trans b8
      refine⟨c7,?_⟩
      refine ys (Yk.eqArr (l1:=(Sha.sum (bb))) (l2:=((s.ids).getD (i) ([]:List UInt8))) QJ u5 M4 O0 rfl rfl ((Sha.sum_length _)) (hid32) zz) (R4 rfl (Yp.callA2 FW rfl rfl ?_))
      refine Ap (AR _ (decide ((Sha.sum (bb))=((s.ids).getD (i) ([]:List UInt8)))) 18) ?_ ?_
      rotate_left
      ·rintro ch mk ⟨rfl,hb,hx⟩
       refine Aq ?_
       have hno:=of_decide_eq_false hb
       have hE:=hE.trans b8
       exact .inr ⟨_,rfl,18,oerr 18 ((EH hdp hcg).trans (if_neg hno)),rfl,hE.trans hx⟩
      rintro v_ ml ⟨rfl,gw,c8⟩
      have gx:=of_decide_eq_true gw
      have hsum:=gx
      have hZ2:=(cu.trans b8).trans c8
      have af:=eb hZ2 af
      have hZ3:=b8.trans c8
      have u:=u.trans hZ3
      refine gS (Yk.fieldAt F8 rfl (gS (Yk.cell1 EX rfl rfl (cellAt af rfl) (gS (Yk.lenRB EX (RB.of (bp.keep u) rfl) (gS (Yk.bin (xv:=NI st.total) (yv:=NI bb.length) gp rfl rfl (Ac _ _ _ (by omega)) (gS (Yk.eqI (a:=((st.total)+(bb.length):Nat)) (b:=(4194304:Nat)) rfl rfl (BU _ _ _ _) (gP (Yp.callA2 FW rfl rfl ?_)))))))))))
      refine Ap (AR _ (decide (((st.total)+(bb.length))≤(4194304))) 2) ?_ ?_
      rotate_left
      ·rintro ch mm ⟨rfl,hb,hx⟩
       refine Aq ?_
       have hno:=of_decide_eq_false hb
       have hE:=hE.trans hZ3
       exact .inr ⟨_,rfl,2,oerr 2 ((EH hdp hcg).trans ((if_pos hsum).trans (if_neg hno))),rfl,hE.trans hx⟩
      rintro v_ mn ⟨rfl,gy,cv⟩
      have ew:=of_decide_eq_true gy
      refine Bw [0,1,2,3,4,5,6,7,8,9] [9] [] fun gz cw=> ?_
      have hZ4:=cv.trans cw
      have u:=u.trans hZ4
      have ah:=eb u ah
      have hZ5:=((((c6.trans cu).trans b8).trans c8).trans cv).trans cw
      have hb367l:=hb367l.keep hZ5
      have ad:=eb ((hZ2.trans cv).trans cw) ad
      have af:=eb hZ4 af
      refine ys (Yk.nilCheck c2 zz) (ys (Yk.fieldAt L9 rfl zz) (ys (Yk.cell1 CO rfl rfl (cellAt ah rfl) zz) (ys (Yk.loadAll rfl ad QJ rfl (by exact Ag (As (ba))) zz) (ys (Yk.fieldAt F8 rfl zz) (ys (Yk.cell1 EX rfl rfl (cellAt af rfl) zz) (ys (Yk.build2 (vr a0 rfl) (vr (NI dd) rfl) (fun w=>Jr (RB.slice (bp.keep u)) (((dd:Nat):Int)) w) zz) (yC (Yk.putM (ek:=rk) (ev:=B9) (D:=(fun id:List UInt8=>id.length=32)) (c:=(((bb,dd),a0):B0)) B4 B5 CO (vr (.map (some an)) rfl) (vr (AB ((s.ids).getD (i) ([]:List UInt8))) rfl) (vr (.agg ([a0,NI dd]).toArray) rfl) hb367l (As (ba)) fun ao g0 ap mo=> ?_))))))))
      have hOO:=OOk.put (hOO.keep u) (id:=s.ids.getD i []) (x:=(((bb,dd),a0):B0)) (bp.keep u)
      have hm523:Dm gz an:=(MapF.isMap hb367l).noB8
      have hZ6:=(hZ3.trans cv).trans cw
      have hE:=hE.trans hZ6
      have hE:Ext w ao:=Db hE (BX.ofGrown ap (Nat.le_refl _) (fun k hk=> .inl hk)) hE.size (fun k hk=>by cases hk;omega)
      have p:=p.trans u
      have p:Ext bs ao:=Db p (BX.ofGrown ap (Nat.le_refl _) (fun k hk=> .inl hk)) p.size (fun k hk=>by cases hk;omega)
      have hm64:=hm64.keep hZ5
      have hm64:MapF rk Bm (fun id:List UInt8=>id.length=32) ao ac s.M:=MapF.other hm64 ap (Ao (by omega))
      have t:=t.trans u
      have t:Ext bd ao:=Db t (BX.ofGrown ap (Nat.le_refl _) (fun k hk=> .inl hk)) t.size (fun k hk=>by cases hk;omega)
      have ab:=eb u ab
      have ab:ao.heap[bk]? =some (.cells ([.map (some ac), .map (some aj)]).toArray 120 (0,0)):=kb ap ab (by omega)
      have ah:ao.heap[b7]? =some (.cells ([ak, .map (some an)]).toArray 74 (0,0)):=kb ap ah (by omega)
      have hOO:OOk ao (updM (O) (s.ids.getD (i) ([]:List UInt8)) (some ((((bb,dd),a0):B0)))):=hOO.keepN hm523 ap
      clear hb367l
      have ad:ao.heap[cm]? =some (.cells (Lib.byteCells ((s.ids).getD (i) ([]:List UInt8))).toArray 38 (0,0)):=kb ap ad (by omega)
      have bp:RB ao a0 bb:=(bp.keep u).keepN hm523 ap
      have hm455:=hm455.keep hZ5
      have hm455:MapF rk B9 (fun id:List UInt8=>id.length=32) ao aj H1:=MapF.other hm455 ap (Ao (by omega))
      have hHO456:HOk ao s.M H1:=(hHO456.keep u).keepN hm523 ap
      have af:ao.heap[c4]? =some (.cells ([a0,NI kk]).toArray 81 (0,0)):=kb ap af (by omega)
      clear eu
      have mp:=hE.size
      have mq:=p.size
      have mr:=t.size
      refine gS (Yk.bin (xv:=NI i) (yv:=NI 1) cl rfl rfl (Ac _ _ _ (by omega)) (gK (And.intro ⟨i+1,⟨st.total+bb.length,updM st.O (s.ids.getD i []) (some (bb,dd))⟩,H1,updM (O) (s.ids.getD (i) ([]:List UInt8)) (some ((((bb,dd),a0):B0))),T0,T2,T3,T4,T5,T6,T7,T8,T9,ag,c1,c2,ay,ai,az,bf,am,el,em,rfl,rfl,hE,p,hm64,t,ab,ah,hHO456,hOO,CU hm455 (rfl),CU g0 (rfl),(EI hs).trans ((EH hdp hcg).trans ((if_pos hsum).trans (if_pos ew))),by omega,by rw[GK,hO];rfl,ew,trivial⟩ ?_)))
      show s.ids.length-(intOf (NI ((i)+(1)))).toNat<s.ids.length-(intOf (gn 132)).toNat
      rw[q132]
      simp only[intOf,Int.toNat_natCast];omega
     have hie:i=s.ids.length:=by omega
     refine Bx rfl c2 ?_
     exact .inl ⟨_,rfl,_,_,_,s.ids,O,rfl,by rw[hP5,←Id,Lt (by rw[←hie];exact hs),hO],ah,(be.keep t),hb367l,hOO,hE⟩
    have hP:Ci b = .error 6:=hP0.trans (if_neg (fun h=>by have h1:=h.2;exact q3 h1.2.2))
    have hE:=hE.trans bc
    refine gS (Yk.callA2 CG rfl rfl (((show Calls _ _ _ _ (fun e w2=>e = .returned (.tuple #[NI n,NI (1+k),NI 0])∧Ext _ w2)from(Eb _ v b (hr.keep hE) 1 (by omega)).mono fun e w2 ⟨h1,h2⟩=>by subst h2;subst h1;rw[hd];exact⟨rfl,Ext.refl _⟩)).mono ?_))
    rintro e ms ⟨rfl,g1⟩
    refine⟨_,rfl,?_⟩
    have hE:=hE.trans g1
    refine gS (Yk.extract (vs:= [NI n,NI (1+k),NI 0]) rfl rfl (gS (Yk.extract (vs:= [NI n,NI (1+k),NI 0]) rfl rfl (gS (Yk.extract (vs:= [NI n,NI (1+k),NI 0]) rfl rfl (gS (Yk.atRB (l:=b) (i:=0) EX M4 (RB.of (hr.keep hE) rfl) rfl (by omega) fun mt g2=>(gS (Yk.loadC u5 rfl (PCell.of g2 rfl) (gS (Yk.eqI (a:=((b.getD (0) 0).toNat:Nat)) (b:=(80:Nat)) rfl rfl (AO _ _ _ _) (kT (h80) (gS (Yk.eqI (a:=(0:Nat)) (b:=(0:Nat)) rfl rfl (AO _ _ _ _) (kT (rfl) (gS (Yk.pickT rfl rfl (gS (Yk.eqI (a:=(f:Nat)) (b:=(1+k:Nat)) rfl rfl (DB _ _ _ _) (kT (q1) (gS (Yk.pickT rfl rfl (gS (Yk.eqI (a:=(f:Nat)) (b:=((b.length)-(36):Nat)) rfl rfl (BU _ _ _ _) (kT (q2) (gS (Yk.pickT rfl rfl (gS (Yk.eqI (a:=(n:Nat)) (b:=((b.length)-(36):Nat)) rfl rfl (BU _ _ _ _) (kF (q3) (gS (Yk.pickT rfl rfl (gP (Yp.callA2 FW rfl rfl ?_))))))))))))))))))))))))))))))))))
    refine Ap (AR _ (false) 6) ?_ ?_
    rotate_left
    ·rintro ch mu ⟨rfl,hb,hx⟩
     refine Aq ?_
     exact .inr ⟨_,rfl,6,hP,rfl,hE.trans hx⟩
    rintro v_ mv ⟨rfl,g3,mw⟩
    cases g3
   have hP:Ci b = .error 6:=hP0.trans (if_neg (fun h=>by have h1:=h.2;exact q2 h1.2.1))
   have hE:=hE.trans bc
   refine gS (Yk.callA2 CG rfl rfl (((show Calls _ _ _ _ (fun e w2=>e = .returned (.tuple #[NI n,NI (1+k),NI 0])∧Ext _ w2)from(Eb _ v b (hr.keep hE) 1 (by omega)).mono fun e w2 ⟨h1,h2⟩=>by subst h2;subst h1;rw[hd];exact⟨rfl,Ext.refl _⟩)).mono ?_))
   rintro e mx ⟨rfl,g4⟩
   refine⟨_,rfl,?_⟩
   have hE:=hE.trans g4
   refine gS (Yk.extract (vs:= [NI n,NI (1+k),NI 0]) rfl rfl (gS (Yk.extract (vs:= [NI n,NI (1+k),NI 0]) rfl rfl (gS (Yk.extract (vs:= [NI n,NI (1+k),NI 0]) rfl rfl (gS (Yk.atRB (l:=b) (i:=0) EX M4 (RB.of (hr.keep hE) rfl) rfl (by omega) fun my g5=>(gS (Yk.loadC u5 rfl (PCell.of g5 rfl) (gS (Yk.eqI (a:=((b.getD (0) 0).toNat:Nat)) (b:=(80:Nat)) rfl rfl (AO _ _ _ _) (kT (h80) (gS (Yk.eqI (a:=(0:Nat)) (b:=(0:Nat)) rfl rfl (AO _ _ _ _) (kT (rfl) (gS (Yk.pickT rfl rfl (gS (Yk.eqI (a:=(f:Nat)) (b:=(1+k:Nat)) rfl rfl (DB _ _ _ _) (kT (q1) (gS (Yk.pickT rfl rfl (gS (Yk.eqI (a:=(f:Nat)) (b:=((b.length)-(36):Nat)) rfl rfl (BU _ _ _ _) (kF (q2) (gS (Yk.pickT rfl rfl (gS (Yk.pickF rfl rfl (gP (Yp.callA2 FW rfl rfl ?_)))))))))))))))))))))))))))))))
   refine Ap (AR _ (false) 6) ?_ ?_
   rotate_left
   ·rintro ch mz ⟨rfl,hb,hx⟩
    refine Aq ?_
    exact .inr ⟨_,rfl,6,hP,rfl,hE.trans hx⟩
   rintro v_ m0 ⟨rfl,g6,m1⟩
   cases g6
  have hP:Ci b = .error 6:=hP0.trans (if_neg (fun h=>by have h1:=h.2;exact q1 h1.1))
  have hE:=hE.trans bc
  refine gS (Yk.callA2 CG rfl rfl (((show Calls _ _ _ _ (fun e w2=>e = .returned (.tuple #[NI n,NI (1+k),NI 0])∧Ext _ w2)from(Eb _ v b (hr.keep hE) 1 (by omega)).mono fun e w2 ⟨h1,h2⟩=>by subst h2;subst h1;rw[hd];exact⟨rfl,Ext.refl _⟩)).mono ?_))
  rintro e m3 ⟨rfl,g7⟩
  refine⟨_,rfl,?_⟩
  have hE:=hE.trans g7
  refine gS (Yk.extract (vs:= [NI n,NI (1+k),NI 0]) rfl rfl (gS (Yk.extract (vs:= [NI n,NI (1+k),NI 0]) rfl rfl (gS (Yk.extract (vs:= [NI n,NI (1+k),NI 0]) rfl rfl (gS (Yk.atRB (l:=b) (i:=0) EX M4 (RB.of (hr.keep hE) rfl) rfl (by omega) fun m4 g8=>(gS (Yk.loadC u5 rfl (PCell.of g8 rfl) (gS (Yk.eqI (a:=((b.getD (0) 0).toNat:Nat)) (b:=(80:Nat)) rfl rfl (AO _ _ _ _) (kT (h80) (gS (Yk.eqI (a:=(0:Nat)) (b:=(0:Nat)) rfl rfl (AO _ _ _ _) (kT (rfl) (gS (Yk.pickT rfl rfl (gS (Yk.eqI (a:=(f:Nat)) (b:=(1+k:Nat)) rfl rfl (DB _ _ _ _) (kF (q1) (gS (Yk.pickT rfl rfl (gS (Yk.pickF rfl rfl (gS (Yk.pickF rfl rfl (gP (Yp.callA2 FW rfl rfl ?_))))))))))))))))))))))))))))
  refine Ap (AR _ (false) 6) ?_ ?_
  rotate_left
  ·rintro ch m5 ⟨rfl,hb,hx⟩
   refine Aq ?_
   exact .inr ⟨_,rfl,6,hP,rfl,hE.trans hx⟩
  rintro v_ m6 ⟨rfl,g9,m7⟩
  cases g9
 have hP:Ci b = .error 6:=hP0.trans (if_neg (fun h=>h80 (by rw[h.1];rfl)))
 have hE:=hE.trans bc
 refine gS (Yk.callA2 CG rfl rfl (((show Calls _ _ _ _ (fun e w2=>e = .returned (.tuple #[NI n,NI (1+k),NI 0])∧Ext _ w2)from(Eb _ v b (hr.keep hE) 1 (by omega)).mono fun e w2 ⟨h1,h2⟩=>by subst h2;subst h1;rw[hd];exact⟨rfl,Ext.refl _⟩)).mono ?_))
 rintro e m8 ⟨rfl,ha⟩
 refine⟨_,rfl,?_⟩
 have hE:=hE.trans ha
 refine gS (Yk.extract (vs:= [NI n,NI (1+k),NI 0]) rfl rfl (gS (Yk.extract (vs:= [NI n,NI (1+k),NI 0]) rfl rfl (gS (Yk.extract (vs:= [NI n,NI (1+k),NI 0]) rfl rfl (gS (Yk.atRB (l:=b) (i:=0) EX M4 (RB.of (hr.keep hE) rfl) rfl (by omega) fun m9 he=>(gS (Yk.loadC u5 rfl (PCell.of he rfl) (gS (Yk.eqI (a:=((b.getD (0) 0).toNat:Nat)) (b:=(80:Nat)) rfl rfl (AO _ _ _ _) (kF (h80) (gS (Yk.pickF rfl rfl (gS (Yk.pickF rfl rfl (gS (Yk.pickF rfl rfl (gS (Yk.pickF rfl rfl (gP (Yp.callA2 FW rfl rfl ?_))))))))))))))))))))))
 refine Ap (AR _ (false) 6) ?_ ?_
 rotate_left
 ·rintro ch na ⟨rfl,hb,hx⟩
  refine Aq ?_
  exact .inr ⟨_,rfl,6,hP,rfl,hE.trans hx⟩
 rintro v_ nb ⟨rfl,hg,nc⟩
 cases hg
open Go.RowKit
structure FitsD (n : Nat) (D : List Deferred) (ρ : Ae) (a : Act) : Prop where
  size:a.tmps.size=n
  defers:a.defers=D
  get:∀t,a.tmps.getD t undef=ρ t
theorem FitsD.fits{n:Nat}{D:List Deferred}{ρ:Ae}{a:Act}(h:FitsD n D ρ a):Fits n ρ { a with defers:= [] } :=⟨h.size,rfl,h.get⟩
theorem FitsD.ofFits{n:Nat}{ρ:Ae}{a:Act}(h:Fits n ρ a):FitsD n [] ρ a:=⟨h.size,h.defers,h.get⟩
theorem FitsD.toFits{n:Nat}{ρ:Ae}{a:Act}(h:FitsD n [] ρ a):Fits n ρ a:=⟨h.size,h.defers,h.get⟩
theorem FitsD.eval{n:Nat}{D:List Deferred}{ρ:Ae}{a:Act}(h:FitsD n D ρ a):a.eval=Ab ρ:=by
  funext x
  cases x with
  | tmp t=>exact h.get t
  | _=>rfl
theorem FitsD.put{n:Nat}{D:List Deferred}{ρ:Ae}{a:Act}(h:FitsD n D ρ a)(d:Option Tmp)(hd:∀t,d=some t→t<n)(v:Value):FitsD n D (updO ρ d v) (a.put d v):=by
  have hf:=h.fits.put d hd v
  cases d with
  | none=>exact h
  | some d=>exact⟨hf.size,h.defers,hf.get⟩
def Lu(P:Program)(n:Nat)(D:List Deferred)(c:Code)(QQ:Exit→Act→World→Prop)(ρ:Ae)(w:World):Prop:=∀a,FitsD n D ρ a→c.wp P QQ a w
def HA(P:Program)(ops:Array Oper)(n:Nat)(D:List Deferred)(QQ:Exit→Act→World→Prop)(l:List Oper)(ρ:Ae)(w:World):Prop:=∀a,FitsD n D ρ a→wpList P ops QQ l a w
section
variable {P : Program} {n : Nat} {D : List Deferred} {QQ : Exit → Act → World → Prop} {ρ : Ae} {w : World}
theorem Ck{x y:Code}(QR:Bp)(hq:∀e ρ a w,e ≠ .normal→Fits n ρ a→QR e ρ w→QQ e a w)(h:∀K:Ae→World→Prop,(∀ρ w,Lu P n [] y QQ ρ w→K ρ w)→BN P n x (FM K QR) ρ w):Lu P n [] (.seq x y) QQ ρ w:=fun a ha=>
  wp_seq (wp_mono (h (fun ρ w=>Lu P n [] y QQ ρ w) (fun _ _ h=>h) a ha.toFits) fun e a' w' ⟨ρ',hf,hQ⟩=>by
    cases e with
    | normal=>exact hQ a' (FitsD.ofFits hf)
    | exit _=>exact hq _ ρ' a' w' (by simp) hf hQ
    | goto _=>exact hq _ ρ' a' w' (by simp) hf hQ
    | ret=>exact hq _ ρ' a' w' (by simp) hf hQ
    | panic _=>exact hq _ ρ' a' w' (by simp) hf hQ
    | outgrown=>exact hq _ ρ' a' w' (by simp) hf hQ)
theorem HC{id:Nat}{l:List Oper}{y:Code}(h:HA P l.toArray n D (Exit.then (y.wp P QQ) QQ) l ρ w):Lu P n D (.seq (.region id l.toArray false) y) QQ ρ w:=fun a ha=>wp_seq (wp_region_lit (h a ha))
theorem Q4(h:∀a,FitsD n D ρ a→QQ .ret a w):Lu P n D .ret QQ ρ w:=fun a ha=>wp_ret (h a ha)
theorem Lv{ops:Array Oper}{y:Code}(I:Ae→Prop)(hI:I ρ)(h:∀ρ',I ρ' →Lu P n D y QQ ρ' w):HA P ops n D (Exit.then (y.wp P QQ) QQ) [] ρ w:=fun a ha=>h ρ hI a ha
theorem I7{ops:Array Oper}{rest:List Oper}{dst:Option Tmp}{op:Op}{ty:TypeId}{pos:String}{af:Array Edge}(hd:(match dst with | some d=>Nat.blt d n | none=>true)=true) 
    (h:Yp P (fun v w' =>HA P ops n D QQ rest (updO ρ dst v) w') (fun ch w' =>∀a,FitsD n D ρ a→QQ (.panic ch) a w') ((execOp (Ab ρ) ⟨dst,op,ty,pos,af,none⟩).run P w)):HA P ops n D QQ (⟨dst,op,ty,pos,af,none⟩ :: rest) ρ w:=by
  intro a ha
  have hdn:∀t,dst=some t→t<n:=fun t ht=>by subst ht;exact Nat.le_of_ble_eq_true hd
  refine wpList_plain rfl fun K hK=> ?_
  unfold Oper.wp Oper.upon
  rw[ha.eval]
  have hput:=fun v=>ha.put dst hdn v
  revert h
  generalize (execOp (Ab ρ) ⟨dst,op,ty,pos,af,none⟩).run P w=r
  intro h
  match r,h with
  | .ok (.value v) w',h=>exact hK _ _ (h _ (hput v))
  | .ok .skip w',h=>exact hK _ _ (h _ (hput undef))
  | .halt (.panic v) w',h=>exact h a ha
  | .ok (.enter f args) w',h=>
    refine Calls.mono h ?_
    intro e w'' hx
    match e,hx with
    | .returned v,hx=>exact hK _ _ (hx _ (hput v))
    | .panicked ch,hx=>exact hx a ha
theorem FZ{ops:Array Oper}{rest:List Oper}{dst:Option Tmp}{op:Op}{ty:TypeId}{pos:String}{af:Array Edge}(hd:(match dst with | some d=>Nat.blt d n | none=>true)=true) 
    (h:Yk P (fun v w' =>HA P ops n D QQ rest (updO ρ dst v) w') ((execOp (Ab ρ) ⟨dst,op,ty,pos,af,none⟩).run P w)):HA P ops n D QQ (⟨dst,op,ty,pos,af,none⟩ :: rest) ρ w:=
  I7 hd (Yp.ofK h)
theorem Nr{ops:Array Oper}{rest:List Oper}{x:Operand}{ty:TypeId}{pos:String}{af:Array Edge}{fv:Fn}{first cap:Array Value}(hx:Ab ρ x = .func fv first cap) 
    (hr:(execOp (Ab ρ) ⟨none, .defer ⟨.value x,#[],#[]⟩,ty,pos,af,none⟩).run P w = .ok (.defer ⟨.fn fv cap,first⟩) w)
    (h:HA P ops n (⟨.fn fv cap,first⟩ :: D) QQ rest ρ w):HA P ops n D QQ (⟨none, .defer ⟨.value x,#[],#[]⟩,ty,pos,af,none⟩ :: rest) ρ w:=by
  intro a ha
  refine wpList_plain rfl fun K hK=> ?_
  unfold Oper.wp Oper.upon
  rw[ha.eval,hr]
  refine hK _ _ (h _ ⟨ha.size,?_,ha.get⟩)
  show _ :: a.defers=_
  rw[ha.defers]
theorem BM{fn:Func}{R:Ending→World→Prop}:∀e ρ a w,e ≠ .normal→Fits n ρ a→Cp P fn R e ρ w→bodyPostD P fn R e a w:=fun e ρ a w he ha h=>by
  cases e with
  | normal=>exact absurd rfl he
  | ret=>
    show Leaves P fn a.tmps R a.defers .returning w
    rw[ha.defers]
    exact h a.tmps ha.get
  | panic ch=>
    show Leaves P fn a.tmps R a.defers (.panicking ch) w
    rw[ha.defers]
    exact h
  | exit _=>exact h.elim
  | goto _=>exact h.elim
  | outgrown=>exact h.elim
theorem Lw{f:FuncId}{fn:Func}{c:Code}{args:List Value}{R:Ending→World→Prop}(hf:P.funcs[f]? =some fn)(hb:fn.body=some c)(m:Nat)(hm:fn.ntmps=m)(hn:args.length≤m) 
    (h:∀ρ,Begun args ρ→Lu P m [] c (bodyPostD P fn R) ρ w):Calls P f args.toArray w R:=by
  subst hm
  refine calls_of_wp_defers hf hb ?_
  have hget:∀t,(args.toArray++Array.replicate (fn.ntmps-args.toArray.size) undef).getD t undef=args.getD t undef:=fun t=>by
    simp only[Array.getD_eq_getD_getElem?,List.getD_eq_getElem?_getD,Array.getElem?_append,List.size_toArray,List.getElem?_toArray]
    by_cases ht:t<args.length
    · rw[if_pos ht]
    · rw[if_neg ht,List.getElem?_eq_none (by omega),Array.getElem?_replicate]
      split <;> rfl
  refine h (fun t=>args.getD t undef) ⟨fun _=>rfl⟩ _ ⟨?_,rfl,hget⟩
  simp
  omega
end
open Go.RowKit
section
variable {P : Program} {n : Nat}
theorem O1{c:Code}{QF:Bp}{Q:Exit→Act→World→Prop}{ρ:Ae}{a:Act}{w:World}(h:BN P n c QF ρ w)(ha:Fits n ρ a)(hq:∀e ρ' a' w',Fits n ρ' a' →QF e ρ' w' →Q e a' w'):c.wp P Q a w:=
  wp_mono (h a ha) fun e a' w' ⟨ρ',hf,hQ⟩=>hq e ρ' a' w' hf hQ
def BT:FrameMode→Value × FrameMode
  | .panicking ({ v,recovered:=false,goexit:=false } :: older)=>(v, .panicking ({ v,recovered:=true } :: older))
  | u=>(.nilIface,u)
theorem Ma(c₀:Frame)(cs:List Frame)(u:FrameMode)(hu:c₀.mode=u)(K:Value→List Frame→Prop)(h:K (BT u).1 ({ c₀ with mode:=(BT u).2 } :: cs)):
    match recoverD (c₀ :: cs)with
    | some (v,cs')=>K v cs'
    | none=>K .nilIface (c₀ :: cs):=by
  subst hu
  obtain⟨cf,ct,ctodo,cd,cm,ck,cr⟩:=c₀
  match cm,h with
  | .run,h=>exact h
  | .returning,h=>exact h
  | .panicking [],h=>exact h
  | .panicking ({ v,recovered:=true,goexit:=g } :: older),h=>exact h
  | .panicking ({ v,recovered:=false,goexit:=true } :: older),h=>exact h
  | .panicking ({ v,recovered:=false,goexit:=false } :: older),h=>exact h
theorem Gq{f:FuncId}{fn:Func}{c:Code}{args:List Value}{u:FrameMode}{w:World}{R:Ending→World→Prop}{id:Nat}{d0 d1:Tmp}{ty0 ty1:TypeId}{p0 p1:String}{af0 af1:Array Edge} 
    (hf:P.funcs[f]? =some fn) (hb:fn.body=some (.seq (.region id #[⟨some d0, .call ⟨.builtin .recover,#[],#[]⟩,ty0,p0,af0,none⟩,⟨some d1, .assign (.tmp d0),ty1,p1,af1,none⟩] false) c)) (m:Nat) (hm:fn.ntmps=m) (hn:args.length≤m) (h0:Nat.blt d0 m=true) (h1:Nat.blt d1 m=true)
    (h:∀b,Begun args b→BN P m c (Cp P fn R) (updO (updO b (some d0) (BT u).1) (some d1) (BT u).1) w):
    CallsD P f args.toArray u w fun e u' w' =>u' =(BT u).2∧R e w' :=by
  subst hm
  refine callsD_of_wpS hf hb fun c₀ cs hu=> ?_
  have hget:∀t,(args.toArray++Array.replicate (fn.ntmps-args.toArray.size) undef).getD t undef=args.getD t undef:=fun t=>by
    simp only[Array.getD_eq_getD_getElem?,List.getD_eq_getElem?_getD,Array.getElem?_append,List.size_toArray,List.getElem?_toArray]
    by_cases ht:t<args.length
    · rw[if_pos ht]
    · rw[if_neg ht,List.getElem?_eq_none (by omega),Array.getElem?_replicate]
      split <;> rfl
  have hF:Fits fn.ntmps (fun t=>args.getD t undef) { tmps:=args.toArray++Array.replicate (fn.ntmps-args.toArray.size) undef,defers:= [] } :=⟨by simp;omega,rfl,hget⟩
  generalize ({ tmps:=args.toArray++Array.replicate (fn.ntmps-args.toArray.size) undef,defers:= [] } :Act)=a at hF ⊢
  have hd0:∀t,some d0=some t→t<fn.ntmps:=fun t ht=>by cases ht;exact Nat.le_of_ble_eq_true h0
  have hd1:∀t,some d1=some t→t<fn.ntmps:=fun t ht=>by cases ht;exact Nat.le_of_ble_eq_true h1
  have hF1:=hF.put (some d0) hd0 (BT u).1
  have hF2:=hF1.put (some d1) hd1 (BT u).1
  apply wpS_seq
  apply wpS_region
  have g:(execOp a.eval (⟨some d0, .call ⟨.builtin .recover,#[],#[]⟩,ty0,p0,af0,none⟩:Oper)).run P w = .ok .recover w:=by
    simp[go_sem]
  have hkey:∀(v:Value) (cs' :List Frame),v=(BT u).1→cs' = { c₀ with mode:=(BT u).2 } :: cs→wpOpsS P #[⟨some d0, .call ⟨.builtin .recover,#[],#[]⟩,ty0,p0,af0,none⟩,⟨some d1, .assign (.tmp d0),ty1,p1,af1,none⟩] (Exit.thenS (c.wpS P (bodyPostS P fn c₀ cs fun e u' w' =>u' =(BT u).2∧R e w')) (bodyPostS P fn c₀ cs fun e u' w' =>u' =(BT u).2∧R e w')) [1] (a.put (some d0) v) cs' w:=by
    rintro v cs' rfl rfl
    have hv:(a.put (some d0) (BT u).1).eval (.tmp d0)=(BT u).1:=by
      rw[hF1.eval]
      show(bif Nat.beq d0 d0 then _ else _)=_
      rw[Nat.beq_refl]
      rfl
    have i:(execOp (a.put (some d0) (BT u).1).eval (⟨some d1, .assign (.tmp d0),ty1,p1,af1,none⟩:Oper)).run P w = .ok (.value (BT u).1) w:=by
      simp[execOp,hv]
    simp only[wpOpsS,List.getElem?_toArray,List.getElem?_cons_succ,List.getElem?_cons_zero,Region.wanted,i,Oper.upon,if_true]
    refine wpS_of_wp (O1 (h _ ⟨fun _=>rfl⟩) hF2 fun e ρ' a' w' hf' hQ=> ?_)
    cases e with
    | normal=>obtain⟨v,hv,hR⟩:=hQ a'.tmps hf'.get;exact⟨hf'.defers,_,rfl,v,hv,rfl,hR⟩
    | ret=>obtain⟨v,hv,hR⟩:=hQ a'.tmps hf'.get;exact⟨hf'.defers,_,rfl,v,hv,rfl,hR⟩
    | panic ch=>exact⟨hf'.defers,_,rfl,rfl,hQ⟩
    | exit _=>exact hQ.elim
    | goto _=>exact hQ.elim
    | outgrown=>exact hQ.elim
  show wpOpsS P _ _ [0,1] a (c₀ :: cs) w
  unfold wpOpsS
  simp only[List.getElem?_toArray,List.getElem?_cons_zero,Region.wanted,if_true,g]
  exact Ma c₀ cs u hu (fun v cs' =>wpOpsS P _ _ [1] (a.put (some d0) v) cs' w) (hkey _ _ rfl rfl)
end
open Go.RowKit
section
variable {P : Program} {K : Value → World → Prop} {ρ : Ae} {w : World} {d : Option Tmp} {ty : TypeId} {pos : String} {af : Array Edge} {gd : Option (Nat × Bool)} {t ty2 : TypeId}
theorem Yk.assertOk{x:Operand}{u:TypeId}{v:Value}{fs}(hu:P.underlying u=some (.struct fs))(hx:Ab ρ x = .iface u v)(hk:K (.tuple #[v, .bool true]) w):Yk P K ((execOp (Ab ρ) ⟨d, .typeAssert x t u true,ty,pos,af,gd⟩).run P w):=by
  refine Yk.value (v:= .tuple #[v, .bool true]) (w' :=w) ?_ hk
  unfold execOp
  simp[Instr.typeAssert,hx,run_underlying hu,Result.andThen]
theorem Yk.neqNilN{x:Operand}(he:(Op.equal t .nilIface .nilIface).run P w = .ok true w)(hx:Ab ρ x = .nilIface)(hk:K (.bool false) w):Yk P K ((execOp (Ab ρ) ⟨d, .binOp .neq t x (.const .nilIface) ty2,ty,pos,af,gd⟩).run P w):=by
  have hy:Ab ρ (.const .nilIface) = .nilIface:=rfl
  refine Yk.value (v:= .bool false) (w' :=w) ?_ hk
  unfold execOp
  simp only[hx,hy]
  simp[eqGuard,Go.binOp,he,Result.andThen]
theorem Yk.neqNilS{x:Operand}{u:TypeId}{v:Value}(he:(Op.equal t (.iface u v) .nilIface).run P w = .ok false w)(hx:Ab ρ x = .iface u v)(hk:K (.bool true) w):Yk P K ((execOp (Ab ρ) ⟨d, .binOp .neq t x (.const .nilIface) ty2,ty,pos,af,gd⟩).run P w):=by
  have hy:Ab ρ (.const .nilIface) = .nilIface:=rfl
  refine Yk.value (v:= .bool true) (w' :=w) ?_ hk
  unfold execOp
  simp only[hx,hy]
  simp[eqGuard,Go.binOp,he,Result.andThen]
theorem Q5{x:Operand}{fv:Fn}{first cap:Array Value}(hx:Ab ρ x = .func fv first cap):(execOp (Ab ρ) ⟨none, .defer ⟨.value x,#[],#[]⟩,ty,pos,af,none⟩).run P w = .ok (.defer ⟨.fn fv cap,first⟩) w:=by
  unfold execOp
  simp[resolve,hx,Deferred.ofValue]
theorem ResF.cell1{p:Tmp}{ty:TypeId}{g:Nat}{t:TypeId}{v:Value}{fr:Nat × Nat}{d:TypeDesc}(hp:ρ p = .pointer (some ⟨g,0,none⟩))(hg:w.heap[g]? =some (.cells ([v]).toArray t fr)) 
    (hu:P.underlying ty=some d) (hd:(match d with | .struct _ | .array _ _=>false | _=>true)=true):ResF P ρ w (.cell p ty) v:=by
  refine⟨_,hp,?_⟩
  have hc:w.cell? ⟨g,0,none⟩=some v:=cellAt hg rfl
  have hagg:(isAgg ty).run P w = .ok false w:=by
    unfold isAgg
    cases d <;> first | (simp at hd;done) | simp[run_underlying hu,Result.andThen]
  simp[loadVar,hagg,hc]
theorem I8{fn:Func}{tmps:Array Value}{R:Ending→World→Prop}(rs:List ResultVar)(hrs:fn.results=rs.toArray)(vs:List Value)(v:Value)(hv:Gh vs=v)(ht:∀t,tmps.getD t undef=ρ t)(h:Fq P ρ w rs vs)(hR:R (.returned v) w):Leaves P fn tmps R [] .returning w:=
  ⟨_,Gw hrs ht h,by rw[hv];exact hR⟩
end
open Go.RowKit
section
variable {P : Program} {n : Nat} {ρ : Ae} {w : World} {Q : Bp}
theorem Lx{l r:List Oper}(kS k0:Nat)(S:World→World→Prop)(Φs:List Bf){id:Nat}(hm:P.follows .mixedOrders=true)(ds:List Tmp)(hg:Cl l n=true)(hn:KI l k0=true)(c:Nat.ble Φs.length k0=true)(hds:slotsW l=ds)(hr:(l.drop k0)=r)(hlt:Nat.blt k0 l.length=true) 
    (f:Nat.blt kS k0=true) (hgS:(l[kS]?.bind (·.guard))=none) (hst:AllStab (fun a b=>a=b∨S w.drew b) Φs)
    (hs:StepsFC P l k0 (fun m w1=>bif Nat.beq m kS then w1=w.drew else(w1=w.drew∨S w.drew w1)) (fun m a b=>bif Nat.beq m kS then S w.drew b else a=b) (AT Φs) ρ 0 l)
    (hQ:∀(ρ' :Ae) w1,S w.drew w1→EndF ds ρ ρ' →A5 l (fun _=> []) (AT Φs) ρ' w1 ds→Di P l.toArray n Q r ρ' w1):BN P n (.region id l.toArray true) Q ρ w:=by
  have bf:∀ {a b:Nat},a≠b→Nat.beq a b=false:=fun h=>by rw[←Bool.not_eq_true,Nat.beq_eq];exact h
  refine KA k0 (fun _=> []) _ _ (fun listed w1=>On listed kS→S w.drew w1) Φs hm ds hg hn c (by unfold CD;simp) hds hr (fun i m _ _ hne' hbit a b hc hr=> ?_) (fun i j _ _ _ _ _ v a b h hr=> ?_) (fun i listed a b _ hsz hno hcl he hr=> ?_) (fun h=> ?_) (fun i o a ho hgo=> ?_) (fun m _=> ?_) hs hlt (fun ρ' w1 listed hon he hc h2 h3=> ?_)
  · by_cases hmS:m=kS
    · subst hmS
      rw[Nat.beq_refl]at hc ⊢
      rw[bf hne']at hr
      simp only[cond_true,cond_false]at hc hr ⊢
      rw[←hr];exact hc
    · rw[bf hmS]at hc ⊢
      simp only[cond_false]at hc ⊢
      by_cases hiS:i=kS
      · subst hiS
        rw[Nat.beq_refl]at hr
        exact .inr hr
      · rw[bf hiS]at hr
        simp only[cond_false]at hr
        rw[←hr];exact hc
  · refine hst.get Φs j v a b h ?_
    by_cases hiS:i=kS
    · subst hiS
      rw[Nat.beq_refl]at hr
      exact .inr hr
    · rw[bf hiS]at hr
      exact .inl hr
  · intro hon
    by_cases hiS:i=kS
    · subst hiS
      rw[Nat.beq_refl]at hr
      exact hr
    · have hon' :On listed kS:=by
        rcases(on_set (by omega)).1 hon with h1 | h1
        · exact absurd h1.symm hiS
        · exact h1
      rw[bf hiS]at hr
      simp only[cond_false]at hr
      rw[←hr];exact he hon'
  · exact absurd h On.not_replicate
  · have hiS:i≠kS:=fun e=>by rw[e]at ho;rw[ho]at hgS;simp only[Option.bind_some]at hgS;rw[hgS]at hgo;cases hgo
    rw[bf hiS]
    rfl
  · by_cases hmS:m=kS
    · subst hmS;rw[Nat.beq_refl];rfl
    · rw[bf hmS];exact .inl rfl
  · exact hQ ρ' w1 (he ((hon kS).2 (Nat.le_of_ble_eq_true f))) h2 h3
end
open Go.RowKit
set_option maxRecDepth 100000
theorem Q6(w:World):(Op.equal 20 .nilIface .nilIface).run Tryd.prog w = .ok true w:=by kernel_rfl
theorem Q7(u:TypeId)(v:Value)(w:World):(Op.equal 20 (.iface u v) .nilIface).run Tryd.prog w = .ok false w:=by kernel_rfl
theorem Ns:(Tryd.prog.info? 69).map (·.size)=some 1:=by kernel_rfl
theorem O2{d:Option Tmp}{ty:TypeId}{pos:String}{af:Array Edge}{gd:Option (Nat × Bool)}(σ:Operand→Value)(w:World):(execOp σ ⟨d, .alloc 69,ty,pos,af,gd⟩).run Tryd.prog w = .ok (.value (PQ w.heap.size 0)) (w.alloc (.cells ([NI 0]).toArray 69)):=by kernel_rfl
theorem Mb:A6 Tryd.prog 69 0 0:=fun b o w=>by simp[go_sem]
theorem O3:Tryd.prog.underlying 25=some (.int .i64):=by kernel_rfl
theorem Nt:(Tryd.prog.info? 33).map (·.size)=some 1:=by kernel_rfl
theorem Nu:(Tryd.prog.info? 25).map (·.size)=some 1:=by kernel_rfl
theorem Nv(b2 b3:Nat)(w:World):CallsD Tryd.prog 36 #[PQ b2 0,PQ b3 0] (.returning) w fun e u' w' =>u' =(BT (.returning)).2∧(e = .returned (.tuple #[])∧Ext w w'):=by
 have hE:=Ext.refl w
 refine Gq (u:= .returning) (args:= [PQ b2 0,PQ b3 0]) Tryd.func36 rfl 18 rfl (Nat.le_of_ble_eq_true rfl) rfl rfl (R:=fun e w' =>e = .returned (.tuple #[])∧Ext w w') ?_
 intro ρz hb
 have b:(updO (updO ρz (some 5) (BT (.returning)).1) (some 2) (BT (.returning)).1) 0=(PQ b2 0:Value):=hb.get 0
 have c:(updO (updO ρz (some 5) (BT (.returning)).1) (some 2) (BT (.returning)).1) 1=(PQ b3 0:Value):=hb.get 1
 have a:(updO (updO ρz (some 5) (BT (.returning)).1) (some 2) (BT (.returning)).1) 2=(.nilIface:Value):=rfl
 generalize updO (updO ρz (some 5) (BT (.returning)).1) (some 2) (BT (.returning)).1=g at b c a ⊢
 clear hb
 refine sk fun h f=>(wt (oM rfl (oS rfl (Yk.neqNilN (Q6 _) a (oZ (tN (f _ _ (Cr (vr (.bool (false)) rfl) (Dh (JD (fn:=Tryd.f36) [] rfl [] (.tuple #[]) rfl trivial ?_))))))))))
 exact⟨rfl,hE⟩

theorem Nw(w0:World)(b2 b3 c:Nat)(v2 v3:Value)(w:World)(h0:Ext w0 w)(l2:w0.heap.size≤b2)(l3:w0.heap.size≤b3)(hne:b2≠b3)(h2:w.heap[b2]? =some (.cells ([v2]).toArray 33 (0,0)))(h3:w.heap[b3]? =some (.cells ([v3]).toArray 25 (0,0))):CallsD Tryd.prog 36 #[PQ b2 0,PQ b3 0] (.panicking [Cz c]) w fun e u' w' =>u' =(BT (.panicking [Cz c])).2∧(e = .returned (.tuple #[])∧w'.heap[b2]? =some (.cells ([.pointer none]).toArray 33 (0,0))∧w'.heap[b3]? =some (.cells ([NI c]).toArray 25 (0,0))∧Ext w0 w'):=by
 have hl2_:=(bl h2)
 have hl3_:=(bl h3)
 refine Gq (u:= .panicking [Cz c]) (args:= [PQ b2 0,PQ b3 0]) Tryd.func36 rfl 18 rfl (Nat.le_of_ble_eq_true rfl) rfl rfl (R:=fun e w' =>e = .returned (.tuple #[])∧w'.heap[b2]? =some (.cells ([.pointer none]).toArray 33 (0,0))∧w'.heap[b3]? =some (.cells ([NI c]).toArray 25 (0,0))∧Ext w0 w') ?_
 intro ρz hb
 have m:(updO (updO ρz (some 5) (BT (.panicking [Cz c])).1) (some 2) (BT (.panicking [Cz c])).1) 0=(PQ b2 0:Value):=hb.get 0
 have n:(updO (updO ρz (some 5) (BT (.panicking [Cz c])).1) (some 2) (BT (.panicking [Cz c])).1) 1=(PQ b3 0:Value):=hb.get 1
 have g:(updO (updO ρz (some 5) (BT (.panicking [Cz c])).1) (some 2) (BT (.panicking [Cz c])).1) 2=((.iface 69 (.agg ([NI c]).toArray)):Value):=rfl
 generalize updO (updO ρz (some 5) (BT (.panicking [Cz c])).1) (some 2) (BT (.panicking [Cz c])).1=ap at m n g ⊢
 clear hb
 refine sk fun K1 ac=>(wt (oM rfl (oS rfl (Yk.neqNilS (Q7 _ _ _) g (oZ (tN (ac _ _ (Ep (vr (.bool (true)) rfl) (sk fun K2 ad=>(wt (oM rfl (oS rfl (Yk.assertOk (PN).choose_spec g (oM rfl (oS rfl (Yk.extract (vs:= [.agg ([NI c]:List Value).toArray, .bool (true)]) (vr (.tuple #[.agg ([NI c]:List Value).toArray, .bool (true)]) rfl) (show _=some (.agg ([NI c]:List Value).toArray:Value)from rfl) (oS rfl (Yk.extract (vs:= [.agg ([NI c]:List Value).toArray, .bool (true)]) (vr (.tuple #[.agg ([NI c]:List Value).toArray, .bool (true)]) rfl) (show _=some (.bool (true):Value)from rfl) (oS rfl (Yk.alloc (cs:=([NI 0]).toArray) O2 fun j w4 s t o au=> ?_))))))))))))))))))))
 have f:=Ext.refl w
 have av:=h0
 have af:=h0.size
 have aw:=Aw (bl h2) s
 have ax:=Aw (bl h3) s
 have h0:=h0.trans o
 have h2:=eb o h2
 have h3:=eb o h3
 have f:=f.trans o
 have b:=t;clear t
 have ay:j<w4.heap.size:=by omega
 refine oS rfl (Yk.storeAll (vr (PQ j 0) rfl) (vr (.agg ([NI c]:List Value).toArray) rfl) b (rfl) ((show(Tryd.prog.info? 69).map (·.size)=some 1 from Ns)) ((by intro u hu;simp only[List.mem_cons,List.not_mem_nil,or_false]at hu;subst hu;rfl)) fun a x p az=> ?_)
 have h0:=Aa h0 p (Nat.le_trans af (by omega))
 have h2:=kb p h2 (by omega)
 have h3:=kb p h3 (by omega)
 have f:=Aa f p (Nat.le_trans (Nat.le_refl _) (by omega))
 clear b
 have b:=x;clear x
 have a0:=bl b
 refine oA rfl (oZ (tN (ad _ _ (sk fun a1 ag=>(sk fun a2 ah=>(wt (oM rfl (oS rfl (Yk.notB (vr (.bool (true)) rfl) (oZ (tN (ah _ _ (Cr (vr (.bool (false)) rfl) (Dh (tN (ag _ _ ?_))))))))))))))))
 refine Lx 2 3 (fun(a_ b_:World)=>b_.heap[b2]? =some (.cells ([.pointer none]).toArray 33 (0,0))∧a_.grownBy b_ (some b2)∧b_.heap.size=a_.heap.size) [Is (PQ j 0),Is (NI c),(fun _ _=>True)] (by kernel_rfl) [16,17] (by kernel_rfl) (by kernel_rfl) (by kernel_rfl) (by kernel_rfl) rfl rfl rfl rfl (JB ⟨Stab.any,trivial⟩) ?ai ?hQ1005
 case ai=>
  refine⟨?_,?_,?_,?_,trivial⟩
  ·refine KY (Aj rfl fun σ w1 hC h=> ?_)
   have hq:w1=World.drew a∨(fun(a_ b_:World)=>b_.heap[b2]? =some (.cells ([.pointer none]).toArray 33 (0,0))∧a_.grownBy b_ (some b2)∧b_.heap.size=a_.heap.size) (World.drew a) w1:=hC
   have hC:BX a.heap.size (some b2) a w1:=by rcases hq with hq | hq;(rw[hq];exact BX.ofExt ((Below.refl _ _).drew) (Nat.le_refl _));exact(BX.ofExt ((Below.refl _ _).drew) (Nat.le_refl _)).trans (BX.ofGrown hq.2.1 (Nat.le_refl _) (fun k hk=> .inl hk))
   have e3:σ 3=PQ j 0:=(AI (h 3 (by decide))).trans rfl
   exact Yk.fieldAt Mb e3 ⟨rfl,rfl⟩
  ·refine KY (Aj rfl fun σ w1 hC h=> ?_)
   have hq:w1=World.drew a∨(fun(a_ b_:World)=>b_.heap[b2]? =some (.cells ([.pointer none]).toArray 33 (0,0))∧a_.grownBy b_ (some b2)∧b_.heap.size=a_.heap.size) (World.drew a) w1:=hC
   have hC:BX a.heap.size (some b2) a w1:=by rcases hq with hq | hq;(rw[hq];exact BX.ofExt ((Below.refl _ _).drew) (Nat.le_refl _));exact(BX.ofExt ((Below.refl _ _).drew) (Nat.le_refl _)).trans (BX.ofGrown hq.2.1 (Nat.le_refl _) (fun k hk=> .inl hk))
   have ak:=AI (h 16 (by decide))
   exact Yk.cell1 O3 rfl ak (cellAt (BX.blk hC b (Ao (by omega))) (show _=some (NI c:Value)from rfl)) ⟨rfl,rfl⟩
  ·refine KY (Aj rfl fun σ w1 hC h=> ?_)
   have hq:w1=World.drew a:=hC
   subst hq
   have hC:BX a.heap.size (some b2) a (World.drew a):=BX.ofExt ((Below.refl _ _).drew) (Nat.le_refl _)
   have e0:=(AI (h 0 (by decide))).trans m
   exact Yk.storeC (i:=0) (v:= .pointer none) e0 (vr (.pointer none) rfl) (eb ((Below.refl _ _).drew) h2) (Nat.le_of_ble_eq_true rfl) Nt rfl rfl fun w2 h1 h2 h3=>⟨⟨h1,h2,h3⟩,trivial⟩
  ·exact trivial
 intro am a4 an he hf
 obtain⟨-,k17,-⟩:=hf
 obtain⟨m,n,g,T3,T4,T7,a8,-⟩:=he.hold [(0,_),(1,_),(2,_),(3,PQ j 0),(4, .bool (true)),(7, .bool (true)),(14, .bool (false))] ⟨m,n,g,rfl,rfl,rfl,rfl,trivial⟩ rfl
 clear he
 have l:Ext a (World.drew a):=(Below.refl _ _).drew
 obtain⟨y,q,a9⟩:=an
 have h0:=h0.trans l
 have h2:=eb l h2
 have h3:=eb l h3
 have f:=f.trans l
 have b:=eb l b
 have h0:=Aa h0 q (Nat.le_trans (Nat.le_refl _) (by omega))
 have h3:=kb q h3 (by omega)
 clear f
 have b:=kb q b (by omega)
 clear h2
 have h2:=y;clear y
 have ao:am 17=NI c:=k17
 clear k17
 refine oS rfl (Yk.storeC (i:=0) (v:=NI c) n ao h3 (Nat.le_of_ble_eq_true rfl) Nu rfl rfl fun ba z r bb=> ?_)
 have h0:=Aa h0 r (Nat.le_trans (Nat.le_refl _) (by omega))
 have b:=kb r b (by omega)
 have h2:=kb r h2 (by omega)
 clear h3
 have h3:=z;clear z
 have bc:=bl h3
 refine oZ (JD (fn:=Tryd.f36) [] rfl [] (.tuple #[]) rfl trivial ?_)
 exact⟨rfl,h2,h3,h0⟩
open Go.RowKit
theorem Reads.keepN{w w' :World}{b z n:Nat}{v:Value}{xs:List Value}(h:Reads w z v n xs)(hb:∀u∈xs,∃x,u=B8 x)(hm:Dm w b)(hg:w.grownBy w' (some b)):Reads w' z v n xs:=by
  obtain⟨h1,ao,cap,rfl,h2,h3,h4,h5⟩:=h
  refine⟨h1,ao,cap,rfl,h2,h3,h4,fun a ha j u hu=> ?_⟩
  have hc:=h5 a ha j u hu
  have hlt:=World.block_lt_of_cell? w _ hc
  have hsp:=World.cell?_spot hc
  generalize a.add j=q at hc hlt hsp ⊢
  obtain⟨q1,q2,q3⟩:=q
  simp only at hsp hlt
  subst hsp
  by_cases e:q1=b
  · exfalso
    obtain⟨x,rfl⟩:=hb u (List.mem_of_getElem? hu)
    rw[e]at hc
    exact hm _ _ hc
  · have:=hg.block q1 hlt (fun e' =>e (Option.some.inj e'))
    unfold World.cell? at hc ⊢
    rw[this]
    exact hc
theorem RG.keepN{w w' :World}{b:Nat}{v:Value}{l:List Bs}(h:RG 32 Lib.byteCells w v l)(hm:Dm w b)(hg:w.grownBy w' (some b)):RG 32 Lib.byteCells w' v l:=
  ⟨h.1,h.2.keepN (fun u hu=>by
    obtain⟨x,-,hx⟩:=List.mem_flatMap.1 hu
    obtain⟨c,-,rfl⟩:=List.mem_map.1 hx
    exact⟨c,rfl⟩) hm hg⟩
theorem Qa{w:World}{g:Nat}{v:Value}{T:TypeId}{fr:Nat × Nat}(hb:w.heap[g]? =some (.cells ([v]).toArray T fr))(hv:∀x,v≠B8 x):Dm w g:=fun j x hc=>by
  unfold World.cell? at hc
  rw[hb]at hc
  match j,hc with
  | 0,hc=>simp at hc;exact hv x hc
  | j+1,hc=>simp at hc
open Go.RowKit
set_option maxRecDepth 100000
def openP(b:Bs):Except Nat Bu:=if 1048576<b.length then .error 2 else if b.length<36 then .error 6 else if Sha.sum (b.take (b.length-32))=b.drop (b.length-32)then Ci b else .error 18
def PackAt(w:World)(v:Value)(p:Bu):Prop:=∃g vi bo O,v=PQ g 0∧p.2=(fun k=>(O k).map Prod.fst)∧w.heap[g]? =some (.cells ([vi, .map (some bo)]).toArray 74 (0,0))∧RG 32 Lib.byteCells w vi p.1∧MapF rk B9 (fun id:List UInt8=>id.length=32) w bo O∧OOk w O
def OpenRes(w:World)(v:Value):Except Nat Bu→Nat→Prop
 | .ok p,c=>c=0∧PackAt w v p
 | .error e,c=>c=e∧v = .pointer none
theorem PackAt.keep{w w' :World}{v:Value}{p:Bu}(h:PackAt w v p)(k:Ext w w'):PackAt w' v p:=by
 obtain⟨g,vi,bo,O,h1,h2,h3,h4,h5,h6⟩:=h
 exact⟨g,vi,bo,O,h1,h2,eb k h3,h4.keep k,h5.keep k,h6.keep k⟩
theorem PackAt.keepN{w w' :World}{v c:Value}{p:Bu}{b:Nat}{T:TypeId}{fr:Nat × Nat}(h:PackAt w v p)(hb:w.heap[b]? =some (.cells ([c]).toArray T fr))(hc:∀x,c≠B8 x)(hg:w.grownBy w' (some b)):PackAt w' v p:=by
 obtain⟨g,vi,bo,O,h1,h2,h3,h4,h5,h6⟩:=h
 have hm:=Qa hb hc
 have a:g≠b:=fun e=>by rw[e,hb]at h3;simp at h3
 have f:bo≠b:=fun e=>by obtain⟨es,cl,h,-⟩:=h5;rw[e,hb]at h;cases h
 exact⟨g,vi,bo,O,h1,h2,(hg.block g (bl h3) (fun e=>a (Option.some.inj e))).trans h3,h4.keepN hm hg,h5.other hg (fun e=>f (Option.some.inj e).symm),fun id x hx=>(h6 id x hx).keepN hm hg⟩
theorem O4{d:Option Tmp}{ty:TypeId}{pos:String}{af:Array Edge}{gd:Option (Nat × Bool)}(σ:Operand→Value)(w:World):(execOp σ ⟨d, .alloc 33,ty,pos,af,gd⟩).run Tryd.prog w = .ok (.value (PQ w.heap.size 0)) (w.alloc (.cells ([.pointer none]).toArray 33)):=by kernel_rfl
theorem O5{d:Option Tmp}{ty:TypeId}{pos:String}{af:Array Edge}{gd:Option (Nat × Bool)}(σ:Operand→Value)(w:World):(execOp σ ⟨d, .alloc 25,ty,pos,af,gd⟩).run Tryd.prog w = .ok (.value (PQ w.heap.size 0)) (w.alloc (.cells ([NI 0]).toArray 25)):=by kernel_rfl
theorem EZ:Tryd.prog.underlying 33=some (.pointer 74):=by kernel_rfl
theorem O6:AA Tryd.prog 37:=fun _ _=>by kernel_rfl
set_option maxHeartbeats 1600000
theorem Ly(w:World)(hG:Laid w)(v:Value)(b:Bs)(hr:RB w v b):
  Calls Tryd.prog 15 #[v] w fun e w' =>∃x,e = .returned x∧∃p c,x = .tuple #[p,NI c]∧OpenRes w' p (openP b) c∧Ext w w' :=by
 refine Lw (args:= [v]) Tryd.func15 rfl 30 rfl (Nat.le_of_ble_eq_true rfl) ?_
 intro b6 hb
 have o:b6 0=(v:Value):=hb.get 0
 clear hb
 have hE:=Ext.refl w
 refine Ck _ BM fun K1 ay=>(wt (oS rfl (Yk.alloc (cs:=([.pointer none]).toArray) O4 fun u w3 dh bh b7 di=> ?_)))
 have hE:=hE.trans b7
 have g:=bh;clear bh
 have dj:u<w3.heap.size:=by omega
 refine oS rfl (Yk.alloc (cs:=([NI 0]).toArray) O5 fun y b8 b9 bi a3 dk=> ?_)
 have s:=Ext.refl w3
 have dl:=hE
 have a0:=hE.size
 have dm:=Aw (bl g) b9
 have hE:=hE.trans a3
 have g:=eb a3 g
 have s:=s.trans a3
 have j:=bi;clear bi
 have dn:y<b8.heap.size:=by omega
 refine Gi [(0,v),(2,PQ u 0),(3,PQ y 0)] ⟨o,rfl,rfl,trivial⟩ fun dp ⟨o,q,r,_⟩=> ?_
 by_cases q1:1048576<b.length
 ·have hP:openP b = .error 2:=if_pos q1
  refine tN (ay _ _ (Ck _ BM fun dq dr=>(sk fun ds ca=>(wt (oM rfl (oS rfl (Yk.lenRB EX (RB.of (hr.keep hE) o) (oS rfl (Yk.eqI (a:=(b.length:Nat)) (b:=(1048576:Nat)) rfl rfl (Av _ _ _ _) (Gi [(0,v),(2,PQ u 0),(3,PQ y 0),(7, .bool (true))] ⟨o,q,r,(congrArg Value.bool (decide_eq_true (q1))),trivial⟩ fun dt ⟨o,q,r,t,_⟩=>(tN (ca _ _ (Ep t (sk fun du cb=>(wt (oS rfl (Yk.storeC (i:=0) (v:= .pointer none) q (vr (.pointer none) rfl) g (Nat.le_of_ble_eq_true rfl) Nt rfl rfl fun dv bj bk dw=> ?_)))))))))))))))))
  have hE:=Aa hE bk (Nat.le_trans (Nat.le_refl _) (by omega))
  clear s
  have j:=kb bk j (by omega)
  clear g
  have g:=bj;clear bj
  have dx:=bl g
  refine oS rfl (Yk.storeC (i:=0) (v:=NI 2) r (vr (NI 2) rfl) j (Nat.le_of_ble_eq_true rfl) Nu rfl rfl fun dy bm bn dz=> ?_)
  have hE:=Aa hE bn (Nat.le_trans a0 (by omega))
  have g:=kb bn g (by omega)
  clear j
  have j:=bm;clear bm
  have d0:=bl j
  refine Gi [(0,v),(2,PQ u 0),(3,PQ y 0),(7, .bool (true))] ⟨o,q,r,t,trivial⟩ fun d1 ⟨o,q,r,t,_⟩=>(tN (cb _ _ (HX (Hb (Ct (fn:=Tryd.f15) _ rfl [.pointer none,NI 2] (.tuple #[.pointer none,NI 2]) rfl ⟨ResF.cell1 q g EZ rfl,ResF.cell1 r j O3 rfl,trivial⟩ ?_)))))
  exact⟨_,rfl,_,_,rfl,by rw[hP];exact⟨rfl,rfl⟩,hE⟩
 by_cases q2:b.length<36
 ·have hP:openP b = .error 6:=(if_neg q1).trans (if_pos q2)
  refine tN (ay _ _ (Ck _ BM fun d2 cc=>(sk fun d3 cd=>(wt (oM rfl (oS rfl (Yk.lenRB EX (RB.of (hr.keep hE) o) (oS rfl (Yk.eqI (a:=(b.length:Nat)) (b:=(1048576:Nat)) rfl rfl (Av _ _ _ _) (Gi [(0,v),(2,PQ u 0),(3,PQ y 0),(7, .bool (false))] ⟨o,q,r,(congrArg Value.bool (decide_eq_false (q1))),trivial⟩ fun d4 ⟨o,q,r,t,_⟩=>(tN (cd _ _ (Cr t (Dh (tN (cc _ _ (Ck _ BM fun d5 d6=>(sk fun d7 ce=>(wt (oM rfl ?_))))))))))))))))))))
  refine oS rfl (Yk.lenRB EX (RB.of (hr.keep hE) o) (oS rfl (Yk.eqI (a:=(b.length:Nat)) (b:=(36:Nat)) rfl rfl (Ah _ _ _ _) (Gi [(0,v),(2,PQ u 0),(3,PQ y 0),(7, .bool (false)),(10, .bool (true))] ⟨o,q,r,t,(congrArg Value.bool (decide_eq_true (q2))),trivial⟩ fun d8 ⟨o,q,r,t,z,_⟩=>(tN (ce _ _ (Ep z (sk fun d9 cf=>(wt (oS rfl (Yk.storeC (i:=0) (v:= .pointer none) q (vr (.pointer none) rfl) g (Nat.le_of_ble_eq_true rfl) Nt rfl rfl fun ea bp bq ec=> ?_)))))))))))
  have hE:=Aa hE bq (Nat.le_trans (Nat.le_refl _) (by omega))
  clear s
  have j:=kb bq j (by omega)
  clear g
  have g:=bp;clear bp
  have ed:=bl g
  refine oS rfl (Yk.storeC (i:=0) (v:=NI 6) r (vr (NI 6) rfl) j (Nat.le_of_ble_eq_true rfl) Nu rfl rfl fun ee br bs ef=> ?_)
  have hE:=Aa hE bs (Nat.le_trans a0 (by omega))
  have g:=kb bs g (by omega)
  clear j
  have j:=br;clear br
  have eg:=bl j
  refine Gi [(0,v),(2,PQ u 0),(3,PQ y 0),(7, .bool (false)),(10, .bool (true))] ⟨o,q,r,t,z,trivial⟩ fun eh ⟨o,q,r,t,z,_⟩=>(tN (cf _ _ (HX (Hb (Ct (fn:=Tryd.f15) _ rfl [.pointer none,NI 6] (.tuple #[.pointer none,NI 6]) rfl ⟨ResF.cell1 q g EZ rfl,ResF.cell1 r j O3 rfl,trivial⟩ ?_)))))
  exact⟨_,rfl,_,_,rfl,by rw[hP];exact⟨rfl,rfl⟩,hE⟩
 by_cases q3:Sha.sum (b.take (b.length-32))=b.drop (b.length-32)
 ·have hP:openP b=Ci b:=(if_neg q1).trans ((if_neg q2).trans (if_pos q3))
  refine tN (ay _ _ (Ck _ BM fun ei cg=>(sk fun ej ci=>(wt (oM rfl (oS rfl (Yk.lenRB EX (RB.of (hr.keep hE) o) (oS rfl (Yk.eqI (a:=(b.length:Nat)) (b:=(1048576:Nat)) rfl rfl (Av _ _ _ _) (Gi [(0,v),(2,PQ u 0),(3,PQ y 0),(7, .bool (false))] ⟨o,q,r,(congrArg Value.bool (decide_eq_false (q1))),trivial⟩ fun el ⟨o,q,r,t,_⟩=>(tN (ci _ _ (Cr t (Dh (tN (cg _ _ (Ck _ BM fun em cj=>(sk fun en ck=>(wt (oM rfl ?_))))))))))))))))))))
  refine oS rfl (Yk.lenRB EX (RB.of (hr.keep hE) o) (oS rfl (Yk.eqI (a:=(b.length:Nat)) (b:=(36:Nat)) rfl rfl (Ah _ _ _ _) (Gi [(0,v),(2,PQ u 0),(3,PQ y 0),(7, .bool (false)),(10, .bool (false))] ⟨o,q,r,t,(congrArg Value.bool (decide_eq_false (q2))),trivial⟩ fun eo ⟨o,q,r,t,z,_⟩=>(tN (ck _ _ (Cr z (Dh (tN (cj _ _ (Ck _ BM fun ep cl=>(wt (oM rfl (oM rfl (oS rfl (Yk.lenRB EX (RB.of (hr.keep hE) o) (oS rfl (Yk.bin (xv:=NI b.length) (yv:=NI 32) rfl rfl rfl (Ay _ _ _ (by omega) (by omega)) (oS rfl (Yk.sliceHi (xs:=b) (n:=(b.length)-(32)) EX M4 o (hr.keep hE) (vr (NI ((b.length)-(32))) rfl) (by omega) fun cm an ha65=>(oS rfl (Yk.rows1 FA (RB.of an (vr cm rfl)) fun bt eq a4 ao=> ?_))))))))))))))))))))))
  have hE:=hE.trans ao
  have g:=eb ao g
  have s:=s.trans ao
  have j:=eb ao j
  have an:=an.keep ao
  refine oS rfl (Yk.callA1 Iy (vr bt rfl) ((EM _ (hG.keep hE) bt (b.take ((b.length)-(32))) a4 (by simp only[List.length_take];omega)).mono ?_))
  rintro e cn ⟨rfl,ah⟩
  refine⟨_,rfl,?_⟩
  have hE:=hE.trans ah
  have g:=eb ah g
  have s:=s.trans ah
  have j:=eb ah j
  have an:=an.keep ah
  have a4:=a4.keep ah
  refine oS rfl (Yk.alloc (cs:=(Lib.byteCells (List.replicate 32 0)).toArray) PP fun ai co bu bv ap er=> ?_)
  have ad:=Ext.refl cn
  have es:=hE
  have et:=s
  have cp:=hE.size
  have cq:=s.size
  have eu:=Aw (bl g) bu
  have ew:=Aw (bl j) bu
  have hE:=hE.trans ap
  have g:=eb ap g
  have s:=s.trans ap
  have j:=eb ap j
  have ad:=ad.trans ap
  have aa:=bv;clear bv
  have ex:ai<co.heap.size:=by omega
  refine oS rfl (Yk.storeAll (vr (PQ ai 0) rfl) (vr (AB (Sha.sum (b.take ((b.length)-(32))))) rfl) aa (by exact BQ (Sha.sum_length _) List.length_replicate) (by exact Ag (Sha.sum_length _)) (Ai _) fun ey bw aq ez=> ?_)
  have hE:=Aa hE aq (Nat.le_trans cp (by omega))
  have g:=kb aq g (by omega)
  have s:=Aa s aq (Nat.le_trans cq (by omega))
  have j:=kb aq j (by omega)
  have ad:=Aa ad aq (Nat.le_trans (Nat.le_refl _) (by omega))
  clear aa
  have aa:=bw;clear bw
  have e1:=bl aa
  refine Gi [(0,v),(2,PQ u 0),(3,PQ y 0),(4,PQ ai 0),(7, .bool (false)),(10, .bool (false))] ⟨o,q,r,rfl,t,z,trivial⟩ fun e2 ⟨o,q,r,T4,t,z,_⟩=>(tN (cl _ _ (Ck _ BM fun e3 cr=>(sk fun e5 ct=> ?_))))
  refine Gv [Is (.slice (some ⟨ai,0,none⟩) 32 32),Is (St ((Sha.sum (b.take ((b.length)-(32)))))),Is (v),Is (v),Is (NI b.length),Is (NI ((b.length)-(32))),fun x w' =>RB w' x (b.drop ((b.length)-(32))),Is (St (b.drop ((b.length)-(32)))),Is (.bool (false))] (by kernel_rfl) [18,19,20,21,22,23,24,25,26] (by kernel_rfl) (by kernel_rfl) (RT ⟨(fun _ _ _ h k=>RB.keep h k),(JB trivial)⟩) ?cu ?hQ1006
  case cu=>
   refine⟨?_,?_,?_,?_,?_,?_,?_,?_,?_,trivial⟩
   ·refine Aj rfl fun σ w1 hC h=> ?_
    have e4:=(AI (h 4 (by decide))).trans T4
    exact Yk.sliceArr QJ M4 e4 ⟨Ext.refl _,rfl⟩
   ·refine Aj rfl fun σ w1 hC h=> ?_
    have a6:=AI (h 18 (by decide))
    exact Yk.convRB EX u5 MH (RB.of (RB.ofBlkN (eb hC aa) (Sha.sum_length _) (by decide)) a6) ⟨Ext.refl _,rfl⟩
   ·refine Aj rfl fun σ w1 hC h=> ?_
    have e0:=(AI (h 0 (by decide))).trans o
    exact Yk.move e0 ⟨Ext.refl _,rfl⟩
   ·refine Aj rfl fun σ w1 hC h=> ?_
    have e0:=(AI (h 0 (by decide))).trans o
    exact Yk.move e0 ⟨Ext.refl _,rfl⟩
   ·refine Aj rfl fun σ w1 hC h=> ?_
    have a7:=AI (h 21 (by decide))
    exact Yk.lenRB EX (RB.of (hr.keep (hE.trans hC)) a7) ⟨Ext.refl _,rfl⟩
   ·refine Aj rfl fun σ w1 hC h=> ?_
    have a8:=AI (h 22 (by decide))
    exact Yk.bin (xv:=NI b.length) (yv:=NI 32) a8 rfl rfl (Ay _ _ _ (by omega) (by omega)) ⟨Ext.refl _,rfl⟩
   ·refine Aj rfl fun σ w1 hC h=> ?_
    have a9:=AI (h 20 (by decide))
    have ba:=AI (h 23 (by decide))
    exact Yk.sliceLo (xs:=b) (l:=(b.length)-(32)) EX M4 rfl (RB.of (hr.keep (hE.trans hC)) a9) ba (by omega) fun v hr _=>⟨Ext.refl _,hr⟩
   ·refine Aj rfl fun σ w1 hC h=> ?_
    have bb:(fun x w' =>RB w' x (b.drop ((b.length)-(32)))) (σ 24) w1:=h 24 (by decide)
    exact Yk.convRB EX u5 MH bb ⟨Ext.refl _,rfl⟩
   ·refine Aj rfl fun σ w1 hC h=> ?_
    have bc:=AI (h 19 (by decide))
    have bd:=AI (h 25 (by decide))
    exact Yk.eqSt (l:=(Sha.sum (b.take ((b.length)-(32))))) (m:=b.drop ((b.length)-(32))) (.inr rfl) bc bd (decide ((Sha.sum (b.take ((b.length)-(32))))≠(b.drop ((b.length)-(32)):List UInt8))) rfl ⟨Ext.refl _,(congrArg Value.bool (decide_eq_false (fun h=>h q3)))⟩
  intro cv e6 aj he hf
  obtain⟨-,-,-,-,-,-,-,-,k26,-⟩:=hf
  obtain⟨o,q,r,T4,t,z,-⟩:=he.hold [(0,_),(2,_),(3,_),(4,_),(7,_),(10,_)] ⟨o,q,r,T4,t,z,trivial⟩ rfl
  clear he
  have hE:=hE.trans aj
  have g:=eb aj g
  have s:=s.trans aj
  have j:=eb aj j
  have ad:=ad.trans aj
  have aa:=eb aj aa
  have ae:cv 26 = .bool (false):=k26
  clear k26
  refine tN (ct _ _ (Cr ae (Dh (tN (cr _ _ (HC (FZ rfl (Yk.mkFunc (vs:= #[PQ u 0,PQ y 0]) (by simp only[List.map_toArray,List.map_cons,List.map_nil];exact congrArg List.toArray (QE q r)) (Nr (vr (.func (.func 36) #[] #[PQ u 0,PQ y 0]) rfl) (Q5 (vr (.func (.func 36) #[] #[PQ u 0,PQ y 0]) rfl)) (Lv (fun ρ=>ρ 0=(v:Value)∧ρ 2=(PQ u 0:Value)∧ρ 3=(PQ y 0:Value)∧ρ 4=(PQ ai 0:Value)∧ρ 7=(.bool (false):Value)∧ρ 10=(.bool (false):Value)∧ρ 26=(.bool (false):Value)∧True) ⟨o,q,r,T4,t,z,ae,trivial⟩ fun e7 ⟨o,q,r,T4,t,z,ae,_⟩=>(HC (FZ rfl (Yk.move o (I7 rfl (Yp.callA1 O6 (vr v rfl) ?_)))))))))))))))
  refine Ap (P9 _ (hG.keep hE) v b (hr.keep hE) (by omega) (by omega)) ?_ ?_
  rotate_left
  ·
   rintro ch e8 ⟨c,hce,rfl,hx⟩
   intro a_ ha_
   show Leaves _ _ a_.tmps _ a_.defers (.panicking _) _
   rw[ha_.defers]
   refine leaves_cons (f:=36) (args:= #[PQ u 0,PQ y 0]) (by simp) (by simp[go_sem]) ((Nw w u y c _ _ _ (hE.trans hx) (by omega) (by omega) (by omega) (eb hx g) (eb hx j)).mono ?_)
   rintro e u' w3 ⟨rfl,rfl,cw,cx,cy⟩
   exact I8 (ρ:=_) _ rfl [.pointer none,NI c] (.tuple #[.pointer none,NI c]) rfl ha_.get ⟨ResF.cell1 (q) cw EZ rfl,ResF.cell1 (r) cx O3 rfl,trivial⟩ ⟨_,rfl,_,_,rfl,by rw[hP,hce];exact⟨rfl,rfl⟩,cy⟩
  rintro v_ cz ⟨gp,vi,bo,ids,O,rfl,hrd,hgb,hgi,hmo,hoo,ak⟩
  have hE:=hE.trans ak
  have g:=eb ak g
  have s:=s.trans ak
  have j:=eb ak j
  have ad:=ad.trans ak
  have aa:=eb ak aa
  have hPk:PackAt cz (PQ gp 0) (ids,fun k=>(O k).map Prod.fst):=⟨gp,vi,bo,O,rfl,rfl,hgb,hgi,hmo,hoo⟩
  have hob_n2:=g
  refine FZ rfl (Yk.storeC (i:=0) (v:=PQ gp 0) q (vr (PQ gp 0) rfl) g (Nat.le_of_ble_eq_true rfl) Nt rfl rfl fun c0 bx a1 e9=> ?_)
  have hE:=Aa hE a1 (Nat.le_trans (Nat.le_refl _) (by omega))
  clear s
  have j:=kb a1 j (by omega)
  clear ad
  have aa:=kb a1 aa (by omega)
  have hPk:PackAt c0 (PQ gp 0) (ids,fun k=>(O k).map Prod.fst):=PackAt.keepN hPk hob_n2 (fun _ h=>by cases h) a1
  clear g
  have g:=bx;clear bx
  have fa:=bl g
  have hob_n10:=j
  refine FZ rfl (Yk.storeC (i:=0) (v:=NI 0) r (vr (NI 0) rfl) j (Nat.le_of_ble_eq_true rfl) Nu rfl rfl fun c1 bz a2 fb=> ?_)
  have hE:=Aa hE a2 (Nat.le_trans a0 (by omega))
  have aa:=kb a2 aa (by omega)
  have hPk:PackAt c1 (PQ gp 0) (ids,fun k=>(O k).map Prod.fst):=PackAt.keepN hPk hob_n10 (fun _ h=>by cases h) a2
  have g:=kb a2 g (by omega)
  clear j
  have j:=bz;clear bz
  have fc:=bl j
  refine Lv (fun ρ=>ρ 0=(v:Value)∧ρ 2=(PQ u 0:Value)∧ρ 3=(PQ y 0:Value)∧ρ 4=(PQ ai 0:Value)∧ρ 7=(.bool (false):Value)∧ρ 10=(.bool (false):Value)∧ρ 26=(.bool (false):Value)∧True) ⟨o,q,r,T4,t,z,ae,trivial⟩ fun fd ⟨o,q,r,T4,t,z,ae,_⟩=>(Q4 fun a_ ha_=> ?_)
  show Leaves _ _ a_.tmps _ a_.defers .returning _
  rw[ha_.defers]
  refine leaves_cons (f:=36) (args:= #[PQ u 0,PQ y 0]) (by simp) (by simp[go_sem]) ((Nv u y _).mono ?_)
  rintro e u' w3 ⟨rfl,rfl,hxi⟩
  exact I8 (ρ:=_) _ rfl [PQ gp 0,NI 0] (.tuple #[PQ gp 0,NI 0]) rfl ha_.get ⟨ResF.cell1 (q) (eb hxi g) EZ rfl,ResF.cell1 (r) (eb hxi j) O3 rfl,trivial⟩ ⟨_,rfl,_,_,rfl,by rw[hP,hrd];exact⟨rfl,(hPk).keep hxi⟩,hE.trans hxi⟩
 have hP:openP b = .error 18:=(if_neg q1).trans ((if_neg q2).trans (if_neg q3))
 refine tN (ay _ _ (Ck _ BM fun fe c2=>(sk fun ff c3=>(wt (oM rfl (oS rfl (Yk.lenRB EX (RB.of (hr.keep hE) o) (oS rfl (Yk.eqI (a:=(b.length:Nat)) (b:=(1048576:Nat)) rfl rfl (Av _ _ _ _) (Gi [(0,v),(2,PQ u 0),(3,PQ y 0),(7, .bool (false))] ⟨o,q,r,(congrArg Value.bool (decide_eq_false (q1))),trivial⟩ fun fg ⟨o,q,r,t,_⟩=>(tN (c3 _ _ (Cr t (Dh (tN (c2 _ _ (Ck _ BM fun fh c4=>(sk fun fi c5=>(wt (oM rfl ?_))))))))))))))))))))
 refine oS rfl (Yk.lenRB EX (RB.of (hr.keep hE) o) (oS rfl (Yk.eqI (a:=(b.length:Nat)) (b:=(36:Nat)) rfl rfl (Ah _ _ _ _) (Gi [(0,v),(2,PQ u 0),(3,PQ y 0),(7, .bool (false)),(10, .bool (false))] ⟨o,q,r,t,(congrArg Value.bool (decide_eq_false (q2))),trivial⟩ fun fj ⟨o,q,r,t,z,_⟩=>(tN (c5 _ _ (Cr z (Dh (tN (c4 _ _ (Ck _ BM fun fk c6=>(wt (oM rfl (oM rfl (oS rfl (Yk.lenRB EX (RB.of (hr.keep hE) o) (oS rfl (Yk.bin (xv:=NI b.length) (yv:=NI 32) rfl rfl rfl (Ay _ _ _ (by omega) (by omega)) (oS rfl (Yk.sliceHi (xs:=b) (n:=(b.length)-(32)) EX M4 o (hr.keep hE) (vr (NI ((b.length)-(32))) rfl) (by omega) fun c7 ar ha123=>(oS rfl (Yk.rows1 FA (RB.of ar (vr c7 rfl)) fun b0 fl be au=> ?_))))))))))))))))))))))
 have hE:=hE.trans au
 have g:=eb au g
 have s:=s.trans au
 have j:=eb au j
 have ar:=ar.keep au
 refine oS rfl (Yk.callA1 Iy (vr b0 rfl) ((EM _ (hG.keep hE) b0 (b.take ((b.length)-(32))) be (by simp only[List.length_take];omega)).mono ?_))
 rintro e c8 ⟨rfl,al⟩
 refine⟨_,rfl,?_⟩
 have hE:=hE.trans al
 have g:=eb al g
 have s:=s.trans al
 have j:=eb al j
 have ar:=ar.keep al
 have be:=be.keep al
 refine oS rfl (Yk.alloc (cs:=(Lib.byteCells (List.replicate 32 0)).toArray) PP fun av c9 b1 b2 aw fm=> ?_)
 have ag:=Ext.refl c8
 have fo:=hE
 have fp:=s
 have da:=hE.size
 have db:=s.size
 have fq:=Aw (bl g) b1
 have fr:=Aw (bl j) b1
 have hE:=hE.trans aw
 have g:=eb aw g
 have s:=s.trans aw
 have j:=eb aw j
 have ag:=ag.trans aw
 have ac:=b2;clear b2
 have fs:av<c9.heap.size:=by omega
 refine oS rfl (Yk.storeAll (vr (PQ av 0) rfl) (vr (AB (Sha.sum (b.take ((b.length)-(32))))) rfl) ac (by exact BQ (Sha.sum_length _) List.length_replicate) (by exact Ag (Sha.sum_length _)) (Ai _) fun ft b3 ax fu=> ?_)
 have hE:=Aa hE ax (Nat.le_trans da (by omega))
 have g:=kb ax g (by omega)
 have s:=Aa s ax (Nat.le_trans db (by omega))
 have j:=kb ax j (by omega)
 have ag:=Aa ag ax (Nat.le_trans (Nat.le_refl _) (by omega))
 clear ac
 have ac:=b3;clear b3
 have fv:=bl ac
 refine Gi [(0,v),(2,PQ u 0),(3,PQ y 0),(4,PQ av 0),(7, .bool (false)),(10, .bool (false))] ⟨o,q,r,rfl,t,z,trivial⟩ fun fw ⟨o,q,r,T4,t,z,_⟩=>(tN (c6 _ _ (Ck _ BM fun fx fy=>(sk fun fz dc=> ?_))))
 refine Gv [Is (.slice (some ⟨av,0,none⟩) 32 32),Is (St ((Sha.sum (b.take ((b.length)-(32)))))),Is (v),Is (v),Is (NI b.length),Is (NI ((b.length)-(32))),fun x w' =>RB w' x (b.drop ((b.length)-(32))),Is (St (b.drop ((b.length)-(32)))),Is (.bool (true))] (by kernel_rfl) [18,19,20,21,22,23,24,25,26] (by kernel_rfl) (by kernel_rfl) (RT ⟨(fun _ _ _ h k=>RB.keep h k),(JB trivial)⟩) ?dd ?hQ2006
 case dd=>
  refine⟨?_,?_,?_,?_,?_,?_,?_,?_,?_,trivial⟩
  ·refine Aj rfl fun σ w1 hC h=> ?_
   have e4:=(AI (h 4 (by decide))).trans T4
   exact Yk.sliceArr QJ M4 e4 ⟨Ext.refl _,rfl⟩
  ·refine Aj rfl fun σ w1 hC h=> ?_
   have a6:=AI (h 18 (by decide))
   exact Yk.convRB EX u5 MH (RB.of (RB.ofBlkN (eb hC ac) (Sha.sum_length _) (by decide)) a6) ⟨Ext.refl _,rfl⟩
  ·refine Aj rfl fun σ w1 hC h=> ?_
   have e0:=(AI (h 0 (by decide))).trans o
   exact Yk.move e0 ⟨Ext.refl _,rfl⟩
  ·refine Aj rfl fun σ w1 hC h=> ?_
   have e0:=(AI (h 0 (by decide))).trans o
   exact Yk.move e0 ⟨Ext.refl _,rfl⟩
  ·refine Aj rfl fun σ w1 hC h=> ?_
   have a7:=AI (h 21 (by decide))
   exact Yk.lenRB EX (RB.of (hr.keep (hE.trans hC)) a7) ⟨Ext.refl _,rfl⟩
  ·refine Aj rfl fun σ w1 hC h=> ?_
   have a8:=AI (h 22 (by decide))
   exact Yk.bin (xv:=NI b.length) (yv:=NI 32) a8 rfl rfl (Ay _ _ _ (by omega) (by omega)) ⟨Ext.refl _,rfl⟩
  ·refine Aj rfl fun σ w1 hC h=> ?_
   have a9:=AI (h 20 (by decide))
   have ba:=AI (h 23 (by decide))
   exact Yk.sliceLo (xs:=b) (l:=(b.length)-(32)) EX M4 rfl (RB.of (hr.keep (hE.trans hC)) a9) ba (by omega) fun v hr _=>⟨Ext.refl _,hr⟩
  ·refine Aj rfl fun σ w1 hC h=> ?_
   have bb:(fun x w' =>RB w' x (b.drop ((b.length)-(32)))) (σ 24) w1:=h 24 (by decide)
   exact Yk.convRB EX u5 MH bb ⟨Ext.refl _,rfl⟩
  ·refine Aj rfl fun σ w1 hC h=> ?_
   have bc:=AI (h 19 (by decide))
   have bd:=AI (h 25 (by decide))
   exact Yk.eqSt (l:=(Sha.sum (b.take ((b.length)-(32))))) (m:=b.drop ((b.length)-(32))) (.inr rfl) bc bd (decide ((Sha.sum (b.take ((b.length)-(32))))≠(b.drop ((b.length)-(32)):List UInt8))) rfl ⟨Ext.refl _,(congrArg Value.bool (decide_eq_true (q3)))⟩
 intro de f0 am he hf
 obtain⟨-,-,-,-,-,-,-,-,k26,-⟩:=hf
 obtain⟨o,q,r,T4,t,z,-⟩:=he.hold [(0,_),(2,_),(3,_),(4,_),(7,_),(10,_)] ⟨o,q,r,T4,t,z,trivial⟩ rfl
 clear he
 have hE:=hE.trans am
 have g:=eb am g
 have s:=s.trans am
 have j:=eb am j
 have ag:=ag.trans am
 have ac:=eb am ac
 have ae:de 26 = .bool (true):=k26
 clear k26
 refine tN (dc _ _ (Ep ae (sk fun f1 df=>(wt (oS rfl (Yk.storeC (i:=0) (v:= .pointer none) q (vr (.pointer none) rfl) g (Nat.le_of_ble_eq_true rfl) Nt rfl rfl fun f2 b4 bf f3=> ?_))))))
 have hE:=Aa hE bf (Nat.le_trans (Nat.le_refl _) (by omega))
 clear s
 have j:=kb bf j (by omega)
 clear ag
 have ac:=kb bf ac (by omega)
 clear g
 have g:=b4;clear b4
 have f4:=bl g
 refine oS rfl (Yk.storeC (i:=0) (v:=NI 18) r (vr (NI 18) rfl) j (Nat.le_of_ble_eq_true rfl) Nu rfl rfl fun f5 b5 bg f6=> ?_)
 have hE:=Aa hE bg (Nat.le_trans a0 (by omega))
 have ac:=kb bg ac (by omega)
 have g:=kb bg g (by omega)
 clear j
 have j:=b5;clear b5
 have f7:=bl j
 refine Gi [(0,v),(2,PQ u 0),(3,PQ y 0),(4,PQ av 0),(7, .bool (false)),(10, .bool (false)),(26, .bool (true))] ⟨o,q,r,T4,t,z,ae,trivial⟩ fun f8 ⟨o,q,r,T4,t,z,ae,_⟩=>(tN (df _ _ (HX (Hb (Ct (fn:=Tryd.f15) _ rfl [.pointer none,NI 18] (.tuple #[.pointer none,NI 18]) rfl ⟨ResF.cell1 q g EZ rfl,ResF.cell1 r j O3 rfl,trivial⟩ ?_)))))
 exact⟨_,rfl,_,_,rfl,by rw[hP];exact⟨rfl,rfl⟩,hE⟩
open Go.RowKit
theorem EN{α:Type}(A X:List α)(n:Nat)(h:A.length≤n):(A++X).take n=A++X.take (n-A.length):=by
  rw[List.take_append,List.take_of_length_le h]
theorem GP{α:Type}(A X:List α)(n:Nat):(A++X).drop (A.length+n)=X.drop n:=by
  rw[List.drop_append,List.drop_of_length_le (by omega),List.nil_append,show A.length+n-A.length=n by omega]
theorem O7(s:Bs):(Bb s).length=(Lib.uvarint s.length).length+s.length:=by simp[Bb]
theorem J4(A s X:Bs)(fin:Nat)(hs:s.length≤1048576)(h1:A.length+(Bb s).length≤fin):By (A++(Bb s++X)) A.length fin=some (s,A.length+(Bb s).length):=by
  have hl:=O7 s
  have ht:(A++(Bb s++X)).take fin=A++(Lib.uvarint s.length++(s++X.take (fin-A.length-(Bb s).length))):=by
    rw[EN _ _ _ (by omega),EN _ _ _ (by omega)]
    simp only[Bb,List.append_assoc]
  unfold By
  rw[ht,List.drop_left,DK _ (by omega)]
  dsimp only
  rw[if_neg (by omega),if_neg (by simp only[List.length_append];omega)]
  congr 1
  rw[GP,List.drop_left,List.take_left]
  rw[hl,Nat.add_assoc]
def entB(ps:List Pt)(i:Nat)(s:BS):Ent:=
  if(ps.getD i AH).base<0 then⟨s.b.length,false,List.replicate 32 0,(ps.getD i AH).bytes⟩
  else⟨s.b.length,true,s.ids.getD (ps.getD i AH).base.toNat [],BK (ps.getD (ps.getD i AH).base.toNat AH).bytes (ps.getD i AH).bytes⟩
def DR(ps:List Pt)(i:Nat)(s:BS):Bs:=
  if(ps.getD i AH).base<0 then [0]++Bb (ps.getD i AH).bytes
  else [1]++s.ids.getD (ps.getD i AH).base.toNat []++Bb (BK (ps.getD (ps.getD i AH).base.toNat AH).bytes (ps.getD i AH).bytes)
theorem ML(ps:List Pt)(i:Nat)(s:BS):(bnext ps (ps.getD i AH) s).b=s.b++DR ps i s:=by
  unfold bnext DR
  dsimp only
  split <;> simp only[List.append_assoc]
theorem Nx{ps:List Pt}(hL:Ds ps){i:Nat}(hi:i<ps.length){s:BS}(h:BOk i s)(hb:(ps.getD i AH).base<i)(X:Bs)(fin:Nat)(hf:s.b.length+(DR ps i s).length≤fin):
    entOne (s.b++(DR ps i s++X)) fin s.b.length=some (entB ps i s,s.b.length+(DR ps i s).length):=by
  have hp:=hL.2 _ (getD_mem AH hi)
  by_cases hbase:(ps.getD i AH).base<0
  · have hc:DR ps i s= [0]++Bb (ps.getD i AH).bytes:=if_pos hbase
    have he:entB ps i s=⟨s.b.length,false,List.replicate 32 0,(ps.getD i AH).bytes⟩:=if_pos hbase
    rw[hc]at hf ⊢
    rw[he]
    have hg:(s.b++([0]++Bb (ps.getD i AH).bytes++X)).getD s.b.length 0=0:=by
      rw[List.getD_eq_getElem?_getD,List.getElem?_append_right (Nat.le_refl _),Nat.sub_self];rfl
    have ht:=J4 (s.b++ [0]) (ps.getD i AH).bytes X fin (by omega) (by simp only[List.length_append]at hf ⊢;omega)
    have e:s.b++ [0]++(Bb (ps.getD i AH).bytes++X)=s.b++([0]++Bb (ps.getD i AH).bytes++X):=by simp only[List.append_assoc]
    rw[e,List.length_append,List.length_singleton]at ht
    unfold entOne
    rw[hg,if_pos ⟨by simp only[List.length_append,List.length_singleton]at hf;omega,by decide⟩,if_neg (by decide),ht,Option.map_some]
    simp only[List.length_append,List.length_singleton,Nat.add_assoc]
  · have hc:DR ps i s= [1]++s.ids.getD (ps.getD i AH).base.toNat []++Bb (BK (ps.getD (ps.getD i AH).base.toNat AH).bytes (ps.getD i AH).bytes):=if_neg hbase
    have he:entB ps i s=⟨s.b.length,true,s.ids.getD (ps.getD i AH).base.toNat [],BK (ps.getD (ps.getD i AH).base.toNat AH).bytes (ps.getD i AH).bytes⟩:=if_neg hbase
    have a:(ps.getD i AH).base.toNat<s.ids.length:=by rw[h.ids];omega
    have h32:=h.len _ (getD_mem [] a)
    have hq:=hL.2 _ (getD_mem AH (l:=ps) (i:=(ps.getD i AH).base.toNat) (by rw[h.ids]at a;omega))
    have hm:=Hp (ps.getD (ps.getD i AH).base.toNat AH).bytes (ps.getD i AH).bytes (by omega) (by omega)
    rw[hc]at hf ⊢
    rw[he]
    generalize BK (ps.getD (ps.getD i AH).base.toNat AH).bytes (ps.getD i AH).bytes=m at hm hf ⊢
    generalize s.ids.getD (ps.getD i AH).base.toNat []=id at h32 hf ⊢
    have hg:(s.b++([1]++id++Bb m++X)).getD s.b.length 0=1:=by
      rw[List.getD_eq_getElem?_getD,List.getElem?_append_right (Nat.le_refl _),Nat.sub_self];rfl
    have ht:=J4 (s.b++ [1]++id) m X fin (by omega) (by simp only[List.length_append]at hf ⊢;omega)
    have e:s.b++ [1]++id++(Bb m++X)=s.b++([1]++id++Bb m++X):=by simp only[List.append_assoc]
    rw[e,List.length_append,List.length_append,List.length_singleton,h32]at ht
    have hd:((s.b++([1]++id++Bb m++X)).take fin).drop (s.b.length+1)=id++(Bb m++X.take (fin-s.b.length-1-id.length-(Bb m).length)):=by
      simp only[List.length_append,List.length_singleton]at hf
      have c:s.b++([1]++id++Bb m++X)=s.b++([1]++(id++(Bb m++X))):=by simp only[List.append_assoc]
      rw[c,EN _ _ _ (by omega),EN [1] _ _ (by simp only[List.length_singleton];omega),EN id _ _ (by simp only[List.length_singleton];omega),EN (Bb m) _ _ (by simp only[List.length_singleton];omega),GP]
      rfl
    unfold entOne
    rw[hg,if_pos ⟨by simp only[List.length_append,List.length_singleton]at hf;omega,by decide⟩,if_pos rfl,if_neg (by simp only[List.length_append,List.length_singleton]at hf;omega),ht,Option.map_some,hd,←h32,List.take_left]
    simp only[List.length_append,List.length_singleton,Nat.add_assoc]
structure BInv (ps : List Pt) (i : Nat) (s : BS) (es : List Ent) : Prop where
  ok:BOk i s
  len:es.length=i
  ids:s.ids=(ps.take i).map fun p=>Sha.sum p.bytes
  nodup:s.ids.Nodup
  pos:es.map Ent.pos=s.places
  asc:s.places.Pairwise (· < ·)
  top:∀p∈s.places,p<s.b.length
  ent:∀X fin,s.b.length≤fin→Cd (s.b++X) fin (1+(Lib.uvarint ps.length).length) i=some (es,s.b.length)
  flat:∀j,j<i→(ps.getD j AH).base<0→(es.getD j dEnt.1).based=false∧(es.getD j dEnt.1).bytes=(ps.getD j AH).bytes∧s.depths.getD j 0=0
  upon:∀j,j<i→¬(ps.getD j AH).base<0→(ps.getD j AH).base.toNat<j∧(es.getD j dEnt.1).based=true∧(es.getD j dEnt.1).base=s.ids.getD (ps.getD j AH).base.toNat []∧(es.getD j dEnt.1).bytes=BK (ps.getD (ps.getD j AH).base.toNat AH).bytes (ps.getD j AH).bytes∧s.depths.getD j 0=s.depths.getD (ps.getD j AH).base.toNat 0+1
theorem D3{α:Type}(l m:List α)(d:α){i:Nat}(h:i<l.length):(l++m).getD i d=l.getD i d:=by
  rw[List.getD_eq_getElem?_getD,List.getD_eq_getElem?_getD,List.getElem?_append_left h]
theorem F0{α:Type}(l:List α)(x d:α){i:Nat}(h:l.length=i):(l++ [x]).getD i d=x:=by
  rw[List.getD_eq_getElem?_getD,List.getElem?_append_right (by omega),h,Nat.sub_self];rfl
theorem MM{ps:List Pt}(hL:Ds ps):∀(i:Nat) (s:BS),i≤ps.length→DD ps i = .ok s→∃es,BInv ps i s es
  | 0,s,hi,h=>by
    have hk:=Hv hL 0 s hi h
    cases h
    refine⟨[],hk,rfl,rfl,List.nodup_nil,rfl,List.Pairwise.nil,(fun p hp=>by cases hp),fun X fin hf=> ?_,(fun j hj=>by omega),(fun j hj=>by omega)⟩
    show some ([],_)=some ([],_)
    rw[List.length_cons,Nat.add_comm]
  | i+1,s,hi,h=>by
    have hk:=Hv hL (i+1) s hi h
    cases hb:DD ps i with
    | error e=>rw[H3 hb 1]at h;cases h
    | ok s0=>
      rw[Fy hb]at h
      obtain⟨es,I⟩:=MM hL i s0 (by omega) hb
      unfold FS at h
      split at h
      · cases h
      · split at h
        · cases h
        · split at h
          · cases h
          · rename_i h1 h2 h3
            cases h
            have hbase:(ps.getD i AH).base<i:=by omega
            have hl:s0.ids.length=i:=I.ok.ids
            have hd:s0.depths.length=i:=I.ok.depths
            have hbn:=ML ps i s0
            have hcl:1≤(DR ps i s0).length:=by unfold DR;split <;> simp only[List.length_append,List.length_singleton] <;> omega
            refine⟨es++ [entB ps i s0],hk,by rw[List.length_append,I.len];rfl,?_,?_,?_,?_,?_,?_,?_,?_⟩
            · show s0.ids++ [_]=_
              rw[I.ids,List.take_succ_eq_append_getElem (by omega),List.map_append,List.map_singleton]
              rw[List.getD_eq_getElem?_getD,List.getElem?_eq_getElem (show i<ps.length by omega)];rfl
            · show(s0.ids++ [_]).Nodup
              rw[List.nodup_append]
              refine⟨I.nodup,by simp,fun a ha b hb e=> ?_⟩
              rw[List.mem_singleton.1 hb]at e
              exact h2 (e▸ha)
            · show _=s0.places++ [_]
              rw[List.map_append,I.pos]
              congr 1
              unfold entB
              split <;> rfl
            · show(s0.places++ [_]).Pairwise _
              rw[List.pairwise_append]
              exact⟨I.asc,by simp,fun a ha b hb=>by rw[List.mem_singleton.1 hb];exact I.top a ha⟩
            · intro p hp
              rw[hbn,List.length_append]
              rcases List.mem_append.1 (show p∈s0.places++ [_]from hp)with hp | hp
              · have:=I.top p hp;omega
              · rw[List.mem_singleton.1 hp];omega
            · intro X fin hf
              rw[hbn,List.length_append]at hf ⊢
              rw[List.append_assoc,Fg (I.ent (DR ps i s0++X) fin (by omega)),Nx hL (by omega) I.ok hbase X fin hf]
              rfl
            · intro j hj hjb
              by_cases e:j=i
              · subst e
                rw[F0 _ _ _ I.len]
                have he:entB ps j s0=⟨s0.b.length,false,List.replicate 32 0,(ps.getD j AH).bytes⟩:=if_pos hjb
                rw[he]
                refine⟨rfl,rfl,?_⟩
                show(s0.depths++ [_]).getD j 0=0
                rw[F0 _ _ _ hd]
                exact if_pos hjb
              · rw[D3 _ _ _ (by rw[I.len];omega)]
                have:=I.flat j (by omega) hjb
                refine⟨this.1,this.2.1,?_⟩
                show(s0.depths++ [_]).getD j 0=0
                rw[D3 _ _ _ (by omega)]
                exact this.2.2
            · intro j hj hjb
              have f:∀k,k<i→(bnext ps (ps.getD i AH) s0).ids.getD k []=s0.ids.getD k []:=fun k hk=>D3 _ _ _ (by omega)
              have c:∀k,k<i→(bnext ps (ps.getD i AH) s0).depths.getD k 0=s0.depths.getD k 0:=fun k hk=>D3 _ _ _ (by omega)
              by_cases e:j=i
              · subst e
                rw[F0 _ _ _ I.len]
                have he:entB ps j s0=⟨s0.b.length,true,s0.ids.getD (ps.getD j AH).base.toNat [],BK (ps.getD (ps.getD j AH).base.toNat AH).bytes (ps.getD j AH).bytes⟩:=if_neg hjb
                rw[he]
                have hlt:(ps.getD j AH).base.toNat<j:=by omega
                refine⟨hlt,rfl,(f _ hlt).symm,rfl,?_⟩
                rw[c _ hlt]
                show(s0.depths++ [_]).getD j 0=_
                rw[F0 _ _ _ hd]
                exact if_neg hjb
              · rw[D3 _ _ _ (by rw[I.len];omega)]
                have:=I.upon j (by omega) hjb
                have hlt:=this.1
                refine⟨hlt,this.2.1,?_,this.2.2.2.1,?_⟩
                · rw[f _ (by omega)];exact this.2.2.1
                · rw[c _ (by omega),c _ (by omega)];exact this.2.2.2.2
open Go.RowKit
theorem CC{α β:Type}[BEq α][LawfulBEq α]:∀(l:List α) (m:List β) (j:Nat) (x:α) (y:β),l.Nodup→l[j]? =some x→m[j]? =some y→(l.zip m).lookup x=some y
  | [],_,_,_,_,_,h,_=>by simp at h
  | _ :: _,[],_,_,_,_,_,h=>by simp at h
  | a :: l,b :: m,0,x,y,_,h1,h2=>by
    simp only[List.getElem?_cons_zero,Option.some.injEq]at h1 h2
    rw[h1,h2,List.zip_cons_cons,List.lookup_cons];simp
  | a :: l,b :: m,j+1,x,y,hn,h1,h2=>by
    simp only[List.getElem?_cons_succ]at h1 h2
    have hn' :=List.nodup_cons.1 hn
    have:(x==a)=false:=by
      simp only[beq_eq_false_iff_ne]
      intro e
      exact hn'.1 (e▸List.mem_of_getElem? h1)
    rw[List.zip_cons_cons,List.lookup_cons,this]
    exact CC l m j x y hn'.2 h1 h2
theorem Gr{α β γ:Type}[BEq α](f:β→γ)(x:α):∀(l:List α) (m:List β),(l.zip (m.map f)).lookup x=((l.zip m).lookup x).map f
  | [],_=>by simp
  | _ :: _,[]=>by simp
  | a :: l,b :: m=>by
    rw[List.map_cons,List.zip_cons_cons,List.zip_cons_cons,List.lookup_cons,List.lookup_cons,Gr f x l m]
    split <;> rfl
def GQ(s:BS)(es:List Ent)(id:Bs):Option Ent:=(s.ids.zip es).lookup id
theorem Cv{α:Type}{l:List α}{i:Nat}(d:α)(h:i<l.length):l[i]? =some (l.getD i d):=by
  rw[List.getD_eq_getElem?_getD,List.getElem?_eq_getElem h];rfl
section
variable {ps : List Pt} {n : Nat} {s : BS} {es : List Ent}
theorem BInv.at_(I:BInv ps n s es){j:Nat}(hj:j<n):GQ s es (s.ids.getD j [])=some (es.getD j dEnt.1):=
  CC _ _ j _ _ I.nodup (Cv [] (by rw[I.ok.ids];exact hj)) (Cv _ (by rw[I.len];exact hj))
theorem BInv.place(I:BInv ps n s es)(id:Bs):Bd s id=(GQ s es id).map Ent.pos:=by
  unfold Bd GQ
  rw[←I.pos,Gr]
theorem BInv.ix(I:BInv ps n s es){id:Bs}(h:id∈s.ids):∃j,j<n∧s.ids.getD j []=id:=by
  obtain⟨j,hj,e⟩:=List.getElem_of_mem h
  refine⟨j,by rw[I.ok.ids]at hj;exact hj,?_⟩
  rw[List.getD_eq_getElem?_getD,List.getElem?_eq_getElem hj]
  exact e
theorem BInv.miss(I:BInv ps n s es){id:Bs}(h:id∉s.ids):GQ s es id=none:=CA _ _ _ h
theorem BInv.posj(I:BInv ps n s es){j:Nat}(hj:j<n):s.places.getD j 0=(es.getD j dEnt.1).pos:=by
  rw[←I.pos,List.getD_eq_getElem?_getD,List.getElem?_map,Cv dEnt.1 (by rw[I.len];exact hj)];rfl
theorem BInv.lt(I:BInv ps n s es){i j:Nat}(hi:i<j)(hj:j<n):(es.getD i dEnt.1).pos<(es.getD j dEnt.1).pos:=by
  rw[←I.posj (by omega),←I.posj hj]
  have h1:i<s.places.length:=by rw[I.ok.places];omega
  have h2:j<s.places.length:=by rw[I.ok.places];omega
  have:=List.pairwise_iff_getElem.1 I.asc i j h1 h2 hi
  rw[List.getD_eq_getElem?_getD,List.getElem?_eq_getElem h1,List.getD_eq_getElem?_getD,List.getElem?_eq_getElem h2]
  exact this
theorem BInv.inj(I:BInv ps n s es){i j:Nat}(hi:i<n)(hj:j<n)(h:(es.getD i dEnt.1).pos=(es.getD j dEnt.1).pos):i=j:=by
  rcases Nat.lt_trichotomy i j with h1 | h1 | h1
  · have:=I.lt h1 hj;omega
  · exact h1
  · have:=I.lt h1 hi;omega
theorem BInv.placeGo(I:BInv ps n s es):∀(i j:Nat),j<i→i≤n→CB Ent.pos dEnt.1 es i (es.getD j dEnt.1).pos=some (es.getD j dEnt.1)
  | 0,_,h,_=>by omega
  | i+1,j,h,hi=>by
    show updM (Go.Proofs.YtcegdjpdnlaleaaDoor.CB Ent.pos dEnt.1 es i) _ _ _=_
    unfold updM
    by_cases e:j=i
    · subst e;rw[if_pos rfl]
    · rw[if_neg (fun q=>e (I.inj (by omega) (by omega) q))]
      exact I.placeGo i j (by omega) (by omega)
end
def ID(s:BS)(id:Bs):Bs:=id++Az ((Bd s id).getD 0)
def CH(s:BS):Bs:=(Ar s.ids).flatMap (ID s)
theorem HE{α:Type}(g:α→Bs)(k:Nat):∀(l:List α) (i:Nat),(∀x∈l,(g x).length=k)→(l.flatMap g).drop (k*i)=(l.drop i).flatMap g
  | [],i,_=>by simp
  | a :: l,0,_=>by simp
  | a :: l,i+1,h=>by
    rw[List.flatMap_cons,List.drop_succ_cons,show k*(i+1)=(g a).length+k*i by rw[h a (by simp),Nat.mul_succ,Nat.add_comm],GP]
    exact HE g k l i fun x hx=>h x (by simp[hx])
theorem J5{α:Type}{l:List α}{i:Nat}(d:α)(h:i<l.length):l.drop i=l.getD i d :: l.drop (i+1):=by
  rw[List.drop_eq_getElem_cons h,List.getD_eq_getElem?_getD,List.getElem?_eq_getElem h];rfl
section
variable {ps : List Pt} {n : Nat} {s : BS} {es : List Ent}
theorem BInv.sortlen(I:BInv ps n s es):(Ar s.ids).length=n:=by rw[BL,I.ok.ids]
theorem BInv.sortnd(I:BInv ps n s es):(Ar s.ids).Nodup:=(sortB_perm s.ids).nodup_iff.2 I.nodup
theorem DS{l:List Bs}{x:Bs}:x∈Ar l↔x∈l:=(sortB_perm l).mem_iff
theorem BInv.row(I:BInv ps n s es){i:Nat}(hi:i<n):(CH s).drop (36*i)=ID s ((Ar s.ids).getD i [])++((Ar s.ids).drop (i+1)).flatMap (ID s):=by
  unfold CH
  rw[HE (ID s) 36 _ i (fun x hx=>by unfold ID;rw[List.length_append,CM,I.ok.len x (DS.1 hx)]),J5 [] (by rw[I.sortlen];exact hi),List.flatMap_cons]
theorem BInv.sorted_mem(I:BInv ps n s es){i:Nat}(hi:i<n):(Ar s.ids).getD i []∈s.ids:=DS.1 (getD_mem [] (by rw[I.sortlen];exact hi))
theorem BInv.rowId(I:BInv ps n s es){i:Nat}(hi:i<n):AX (CH s) i=(Ar s.ids).getD i []:=by
  unfold Go.Proofs.YtcegdjpdnlaleaaDoor.AX
  have h32:=I.ok.len _ (I.sorted_mem hi)
  rw[I.row hi]
  unfold ID
  rw[List.append_assoc,←h32,List.take_left]
theorem BInv.rowAt(hL:Ds ps)(hn:n≤ps.length)(I:BInv ps n s es){i:Nat}(hi:i<n):Bh (CH s) i=(Bd s ((Ar s.ids).getD i [])).getD 0:=by
  unfold Go.Proofs.YtcegdjpdnlaleaaDoor.Bh
  have hm:=I.sorted_mem hi
  have h32:=I.ok.len _ hm
  rw[I.row hi]
  unfold ID
  rw[List.append_assoc,←h32,List.drop_left]
  refine Fe _ ?_ _
  obtain⟨j,hj,e⟩:=I.ix hm
  rw[←e,I.place,I.at_ hj,Option.map_some,Option.getD_some,←I.posj hj]
  have h1:=I.ok.pl _ (getD_mem 0 (l:=s.places) (i:=j) (by rw[I.ok.places];exact hj))
  have:=hL.1
  omega
theorem BInv.fresh(I:BInv ps n s es){i:Nat}(hi:i<n):(Ar s.ids).getD i []∉(Ar s.ids).take i:=by
  intro h
  obtain⟨j,hj,e⟩:=List.getElem_of_mem h
  rw[List.length_take,I.sortlen]at hj
  have hlen:=I.sortlen
  have:=List.pairwise_iff_getElem.1 I.sortnd j i (by omega) (by omega) (by omega)
  apply this
  rw[List.getElem_take]at e
  rw[e,List.getD_eq_getElem?_getD,List.getElem?_eq_getElem (by omega)]
  rfl
theorem BInv.index(hL:Ds ps)(hn:n≤ps.length)(I:BInv ps n s es):∀i,i≤n→∃S,CX Ent.pos dEnt.1 (CH s) es i=some S∧S.ids=(Ar s.ids).take i∧(∀id∈s.ids,id∉(Ar s.ids).take i→S.G ((Bd s id).getD 0)=GQ s es id)∧∀id,S.M id=if id∈(Ar s.ids).take i then GQ s es id else none
  | 0,_=>by
    refine⟨_,rfl,rfl,fun id hid _=> ?_,fun id=>by simp⟩
    obtain⟨j,hj,rfl⟩:=I.ix hid
    rw[I.place,I.at_ hj,Option.map_some,Option.getD_some,I.len]
    exact I.placeGo n j hj (Nat.le_refl _)
  | i+1,hi=>by
    obtain⟨S,h1,h2,h3,h4⟩:=I.index hL hn i (by omega)
    have hlen:=I.sortlen
    have hx:=I.sorted_mem (show i<n by omega)
    have hf:=I.fresh (show i<n by omega)
    obtain⟨j,hj,e⟩:=I.ix hx
    have hc:GQ s es ((Ar s.ids).getD i [])=some (es.getD j dEnt.1):=by rw[←e];exact I.at_ hj
    have ht:(Ar s.ids).take (i+1)=(Ar s.ids).take i++ [(Ar s.ids).getD i []]:=by
      rw[List.take_succ_eq_append_getElem (by omega),List.getD_eq_getElem?_getD,List.getElem?_eq_getElem (show i<(Ar s.ids).length by omega)];rfl
    have hG:S.G (Go.Proofs.YtcegdjpdnlaleaaDoor.Bh (CH s) i)=some (es.getD j dEnt.1):=by
      rw[I.rowAt hL hn (by omega),h3 _ hx hf,hc]
    have ho:i=0∨Lib.compareBytes (S.ids.getD (i-1) []) (Go.Proofs.YtcegdjpdnlaleaaDoor.AX (CH s) i)<0:=by
      rcases Nat.eq_zero_or_pos i with h0 | h0
      · exact .inl h0
      · refine .inr ?_
        rw[I.rowId (by omega),h2]
        have g1:((Ar s.ids).take i).getD (i-1) []=(Ar s.ids)[i-1]'(by omega):=by
          rw[List.getD_eq_getElem?_getD,List.getElem?_take,if_pos (by omega),List.getElem?_eq_getElem (by omega)];rfl
        have g2:(Ar s.ids).getD i []=(Ar s.ids)[i]'(by omega):=by
          rw[List.getD_eq_getElem?_getD,List.getElem?_eq_getElem (by omega)];rfl
        rw[g1,g2]
        have a1:=List.pairwise_iff_getElem.1 (FQ s.ids) (i-1) i (by omega) (by omega) (by omega)
        have a2:=List.pairwise_iff_getElem.1 I.sortnd (i-1) i (by omega) (by omega) (by omega)
        have a3:Lib.compareBytes ((Ar s.ids)[i-1]'(by omega)) ((Ar s.ids)[i]'(by omega))≠0:=fun q=>a2 (GF q)
        omega
    refine⟨Dc Ent.pos (CH s) i S (es.getD j dEnt.1),?_,?_,?_,?_⟩
    · rw[Ey h1]
      unfold Cc
      rw[hG]
      exact if_pos ho
    · show S.ids++ [_]=_
      rw[h2,I.rowId (by omega),ht]
    · intro id hid hni
      rw[ht]at hni
      simp only[List.mem_append,List.mem_singleton,not_or]at hni
      obtain⟨k,hk,rfl⟩:=I.ix hid
      have hne:(Bd s (s.ids.getD k [])).getD 0≠(es.getD j dEnt.1).pos:=by
        rw[I.place,I.at_ hk,Option.map_some,Option.getD_some]
        intro q
        have:=I.inj hk hj q
        subst this
        exact hni.2 e
      show updM S.G _ none _=_
      unfold updM
      rw[if_neg hne]
      exact h3 _ hid hni.1
    · intro id
      show updM S.M _ _ _=_
      unfold updM
      rw[I.rowId (by omega),ht,h4]
      by_cases q:id=(Ar s.ids).getD i []
      · rw[if_pos q,if_pos (by rw[q];simp),q,hc]
      · rw[if_neg q]
        by_cases q2:id∈(Ar s.ids).take i
        · rw[if_pos q2,if_pos (by simp[q2])]
        · rw[if_neg q2,if_neg (by simp only[List.mem_append,List.mem_singleton,not_or];exact⟨q2,q⟩)]
def IE(s:BS)(es:List Ent)(k:Bs):Ent:=(GQ s es k).getD dEnt.1
theorem BInv.E(I:BInv ps n s es){j:Nat}(hj:j<n):IE s es (s.ids.getD j [])=es.getD j dEnt.1:=by unfold IE;rw[I.at_ hj];rfl
theorem BInv.depth(I:BInv ps n s es):∀(m j:Nat),j<n→s.depths.getD j 0≤m→AC (IE s es) m (es.getD j dEnt.1)=some (s.depths.getD j 0)
  | m,j,hj,hm=>by
    by_cases hb:(ps.getD j AH).base<0
    · have:=I.flat j hj hb
      rw[Dd this.1,this.2.2]
    · obtain⟨h1,h2,h3,h4,h5⟩:=I.upon j hj hb
      cases m with
      | zero=>omega
      | succ m=>
        rw[De h2,h3,I.E (by omega),I.depth m _ (by omega) (by omega),h5]
        rfl
theorem BInv.chain(hL:Ds ps)(hn:n≤ps.length)(I:BInv ps n s es):∀(m j:Nat),j<n→s.depths.getD j 0=m→AZ (IE s es) (m+1) (s.ids.getD j [])=some ((ps.getD j AH).bytes,m)
  | m,j,hj,hm=>by
    have hp:=hL.2 _ (getD_mem AH (l:=ps) (i:=j) (by omega))
    by_cases hb:(ps.getD j AH).base<0
    · obtain⟨h1,h2,h3⟩:=I.flat j hj hb
      rw[EF (by rw[I.E hj];exact h1),I.E hj,h2,if_pos (by omega)]
      rw[h3]at hm
      rw[hm]
    · obtain⟨h1,h2,h3,h4,h5⟩:=I.upon j hj hb
      have hq:=hL.2 _ (getD_mem AH (l:=ps) (i:=(ps.getD j AH).base.toNat) (by omega))
      cases m with
      | zero=>omega
      | succ m=>
        rw[Em (by rw[I.E hj];exact h2),I.E hj,h3,I.chain hL hn m _ (by omega) (by omega),h4]
        show(if _ then(if _ then some (_,m+1)else none)else none)=_
        dsimp only
        rw[Ni _ _ (by omega) (by omega),if_pos rfl,if_pos (by dsimp only;omega)]
def Ju(ps:List Pt)(s:BS)(id:Bs):Option (Bs × Nat):=(s.ids.zip ((ps.map Pt.bytes).zip s.depths)).lookup id
theorem BInv.obj(hL:Ds ps)(hn:n=ps.length)(I:BInv ps n s es){j:Nat}(hj:j<n):Ju ps s (s.ids.getD j [])=some ((ps.getD j AH).bytes,s.depths.getD j 0):=
  CC _ _ j _ _ I.nodup (Cv [] (by rw[I.ok.ids];exact hj)) (by
    rw[List.getElem?_zip_eq_some]
    dsimp only
    exact⟨by rw[List.getElem?_map,Cv AH (by omega)];rfl,Cv 0 (by rw[I.ok.depths];exact hj)⟩)
theorem BInv.sum(hn:n≤ps.length)(I:BInv ps n s es){j:Nat}(hj:j<n):Sha.sum (ps.getD j AH).bytes=s.ids.getD j []:=by
  have:s.ids[j]? =some (Sha.sum (ps.getD j AH).bytes):=by
    rw[I.ids,List.getElem?_map,List.getElem?_take,if_pos hj,Cv AH (by omega)];rfl
  rw[show s.ids.getD j []=(s.ids[j]?).getD []from List.getD_eq_getElem?_getD,this];rfl
theorem BInv.objs(hL:Ds ps)(hn:n=ps.length)(I:BInv ps n s es):∀i,i≤n→∃o,C9 (IE s es) (Ar s.ids) i = .ok o∧o.total≤200*i∧∀id,o.O id=if id∈(Ar s.ids).take i then Ju ps s id else none
  | 0,_=>⟨_,rfl,Nat.le_refl _,fun id=>by simp⟩
  | i+1,hi=>by
    obtain⟨o,h1,h2,h3⟩:=I.objs hL hn i (by omega)
    have hlen:=I.sortlen
    have hx:=I.sorted_mem (show i<n by omega)
    obtain⟨j,hj,e⟩:=I.ix hx
    have hp:=hL.2 _ (getD_mem AH (l:=ps) (i:=j) (by omega))
    have h60:=hL.1
    have hd:=I.ok.dp _ (getD_mem 0 (l:=s.depths) (i:=j) (by rw[I.ok.depths];exact hj))
    have ht:(Ar s.ids).take (i+1)=(Ar s.ids).take i++ [(Ar s.ids).getD i []]:=by
      rw[List.take_succ_eq_append_getElem (by omega),List.getD_eq_getElem?_getD,List.getElem?_eq_getElem (show i<(Ar s.ids).length by omega)];rfl
    have g:Df (IE s es) ((Ar s.ids).getD i []) o = .ok ⟨o.total+(ps.getD j AH).bytes.length,updM o.O ((Ar s.ids).getD i []) (some ((ps.getD j AH).bytes,s.depths.getD j 0))⟩:=by
      rw[←e,EH (by rw[I.E hj];exact I.depth 50 j hj hd) (I.chain hL (by omega) _ j hj rfl),if_pos (I.sum (by omega) hj),if_pos (by omega)]
    refine⟨_,by rw[EI h1];exact g,by dsimp only;omega,fun id=> ?_⟩
    dsimp only
    unfold updM
    rw[ht,h3]
    by_cases q:id=(Ar s.ids).getD i []
    · rw[if_pos q,if_pos (by rw[q];simp),q,←e,I.obj hL hn hj]
    · rw[if_neg q]
      by_cases q2:id∈(Ar s.ids).take i
      · rw[if_pos q2,if_pos (by simp[q2])]
      · rw[if_neg q2,if_neg (by simp only[List.mem_append,List.mem_singleton,not_or];exact⟨q2,q⟩)]
theorem countP_perm{l m:List Bs}(h:l.Perm m)(p:Bs→Bool):l.countP p=m.countP p:=h.countP_eq p
theorem fanL_sort(l:List Bs):AK (Ar l)=AK l:=by
  unfold AK
  congr 1
  funext c
  exact countP_perm (sortB_perm l) _
theorem flat4_drop(l:List Nat)(X:Bs)(i:Nat)(hi:i<l.length)(hv:∀x∈l,x<2^32):BI ((l.flatMap Az++X).drop (4*i))=l.getD i 0:=by
  have hl:=FU l
  rw[List.drop_append,HE Az 4 l i (fun _ _=>rfl),J5 0 hi,List.flatMap_cons,List.append_assoc]
  exact Fe _ (hv _ (getD_mem 0 hi)) _
theorem Ny(hL:Ds ps)(h:DD ps ps.length = .ok s):openP (BB ps).1 = .ok (Ar s.ids,Ju ps s):=by
  obtain⟨es,I⟩:=MM hL ps.length s (Nat.le_refl _) h
  have h60:=hL.1
  have hB:=I.ok.b
  have hbl:=F7 I.ok s.b.length
  have hsl:∀x,(Sha.sum x).length=32:=Sha.sum_length
  have f:(BB ps).1=s.b++Cb s s.b.length++Sha.sum (s.b++Cb s s.b.length):=by unfold BB;rw[h]
  have hlen:(BB ps).1.length=s.b.length+(1028+36*ps.length)+32:=by rw[f,List.length_append,List.length_append,hbl,hsl]
  have hbeh:Cb s s.b.length=(AK s.ids).flatMap Az++CH s++Az s.b.length:=rfl
  have hfan:((AK s.ids).flatMap Az).length=1024:=by rw[FU,Bi]
  have hrows:(CH s).length=36*ps.length:=by
    have:=Lj (fun id=>(Bd s id).getD 0) (Ar s.ids) (fun x hx=>I.ok.len x (DS.1 hx))
    rw[I.sortlen]at this
    exact this
  have huv:=QK (n:=ps.length) (by omega)
  generalize hC:(BB ps).1=c at f hlen ⊢
  unfold openP
  rw[if_neg (by omega),if_neg (by omega),if_pos (by
    rw[f,List.length_append,hsl,Nat.add_sub_cancel,List.take_left,List.drop_left])]
  -- the head
  obtain⟨r,hr⟩:∃r,s.b=80 :: Lib.uvarint ps.length++r:=by
    have:∀i t,DD ps i = .ok t→∃r,t.b=80 :: Lib.uvarint ps.length++r:=by
      intro i
      induction i with
      | zero=>intro t ht;cases ht;exact⟨[],by simp⟩
      | succ i ih=>
        intro t ht
        cases hb:DD ps i with
        | error e=>rw[H3 hb 1]at ht;cases ht
        | ok t0=>
          obtain⟨r,hr⟩:=ih t0 hb
          rw[Fy hb]at ht
          unfold FS at ht
          split at ht
          · cases ht
          · split at ht
            · cases ht
            · split at ht
              · cases ht
              · cases ht
                exact⟨r++DR ps i t0,by rw[ML,hr,List.append_assoc]⟩
    exact this _ _ h
  have hd1:c.drop 1=Lib.uvarint ps.length++(r++Cb s s.b.length++Sha.sum (s.b++Cb s s.b.length)):=by
    rw[f,hr]
    simp only[List.cons_append,List.append_assoc,List.drop_succ_cons,List.drop_zero]
  have h80:c.getD 0 0=80:=by rw[f,hr];rfl
  have hat:BI (c.drop (c.length-36))=s.b.length:=by
    have g:c=(s.b++(AK s.ids).flatMap Az++CH s)++(Az s.b.length++Sha.sum (s.b++Cb s s.b.length)):=by rw[f,hbeh];simp only[List.append_assoc]
    have l:c.length-36=(s.b++(AK s.ids).flatMap Az++CH s).length:=by rw[hlen];simp only[List.length_append,hfan,hrows];omega
    rw[l,g,List.drop_left]
    exact Fe _ (by omega) _
  have hfirst:1+(Lib.uvarint ps.length).length≤s.b.length:=by rw[hr];simp only[List.cons_append,List.length_cons,List.length_append];omega
  have hent:A9 c ps.length (1+(Lib.uvarint ps.length).length) s.b.length=some es:=by
    unfold A9
    rw[f,List.append_assoc,I.ent _ _ (Nat.le_refl _)]
    show(if s.b.length=s.b.length then some es else none)=_
    rw[if_pos rfl]
  obtain⟨S,g1,g2,g3,g4⟩:=I.index hL (Nat.le_refl _) ps.length (Nat.le_refl _)
  have htake:(Ar s.ids).take ps.length=Ar s.ids:=List.take_of_length_le (by rw[I.sortlen];exact Nat.le_refl _)
  rw[htake]at g2 g4
  have hM:S.M=GQ s es:=by
    funext id
    rw[g4]
    split
    · rfl
    · rename_i q
      exact(I.miss (fun q2=>q (DS.2 q2))).symm
  have hE:entOf S.M=IE s es:=by rw[hM];rfl
  obtain⟨o,o1,o2,o3⟩:=I.objs hL rfl ps.length (Nat.le_refl _)
  have hO:o.O=Ju ps s:=by
    funext id
    rw[o3,htake]
    split
    · rfl
    · rename_i q
      exact(CA _ _ _ (fun q2=>q (DS.2 q2))).symm
  have ht:(c.drop (s.b.length+1024)).take (c.length-36-(s.b.length+1024))=CH s:=by
    have g:c=(s.b++(AK s.ids).flatMap Az)++(CH s++(Az s.b.length++Sha.sum (s.b++Cb s s.b.length))):=by rw[f,hbeh];simp only[List.append_assoc]
    have l:s.b.length+1024=(s.b++(AK s.ids).flatMap Az).length:=by rw[List.length_append,hfan]
    rw[g,l,List.drop_left,show ∀a:Nat,a-(s.b++(AK s.ids).flatMap Az).length=a-(s.b.length+1024)from fun a=>by rw[l],←g,hlen,show s.b.length+(1028+36*ps.length)+32-36-(s.b.length+1024)=(CH s).length by rw[hrows];omega,List.take_left]
  unfold Ci
  rw[hd1,DK _ (by omega)]
  dsimp only
  rw[hat]
  unfold GN
  rw[if_pos ⟨h80,hfirst,by omega,by omega⟩,if_pos (by omega)]
  unfold GM
  rw[hent]
  show Fk c s.b.length es=_
  unfold Fk
  rw[ht,I.len,g1]
  show GL c s.b.length es S=_
  unfold GL
  rw[if_pos (fanB_of fun i hi=>by
    rw[g2,fanL_sort,f,hbeh]
    have g:s.b++((AK s.ids).flatMap Az++CH s++Az s.b.length)++Sha.sum (s.b++((AK s.ids).flatMap Az++CH s++Az s.b.length))=s.b++((AK s.ids).flatMap Az++(CH s++(Az s.b.length++Sha.sum (s.b++((AK s.ids).flatMap Az++CH s++Az s.b.length))))):=by simp only[List.append_assoc]
    rw[g,GP]
    refine flat4_drop _ _ i (by rw[Bi];exact hi) fun x hx=> ?_
    obtain⟨k,hk,rfl⟩:=List.getElem_of_mem hx
    have:=H0 s.ids k
    rw[List.getD_eq_getElem?_getD,List.getElem?_eq_getElem hk,I.ok.ids]at this
    have:(AK s.ids)[k]≤ps.length:=this
    omega),if_pos (by
    refine List.all_eq_true.2 fun e he=> ?_
    obtain⟨j,hj,rfl⟩:=List.getElem_of_mem he
    rw[I.len]at hj
    have ej:es[j]=es.getD j dEnt.1:=by rw[List.getD_eq_getElem?_getD,List.getElem?_eq_getElem];rfl
    rw[ej,hM]
    by_cases hb:(ps.getD j AH).base<0
    · rw[(I.flat j hj hb).1];rfl
    · obtain⟨k1,k2,k3,-⟩:=I.upon j hj hb
      rw[k2,k3,I.at_ (by omega)]
      rfl)]
  rw[hE,g2,Lt (o:=o) (by rw[I.sortlen];exact o1),hO]
end
open Go.RowKit
section
variable {P : Program} {K : Value → World → Prop} {ρ : Ae} {w : World} {d : Option Tmp} {ty : TypeId} {pos : String} {af : Array Edge} {gd : Option (Nat × Bool)}
theorem O8{t e:TypeId}(ht:P.underlying t=some (.slice e))(a:Option Addr)(n c:Nat)(w:World):(Op.equal t (.slice a n c) (.slice none 0 0)).run P w = .ok a.isNone w:=by
  unfold Op.equal
  rw[show Op.maxDepth=(Op.maxDepth-1)+1 from rfl]
  cases a <;> simp[Op.equalIn,run_underlying ht,Sem.run_bind,Sem.run_pure]
theorem Yk.eqlNilSl{t e ty2:TypeId}(ht:P.underlying t=some (.slice e)){x:Operand}{a:Option Addr}{n c:Nat}(hx:Ab ρ x = .slice a n c)(hk:K (.bool a.isNone) w):Yk P K ((execOp (Ab ρ) ⟨d, .binOp .eql t x (.const (.slice none 0 0)) ty2,ty,pos,af,gd⟩).run P w):=by
  have hy:Ab ρ (.const (.slice none 0 0)) = .slice none 0 0:=rfl
  refine Yk.value (v:= .bool a.isNone) (w' :=w) ?_ hk
  have hr:=O8 ht a n c w
  unfold execOp
  simp only[hx,hy]
  cases a <;> simp[eqGuard,Go.binOp,hr]
end
open Go.RowKit
set_option maxRecDepth 100000
def PackO(w:World)(v:Value):Option Bu→Prop
 | none=>v = .pointer none
 | some p=>PackAt w v p
theorem PackO.keep{w w' :World}{v:Value}:∀ {q:Option Bu},PackO w v q→Ext w w' →PackO w' v q
 | none,h,_=>h
 | some _,h,k=>PackAt.keep h k
def idsQ(q:Option Bu):List Bs:=match q with | none=> [] | some p=>p.1
def F9(q:Option Bu):Nat:=(idsQ q).length
def Ba(q:Option Bu)(id:Bs):(Bs × Nat)× Nat:=
 match q with
 | none=>(([],0),1)
 | some p=>match p.2 id with
  | none=>(([],0),12)
  | some x=>(x,0)
theorem Nz(w:World):(Instr.buildSlice 47 0 #[]).run Tryd.prog w = .ok (.slice (some ⟨w.heap.size,0,none⟩) 0 0) (w.alloc (.cells #[] 38)):=by kernel_rfl
theorem Ie:A6 Tryd.prog 74 0 0:=fun b o w=>by simp[go_sem]
theorem O9:AA Tryd.prog 48:=fun _ _=>by kernel_rfl
theorem J6:AA Tryd.prog 41:=fun _ _=>by kernel_rfl
theorem Pa:AA Tryd.prog 42:=fun _ _=>by kernel_rfl
set_option maxHeartbeats 1600000
theorem RA(w:World):
  Calls Tryd.prog 42 #[(.slice none 0 0)] w fun e w' =>∃v',e = .returned v' ∧NewB 5 w w' v' []:=by
 refine gG (args:= [(.slice none 0 0)]) Tryd.func42 rfl 8 rfl rfl ?_
 have hE:=Ext.refl w
 refine gS (Yk.eqlNilSl EX rfl (cT rfl (Bx rfl (vr (Value.slice none 0 0) rfl) ?_)))
 exact⟨_,rfl,⟨World.ownsRow_nil _ _ _ 1,hE.grown⟩⟩

theorem RC(w:World)(a:Addr)(c:Nat)(l:Bs)(hr:RB w (.slice (some a) l.length c) l)(hl:l.length<1099511627776):
  Calls Tryd.prog 42 #[(.slice (some a) l.length c)] w fun e w' =>∃v',e = .returned v' ∧NewB 5 w w' v' l:=by
 refine gG (args:= [(.slice (some a) l.length c)]) Tryd.func42 rfl 8 rfl rfl ?_
 have hE:=Ext.refl w
 refine gS (Yk.eqlNilSl EX rfl (cF rfl (gS (Yk.lit0 Nj fun g j h=> ?_))))
 have b:=h.own
 have hE:=hE.trans h.ext
 refine gS (Yk.appendRB _ _ w.heap.size (.int .u8 0) EX IP rfl EX (([]:List UInt8)) (l) (BA b (vr g rfl)) (RB.of (hr.keep hE) (vr (.slice (some a) l.length c) rfl)) (by simp only[List.length_nil];omega) hE.size fun i k m f=> ?_)
 have f:Grew j k g i:=f
 have hE:=Af hE f b (Nat.le_refl _)
 clear b
 refine Bx rfl (vr i rfl) ?_
 exact⟨_,rfl,⟨(show World.ownsRow _ _ _ _ _ _ _ from by simpa using m),hE.grown⟩⟩

theorem Pb(w:World)(v:Value)(l:Bs)(h:RB w v l)(hl:l.length<1099511627776):
  Calls Tryd.prog 42 #[v] w fun e w' =>∃v',e = .returned v' ∧NewB 5 w w' v' l:=by
 obtain⟨h1,ao,cap,rfl,h2,h3,h4,h5⟩:=id h
 cases ao with
 | none=>
  have hl:=h4 rfl
  have:l= []:=List.eq_nil_of_length_eq_zero hl.1
  subst this
  rw[show cap=0 from hl.2]
  exact RA w
 | some a=>exact RC w a cap l h hl

theorem Qb(w:World):
  Calls Tryd.prog 48 #[(.slice none 0 0)] w fun e w' =>∃v',e = .returned v' ∧OG w.heap.size 38 32 Lib.byteCells w' v' []∧Ext w w' :=by
 refine gG (args:= [(.slice none 0 0)]) Tryd.func48 rfl 8 rfl rfl ?_
 have hE:=Ext.refl w
 refine gS (Yk.eqlNilSl Lc rfl (cT rfl (Bx rfl (vr (Value.slice none 0 0) rfl) ?_)))
 exact⟨_,rfl,OG.nil _ _ _ _ _,hE⟩

theorem Qc(w:World)(a:Addr)(c:Nat)(l:List Bs)(hr:RG 32 Lib.byteCells w (.slice (some a) l.length c) l)(hl:l.length<1099511627776):
  Calls Tryd.prog 48 #[(.slice (some a) l.length c)] w fun e w' =>∃v',e = .returned v' ∧OG w.heap.size 38 32 Lib.byteCells w' v' l∧Ext w w' :=by
 refine gG (args:= [(.slice (some a) l.length c)]) Tryd.func48 rfl 8 rfl rfl ?_
 have hE:=Ext.refl w
 refine gS (Yk.eqlNilSl Lc rfl (cF rfl (gS (Yk.lit0G (k:=32) (enc:=Lib.byteCells) Nz fun g i b j=> ?_))))
 have hE:=hE.trans j
 refine gS (Yk.appendRG _ _ w.heap.size _ 32 Lc pk6_ig38.choose_spec.1 pk6_ig38.choose_spec.2 Lc ([]) (l) (OG.of b (vr g rfl)) (RG.of (hr.keep hE) (vr (.slice (some a) l.length c) rfl)) (fun _ _=>Ai _) (by simp only[List.length_nil];omega) (by simp only[List.length_nil];omega) hE.size fun h m n f=> ?_)
 have f:Grew i m g h:=f
 have hE:=Af hE f b.2 (Nat.le_refl _)
 clear b
 refine Bx rfl (vr h rfl) ?_
 exact⟨_,rfl,(show OG _ _ _ _ _ _ _ from by simpa using n),hE⟩

theorem Mc(w:World)(v:Value)(l:List Bs)(h:RG 32 Lib.byteCells w v l)(hl:l.length<1099511627776):
  Calls Tryd.prog 48 #[v] w fun e w' =>∃v',e = .returned v' ∧OG w.heap.size 38 32 Lib.byteCells w' v' l∧Ext w w' :=by
 obtain⟨h0,h1,ao,cap,rfl,h2,h3,h4,h5⟩:=id h
 cases ao with
 | none=>
  have hl:=h4 rfl
  have:l= []:=List.eq_nil_of_length_eq_zero hl.1
  subst this
  rw[show cap=0 from hl.2]
  exact Qb w
 | some a=>exact Qc w a cap l h hl

theorem Qd(w:World):
  Calls Tryd.prog 16 #[.pointer none] w fun e w' =>e = .returned (NI (F9 (none:Option Bu)))∧Ext w w' :=by
 refine gG (args:= [.pointer none]) Tryd.func16 rfl 10 rfl rfl ?_
 have hE:=Ext.refl w
 refine gS (Yk.eqlNil EZ rfl (cT rfl (Bx rfl (vr (NI 0) rfl) ?_)))
 exact⟨rfl,hE⟩

theorem Q8(w:World)(g bo:Nat)(vi:Value)(ids:List Bs)(O:Bs→Option B0)(hg:w.heap[g]? =some (.cells ([vi, .map (some bo)]).toArray 74 (0,0)))(hrg:RG 32 Lib.byteCells w vi ids)(hmo:MapF rk B9 (fun id:List UInt8=>id.length=32) w bo O)(hoo:OOk w O):
  Calls Tryd.prog 16 #[PQ g 0] w fun e w' =>e = .returned (NI (F9 (some (ids,fun k=>(O k).map Prod.fst))))∧Ext w w' :=by
 refine gG (args:= [PQ g 0]) Tryd.func16 rfl 10 rfl rfl ?_
 have hE:=Ext.refl w
 refine gS (Yk.eqlNil EZ rfl (cF rfl (gS (Yk.nilCheck rfl (gS (Yk.fieldAt Ie rfl (gS (Yk.cell1 Lc rfl rfl (cellAt hg rfl) (gS (Yk.lenRG Lc (RG.of hrg rfl) (Bx rfl (vr (NI ids.length) rfl) ?_)))))))))))
 exact⟨rfl,hE⟩

theorem IF(w:World)(v:Value)(q:Option Bu)(h:PackO w v q):
  Calls Tryd.prog 16 #[v] w fun e w' =>e = .returned (NI (F9 q))∧Ext w w' :=by
 match q,h with
 | none,h=>rw[show v = .pointer none from h];exact Qd w
 | some p,h=>
  obtain⟨g,vi,bo,O,rfl,h2,hg,hrg,hmo,hoo⟩:=h
  obtain⟨ids,P⟩:=p
  subst h2
  exact Q8 w g bo vi ids O hg hrg hmo hoo

theorem Qe(w:World):
  Calls Tryd.prog 22 #[.pointer none] w fun e w' =>∃v',e = .returned v' ∧OG w.heap.size 38 32 Lib.byteCells w' v' (idsQ (none:Option Bu))∧Ext w w' :=by
 refine gG (args:= [.pointer none]) Tryd.func22 rfl 10 rfl rfl ?_
 have hE:=Ext.refl w
 refine gS (Yk.eqlNil EZ rfl (cT rfl (Bx rfl (vr (Value.slice none 0 0) rfl) ?_)))
 exact⟨_,rfl,OG.nil _ _ _ _ _,hE⟩

theorem Q9(w:World)(g bo:Nat)(vi:Value)(ids:List Bs)(O:Bs→Option B0)(hg:w.heap[g]? =some (.cells ([vi, .map (some bo)]).toArray 74 (0,0)))(hrg:RG 32 Lib.byteCells w vi ids)(hmo:MapF rk B9 (fun id:List UInt8=>id.length=32) w bo O)(hoo:OOk w O)(hi:ids.length<1099511627776):
  Calls Tryd.prog 22 #[PQ g 0] w fun e w' =>∃v',e = .returned v' ∧OG w.heap.size 38 32 Lib.byteCells w' v' (idsQ (some (ids,fun k=>(O k).map Prod.fst)))∧Ext w w' :=by
 refine gG (args:= [PQ g 0]) Tryd.func22 rfl 10 rfl rfl ?_
 have hE:=Ext.refl w
 refine gS (Yk.eqlNil EZ rfl (cF rfl (gS (Yk.nilCheck rfl (gS (Yk.fieldAt Ie rfl (gS (Yk.cell1 Lc rfl rfl (cellAt hg rfl) (gS (Yk.callA1 O9 rfl ((Mc _ vi ids hrg (by omega)).mono ?_)))))))))))
 rintro e f ⟨a,rfl,b,c⟩
 refine⟨_,rfl,?_⟩
 refine Bx rfl (vr a rfl) ?_
 have hE:=hE.trans c
 exact⟨_,rfl,b,hE⟩

theorem Lz(w:World)(v:Value)(q:Option Bu)(h:PackO w v q)(hi:F9 q<1099511627776):
  Calls Tryd.prog 22 #[v] w fun e w' =>∃v',e = .returned v' ∧OG w.heap.size 38 32 Lib.byteCells w' v' (idsQ q)∧Ext w w' :=by
 match q,h with
 | none,h=>rw[show v = .pointer none from h];exact Qe w
 | some p,h=>
  obtain⟨g,vi,bo,O,rfl,h2,hg,hrg,hmo,hoo⟩:=h
  obtain⟨ids,P⟩:=p
  subst h2
  exact Q9 w g bo vi ids O hg hrg hmo hoo hi

theorem Pc(w:World)(id:Bs)(hid:id.length=32):
  Calls Tryd.prog 41 #[.pointer none,AB id] w fun e w' =>∃x,e = .returned x∧∃(o:Bs × Nat) (s:Value),x = .tuple #[.agg ([s,NI o.2]).toArray,NI (Ba (none:Option Bu) id).2]∧o=(Ba (none:Option Bu) id).1∧RB w' s o.1∧Ext w w' :=by
 refine gG (args:= [.pointer none,AB id]) Tryd.func41 rfl 24 rfl rfl ?_
 have hE:=Ext.refl w
 refine gS (Yk.box (vr (AB id) rfl) fun h i p b j q=> ?_)
 have r:=b;clear b
 have t:h<i.heap.size:=by omega
 refine gS (Yk.alloc DO fun c k u f l y=> ?_)
 have hE:=hE.trans j
 have m:=hE.size
 have a:=f;clear f
 have z:c<k.heap.size:=by omega
 refine gS (Yk.eqlNil EZ rfl (cT rfl (gS (Yk.run (v:= .agg ([(Value.slice none 0 0),NI 0]).toArray) (by kernel_rfl) (gS (Yk.storeAll (vr (PQ c 0) rfl) (vr (.agg ([(Value.slice none 0 0),NI 0]).toArray) rfl) a rfl (show(Tryd.prog.info? 81).map (·.size)=some 2 from Bk) (BW rfl) fun aa g n ab=> ?_))))))
 clear a
 have a:=g;clear g
 have ac:=bl a
 refine E8 rfl (ResF.row rfl a (Dg).choose_spec rfl ((show(Tryd.prog.info? 81).map (·.size)=some 2 from Bk))) (vr (NI 1) rfl) ?_
 have hE:=hE.trans l
 have hE:=Aa hE n (Nat.le_trans m (by omega))
 exact⟨_,rfl,([],0),_,rfl,rfl,RB.nil _,hE⟩

theorem Qf(w:World)(g bo:Nat)(vi:Value)(ids:List Bs)(O:Bs→Option B0)(hg:w.heap[g]? =some (.cells ([vi, .map (some bo)]).toArray 74 (0,0)))(hrg:RG 32 Lib.byteCells w vi ids)(hmo:MapF rk B9 (fun id:List UInt8=>id.length=32) w bo O)(hoo:OOk w O)(id:Bs)(hid:id.length=32):
  Calls Tryd.prog 41 #[PQ g 0,AB id] w fun e w' =>∃x,e = .returned x∧∃(o:Bs × Nat) (s:Value),x = .tuple #[.agg ([s,NI o.2]).toArray,NI (Ba (some (ids,fun k=>(O k).map Prod.fst)) id).2]∧o=(Ba (some (ids,fun k=>(O k).map Prod.fst)) id).1∧RB w' s o.1∧Ext w w' :=by
 refine gG (args:= [PQ g 0,AB id]) Tryd.func41 rfl 24 rfl rfl ?_
 have hE:=Ext.refl w
 refine gS (Yk.box (vr (AB id) rfl) fun n2 w3 r aa j a6=> ?_)
 have a7:=Aw hmo.lt r
 have b:=aa;clear aa
 have a8:n2<w3.heap.size:=by omega
 refine gS (Yk.alloc DO fun t aw c ab ac a9=> ?_)
 have hE:=hE.trans j
 have ad:=hE.size
 have hmo:=hmo.keep j
 have ba:=Aw hmo.lt c
 have a:=ab;clear ab
 have bb:t<aw.heap.size:=by omega
 refine gS (Yk.eqlNil EZ rfl ?_)
 rcases hO:O id with _ | x
 ·have hQ:Ba (some (ids,fun k=>(O k).map Prod.fst)) id=(([],0),12):=by show(match (O id).map Prod.fst with | none=>_ | some x=>_)=_;rw[hO];rfl
  refine cF rfl (DC [0,1,2,3,4,5,6,7,8,9,10,11] [9,10] [1,2,7,8] [3,4,5] fun ae af=> ?_)
  have f:=Ext.refl ae
  have hZ1:=ac.trans af
  have hE:=hE.trans hZ1
  have ax:=hE.size
  have l:=Ext.refl ae
  have ay:=Aw (bl hg) r
  have hg:=eb j hg
  have az:=Aw (bl hg) c
  have hg:=eb hZ1 hg
  have a0:=Aw (bl b) c
  have b:=eb hZ1 b
  have hmo:=hmo.keep hZ1
  refine C3 l ?_
  refine yp (Yk.nilCheck rfl zz) (yp (Yk.fieldAt L9 rfl zz) (yf (fun _ ⟨hZ,_⟩=>Yk.cell1 CO rfl rfl (cellAt (eb hZ hg) rfl) zz) (yf (fun _ ⟨hZ,_⟩=>Yk.loadAll rfl (eb hZ b) QJ rfl (by exact Ag hid) zz) (yf (fun _ ⟨hZ,_⟩=>Yk.lookOkN (ek:=rk) (ev:=B9) (D:=(fun id:List UInt8=>id.length=32)) B4 B5 (fun _ _=>BY) CO (z:=B9 Jq) Gp rfl rfl (hmo.keep hZ) hid hO zz) (yp (Yk.extract (vs:= [.agg ([(Value.slice none 0 0),NI 0]).toArray, .bool (false)]) rfl rfl zz) (yp (Yk.extract (vs:= [.agg ([(Value.slice none 0 0),NI 0]).toArray, .bool (false)]) rfl rfl zz) (yE (Yk.alloc DO fun ag a1 a2 ah m bc=> ?_))))))))
  have bd:=Aw hmo.lt a2
  have n:=ah;clear ah
  have be:ag<a1.heap.size:=by omega
  have l:=l.trans m
  refine⟨l,?_⟩
  refine yD rfl (Yk.storeAll (vr (PQ ag 0) rfl) (vr (.agg ([(Value.slice none 0 0),NI 0]).toArray) rfl) n rfl (show(Tryd.prog.info? 81).map (·.size)=some 2 from Bk) (BW rfl) fun bf ai u bg=> ?_)
  have hmo:=hmo.keep m
  have hmo:=MapF.other hmo u (Ao (by omega))
  clear n
  have n:=ai;clear ai
  have bh:=bl n
  have f:=f.trans m
  have f:=Aa f u (Nat.le_trans (Nat.le_refl _) (by omega))
  have a:=eb (af.trans f) a
  refine gS (Yk.notB rfl (cT rfl (gS (Yk.run (v:= .agg ([(Value.slice none 0 0),NI 0]).toArray) (by kernel_rfl) (gS (Yk.storeAll (vr (PQ t 0) rfl) (vr (.agg ([(Value.slice none 0 0),NI 0]).toArray) rfl) a rfl (show(Tryd.prog.info? 81).map (·.size)=some 2 from Bk) (BW rfl) fun bi aj ak bj=> ?_))))))
  have hmo:=MapF.other hmo ak (Ao (by omega))
  clear a
  have a:=aj;clear aj
  have bk:=bl a
  refine E8 rfl (ResF.row rfl a (Dg).choose_spec rfl ((show(Tryd.prog.info? 81).map (·.size)=some 2 from Bk))) (vr (NI 12) rfl) ?_
  have hE:=hE.trans m
  have hE:=Aa hE u (Nat.le_trans ax (by omega))
  have hE:=Aa hE ak (Nat.le_trans ad (by omega))
  exact⟨_,rfl,([],0),_,by rw[hQ],by rw[hQ],RB.nil _,hE⟩
 have hQ:Ba (some (ids,fun k=>(O k).map Prod.fst)) id=(x.1,0):=by show(match (O id).map Prod.fst with | none=>_ | some x=>_)=_;rw[hO];rfl
 have hxr:=hoo id x hO
 refine cF rfl (DC [0,1,2,3,4,5,6,7,8,9,10,11] [9,10] [1,2,7,8] [3,4,5] fun al am=> ?_)
 have h:=Ext.refl al
 have hZ2:=ac.trans am
 have hE:=hE.trans hZ2
 have a3:=hE.size
 have p:=Ext.refl al
 have ay:=Aw (bl hg) r
 have hg:=eb j hg
 have az:=Aw (bl hg) c
 have hg:=eb hZ2 hg
 have a0:=Aw (bl b) c
 have b:=eb hZ2 b
 have hmo:=hmo.keep hZ2
 refine C3 p ?_
 refine yp (Yk.nilCheck rfl zz) (yp (Yk.fieldAt L9 rfl zz) (yf (fun _ ⟨hZ,_⟩=>Yk.cell1 CO rfl rfl (cellAt (eb hZ hg) rfl) zz) (yf (fun _ ⟨hZ,_⟩=>Yk.loadAll rfl (eb hZ b) QJ rfl (by exact Ag hid) zz) (yf (fun _ ⟨hZ,_⟩=>Yk.lookOkS (ek:=rk) (ev:=B9) (D:=(fun id:List UInt8=>id.length=32)) B4 B5 (fun _ _=>BY) CO (z:=B9 Jq) Gp rfl rfl (hmo.keep hZ) hid hO zz) (yp (Yk.extract (vs:= [.agg ([x.2,NI x.1.2]).toArray, .bool (true)]) rfl rfl zz) (yp (Yk.extract (vs:= [.agg ([x.2,NI x.1.2]).toArray, .bool (true)]) rfl rfl zz) (yE (Yk.alloc DO fun an a4 a5 ao q bm=> ?_))))))))
 have bn:=Aw hmo.lt a5
 have i:=ao;clear ao
 have bp:an<a4.heap.size:=by omega
 have p:=p.trans q
 refine⟨p,?_⟩
 have hE:=hE.trans q
 refine yD rfl (Yk.storeAll (vr (PQ an 0) rfl) (vr (.agg ([x.2,NI x.1.2]).toArray) rfl) i rfl (show(Tryd.prog.info? 81).map (·.size)=some 2 from Bk) (BW (RB.one (hxr.keep hE)).2) fun bq ap y br=> ?_)
 have hmo:=hmo.keep q
 have hmo:=MapF.other hmo y (Ao (by omega))
 clear i
 have i:=ap;clear ap
 have bs:=bl i
 have h:=h.trans q
 have h:=Aa h y (Nat.le_trans (Nat.le_refl _) (by omega))
 have a:=eb (am.trans h) a
 have hE:=Aa hE y (Nat.le_trans a3 (by omega))
 refine gS (Yk.notB rfl (cF rfl (gS (Yk.loadAll rfl i (Dg).choose_spec rfl (show(Tryd.prog.info? 81).map (·.size)=some 2 from Bk) (gS (Yk.storeAll (vr (PQ t 0) rfl) (vr (.agg ([x.2,NI x.1.2]).toArray) rfl) a rfl (show(Tryd.prog.info? 81).map (·.size)=some 2 from Bk) (BW (RB.one (hxr.keep hE)).2) fun bt aq ar bu=> ?_))))))
 have hmo:=MapF.other hmo ar (Ao (by omega))
 clear a
 have a:=aq;clear aq
 have bv:=bl a
 refine E8 rfl (ResF.row rfl a (Dg).choose_spec rfl ((show(Tryd.prog.info? 81).map (·.size)=some 2 from Bk))) (vr (NI 0) rfl) ?_
 have hE:=Aa hE ar (Nat.le_trans ad (by omega))
 exact⟨_,rfl,x.1,x.2,by rw[hQ],by rw[hQ],(hxr.keep hE),hE⟩

theorem J7(w:World)(v:Value)(q:Option Bu)(h:PackO w v q)(id:Bs)(hid:id.length=32):
  Calls Tryd.prog 41 #[v,AB id] w fun e w' =>∃x,e = .returned x∧∃(o:Bs × Nat) (s:Value),x = .tuple #[.agg ([s,NI o.2]).toArray,NI (Ba q id).2]∧o=(Ba q id).1∧RB w' s o.1∧Ext w w' :=by
 match q,h with
 | none,h=>rw[show v = .pointer none from h];exact Pc w id hid
 | some p,h=>
  obtain⟨g,vi,bo,O,rfl,h2,hg,hrg,hmo,hoo⟩:=h
  obtain⟨ids,P⟩:=p
  subst h2
  exact Qf w g bo vi ids O hg hrg hmo hoo id hid

theorem LA(w:World)(v:Value)(q:Option Bu)(hq:PackO w v q)(id:Bs)(hid:id.length=32):
  Calls Tryd.prog 19 #[v,AB id] w fun e w' =>e = .returned (.tuple #[NI (Ba q id).1.2,NI (Ba q id).2])∧Ext w w' :=by
 refine gG (args:= [v,AB id]) Tryd.func19 rfl 17 rfl rfl ?_
 have hE:=Ext.refl w
 refine gS (Yk.box (vr (AB id) rfl) fun k l y f m z=> ?_)
 have n:=f;clear f
 have aa:k<l.heap.size:=by omega
 have hE:=hE.trans m
 refine gS (Yk.loadAll rfl n QJ rfl (by exact Ag hid) (gS (Yk.callA2 J6 rfl rfl ((J7 _ v q (hq.keep hE) id hid).mono ?_))))
 rintro e p ⟨_,rfl,o,b,rfl,ho,r,s⟩
 refine⟨_,rfl,?_⟩
 subst ho
 refine gS (Yk.extract (vs:= [.agg ([b,NI ((Ba q id).1.2)]).toArray,NI ((Ba q id).2)]) rfl rfl (gS (Yk.extract (vs:= [.agg ([b,NI ((Ba q id).1.2)]).toArray,NI ((Ba q id).2)]) rfl rfl (gS (Yk.alloc DO fun g t ab h i ac=> ?_)))))
 have c:=Ext.refl p
 have hE:=hE.trans s
 have u:=hE.size
 have a:=h;clear h
 have ad:g<t.heap.size:=by omega
 have c:=c.trans i
 refine gS (Yk.storeAll (vr (PQ g 0) rfl) (vr (.agg ([b,NI ((Ba q id).1.2)]).toArray) rfl) a rfl (show(Tryd.prog.info? 81).map (·.size)=some 2 from Bk) (BW (RB.one (r.keep c)).2) fun ae j x af=> ?_)
 clear a
 have a:=j;clear j
 have ag:=bl a
 refine gS (Yk.fieldAt L8 rfl (gS (Yk.cell1 PJ rfl rfl (cellAt a rfl) (BO rfl (vr (NI ((Ba q id).1.2)) rfl) (vr (NI ((Ba q id).2)) rfl) ?_))))
 have hE:=hE.trans i
 have hE:=Aa hE x (Nat.le_trans u (by omega))
 exact⟨rfl,hE⟩

theorem Qg(w:World)(v:Value)(q:Option Bu)(hq:PackO w v q)(id:Bs)(hid:id.length=32)(hb:(Ba q id).1.1.length<1099511627776):
  Calls Tryd.prog 18 #[v,AB id] w fun e w' =>∃v',e = .returned (.tuple #[v',NI (Ba q id).2])∧w'.ownsRow w.heap.size 5 1 v' (Ba q id).1.1.length (Lib.byteCells (Ba q id).1.1)∧Ext w w' :=by
 refine gG (args:= [v,AB id]) Tryd.func18 rfl 18 rfl rfl ?_
 have hE:=Ext.refl w
 refine gS (Yk.box (vr (AB id) rfl) fun r s ab g t ac=> ?_)
 have f:=g;clear g
 have ad:r<s.heap.size:=by omega
 have hE:=hE.trans t
 refine gS (Yk.loadAll rfl f QJ rfl (by exact Ag hid) (gS (Yk.callA2 J6 rfl rfl ((J7 _ v q (hq.keep hE) id hid).mono ?_))))
 rintro e u ⟨_,rfl,o,c,rfl,ho,h,i⟩
 refine⟨_,rfl,?_⟩
 subst ho
 refine gS (Yk.extract (vs:= [.agg ([c,NI ((Ba q id).1.2)]).toArray,NI ((Ba q id).2)]) rfl rfl (gS (Yk.extract (vs:= [.agg ([c,NI ((Ba q id).1.2)]).toArray,NI ((Ba q id).2)]) rfl rfl (gS (Yk.alloc DO fun j x ae k l af=> ?_)))))
 have a:=Ext.refl u
 have hE:=hE.trans i
 have y:=hE.size
 have b:=k;clear k
 have ag:j<x.heap.size:=by omega
 have a:=a.trans l
 refine gS (Yk.storeAll (vr (PQ j 0) rfl) (vr (.agg ([c,NI ((Ba q id).1.2)]).toArray) rfl) b rfl (show(Tryd.prog.info? 81).map (·.size)=some 2 from Bk) (BW (RB.one (h.keep a)).2) fun ah m n ai=> ?_)
 clear b
 have b:=m;clear m
 have aj:=bl b
 have a:=Aa a n (Nat.le_trans (Nat.le_refl _) (by omega))
 refine gS (Yk.fieldAt F8 rfl (gS (Yk.cell1 EX rfl rfl (cellAt b rfl) (gS (Yk.callA1 Pa rfl ((Pb _ c (Ba q id).1.1 (h.keep a) (by omega)).mono ?_))))))
 rintro e ak ⟨z,rfl,p⟩
 refine⟨_,rfl,?_⟩
 have hE:=hE.trans l
 have hE:=Aa hE n (Nat.le_trans y (by omega))
 have al:=hE.size
 have am:=a.size
 have f:=eb (i.trans a) f
 have aa:=p.own
 refine BO rfl (vr z rfl) (vr (NI ((Ba q id).2)) rfl) ?_
 have hE:=hE.trans p.ext
 exact⟨_,rfl,CS aa (by omega),hE⟩
open Go.RowKit
section
variable {P : Program} {K : Value → World → Prop} {ρ : Ae} {w : World} {d : Option Tmp} {ty : TypeId} {pos : String} {af : Array Edge} {gd : Option (Nat × Bool)}
theorem RG.pair{α:Type}{k:Nat}{enc:α→List Value}{g:Nat}{e:TypeId}{fr:Nat × Nat}{a b:α}(ha:(enc a).length=k)(hb:(enc b).length=k)(h:w.heap[g]? =some (.cells ((enc a).toArray++(enc b).toArray) e fr)):RG k enc w (.slice (some ⟨g,0,none⟩) 2 2) [a,b]:=by
  refine⟨fun x hx=> ?_,by simp[ha,hb];omega,_,2,rfl,Nat.le_refl _,by simp[maxLen],(fun h=>by cases h),fun q hq j u hu=> ?_⟩
  · simp only[List.mem_cons,List.not_mem_nil,or_false]at hx
    rcases hx with rfl | rfl
    · exact ha
    · exact hb
  · cases hq
    rw[Addr.add_lit,Nat.zero_add]
    exact cellAt (l:=enc a++enc b) (t:=e) (fr:=fr) (by rw[h];simp) (by simpa using hu)
theorem Yk.lit2G{α:Type}{k:Nat}{enc:α→List Value}{t e:TypeId}{x y:Operand}{a b:α}(hx:Ab ρ x = .agg (enc a).toArray)(hy:Ab ρ y = .agg (enc b).toArray)(ha:(enc a).length=k)(hb:(enc b).length=k) 
    (hr:∀(cs cs' :Array Value),cs.size=k→cs'.size=k→∀w:World,(Instr.buildSlice t 2 #[(0, .agg cs),(1, .agg cs')]).run P w = .ok (.slice (some ⟨w.heap.size,0,none⟩) 2 2) (w.alloc (.cells (cs++cs') e)))
    (hk:∀v w',RG k enc w' v [a,b]→Ext w w' →K v w'):Yk P K ((execOp (Ab ρ) ⟨d, .buildSlice t 2 #[(0,x),(1,y)],ty,pos,af,gd⟩).run P w):=by
  have hE:Ext w (w.alloc (.cells ((enc a).toArray++(enc b).toArray) e)):=(Below.refl _ _).alloc (Nat.le_refl _) _
  refine Yk.value (v:= .slice (some ⟨w.heap.size,0,none⟩) 2 2) (w' :=w.alloc (.cells ((enc a).toArray++(enc b).toArray) e)) ?_ (hk _ _ (RG.pair ha hb (heap_alloc_new w _)) hE)
  unfold execOp
  simp only[List.map_toArray,List.map_cons,List.map_nil,hx,hy,Sem.run_bind,hr _ _ (show(enc a).toArray.size=k by rw[List.size_toArray];exact ha) (show(enc b).toArray.size=k by rw[List.size_toArray];exact hb),Result.andThen_ok,Sem.run_pure]
end
abbrev LB:Bs:= [97,98,99,100,101,102,103,104]
abbrev HF:Bs:= [97,98,99,100,101,102,103,104,105]
theorem ex_sums:Sha.sum HF≠Sha.sum LB:=by decide+kernel
def exPs(va vb:Value):List Pt:= [⟨va,LB,-1⟩,⟨vb,HF,0⟩]
theorem LC(va vb:Value):Ds (exPs va vb):=⟨by show 2≤60;omega,fun p hp=>by
  simp only[exPs,List.mem_cons,List.not_mem_nil,or_false]at hp
  rcases hp with rfl | rfl <;> (simp only[List.length_cons,List.length_nil];omega)⟩
theorem QL(va vb:Value):∃s,DD (exPs va vb) 2 = .ok s∧s.ids= [Sha.sum LB,Sha.sum HF]∧s.depths= [0,1]:=by
  let s0:BS:=⟨80 :: Lib.uvarint 2,[],[],[],0⟩
  let s1:BS:=bnext (exPs va vb) ⟨va,LB,-1⟩ s0
  have h0:DD (exPs va vb) 0 = .ok s0:=rfl
  have h1:DD (exPs va vb) 1 = .ok s1:=by
    rw[Fy h0]
    show(if(-1:Int) < -1∨((0:Nat):Int)≤(-1:Int)then _ else if Sha.sum LB∈([]:List Bs)then _ else if 50<Ec ⟨va,LB,-1⟩ s0 then _ else _)=_
    rw[if_neg (by omega),if_neg (by simp),if_neg (by show ¬50<0;omega)]
    rfl
  refine⟨bnext (exPs va vb) ⟨vb,HF,0⟩ s1,?_,rfl,rfl⟩
  rw[Fy h1]
  show(if(0:Int) < -1∨((1:Nat):Int)≤(0:Int)then _ else if Sha.sum HF∈ [Sha.sum LB]then _ else if 50<Ec ⟨vb,HF,0⟩ s1 then _ else _)=_
  rw[if_neg (by omega),if_neg (by rw[List.mem_singleton];exact ex_sums),if_neg (by show ¬50<1;omega)]
  rfl
theorem Qh(va vb:Value):(BB (exPs va vb)).2=0:=by
  obtain⟨s,h,-⟩:=QL va vb
  unfold BB
  rw[show(exPs va vb).length=2 from rfl,h]
theorem Ra(va vb:Value):∃p,openP (BB (exPs va vb)).1 = .ok p∧F9 (some p)=2∧Ba (some p) (Sha.sum HF)=((HF,1),0):=by
  obtain⟨s,h,hi,hd⟩:=QL va vb
  refine⟨_,Ny (LC va vb) h,?_,?_⟩
  · show(Ar s.ids).length=2
    rw[BL,hi];rfl
  · have:Ju (exPs va vb) s (Sha.sum HF)=some (HF,1):=by
      refine CC _ _ 1 _ _ ?_ ?_ ?_
      · rw[hi];simp[ex_sums.symm]
      · rw[hi];rfl
      · rw[hd];rfl
    show(match Ju (exPs va vb) s (Sha.sum HF)with | none=>_ | some x=>_)=_
    rw[this]
theorem MN:(BB []).1.length=1062∧(BB []).2=0:=by
  have h:DD [] 0 = .ok ⟨80 :: Lib.uvarint 0,[],[],[],0⟩:=rfl
  have hk:=Hv (ps:= []) ⟨by simp,fun p hp=>by cases hp⟩ 0 _ (Nat.le_refl _) h
  have e:BB []=((80 :: Lib.uvarint 0)++Cb ⟨80 :: Lib.uvarint 0,[],[],[],0⟩ (80 :: Lib.uvarint 0).length++Sha.sum ((80 :: Lib.uvarint 0)++Cb ⟨80 :: Lib.uvarint 0,[],[],[],0⟩ (80 :: Lib.uvarint 0).length),0):=rfl
  rw[e]
  refine⟨?_,rfl⟩
  rw[List.length_append,List.length_append,F7 hk,Sha.sum_length,Lib.uvarint_small (by omega)]
  rfl
open Go.RowKit
set_option maxRecDepth 100000
theorem Gs{z0:Value}(h0:∃ao n c,z0 = .slice ao n c)(z1:Int)(w:World):(Instr.build 55 #[(0,z0),(1, .int .i64 z1)]).run Tryd.prog w = .ok (.agg ([z0, .int .i64 z1]:List Value).toArray) w:=by obtain⟨_,_,_,rfl⟩:=h0;kernel_rfl
theorem NA(c0 c1 d0 d1:Value)(w:World):(Instr.buildSlice 28 2 #[(0, .agg #[c0,c1]),(1, .agg #[d0,d1])]).run Tryd.prog w = .ok (.slice (some ⟨w.heap.size,0,none⟩) 2 2) (w.alloc (.cells #[c0,c1,d0,d1] 55)):=by kernel_rfl
theorem NB:∀(cs cs' :Array Value),cs.size=2→cs'.size=2→∀w:World,(Instr.buildSlice 28 2 #[(0, .agg cs),(1, .agg cs')]).run Tryd.prog w = .ok (.slice (some ⟨w.heap.size,0,none⟩) 2 2) (w.alloc (.cells (cs++cs') 55))
 | ⟨[c0,c1]⟩,⟨[d0,d1]⟩,_,_,w=>NA c0 c1 d0 d1 w
theorem J8:AA Tryd.prog 11:=fun _ _=>by kernel_rfl
theorem Pd:AA Tryd.prog 15:=fun _ _=>by kernel_rfl
theorem Pe:AA Tryd.prog 19:=fun _ _=>by kernel_rfl
theorem Pf:AA Tryd.prog 16:=fun _ _=>by kernel_rfl
set_option maxHeartbeats 1600000
theorem MO(w:World)(hG:Laid w):
  Calls Tryd.prog 14 #[] w fun e w' =>e = .returned (.bool true)∧Ext w w' :=by
 refine gG (args:= []) Tryd.func14 rfl 66 rfl rfl ?_
 have hE:=Ext.refl w
 refine gS (Yk.litN (e:=5) ([97,98,99,100,101,102,103,104]:List UInt8) (by decide) (fun _ _=>by kernel_rfl) fun f w4 u=> ?_)
 have n:=u.own
 refine gS (Yk.convMark EX u5 rfl n (by decide) fun w7 v ai=> ?_)
 have hE:=hE.trans u.ext
 have hE:=Af hE ai n (Nat.le_refl _)
 clear n
 refine gS (Yk.build2 (vr f rfl) (vr (.int .i64 (-1:Int)) rfl) (fun w=>Gs (RB.slice v) (-1) w) (gS (Yk.litN (e:=5) ([97,98,99,100,101,102,103,104,105]:List UInt8) (by decide) (fun _ _=>by kernel_rfl) fun g ax o=> ?_)))
 have c:=Ext.refl w7
 have aj:=hE.size
 have k:=o.own
 refine gS (Yk.convMark EX u5 rfl k (by decide) fun ay l x=> ?_)
 have hE:=hE.trans o.ext
 have hE:=Af hE x k aj
 have c:=c.trans o.ext
 have c:=Af c x k (Nat.le_refl _)
 clear k
 refine gS (Yk.build2 (vr g rfl) (vr (NI 0) rfl) (fun w=>Gs (RB.slice l) (((0:Nat):Int)) w) (gS (Yk.lit2G (a:=(⟨f,([97,98,99,100,101,102,103,104]:List UInt8),-1⟩:Pt)) (b:=(⟨g,([97,98,99,100,101,102,103,104,105]:List UInt8),0⟩:Pt)) (enc:=partC) (show _=(.agg ([f, .int .i64 (-1:Int)]).toArray:Value)from rfl) (vr (.agg ([g,NI 0]).toArray) rfl) (rfl) (rfl) NB fun ak az al q=> ?_)))
 have hE:=hE.trans q
 have c:=c.trans q
 have l:=l.keep q
 refine gS (Yk.callA1 J8 rfl ((JX _ (hG.keep hE) ak (exPs f g) al (by intro p hp;simp only[exPs,List.mem_cons,List.not_mem_nil,or_false]at hp;rcases hp with rfl | rfl;exact⟨(v.keep c),by dsimp only;omega,by dsimp only;omega⟩;exact⟨l,by dsimp only;omega,by dsimp only;omega⟩) (LC _ _)).mono ?_))
 rintro e a0 ⟨r,rfl,am,y⟩
 refine⟨_,rfl,?_⟩
 have hE:=hE.trans y
 refine gS (Yk.extract (vs:= [r,NI ((BB (exPs f g)).2)]) rfl rfl (gS (Yk.extract (vs:= [r,NI ((BB (exPs f g)).2)]) rfl rfl (gS (Yk.callA1 Pd rfl ((Ly _ (hG.keep hE) r ((BB (exPs f g)).1) am).mono ?_))))))
 rintro e z ⟨_,rfl,i,k30,rfl,hO31,aa⟩
 refine⟨_,rfl,?_⟩
 obtain⟨pk,hpk,hlen,hget⟩:=Ra f g
 rw[hpk]at hO31
 obtain⟨an,hat⟩:=hO31
 subst an
 have hq:PackO z i (some pk):=hat
 refine gS (Yk.extract (vs:= [i,NI 0]) rfl rfl (gS (Yk.extract (vs:= [i,NI 0]) rfl rfl (gS (Yk.litN (e:=5) ([97,98,99,100,101,102,103,104,105]:List UInt8) (by decide) (fun _ _=>by kernel_rfl) fun ao a1 m=> ?_)))))
 have h:=Ext.refl z
 have hE:=hE.trans aa
 have hZ1:=y.trans aa
 have c:=c.trans hZ1
 have ap:=hE.size
 have aq:=c.size
 have j:=m.own
 refine gS (Yk.convMark EX u5 rfl j (by decide) fun a2 ar s=> ?_)
 have hE:=hE.trans m.ext
 have hE:=Af hE s j ap
 have c:=c.trans m.ext
 have c:=Af c s j aq
 have h:=h.trans m.ext
 have h:=Af h s j (Nat.le_refl _)
 clear j
 refine gS (Yk.rows1 FA (RB.of ar (vr ao rfl)) fun au a3 av ab=> ?_)
 have hE:=hE.trans ab
 refine gS (Yk.callA1 Iy rfl ((EM _ (hG.keep hE) au (([97,98,99,100,101,102,103,104,105]:List UInt8)) av (by decide)).mono ?_))
 rintro e a4 ⟨rfl,ac⟩
 refine⟨_,rfl,?_⟩
 have hZ2:=ab.trans ac
 have h:=h.trans hZ2
 refine gS (Yk.callA2 Pe rfl rfl ((LA _ (i) (some pk) (hq.keep h) (Sha.sum (([97,98,99,100,101,102,103,104,105]:List UInt8))) (Sha.sum_length _)).mono ?_))
 rintro e a5 ⟨rfl,ad⟩
 refine⟨_,rfl,?_⟩
 have hZ3:=ac.trans ad
 have hE:=hE.trans hZ3
 refine gS (Yk.extract (vs:= [NI ((Ba (some pk) (Sha.sum (([97,98,99,100,101,102,103,104,105]:List UInt8)))).1.2),NI ((Ba (some pk) (Sha.sum (([97,98,99,100,101,102,103,104,105]:List UInt8)))).2)]) rfl rfl (gS (Yk.extract (vs:= [NI ((Ba (some pk) (Sha.sum (([97,98,99,100,101,102,103,104,105]:List UInt8)))).1.2),NI ((Ba (some pk) (Sha.sum (([97,98,99,100,101,102,103,104,105]:List UInt8)))).2)]) rfl rfl (gS (Yk.callA1 J8 rfl ((JX _ (hG.keep hE) (.slice none 0 0) [] (RG.nil _ _ _) (fun p hp=>by cases hp) ⟨by simp,fun p hp=>by cases hp⟩).mono ?_))))))
 rintro e a6 ⟨ae,rfl,t,af⟩
 refine⟨_,rfl,?_⟩
 have h:=h.trans (ad.trans af)
 refine gS (Yk.extract (vs:= [ae,NI ((BB []).2)]) rfl rfl (gS (Yk.extract (vs:= [ae,NI ((BB []).2)]) rfl rfl (gS (Yk.eqI (a:=((BB (exPs f g)).2:Nat)) (b:=(0:Nat)) rfl rfl (AO _ _ _ _) (kT (Qh f g) (gS (Yk.eqI (a:=(0:Nat)) (b:=(0:Nat)) rfl rfl (AO _ _ _ _) (kT (rfl) (gS (Yk.pickT rfl rfl (gS (Yk.eqI (a:=((Ba (some pk) (Sha.sum (([97,98,99,100,101,102,103,104,105]:List UInt8)))).2:Nat)) (b:=(0:Nat)) rfl rfl (AO _ _ _ _) (kT (by rw[hget]) (gS (Yk.pickT rfl rfl (gS (Yk.eqI (a:=((BB []).2:Nat)) (b:=(0:Nat)) rfl rfl (AO _ _ _ _) (kT (MN.2) (gS (Yk.pickT rfl rfl (gS (Yk.eqI (a:=((Ba (some pk) (Sha.sum (([97,98,99,100,101,102,103,104,105]:List UInt8)))).1.2:Nat)) (b:=(1:Nat)) rfl rfl (AO _ _ _ _) (kT (by rw[hget]) (gS (Yk.pickT rfl rfl (gS (Yk.callA1 Pf rfl ((IF _ (i) (some pk) (hq.keep h)).mono ?_)))))))))))))))))))))))))))))
 rintro e a7 ⟨rfl,ag⟩
 refine⟨_,rfl,?_⟩
 have t:=t.keep ag
 refine gS (Yk.eqI (a:=(F9 (some pk):Nat)) (b:=(2:Nat)) rfl rfl (AO _ _ _ _) (kT (hlen) (gS (Yk.pickT rfl rfl (gS (Yk.lenRB EX (RB.of t rfl) (gS (Yk.eqI (a:=(((BB []).1:List UInt8).length:Nat)) (b:=(1062:Nat)) rfl rfl (AO _ _ _ _) (kT (MN.1) (gS (Yk.pickT rfl rfl (Bx rfl (vr (.bool (true)) rfl) ?_))))))))))))
 have hE:=hE.trans (af.trans ag)
 exact⟨rfl,hE⟩

open Go.ChangeShapes Go.WideShapes Go.ChangeAt Go.RowKit
theorem MP:Tryd.prog.globalNamed "variorum/sha.first" = some 0:=by kernel_rfl
theorem Qi:(Tryd.prog.globals[0]?).map (·.type)=some 88:=by kernel_rfl
theorem Qj:Tryd.prog.cellsOf 88=8:=by kernel_rfl
def zs_first:List Int:= [1779033703,3144134277,1013904242,2773480762,1359893119,2600822924,528734635,1541459225]
theorem Md:(zs_first.map fun z=>Value.int .u32 z).toArray=cellsU Sha.first:=by kernel_rfl
theorem MQ:Tryd.prog.globalNamed "variorum/sha.words" = some 1:=by kernel_rfl
theorem Qk:(Tryd.prog.globals[1]?).map (·.type)=some 89:=by kernel_rfl
theorem Ql:Tryd.prog.cellsOf 89=64:=by kernel_rfl
def zs_words:List Int:= [1116352408,1899447441,3049323471,3921009573,961987163,1508970993,2453635748,2870763221,3624381080,310598401,607225278,1426881987,1925078388,2162078206,2614888103,3248222580,3835390401,4022224774,264347078,604807628,770255983,1249150122,1555081692,1996064986,2554220882,2821834349,2952996808,3210313671,3336571891,3584528711,113926993,338241895,666307205,773529912,1294757372,1396182291,1695183700,1986661051,2177026350,2456956037,2730485921,2820302411,3259730800,3345764771,3516065817,3600352804,4094571909,275423344,430227734,506948616,659060556,883997877,958139571,1322822218,1537002063,1747873779,1955562222,2024104815,2227730452,2361852424,2428436474,2756734187,3204031479,3329325298]
theorem Me:(zs_words.map fun z=>Value.int .u32 z).toArray=cellsU Sha.words:=by kernel_rfl
theorem RD:Tryd.prog.cellsOf 87=1:=by kernel_rfl
theorem J9{P:Program}{W:World}{name:String}{g:Nat}{cs:Array Value}(hg:P.globalNamed name=some g)(h:W.var? P name=some cs):∃t fr,W.heap[g]? =some (.cells cs t fr):=by
 unfold World.var? at h
 rw[hg]at h
 simp only[Option.bind_some]at h
 split at h
 ·rename_i cs' t fr he
  cases h
  exact⟨t,fr,he⟩
 ·cases h
theorem MR{W:World}(h:laidMetH Tryd.prog [("variorum/sha.first",Rows.laid_variorum_sha_first),("variorum/sha.words",Rows.laid_variorum_sha_words)] W):Laid W:=by
 have h1:Lib.TabIs Tryd.prog W "variorum/sha.first" .u32 zs_first:=Lib.tabIs_of_head MP Qi Tryd.underlying88 Tryd.underlying87 RD Qj h
 have h2:Lib.TabIs Tryd.prog W "variorum/sha.words" .u32 zs_words:=Lib.tabIs_of_head (rest:= []) MQ Qk Tryd.underlying89 Tryd.underlying87 RD Ql (laidMet.tail h)
 unfold Lib.TabIs at h1 h2
 rw[Md]at h1
 rw[Me]at h2
 exact⟨J9 MP h1,J9 MQ h2⟩
noncomputable def E0(os:Os):World:=
 let h0:=(World.holding Tryd.prog os ⟨#[],#[],[]⟩).heap
 let h1:=h0.modify 0 fun
   | .cells _ t frozen=> .cells (cellsU Sha.first) t frozen
   | o=>o
 let h2:=h1.modify 1 fun
   | .cells _ t frozen=> .cells (cellsU Sha.words) t frozen
   | o=>o
 { World.holding Tryd.prog os ⟨#[],#[],[]⟩with heap:=h2 }
theorem LD(os:Os)(args:Array Value):laidMet Tryd.prog [("variorum/sha.first",Rows.laid_variorum_sha_first),("variorum/sha.words",Rows.laid_variorum_sha_words)] ((E0 os).forCall (fun _ _=>0) ⟨#[],args,[]⟩).memory:=
 laidMet_of_run' 8 (by kernel_rfl) (by kernel_rfl)
open Go.RowKit
theorem Ka{α:Type}{l:List α}{i:Nat}(d:α)(h:i<l.length):l.getD i d∈l:=by rw[List.getD_eq_getElem?_getD,List.getElem?_eq_getElem h];exact List.getElem_mem h
theorem ET{α:Type}{enc:α→List Value}{k:Nat}:∀(l:List α) (_:∀x∈l,(enc x).length=k),(l.flatMap enc).length=l.length*k
  | [],_=>by simp
  | a :: l,h=>by rw[List.flatMap_cons,List.length_append,h a (by simp),ET l (fun x hx=>h x (by simp[hx])),List.length_cons,Nat.succ_mul,Nat.add_comm]
theorem If{α:Type}{enc:α→List Value}{k:Nat}(d:α):∀(l:List α) (i:Nat) (x:α) (_:∀y∈l,(enc y).length=k) (_:i<l.length),
    l.flatMap enc=(l.take i).flatMap enc++enc (l.getD i d)++(l.drop (i+1)).flatMap enc∧(l.set i x).flatMap enc=(l.take i).flatMap enc++enc x++(l.drop (i+1)).flatMap enc
  | [],_,_,_,h=>by simp at h
  | a :: l,0,x,_,_=>by simp
  | a :: l,i+1,x,h,hi=>by
    obtain⟨h1,h2⟩:=If d l i x (fun y hy=>h y (by simp[hy])) (by simpa using hi)
    constructor
    · rw[List.flatMap_cons,h1];simp
    · rw[List.set_cons_succ,List.flatMap_cons,h2];simp
theorem OG.block{α:Type}{b k:Nat}{t:TypeId}{enc:α→List Value}{w:World}{v:Value}{l:List α}(h:OG b t k enc w v l){i:Nat}(hi:i<l.length):∃g,v.ownBlock=some g:=by
  obtain⟨-,-,⟨-,h⟩ | ⟨g,cap,cur,rfl,-⟩⟩:=h
  · omega
  · exact⟨g,rfl⟩
theorem RX{b:Nat}{t:TypeId}{w:World}{v:Value}{n z:Nat}{xs:List Value}(h:w.ownsRow b t z v n xs){i:Nat}(hi:i<n):∃g,v.ownBlock=some g:=by
  obtain⟨-,⟨-,h⟩ | ⟨g,cap,cur,rfl,-⟩⟩:=h
  · omega
  · exact⟨g,rfl⟩
section
variable {P : Program} {K : Value → World → Prop} {ρ : Ae} {w : World} {d : Option Tmp} {ty : TypeId} {pos : String} {af : Array Edge} {gd : Option (Nat × Bool)}
theorem Yk.atOwnK{k:Nat}{t e:TypeId}(ht:P.underlying t=some (.slice e))(he:∀w' :World,(sizeOf e).run P w' = .ok k w'){b n g:Nat}{xs:List Value}{e' :TypeId}{v:Value}{x y:Operand}(hx:Ab ρ x=v)(h:w.ownsRow b e' k v n xs)(hg:v.ownBlock=some g){kd:IntKind}{i:Nat}(hy:Ab ρ y = .int kd (i:Int))(hi:i<n) 
    (hk:K (PQ g (i*k)) w):Yk P K ((execOp (Ab ρ) ⟨d, .indexAddr t x y,ty,pos,af,gd⟩).run P w):=by
  obtain⟨-,⟨-,h0⟩ | ⟨g',cap,cur,rfl,-⟩⟩:=h
  · omega
  · obtain rfl:g' =g:=by simpa [Value.ownBlock] using hg
    refine Yk.value (v:=PQ g' (i*k)) (w' :=w) ?_ hk
    have hE:P.elem t=e:=by simp[Program.elem,ht]
    have hr:=run_indexAt_slice (P:=P) w t ⟨g',0,none⟩ n cap kd (i:Int) (by rw[hE];exact ht)
    rw[if_pos (by omega),hE,he]at hr
    unfold execOp
    simp only[hx,hy,Sem.run_bind,hr,Result.andThen_ok,Sem.run_pure]
    simp[Addr.add_lit]
theorem Yk.storeOG{α:Type}{b k:Nat}{t t' :TypeId}{enc:α→List Value}{v:Value}{l:List α}{g i:Nat}{a:α}{x y:Operand}(dd:α)(hx:Ab ρ x=PQ g (i*k))(hy:Ab ρ y = .agg (enc a).toArray)(h:OG b t k enc w v l)(hg:v.ownBlock=some g)(hi:i<l.length)(hl:(enc a).length=k)(h1:∀u∈enc a,u.oneCell' =true)(hinfo:(P.info? t').map (·.size)=some k) 
    (hk:∀w',OG b t k enc w' v (l.set i a)→Grew w w' v v→K undef w'):Yk P K ((execOp (Ab ρ) ⟨d, .store t' x y,ty,pos,af,gd⟩).run P w):=by
  obtain⟨hen,hxl,⟨-,h0⟩ | ⟨g',cap,cur,rfl,hb,hc,hn,hm,hs,ht⟩⟩:=h
  · omega
  · obtain rfl:g' =g:=by simpa [Value.ownBlock] using hg
    obtain⟨c1,c2⟩:=If dd l i a hen hi
    have hpre:=ET (l.take i) (fun y hy=>hen y (List.mem_of_mem_take hy))
    rw[List.length_take,Nat.min_eq_left (Nat.le_of_lt hi)]at hpre
    obtain⟨T,hcur⟩:∃T,cur=((l.take i).flatMap enc++enc (l.getD i dd)++((l.drop (i+1)).flatMap enc++T)).toArray:=by
      refine⟨cur.toList.drop (l.length*k),?_⟩
      apply Array.toList_inj.1
      rw[List.toList_toArray,←List.append_assoc,←c1,←ht,List.take_append_drop]
    rw[hcur]at hc
    refine Yk.storeMid hx hy hc hpre (by rw[hl];exact hen _ (Ka dd hi)) (by rw[hl];exact hinfo) h1 fun w' c e f=>hk w' ⟨fun y hy=> ?_,?_, .inr ⟨g',cap,_,by rw[List.length_set],hb,c,by rw[List.length_set];exact hn,hm,?_,?_⟩⟩ ⟨e,fun k hk=> .inl hk⟩
    · rcases List.mem_or_eq_of_mem_set hy with hy | rfl
      · exact hen y hy
      · exact hl
    · rw[ET _ (fun y hy=>by rcases List.mem_or_eq_of_mem_set hy with hy | rfl;exact hen y hy;exact hl)]
    · rw[←hs,hcur]
      simp only[List.size_toArray,List.length_append,hl,hen _ (Ka dd hi)]
    · have hlen:((l.set i a).flatMap enc).length=(l.set i a).length*k:=ET _ (fun y hy=>by rcases List.mem_or_eq_of_mem_set hy with hy | rfl;exact hen y hy;exact hl)
      rw[List.toList_toArray,←List.append_assoc,←c2,←hlen,List.take_left]
end
open Go.RowKit
theorem HI{α:Type}{l:List α}{i:Nat}(d:α)(h:i<l.length):l.drop i=l.getD i d :: l.drop (i+1):=by
  rw[List.drop_eq_getElem_cons h,List.getD_eq_getElem?_getD,List.getElem?_eq_getElem h];rfl
section
variable {x y : Bs} {i : Nat}
theorem RE(hx:i<x.length)(hy:i<y.length):Lib.compareBytes (x.drop i) (y.drop i)=if(x.getD i 0).toNat<(y.getD i 0).toNat then -1 else if(y.getD i 0).toNat<(x.getD i 0).toNat then 1 else Lib.compareBytes (x.drop (i+1)) (y.drop (i+1)):=by
  rw[HI 0 hx,HI 0 hy]
  rfl
end
theorem MS{α:Type}{l:List α}{i:Nat}{a d:α}(h:i<l.length)(h1:a∉l.take i)(h2:l.getD i d≠a):a∉l.take (i+1):=by
  rw[List.take_succ_eq_append_getElem h]
  rw[List.getD_eq_getElem?_getD,List.getElem?_eq_getElem h]at h2
  simp only[List.mem_append,List.mem_singleton,not_or]
  exact⟨h1,fun e=>h2 e.symm⟩
theorem Pg{α:Type}{l m:List α}{i:Nat}{d:α}(h:i<l.length)(hm:i<m.length)(h1:l.take i=m.take i)(h2:l.getD i d=m.getD i d):l.take (i+1)=m.take (i+1):=by
  rw[List.take_succ_eq_append_getElem h,List.take_succ_eq_append_getElem hm,h1]
  rw[List.getD_eq_getElem?_getD,List.getElem?_eq_getElem h,List.getD_eq_getElem?_getD,List.getElem?_eq_getElem hm]at h2
  rw[show l[i]=m[i]from h2]
theorem Rb{α:Type}{l m:List α}{i:Nat}{d:α}(h2:l.getD i d≠m.getD i d):l≠m:=fun e=>h2 (by rw[e])
theorem Rc(b:Bs):(((b.getD 0 0).toNat*256+(b.getD 1 0).toNat)*256+(b.getD 2 0).toNat)*256+(b.getD 3 0).toNat=BI b:=by
  unfold BI
  omega
open Go.RowKit
set_option maxRecDepth 100000
set_option maxHeartbeats 1600000
theorem Ga(w:World)(n:Nat)(hn:n<9223372036854775808):
  Calls Tryd.prog 60 #[NI n] w fun e w' =>∃v',e = .returned v' ∧NewB 5 w w' v' (Az n):=by
 refine gG (args:= [NI n]) Tryd.func60 rfl 15 rfl rfl ?_
 have hE:=Ext.refl w
 refine gS (Yk.bin (xv:=NI n) (yv:=NI 16777216) rfl rfl rfl (Cn _ _ _ (by omega) (by decide)) (gS (Yk.convI PJ u5 rfl (D9 ((n)/(16777216))) (gS (Yk.bin (xv:=NI n) (yv:=NI 65536) rfl rfl rfl (Cn _ _ _ (by omega) (by decide)) (gS (Yk.convI PJ u5 rfl (D9 ((n)/(65536))) (gS (Yk.bin (xv:=NI n) (yv:=NI 256) rfl rfl rfl (Cn _ _ _ (by omega) (by decide)) (gS (Yk.convI PJ u5 rfl (D9 ((n)/(256))) (gS (Yk.convI PJ u5 rfl (D9 (n)) (gS (Yk.lit4 (b0:=UInt8.ofNat ((n)/(16777216))) (b1:=UInt8.ofNat ((n)/(65536))) (b2:=UInt8.ofNat ((n)/(256))) (b3:=UInt8.ofNat (n)) Oc (vr (B8 (UInt8.ofNat ((n)/(16777216)))) rfl) (vr (B8 (UInt8.ofNat ((n)/(65536)))) rfl) (vr (B8 (UInt8.ofNat ((n)/(256)))) rfl) (vr (B8 (UInt8.ofNat (n))) rfl) fun b f a=> ?_)))))))))))))))
 have c:=a.own
 refine Bx rfl (vr b rfl) ?_
 have hE:=hE.trans a.ext
 exact⟨_,rfl,⟨c,hE.grown⟩⟩

theorem Cq(w:World)(v:Value)(b:Bs)(hr:RB w v b)(hb:4≤b.length):
  Calls Tryd.prog 80 #[v] w fun e w' =>e = .returned (NI (BI b))∧Ext w w' :=by
 refine gG (args:= [v]) Tryd.func80 rfl 25 rfl rfl ?_
 have hE:=Ext.refl w
 refine Bw [0,1,2,3,4,5,6,7,8,9,10,11,12,13,14,15,16,17,18,19,20,21,22] [] [] fun j h=> ?_
 have hE:=hE.trans h
 refine yA (Yk.atRB (l:=b) (i:=0) EX M4 (RB.of (hr.keep hE) rfl) rfl (by omega) fun k a=>(ys (Yk.loadC u5 rfl (PCell.of a rfl) zz) (ys (Yk.convI u5 PJ rfl (Dq .i64 (b.getD (0) 0) (fun n hn=>Bz n (by omega))) zz) (ys (Yk.bin (xv:=NI ((b.getD (0) 0).toNat)) (yv:=NI 256) rfl rfl rfl (A0 _ _ _ (by have h0:=(b.getD 0 0).toNat_lt;have h1:=(b.getD 1 0).toNat_lt;have h2:=(b.getD 2 0).toNat_lt;have h3:=(b.getD 3 0).toNat_lt;omega)) zz) (yA (Yk.atRB (l:=b) (i:=1) EX M4 (RB.of (hr.keep hE) rfl) rfl (by omega) fun m c=>(ys (Yk.loadC u5 rfl (PCell.of c rfl) zz) (ys (Yk.convI u5 PJ rfl (Dq .i64 (b.getD (1) 0) (fun n hn=>Bz n (by omega))) zz) (ys (Yk.bin (xv:=NI (((b.getD (0) 0).toNat)*(256))) (yv:=NI ((b.getD (1) 0).toNat)) rfl rfl rfl (Ac _ _ _ (by have h0:=(b.getD 0 0).toNat_lt;have h1:=(b.getD 1 0).toNat_lt;have h2:=(b.getD 2 0).toNat_lt;have h3:=(b.getD 3 0).toNat_lt;omega)) zz) (ys (Yk.bin (xv:=NI ((((b.getD (0) 0).toNat)*(256))+((b.getD (1) 0).toNat))) (yv:=NI 256) rfl rfl rfl (A0 _ _ _ (by have h0:=(b.getD 0 0).toNat_lt;have h1:=(b.getD 1 0).toNat_lt;have h2:=(b.getD 2 0).toNat_lt;have h3:=(b.getD 3 0).toNat_lt;omega)) zz) (yA (Yk.atRB (l:=b) (i:=2) EX M4 (RB.of (hr.keep hE) rfl) rfl (by omega) fun o f=>(ys (Yk.loadC u5 rfl (PCell.of f rfl) zz) (ys (Yk.convI u5 PJ rfl (Dq .i64 (b.getD (2) 0) (fun n hn=>Bz n (by omega))) zz) (ys (Yk.bin (xv:=NI (((((b.getD (0) 0).toNat)*(256))+((b.getD (1) 0).toNat))*(256))) (yv:=NI ((b.getD (2) 0).toNat)) rfl rfl rfl (Ac _ _ _ (by have h0:=(b.getD 0 0).toNat_lt;have h1:=(b.getD 1 0).toNat_lt;have h2:=(b.getD 2 0).toNat_lt;have h3:=(b.getD 3 0).toNat_lt;omega)) zz) (ys (Yk.bin (xv:=NI ((((((b.getD (0) 0).toNat)*(256))+((b.getD (1) 0).toNat))*(256))+((b.getD (2) 0).toNat))) (yv:=NI 256) rfl rfl rfl (A0 _ _ _ (by have h0:=(b.getD 0 0).toNat_lt;have h1:=(b.getD 1 0).toNat_lt;have h2:=(b.getD 2 0).toNat_lt;have h3:=(b.getD 3 0).toNat_lt;omega)) zz) (yA (Yk.atRB (l:=b) (i:=3) EX M4 (RB.of (hr.keep hE) rfl) rfl (by omega) fun p g=>(ys (Yk.loadC u5 rfl (PCell.of g rfl) zz) ?_)))))))))))))))))))
 refine ys (Yk.convI u5 PJ rfl (Dq .i64 (b.getD (3) 0) (fun n hn=>Bz n (by omega))) zz) (ys (Yk.bin (xv:=NI (((((((b.getD (0) 0).toNat)*(256))+((b.getD (1) 0).toNat))*(256))+((b.getD (2) 0).toNat))*(256))) (yv:=NI ((b.getD (3) 0).toNat)) rfl rfl rfl (Ac _ _ _ (by have h0:=(b.getD 0 0).toNat_lt;have h1:=(b.getD 1 0).toNat_lt;have h2:=(b.getD 2 0).toNat_lt;have h3:=(b.getD 3 0).toNat_lt;omega)) zz) ?_)
 clear a
 clear c
 clear f
 clear g
 refine Bx rfl (vr (NI ((((((((b.getD (0) 0).toNat)*(256))+((b.getD (1) 0).toNat))*(256))+((b.getD (2) 0).toNat))*(256))+((b.getD (3) 0).toNat))) rfl) ?_
 exact⟨by rw[Rc],hE⟩

theorem D4(w:World)(x y:Bs)(hx:x.length=32)(hy:y.length=32):
  Calls Tryd.prog 74 #[AB x,AB y] w fun e w' =>e = .returned (.int .i64 (Lib.compareBytes x y))∧Ext w w' :=by
 refine gG (args:= [AB x,AB y]) Tryd.func74 rfl 24 rfl rfl ?_
 have hE:=Ext.refl w
 refine gS (Yk.box (vr (AB x) rfl) fun l m af u z ag=> ?_)
 have c:=u;clear u
 have ah:l<m.heap.size:=by omega
 refine gS (Yk.box (vr (AB y) rfl) fun n aa ab v o ai=> ?_)
 have h:=Ext.refl m
 have hE:=hE.trans z
 have aj:=hE.size
 have f:=v;clear v
 have ak:n<aa.heap.size:=by omega
 have al:=Aw (bl c) ab
 have c:=eb o c
 have hE:=hE.trans o
 have h:=h.trans o
 refine gL (fun(ρ:Ae) (wz:World)=>∃i:Nat,ρ 0=(AB x:Value)∧ρ 1=(AB y:Value)∧ρ 2=(PQ l 0:Value)∧ρ 3=(PQ n 0:Value)∧ρ 5=(NI i:Value)∧Ext w wz∧wz.heap[l]? =some (.cells (Lib.byteCells x).toArray 38 (0,0))∧Ext m wz∧wz.heap[n]? =some (.cells (Lib.byteCells y).toArray 38 (0,0))∧(i≤32)∧(Lib.compareBytes x y=Lib.compareBytes (x.drop i) (y.drop i))∧True) (fun ρ _=>32-(intOf (ρ 5)).toNat) ⟨0,rfl,rfl,rfl,rfl,rfl,hE,c,h,f,Nat.zero_le _,rfl,trivial⟩ ?_
 clear hE c f
 rintro ac am ⟨i,T0,T1,j,k,g,hE,c,h,f,hi,hc,-⟩
 have q5:=g
 by_cases hlt:i<32
 ·have hca:=RE (x:=x) (y:=y) (i:=i) (by omega) (by omega)
  by_cases q1:(x.getD i 0).toNat<(y.getD i 0).toNat
  ·rw[if_pos q1]at hca
   refine gS (Yk.eqI (a:=(i:Nat)) (b:=(32:Nat)) g rfl (Ah _ _ _ _) (kT (hlt) (cT rfl (Bw [0,1,2,3,4,5,6] [] [] fun an p=> ?_))))
   have hE:=hE.trans p
   have c:=eb p c
   have f:=eb p f
   refine ys (Yk.atArr0 (i:=i) QJ M4 j g (by omega) zz) (ys (Yk.cell1 u5 rfl rfl (cellAt c (Cx (i:=i) (by omega))) zz) (ys (Yk.atArr0 (i:=i) QJ M4 k g (by omega) zz) (ys (Yk.cell1 u5 rfl rfl (cellAt f (Cx (i:=i) (by omega))) zz) (ys (Yk.eqI (a:=(((x).getD (i) 0).toNat:Nat)) (b:=(((y).getD (i) 0).toNat:Nat)) rfl rfl (Ah _ _ _ _) zz) (kT (q1) (cT rfl (Bx rfl (vr (.int .i64 (-1:Int)) rfl) ?_)))))))
   refine⟨?_,hE⟩
   rw[hc,hca]
  rw[if_neg q1]at hca
  by_cases q2:(y.getD i 0).toNat<(x.getD i 0).toNat
  ·rw[if_pos q2]at hca
   refine gS (Yk.eqI (a:=(i:Nat)) (b:=(32:Nat)) g rfl (Ah _ _ _ _) (kT (hlt) (cT rfl (Bw [0,1,2,3,4,5,6] [] [] fun ao q=> ?_))))
   have c:=eb q c
   have f:=eb q f
   refine ys (Yk.atArr0 (i:=i) QJ M4 j g (by omega) zz) (ys (Yk.cell1 u5 rfl rfl (cellAt c (Cx (i:=i) (by omega))) zz) (ys (Yk.atArr0 (i:=i) QJ M4 k g (by omega) zz) (ys (Yk.cell1 u5 rfl rfl (cellAt f (Cx (i:=i) (by omega))) zz) (ys (Yk.eqI (a:=(((x).getD (i) 0).toNat:Nat)) (b:=(((y).getD (i) 0).toNat:Nat)) rfl rfl (Ah _ _ _ _) zz) (kF (q1) (cF rfl (Bw [0,1,2,3,4,5,6] [] [] fun ap r=> ?_)))))))
   have hZ1:=q.trans r
   have hE:=hE.trans hZ1
   have c:=eb r c
   have f:=eb r f
   refine ys (Yk.atArr0 (i:=i) QJ M4 j g (by omega) zz) (ys (Yk.cell1 u5 rfl rfl (cellAt c (Cx (i:=i) (by omega))) zz) (ys (Yk.atArr0 (i:=i) QJ M4 k g (by omega) zz) (ys (Yk.cell1 u5 rfl rfl (cellAt f (Cx (i:=i) (by omega))) zz) (ys (Yk.eqI (a:=(((x).getD (i) 0).toNat:Nat)) (b:=(((y).getD (i) 0).toNat:Nat)) rfl rfl (Av _ _ _ _) zz) (kT (q2) (cT rfl (Bx rfl (vr (NI 1) rfl) ?_)))))))
   refine⟨?_,hE⟩
   rw[hc,hca];rfl
  rw[if_neg q2]at hca
  refine gS (Yk.eqI (a:=(i:Nat)) (b:=(32:Nat)) g rfl (Ah _ _ _ _) (kT (hlt) (cT rfl (Bw [0,1,2,3,4,5,6] [] [] fun aq s=> ?_))))
  have c:=eb s c
  have f:=eb s f
  refine ys (Yk.atArr0 (i:=i) QJ M4 j g (by omega) zz) (ys (Yk.cell1 u5 rfl rfl (cellAt c (Cx (i:=i) (by omega))) zz) (ys (Yk.atArr0 (i:=i) QJ M4 k g (by omega) zz) (ys (Yk.cell1 u5 rfl rfl (cellAt f (Cx (i:=i) (by omega))) zz) (ys (Yk.eqI (a:=(((x).getD (i) 0).toNat:Nat)) (b:=(((y).getD (i) 0).toNat:Nat)) rfl rfl (Ah _ _ _ _) zz) (kF (q1) (cF rfl (Bw [0,1,2,3,4,5,6] [] [] fun ar t=> ?_)))))))
  have hZ2:=s.trans t
  have hE:=hE.trans hZ2
  have h:=h.trans hZ2
  have c:=eb t c
  have f:=eb t f
  refine ys (Yk.atArr0 (i:=i) QJ M4 j g (by omega) zz) (ys (Yk.cell1 u5 rfl rfl (cellAt c (Cx (i:=i) (by omega))) zz) (ys (Yk.atArr0 (i:=i) QJ M4 k g (by omega) zz) (ys (Yk.cell1 u5 rfl rfl (cellAt f (Cx (i:=i) (by omega))) zz) (ys (Yk.eqI (a:=(((x).getD (i) 0).toNat:Nat)) (b:=(((y).getD (i) 0).toNat:Nat)) rfl rfl (Av _ _ _ _) zz) (kF (q2) (cF rfl (gS (Yk.bin (xv:=NI i) (yv:=NI 1) g rfl rfl (Ac _ _ _ (by omega)) (gK (And.intro ⟨i+1,T0,T1,j,k,rfl,hE,c,h,f,by omega,hc.trans hca,trivial⟩ ?_))))))))))
  show 32-(intOf (NI ((i)+(1)))).toNat<32-(intOf (ac 5)).toNat
  rw[q5]
  simp only[intOf,Int.toNat_natCast];omega
 refine gS (Yk.eqI (a:=(i:Nat)) (b:=(32:Nat)) g rfl (Ah _ _ _ _) (kF (hlt) (cF rfl (Bx rfl (vr (NI 0) rfl) ?_))))
 refine⟨?_,hE⟩
 rw[hc,List.drop_of_length_le (by omega),List.drop_of_length_le (by omega)];rfl

theorem Kb(w:World)(v:Value)(l:List Bs)(hr:RG 32 Lib.byteCells w v l)(hll:l.length<9223372036854775807)(id:Bs)(hid:id.length=32):
  Calls Tryd.prog 31 #[v,AB id] w fun e w' =>e = .returned (.bool (decide (id∈l)))∧Ext w w' :=by
 refine gG (args:= [v,AB id]) Tryd.func31 rfl 18 rfl rfl ?_
 have hE:=Ext.refl w
 refine gS (Yk.box (vr (AB id) rfl) fun h q y k r z=> ?_)
 have c:=k;clear k
 have aa:h<q.heap.size:=by omega
 have hE:=hE.trans r
 refine gL (fun(ρ:Ae) (wz:World)=>∃i:Nat,ρ 0=(v:Value)∧ρ 1=(AB id:Value)∧ρ 3=(PQ h 0:Value)∧ρ 5=(NI i:Value)∧Ext w wz∧wz.heap[h]? =some (.cells (Lib.byteCells id).toArray 38 (0,0))∧(i≤l.length)∧(id∉l.take i)∧True) (fun ρ _=>l.length-(intOf (ρ 5)).toNat) ⟨0,rfl,rfl,rfl,rfl,hE,c,Nat.zero_le _,(by simp),trivial⟩ ?_
 clear hE c
 rintro s ab ⟨i,g,t,j,f,hE,c,hi,hn,-⟩
 have q5:=f
 by_cases hlt:i<l.length
 ·have hel:(l.getD i []).length=32:=As (RG.elem hr [] hlt)
  by_cases q1:l.getD i []=id
  ·refine gS (Yk.lenRG Lc (RG.of (hr.keep hE) g) (gS (Yk.eqI (a:=(i:Nat)) (b:=(l.length:Nat)) f rfl (Ah _ _ _ _) (kT (hlt) (cT rfl (Bw [0,1,2,3,4,5] [] [] fun ac m=> ?_))))))
   have hE:=hE.trans m
   have u:(Lib.byteCells (l.getD (i) ([]:List UInt8))).length=32:=(RG.elem (hr.keep hE) ([]:List UInt8) (by omega))
   have c:=eb m c
   refine yA (Yk.atRG Lc Og (by decide) ([]:List UInt8) (RG.of (hr.keep hE) g) f (by omega) fun ad n=>(ys (Yk.loadPR (PR.of n rfl) QJ rfl (by rw[u];exact N2) zz) (ys (Yk.loadAll j c QJ rfl (by exact Ag hid) zz) (ys (Yk.eqArr (l1:=(l.getD (i) ([]:List UInt8))) (l2:=id) QJ u5 M4 O0 rfl rfl (hel) (hid) zz) (kT (q1) ?_)))))
   clear n
   refine cT rfl (Bx rfl (vr (.bool (true)) rfl) ?_)
   exact⟨by rw[decide_eq_true (show id∈l from q1▸getD_mem [] hlt)],hE⟩
  refine gS (Yk.lenRG Lc (RG.of (hr.keep hE) g) (gS (Yk.eqI (a:=(i:Nat)) (b:=(l.length:Nat)) f rfl (Ah _ _ _ _) (kT (hlt) (cT rfl (Bw [0,1,2,3,4,5] [] [] fun ae o=> ?_))))))
  have hE:=hE.trans o
  have x:(Lib.byteCells (l.getD (i) ([]:List UInt8))).length=32:=(RG.elem (hr.keep hE) ([]:List UInt8) (by omega))
  have c:=eb o c
  refine yA (Yk.atRG Lc Og (by decide) ([]:List UInt8) (RG.of (hr.keep hE) g) f (by omega) fun af p=>(ys (Yk.loadPR (PR.of p rfl) QJ rfl (by rw[x];exact N2) zz) (ys (Yk.loadAll j c QJ rfl (by exact Ag hid) zz) (ys (Yk.eqArr (l1:=(l.getD (i) ([]:List UInt8))) (l2:=id) QJ u5 M4 O0 rfl rfl (hel) (hid) zz) (kF (q1) ?_)))))
  clear p
  refine cF rfl (gS (Yk.bin (xv:=NI i) (yv:=NI 1) f rfl rfl (Ac _ _ _ (by omega)) (gK (And.intro ⟨i+1,g,t,j,rfl,hE,c,by omega,MS hlt hn q1,trivial⟩ ?_))))
  show l.length-(intOf (NI ((i)+(1)))).toNat<l.length-(intOf (s 5)).toNat
  rw[q5]
  simp only[intOf,Int.toNat_natCast];omega
 refine gS (Yk.lenRG Lc (RG.of (hr.keep hE) g) (gS (Yk.eqI (a:=(i:Nat)) (b:=(l.length:Nat)) f rfl (Ah _ _ _ _) (kF (hlt) (cF rfl (Bx rfl (vr (.bool (false)) rfl) ?_))))))
 rw[show i=l.length by omega,List.take_length]at hn
 exact⟨by rw[decide_eq_false hn],hE⟩

theorem Ig(w:World)(v u_:Value)(l m:List Bs)(hr:RG 32 Lib.byteCells w v l)(hs:RG 32 Lib.byteCells w u_ m)(hll:l.length<9223372036854775807):
  Calls Tryd.prog 44 #[v,u_] w fun e w' =>e = .returned (.bool (decide (l=m)))∧Ext w w' :=by
 refine gG (args:= [v,u_]) Tryd.func44 rfl 26 rfl rfl ?_
 have hE:=Ext.refl w
 by_cases hq:l.length=m.length
 ·refine gS (Yk.lenRG Lc (RG.of hr rfl) (gS (Yk.lenRG Lc (RG.of hs rfl) (gS (Yk.eqI (a:=(l.length:Nat)) (b:=(m.length:Nat)) rfl rfl (AF _ _ _ _) (kF (fun h=>h hq) (cF rfl (gL (fun(ρ:Ae) (wz:World)=>∃i:Nat,ρ 0=(v:Value)∧ρ 1=(u_:Value)∧ρ 10=(.bool (false):Value)∧ρ 5=(NI i:Value)∧RG 32 Lib.byteCells wz v l∧RG 32 Lib.byteCells wz u_ m∧Ext w wz∧(i≤l.length)∧(l.take i=m.take i)∧True) (fun ρ _=>l.length-(intOf (ρ 5)).toNat) ⟨0,rfl,rfl,rfl,rfl,hr,hs,hE,Nat.zero_le _,(by simp),trivial⟩ ?_))))))))
  clear hr hs hE
  rintro r z ⟨i,f,g,s,c,hr,hs,hE,hi,hn,-⟩
  have q5:=c
  by_cases hlt:i<l.length
  ·have hel:(l.getD i []).length=32:=As (RG.elem hr [] hlt)
   have hem:(m.getD i []).length=32:=As (RG.elem hs [] (by omega))
   by_cases q1:l.getD i []=m.getD i []
   ·refine gS (Yk.lenRG Lc (RG.of hr f) (gS (Yk.eqI (a:=(i:Nat)) (b:=(l.length:Nat)) c rfl (Ah _ _ _ _) (kT (hlt) (cT rfl (Bw [0,1,2,3,4,5,6,7,8] [] [] fun aa j=> ?_))))))
    have hr:=hr.keep j
    have t:(Lib.byteCells (l.getD (i) ([]:List UInt8))).length=32:=(RG.elem hr ([]:List UInt8) (by omega))
    refine yA (Yk.atRG Lc Og (by decide) ([]:List UInt8) (RG.of hr f) c (by omega) fun ab n=>(ys (Yk.loadPR (PR.of n rfl) QJ rfl (by rw[t];exact N2) zz) ?_))
    have hs:=hs.keep j
    have u:(Lib.byteCells (m.getD (i) ([]:List UInt8))).length=32:=(RG.elem hs ([]:List UInt8) (by omega))
    refine yA (Yk.atRG Lc Og (by decide) ([]:List UInt8) (RG.of hs g) c (by omega) fun ac o=>(ys (Yk.loadPR (PR.of o rfl) QJ rfl (by rw[u];exact N2) zz) (ys (Yk.neArr (l1:=(l.getD (i) ([]:List UInt8))) (l2:=(m.getD (i) ([]:List UInt8))) QJ u5 M4 O0 rfl rfl (hel) (hem) zz) (kF (fun h=>h q1) ?_))))
    clear n
    clear o
    have hE:=hE.trans j
    refine cF rfl (gS (Yk.bin (xv:=NI i) (yv:=NI 1) c rfl rfl (Ac _ _ _ (by omega)) (gK (And.intro ⟨i+1,f,g,s,rfl,hr,hs,hE,by omega,Pg hlt (by omega) hn q1,trivial⟩ ?_))))
    show l.length-(intOf (NI ((i)+(1)))).toNat<l.length-(intOf (r 5)).toNat
    rw[q5]
    simp only[intOf,Int.toNat_natCast];omega
   refine gS (Yk.lenRG Lc (RG.of hr f) (gS (Yk.eqI (a:=(i:Nat)) (b:=(l.length:Nat)) c rfl (Ah _ _ _ _) (kT (hlt) (cT rfl (Bw [0,1,2,3,4,5,6,7,8] [] [] fun ad k=> ?_))))))
   have hr:=hr.keep k
   have x:(Lib.byteCells (l.getD (i) ([]:List UInt8))).length=32:=(RG.elem hr ([]:List UInt8) (by omega))
   refine yA (Yk.atRG Lc Og (by decide) ([]:List UInt8) (RG.of hr f) c (by omega) fun ae p=>(ys (Yk.loadPR (PR.of p rfl) QJ rfl (by rw[x];exact N2) zz) ?_))
   have hs:=hs.keep k
   have y:(Lib.byteCells (m.getD (i) ([]:List UInt8))).length=32:=(RG.elem hs ([]:List UInt8) (by omega))
   refine yA (Yk.atRG Lc Og (by decide) ([]:List UInt8) (RG.of hs g) c (by omega) fun af q=>(ys (Yk.loadPR (PR.of q rfl) QJ rfl (by rw[y];exact N2) zz) (ys (Yk.neArr (l1:=(l.getD (i) ([]:List UInt8))) (l2:=(m.getD (i) ([]:List UInt8))) QJ u5 M4 O0 rfl rfl (hel) (hem) zz) (kT (q1) ?_))))
   clear p
   clear q
   refine cT rfl (Bx rfl (vr (.bool (false)) rfl) ?_)
   have hE:=hE.trans k
   exact⟨by rw[decide_eq_false (Rb q1)],hE⟩
  refine gS (Yk.lenRG Lc (RG.of hr f) (gS (Yk.eqI (a:=(i:Nat)) (b:=(l.length:Nat)) c rfl (Ah _ _ _ _) (kF (hlt) (cF rfl (Bx rfl (vr (.bool (true)) rfl) ?_))))))
  rw[show i=l.length by omega,List.take_length,show l.length=m.length by omega,List.take_length]at hn
  exact⟨by rw[decide_eq_true hn],hE⟩
 refine gS (Yk.lenRG Lc (RG.of hr rfl) (gS (Yk.lenRG Lc (RG.of hs rfl) (gS (Yk.eqI (a:=(l.length:Nat)) (b:=(m.length:Nat)) rfl rfl (AF _ _ _ _) (kT (hq) (cT rfl (Bx rfl (vr (.bool (false)) rfl) ?_))))))))
 exact⟨by rw[decide_eq_false (fun e=>hq (by rw[e]))],hE⟩
open Go.RowKit
def BD(o:List Bs)(j:Nat)(y:Bs):List Bs:=o.take j++y :: o.drop j
theorem Ph(o:List Bs)(j:Nat)(y:Bs):(BD o j y).length=o.length+1:=by
  unfold BD
  rw[List.length_append,List.length_cons,List.length_take,List.length_drop]
  omega
theorem Pi(o:List Bs)(x:Bs):o++ [x]=BD o o.length x:=by unfold BD;simp
section
variable {o : List Bs} {j : Nat} {x y : Bs}
theorem Rd(h:0<j)(hj:j≤o.length):(BD o j y).getD (j-1) []=o.getD (j-1) []:=by
  unfold BD
  rw[D3 _ _ _ (by rw[List.length_take];omega),List.getD_eq_getElem?_getD,List.getElem?_take,if_pos (by omega),←List.getD_eq_getElem?_getD]
theorem Jv(hj:j≤o.length):(BD o j y).set j x=BD o j x:=by
  unfold BD
  have hl:(o.take j).length=j:=by rw[List.length_take];omega
  rw[List.set_append_right _ _ (by omega),hl,Nat.sub_self,List.set_cons_zero]
theorem Pj(h:0<j)(hj:j≤o.length):BD o j (o.getD (j-1) [])=BD o (j-1) (o.getD (j-1) []):=by
  unfold BD
  obtain⟨i,rfl⟩:∃i,j=i+1:=⟨j-1,by omega⟩
  rw[Nat.add_sub_cancel,HI [] (show i<o.length by omega),List.take_succ_eq_append_getElem (by omega),List.getD_eq_getElem?_getD,List.getElem?_eq_getElem (show i<o.length by omega),List.append_assoc]
  rfl
theorem LE:(BD o j x).Perm (x :: o):=by
  unfold BD
  have:=List.perm_middle (a:=x) (l₁:=o.take j) (l₂:=o.drop j)
  rwa [List.take_append_drop]at this
theorem MT(ho:Cy o)(hj:j≤o.length)(h1:∀k,j≤k→k<o.length→0<Lib.compareBytes (o.getD k []) x)(h2:j=0∨¬0<Lib.compareBytes (o.getD (j-1) []) x):Cy (BD o j x):=by
  unfold BD Cy at *
  have hg:∀k (hk:k<o.length),o.getD k []=o[k]:=fun k hk=>by rw[List.getD_eq_getElem?_getD,List.getElem?_eq_getElem hk];rfl
  have hsplit:=ho
  rw[←List.take_append_drop j o,List.pairwise_append]at hsplit
  obtain⟨ha,hb,hc⟩:=hsplit
  have hx:∀z∈o.drop j,Lib.compareBytes x z≤0:=fun z hz=>by
    obtain⟨k,hk,rfl⟩:=List.getElem_of_mem hz
    rw[List.length_drop]at hk
    have:=h1 (j+k) (by omega) (by omega)
    rw[hg _ (by omega)]at this
    rw[List.getElem_drop]
    have:=Fl x (o[j+k]'(by omega))
    omega
  have hy:∀z∈o.take j,Lib.compareBytes z x≤0:=fun z hz=>by
    obtain⟨k,hk,rfl⟩:=List.getElem_of_mem hz
    rw[List.length_take]at hk
    rcases h2 with h2 | h2
    · omega
    · rw[hg _ (by omega)]at h2
      rw[List.getElem_take]
      by_cases e:k=j-1
      · subst e;omega
      · exact Ew (List.pairwise_iff_getElem.1 ho k (j-1) (by omega) (by omega) (by omega)) (by omega)
  rw[List.pairwise_append]
  refine⟨ha,List.pairwise_cons.2 ⟨hx,hb⟩,fun a ha' b hb' => ?_⟩
  rcases List.mem_cons.1 hb' with rfl | hb'
  · exact hy a ha'
  · exact hc a ha' b hb'
end
open Go.RowKit
set_option maxRecDepth 100000
theorem Qm:∀(cs:Array Value),cs.size=32→∀w:World,(Instr.buildSlice 47 1 #[(0, .agg cs)]).run Tryd.prog w = .ok (.slice (some ⟨w.heap.size,0,none⟩) 1 1) (w.alloc (.cells cs 38))
 | ⟨[c0,c1,c2,c3,c4,c5,c6,c7,c8,c9,c10,c11,c12,c13,c14,c15,c16,c17,c18,c19,c20,c21,c22,c23,c24,c25,c26,c27,c28,c29,c30,c31]⟩,_,w=>PT c0 c1 c2 c3 c4 c5 c6 c7 c8 c9 c10 c11 c12 c13 c14 c15 c16 c17 c18 c19 c20 c21 c22 c23 c24 c25 c26 c27 c28 c29 c30 c31 w
theorem LF:AA Tryd.prog 74:=fun _ _=>by kernel_rfl
set_option maxHeartbeats 1600000
theorem Mf(w:World)(v:Value)(l:List Bs)(hr:RG 32 Lib.byteCells w v l)(hll:l.length≤1099511627776):
  Calls Tryd.prog 61 #[v] w fun e w' =>∃v',e = .returned v' ∧OG w.heap.size 38 32 Lib.byteCells w' v' (Ar l)∧Ext w w' :=by
 refine gG (args:= [v]) Tryd.func61 rfl 54 rfl rfl ?_
 have hE:=Ext.refl w
 have hrow0:OG w.heap.size 38 32 Lib.byteCells w (Value.slice none 0 0) ([]:List Bs):=OG.nil _ _ _ _ _
 refine gL (fun(ρ:Ae) (wz:World)=>∃i:Nat,∃o:List Bs,∃vo:Value,ρ 0=(v:Value)∧ρ 2=((Value.slice none 0 0):Value)∧ρ 4=(NI i:Value)∧ρ 3=(vo:Value)∧Ext w wz∧OG w.heap.size 38 32 (Lib.byteCells) wz vo (o)∧(i≤l.length)∧(Cy o)∧(o.Perm (l.take i))∧True) (fun ρ _=>l.length-(intOf (ρ 4)).toNat) ⟨0,[],(Value.slice none 0 0),rfl,rfl,rfl,rfl,hE,Bo hrow0 (rfl),Nat.zero_le _,List.Pairwise.nil,(by simp),trivial⟩ ?_
 clear hrow0
 clear hE
 rintro af w6 ⟨i,o,vo,h,n,f,c,hE,hr_vo,hi,ha,hp,-⟩
 have q4:=f
 by_cases hlt:i<l.length
 ·obtain⟨x,hx⟩:∃x,x=l.getD i []:=⟨_,rfl⟩
  have xlen:x.length=32:=by rw[hx];exact As (RG.elem hr [] hlt)
  have hol:o.length=i:=by rw[hp.length_eq,List.length_take];omega
  refine gS (Yk.lenRG Lc (RG.of (hr.keep hE) h) (gS (Yk.eqI (a:=(i:Nat)) (b:=(l.length:Nat)) f rfl (Ah _ _ _ _) (kT (hlt) (cT rfl (gS (Yk.lenRG Lc (RG.of (RG.ofOwn hr_vo) c) ?_)))))))
  have ag:(Lib.byteCells (l.getD (i) ([]:List UInt8))).length=32:=(RG.elem (hr.keep hE) ([]:List UInt8) (by omega))
  refine gS (Yk.atRG Lc Og (by decide) ([]:List UInt8) (RG.of (hr.keep hE) h) f (by omega) fun a8 p=>(gS (Yk.loadPR (PR.of p rfl) QJ rfl (by rw[ag];exact N2) (gS (Yk.lit1G (a:=(l.getD (i) ([]:List UInt8))) (enc:=Lib.byteCells) (vr (AB (l.getD (i) ([]:List UInt8))) rfl) (by rw[Lib.byteCells_length];exact(As (ag))) Qm fun aq ar ah aa=> ?_)))))
  have p:=PR.keep p aa
  have hE:=hE.trans aa
  have hr_vo:=hr_vo.keep aa
  refine gS (Yk.appendRG _ _ w.heap.size _ 32 Lc pk6_ig38.choose_spec.1 pk6_ig38.choose_spec.2 Lc (o) ([(l.getD (i) ([]:List UInt8))]) (OG.of hr_vo c) (RG.of ah (vr aq rfl)) (fun _ _=>Ai _) (by simp only[List.length_cons,List.length_nil];omega) (by simp only[List.length_cons,List.length_nil];omega) hE.size fun ai au aj ab=> ?_)
  have ab:Grew ar au vo ai:= .eqv c ab
  have hE:=Af hE ab hr_vo.2 (Nat.le_refl _)
  clear p
  clear ah
  clear hr_vo
  refine gL (fun(ρ:Ae) (wz:World)=>∃j:Nat,∃y:Bs,∃vp:Value,ρ 0=(v:Value)∧ρ 2=((Value.slice none 0 0):Value)∧ρ 4=(NI i:Value)∧ρ 9=(.bool (true):Value)∧ρ 5=(NI j:Value)∧ρ 3=(vp:Value)∧Ext w wz∧OG w.heap.size 38 32 (Lib.byteCells) wz vp (BD o j y)∧(j≤o.length)∧(∀k,j≤k→k<o.length→0<Lib.compareBytes (o.getD k []) x)∧True) (fun ρ _=>(intOf (ρ 5)).toNat) ⟨o.length,x,ai,h,n,f,rfl,rfl,rfl,hE,Bo aj ((by rw[←hx];exact Pi o x)),Nat.le_refl _,(fun k h1 h2=>by omega),trivial⟩ ?_
  clear aj
  clear hE
  rintro av a9 ⟨j,y,vp,h,n,f,T9,m,c,hE,hr_vp,hj,hgt,-⟩
  have q5:=m
  have hil:=Ph o j y
  obtain⟨g,hg⟩:=OG.block hr_vp (i:=0) (by omega)
  by_cases hj0:j=0
  ·have hstop:j=0∨¬0<Lib.compareBytes (o.getD (j-1) []) x:= .inl hj0
   refine Bw [0,1,2,3,4,5,6,7,8,9,10,11,12,13,14] [12] [] fun ba ak=>(ys (Yk.eqI (a:=(j:Nat)) (b:=(0:Nat)) m rfl (Av _ _ _ _) zz) (kF (by omega) (ys (Yk.pickF rfl rfl zz) (cF rfl ?_))))
   have hE:=hE.trans ak
   have ax:(Lib.byteCells (l.getD (i) ([]:List UInt8))).length=32:=(RG.elem (hr.keep hE) ([]:List UInt8) (by omega))
   have hr_vp:=hr_vp.keep ak
   refine gS (Yk.atRG Lc Og (by decide) ([]:List UInt8) (RG.of (hr.keep hE) h) f (by omega) fun bb al=>(gS (Yk.loadPR (PR.of al rfl) QJ rfl (by rw[ax];exact N2) (gS (Yk.atOwnK (k:=32) (i:=j) Lc Og c hr_vp.2 hg m (by omega) (gS (Yk.storeOG (i:=j) (a:=(l.getD (i) ([]:List UInt8))) ([]:List UInt8) rfl rfl hr_vp hg (by omega) (by rw[Lib.byteCells_length,←hx];exact xlen) (Ai _) N2 fun bc ac ay=> ?_)))))))
   have hE:=Af hE ay hr_vp.2 (Nat.le_refl _)
   clear al
   clear hr_vp
   have ac:=Bo (l' :=BD o j x) ac (by rw[←hx];exact Jv hj)
   refine gS (Yk.bin (xv:=NI i) (yv:=NI 1) f rfl rfl (Ac _ _ _ (by omega)) ?_)
   refine gK (And.intro ⟨i+1,BD o j x,vp,h,n,rfl,c,hE,Bo ac (rfl),by omega,MT ha hj hgt hstop,(by rw[List.take_succ_eq_append_getElem hlt];have h1:=LE (o:=o) (j:=j) (x:=x);rw[hx,List.getD_eq_getElem?_getD,List.getElem?_eq_getElem hlt]at h1 ⊢;exact(h1.trans (hp.cons _)).trans (List.perm_append_comm (l₁:= [_]))),trivial⟩ ?_)
   show l.length-(intOf (NI ((i)+(1)))).toNat<l.length-(intOf (af 4)).toNat
   rw[q4]
   simp only[intOf,Int.toNat_natCast];omega
  have hjp:0<j:=by omega
  have hge:=Rd (y:=y) hjp hj
  have ylen:(o.getD (j-1) []).length=32:=by rw[←hge];exact As (hr_vp.1 _ (getD_mem [] (by omega)))
  by_cases hq:0<Lib.compareBytes (o.getD (j-1) []) x
  ·refine Bw [0,1,2,3,4,5,6,7,8,9,10,11,12,13,14] [12] [] fun bd am=>(ys (Yk.eqI (a:=(j:Nat)) (b:=(0:Nat)) m rfl (Av _ _ _ _) zz) (kT (hjp) (ys (Yk.bin (xv:=NI j) (yv:=NI 1) m rfl rfl (Ay _ _ _ (by omega) (by omega)) zz) ?_)))
   have hr_vp:=hr_vp.keep am
   have az:(Lib.byteCells ((BD o j y).getD ((j)-(1)) ([]:List UInt8))).length=32:=(RG.elem (RG.ofOwn hr_vp) ([]:List UInt8) (by omega))
   refine yA (Yk.atRG Lc Og (by decide) ([]:List UInt8) (RG.of (RG.ofOwn hr_vp) c) rfl (by omega) fun be q=>(ys (Yk.loadPR (PR.of q rfl) QJ rfl (by rw[az];exact N2) zz) ?_))
   have hE:=hE.trans am
   have a0:(Lib.byteCells (l.getD (i) ([]:List UInt8))).length=32:=(RG.elem (hr.keep hE) ([]:List UInt8) (by omega))
   refine yA (Yk.atRG Lc Og (by decide) ([]:List UInt8) (RG.of (hr.keep hE) h) f (by omega) fun bf r=>(ys (Yk.loadPR (PR.of r rfl) QJ rfl (by rw[a0];exact N2) zz) (yC (Yk.callA2 LF rfl rfl ((D4 _ (((BD o j y).getD ((j)-(1)) ([]:List UInt8))) ((l.getD (i) ([]:List UInt8))) (by rw[hge];exact ylen) (by rw[←hx];exact xlen)).mono ?_)))))
   rintro e bg ⟨rfl,s⟩
   refine⟨_,rfl,?_⟩
   have q:=PR.keep q s
   have r:=PR.keep r s
   refine ys (Yk.eqI rfl rfl (QC _ .i64 (Lib.compareBytes (((BD o j y).getD ((j)-(1)) ([]:List UInt8))) ((l.getD (i) ([]:List UInt8))):Int) ((0:Nat):Int)) zz) (kT (by rw[hge,←hx];exact hq) (ys (Yk.pickT rfl rfl zz) ?_))
   clear q
   clear r
   refine cT rfl (gS (Yk.bin (xv:=NI j) (yv:=NI 1) m rfl rfl (Ay _ _ _ (by omega) (by omega)) ?_))
   have hr_vp:=hr_vp.keep s
   have a1:(Lib.byteCells ((BD o j y).getD ((j)-(1)) ([]:List UInt8))).length=32:=(RG.elem (RG.ofOwn hr_vp) ([]:List UInt8) (by omega))
   refine gS (Yk.atRG Lc Og (by decide) ([]:List UInt8) (RG.of (RG.ofOwn hr_vp) c) rfl (by omega) fun bh an=>(gS (Yk.loadPR (PR.of an rfl) QJ rfl (by rw[a1];exact N2) (gS (Yk.atOwnK (k:=32) (i:=j) Lc Og c hr_vp.2 hg m (by omega) (gS (Yk.storeOG (i:=j) (a:=((BD o j y).getD ((j)-(1)) ([]:List UInt8))) ([]:List UInt8) rfl rfl hr_vp hg (by omega) (by rw[Lib.byteCells_length,hge];exact ylen) (Ai _) N2 fun bi ad a2=> ?_)))))))
   have hE:=hE.trans s
   have hE:=Af hE a2 hr_vp.2 (Nat.le_refl _)
   clear an
   clear hr_vp
   have ad:=Bo (l' :=BD o (j-1) (o.getD (j-1) [])) ad (by rw[hge,Jv hj];exact Pj hjp hj)
   refine gS (Yk.bin (xv:=NI j) (yv:=NI 1) m rfl rfl (Ay _ _ _ (by omega) (by omega)) (gK (And.intro ⟨j-1,o.getD (j-1) [],vp,h,n,f,T9,rfl,c,hE,Bo ad (rfl),by omega,(fun k h1 h2=>by by_cases e:k=j-1;rw[e];exact hq;exact hgt k (by omega) h2),trivial⟩ ?_)))
   show(intOf (NI ((j)-(1)))).toNat<(intOf (av 5)).toNat
   rw[q5]
   simp only[intOf,Int.toNat_natCast];omega
  have hstop:j=0∨¬0<Lib.compareBytes (o.getD (j-1) []) x:= .inr hq
  refine Bw [0,1,2,3,4,5,6,7,8,9,10,11,12,13,14] [12] [] fun bj ao=>(ys (Yk.eqI (a:=(j:Nat)) (b:=(0:Nat)) m rfl (Av _ _ _ _) zz) (kT (hjp) (ys (Yk.bin (xv:=NI j) (yv:=NI 1) m rfl rfl (Ay _ _ _ (by omega) (by omega)) zz) ?_)))
  have hr_vp:=hr_vp.keep ao
  have a3:(Lib.byteCells ((BD o j y).getD ((j)-(1)) ([]:List UInt8))).length=32:=(RG.elem (RG.ofOwn hr_vp) ([]:List UInt8) (by omega))
  refine yA (Yk.atRG Lc Og (by decide) ([]:List UInt8) (RG.of (RG.ofOwn hr_vp) c) rfl (by omega) fun bk t=>(ys (Yk.loadPR (PR.of t rfl) QJ rfl (by rw[a3];exact N2) zz) ?_))
  have hE:=hE.trans ao
  have a4:(Lib.byteCells (l.getD (i) ([]:List UInt8))).length=32:=(RG.elem (hr.keep hE) ([]:List UInt8) (by omega))
  refine yA (Yk.atRG Lc Og (by decide) ([]:List UInt8) (RG.of (hr.keep hE) h) f (by omega) fun bm u=>(ys (Yk.loadPR (PR.of u rfl) QJ rfl (by rw[a4];exact N2) zz) (yC (Yk.callA2 LF rfl rfl ((D4 _ (((BD o j y).getD ((j)-(1)) ([]:List UInt8))) ((l.getD (i) ([]:List UInt8))) (by rw[hge];exact ylen) (by rw[←hx];exact xlen)).mono ?_)))))
  rintro e bn ⟨rfl,z⟩
  refine⟨_,rfl,?_⟩
  have t:=PR.keep t z
  have u:=PR.keep u z
  refine ys (Yk.eqI rfl rfl (QC _ .i64 (Lib.compareBytes (((BD o j y).getD ((j)-(1)) ([]:List UInt8))) ((l.getD (i) ([]:List UInt8))):Int) ((0:Nat):Int)) zz) (kF (by rw[hge,←hx];exact hq) (ys (Yk.pickT rfl rfl zz) ?_))
  clear t
  clear u
  refine cF rfl ?_
  have hE:=hE.trans z
  have a5:(Lib.byteCells (l.getD (i) ([]:List UInt8))).length=32:=(RG.elem (hr.keep hE) ([]:List UInt8) (by omega))
  have hr_vp:=hr_vp.keep z
  refine gS (Yk.atRG Lc Og (by decide) ([]:List UInt8) (RG.of (hr.keep hE) h) f (by omega) fun bo ap=>(gS (Yk.loadPR (PR.of ap rfl) QJ rfl (by rw[a5];exact N2) (gS (Yk.atOwnK (k:=32) (i:=j) Lc Og c hr_vp.2 hg m (by omega) (gS (Yk.storeOG (i:=j) (a:=(l.getD (i) ([]:List UInt8))) ([]:List UInt8) rfl rfl hr_vp hg (by omega) (by rw[Lib.byteCells_length,←hx];exact xlen) (Ai _) N2 fun bp ae a6=> ?_)))))))
  have hE:=Af hE a6 hr_vp.2 (Nat.le_refl _)
  clear ap
  clear hr_vp
  have ae:=Bo (l' :=BD o j x) ae (by rw[←hx];exact Jv hj)
  refine gS (Yk.bin (xv:=NI i) (yv:=NI 1) f rfl rfl (Ac _ _ _ (by omega)) ?_)
  refine gK (And.intro ⟨i+1,BD o j x,vp,h,n,rfl,c,hE,Bo ae (rfl),by omega,MT ha hj hgt hstop,(by rw[List.take_succ_eq_append_getElem hlt];have h1:=LE (o:=o) (j:=j) (x:=x);rw[hx,List.getD_eq_getElem?_getD,List.getElem?_eq_getElem hlt]at h1 ⊢;exact(h1.trans (hp.cons _)).trans (List.perm_append_comm (l₁:= [_]))),trivial⟩ ?_)
  show l.length-(intOf (NI ((i)+(1)))).toNat<l.length-(intOf (af 4)).toNat
  rw[q4]
  simp only[intOf,Int.toNat_natCast];omega
 refine gS (Yk.lenRG Lc (RG.of (hr.keep hE) h) (gS (Yk.eqI (a:=(i:Nat)) (b:=(l.length:Nat)) f rfl (Ah _ _ _ _) (kF (hlt) (cF rfl (Bx rfl c ?_))))))
 rw[show i=l.length by omega,List.take_length]at hp
 exact⟨_,rfl,Bo hr_vo (JJ ha hp),hE⟩
open Go.RowKit
def qOf:Except Nat Bu→Option Bu
  | .ok p=>some p
  | .error _=>none
def Pk:Except Nat Bu→Nat
  | .ok _=>0
  | .error e=>e
theorem OpenRes.q{w:World}{v:Value}{r:Except Nat Bu}{c:Nat}(h:OpenRes w v r c):PackO w v (qOf r)∧c=Pk r:=by
  cases r with
  | ok p=>exact⟨h.2,h.1⟩
  | error e=>exact⟨h.2,h.1⟩
structure RF (ids : List Bs) (o : G3) : Prop where
  all:∀id∈ids,∃x d,o.O id=some (x,d)∧Sha.sum x=id∧x.length≤o.total
  any:∀id x,o.O id=some x→Sha.sum x.1=id∧x.1.length≤o.total∧id∈ids
  total:o.total≤4194304
theorem I9{E:Bs→Ent}{ids:List Bs}:∀ {n:Nat} {o:G3},n≤ids.length→C9 E ids n = .ok o→RF (ids.take n) o
  | 0,o,_,h=>by
    cases h
    exact⟨(fun id hid=>by simp at hid),(fun id x hx=>by cases hx),Nat.zero_le _⟩
  | n+1,o,hn,h=>by
    cases h1:C9 E ids n with
    | error a=>rw[FY h1 1]at h;cases h
    | ok s=>
      have ih:=I9 (by omega) h1
      rw[EI h1]at h
      have ht:ids.take (n+1)=ids.take n++ [ids.getD n []]:=by
        rw[List.take_succ_eq_append_getElem (by omega),List.getD_eq_getElem?_getD,List.getElem?_eq_getElem (show n<ids.length by omega)];rfl
      cases hd:AC E 50 (E (ids.getD n []))with
      | none=>rw[I5 hd]at h;cases h
      | some d=>
        cases hc:AZ E (d+1) (ids.getD n [])with
        | none=>rw[J3 hd hc]at h;cases h
        | some x=>
          rw[EH (b:=x.1) (k:=x.2) hd hc]at h
          split at h
          · split at h
            · cases h
              rename_i hs hle
              refine⟨fun id hid=> ?_,fun id y hy=> ?_,hle⟩
              · rw[ht]at hid
                by_cases e:id=ids.getD n []
                · exact⟨x.1,d,by show updM s.O _ _ id=_;unfold updM;rw[if_pos e],by rw[e];exact hs,by dsimp only;omega⟩
                · obtain⟨y,d',k1,k2,k3⟩:=ih.all id (by
                    rcases List.mem_append.1 hid with q | q
                    · exact q
                    · exact absurd (List.mem_singleton.1 q) e)
                  exact⟨y,d',by show updM s.O _ _ id=_;unfold updM;rw[if_neg e];exact k1,k2,by dsimp only;omega⟩
              · have hy' :updM s.O (ids.getD n []) (some (x.1,d)) id=some y:=hy
                unfold updM at hy'
                rw[ht]
                split at hy'
                · cases hy'
                  rename_i e
                  exact⟨by rw[e];exact hs,by dsimp only;omega,by rw[e];simp⟩
                · obtain⟨k1,k2,k3⟩:=ih.any id y hy'
                  exact⟨k1,by dsimp only;omega,by simp[k3]⟩
            · cases h
          · cases h
structure LG (b : Bs) (p : Bu) : Prop where
  len:p.1.length≤b.length
  l32:∀id∈p.1,id.length=32
  all:∀id∈p.1,∃x d,p.2 id=some (x,d)∧Sha.sum x=id∧x.length≤4194304
  any:∀id x,p.2 id=some x→Sha.sum x.1=id∧x.1.length≤4194304∧id∈p.1
theorem NC{b:Bs}{p:Bu}(h36:36≤b.length)(h:Ci b = .ok p):LG b p:=by
  unfold Ci at h
  split at h
  · cases h
  · rename_i x hx
    unfold GN at h
    split at h
    · rename_i hc
      split at h
      · rename_i hn
        unfold GM at h
        split at h
        · cases h
        · rename_i es hes
          have hel:=DQ hes (by omega)
          unfold Fk at h
          split at h
          · cases h
          · rename_i s hs
            have hi:=H4 _ _ hs
            unfold GL at h
            split at h
            · split at h
              · unfold En at h
                split at h
                · cases h
                · rename_i o ho
                  cases h
                  have hg:=I9 (Nat.le_refl _) ho
                  rw[List.take_length]at hg
                  refine⟨?_,fun id hid=> ?_,fun id hid=> ?_,fun id y hy=> ?_⟩
                  · show s.ids.length≤_
                    rw[hi.len,hel.1];omega
                  · obtain⟨j,hj,rfl⟩:=hi.ids id hid
                    refine rowId_len (n:=x.1) ?_ (by rw[hel.1]at hj;exact hj)
                    rw[List.length_take,List.length_drop]
                    omega
                  · obtain⟨y,d,k1,k2,k3⟩:=hg.all id hid
                    exact⟨y,d,k1,k2,Nat.le_trans k3 hg.total⟩
                  · obtain⟨k1,k2,k3⟩:=hg.any id y hy
                    exact⟨k1,Nat.le_trans k2 hg.total,k3⟩
              · cases h
            · cases h
      · cases h
    · cases h
theorem Ja{b:Bs}{p:Bu}(h:openP b = .ok p):LG b p:=by
  unfold openP at h
  split at h
  · cases h
  · split at h
    · cases h
    · split at h
      · exact NC (by omega) h
      · cases h
theorem IG(b:Bs):(idsQ (qOf (openP b))).length≤b.length∧(∀id∈idsQ (qOf (openP b)),id.length=32∧(Ba (qOf (openP b)) id).2=0∧Sha.sum (Ba (qOf (openP b)) id).1.1=id):=by
  cases h:openP b with
  | error e=>exact⟨Nat.zero_le _,(fun id hid=>by cases hid)⟩
  | ok p=>
    have g:=Ja h
    refine⟨g.len,fun id hid=>⟨g.l32 id hid,?_⟩⟩
    obtain⟨x,d,h1,h2,h3⟩:=g.all id hid
    have e:Ba (qOf (.ok p)) id=((x,d),0):=by show(match p.2 id with | none=>_ | some x=>_)=_;rw[h1]
    rw[e]
    exact⟨rfl,h2⟩
theorem Qn(b:Bs)(id:Bs):(Ba (qOf (openP b)) id).1.1.length≤4194304:=by
  cases h:openP b with
  | error e=>exact Nat.zero_le _
  | ok p=>
    have g:=Ja h
    show(match p.2 id with | none=>(([],0),12) | some x=>(x,0)).1.1.length≤4194304
    cases h1:p.2 id with
    | none=>exact Nat.zero_le _
    | some x=>exact(g.any id x h1).2.1
open Go.RowKit
abbrev Dz(n:Nat):List Value:= [NI n]
section
variable {P : Program} {K : Value → World → Prop} {ρ : Ae} {w : World} {d : Option Tmp} {ty : TypeId} {pos : String} {af : Array Edge} {gd : Option (Nat × Bool)}
theorem Yk.lit1S{α:Type}{enc:α→List Value}{t e:TypeId}{x:Operand}{a:α}{u:Value}(hx:Ab ρ x=u)(hu:enc a= [u]) 
    (hr:∀w:World,(Instr.buildSlice t 1 #[(0,u)]).run P w = .ok (.slice (some ⟨w.heap.size,0,none⟩) 1 1) (w.alloc (.cells #[u] e)))
    (hk:∀v w',RG 1 enc w' v [a]→Ext w w' →K v w'):Yk P K ((execOp (Ab ρ) ⟨d, .buildSlice t 1 #[(0,x)],ty,pos,af,gd⟩).run P w):=by
  have hE:Ext w (w.alloc (.cells #[u] e)):=(Below.refl _ _).alloc (Nat.le_refl _) _
  have hb:(w.alloc (.cells #[u] e)).heap[w.heap.size]? =some (.cells ([u]:List Value).toArray e (0,0)):=heap_alloc_new w _
  refine Yk.value (v:= .slice (some ⟨w.heap.size,0,none⟩) 1 1) (w' :=w.alloc (.cells #[u] e)) ?_ (hk _ _ ⟨fun y hy=>by rw[List.mem_singleton.1 hy,hu];rfl,by simp[hu],_,1,rfl,Nat.le_refl _,by simp[maxLen],(fun h=>by cases h),fun q hq j z hz=> ?_⟩ hE)
  · unfold execOp
    simp only[List.map_toArray,List.map_cons,List.map_nil,hx,Sem.run_bind,hr,Result.andThen_ok,Sem.run_pure]
  · cases hq
    rw[Addr.add_lit,Nat.zero_add]
    exact cellAt hb (by simpa [hu] using hz)
theorem Yk.atArrPR{t e:TypeId}{n:Nat}(ht:P.underlying t=some (.array n e))(he:∀w' :World,(sizeOf e).run P w' = .ok 1 w'){x y:Operand}{l:List UInt8}{i:Nat}{kd:IntKind} 
    (h:PR (Lib.byteCells l) (Ab ρ x) w) (hy:Ab ρ y = .int kd (i:Int)) (hi:i<n) (hl:i<l.length) (hk:∀v,PCell (B8 (l.getD i 0)) v w→K v w):Yk P K ((execOp (Ab ρ) ⟨d, .indexAddr t x y,ty,pos,af,gd⟩).run P w):=by
  obtain⟨b,o,hx,hr⟩:=h
  exact Yk.atArr ht he hx hy hi (hk _ ⟨_,rfl,hr i _ (Cx hl)⟩)
theorem Yk.slicePR{t e:TypeId}{n:Nat}(ht:P.underlying t=some (.array n e))(he:∀w' :World,(sizeOf e).run P w' = .ok 1 w'){x:Operand}{l:List UInt8} 
    (h:PR (Lib.byteCells l) (Ab ρ x) w) (hl:l.length=n) (hn:n≤1048576) (hk:∀v,RB w v l→K v w):Yk P K ((execOp (Ab ρ) ⟨d, .slice t x none none none,ty,pos,af,gd⟩).run P w):=by
  obtain⟨b,o,hx,hr⟩:=h
  subst hl
  refine Yk.sliceArr ht he hx (hk _ ⟨by rw[Lib.byteCells_length,Nat.mul_one],_,_,rfl,Nat.le_refl _,by unfold maxLen;omega,(fun h=>by cases h),fun a ha j u hu=> ?_⟩)
  cases ha
  rw[Addr.add_lit]
  exact hr j u hu
end
theorem ND(ids:List Bs)(c k:Nat)(h:k<ids.length):((ids.take (k+1)).countP fun id=>decide (DJ id≤c))=((ids.take k).countP fun id=>decide (DJ id≤c))+if DJ (ids.getD k [])≤c then 1 else 0:=by
  rw[List.take_succ_eq_append_getElem h,List.countP_append,List.countP_singleton]
  rw[List.getD_eq_getElem?_getD,List.getElem?_eq_getElem h]
  simp only[decide_eq_true_eq]
  rfl
theorem Pl(ids:List Bs)(c:Nat)(h:c<256):((AK ids).take (c+1)).flatMap Az=((AK ids).take c).flatMap Az++Az (ids.countP fun id=>decide (DJ id≤c)):=by
  rw[List.take_succ_eq_append_getElem (by rw[Bi];exact h),List.flatMap_append,List.flatMap_singleton]
  congr 2
  have:=Fw ids c h
  rw[List.getD_eq_getElem?_getD,List.getElem?_eq_getElem (by rw[Bi];exact h)]at this
  exact this
def Gt(ids:List Bs)(places:List Nat)(id:Bs):Nat:=((ids.zip places).lookup id).getD 0
def DA(ids:List Bs)(places:List Nat)(id:Bs):Bs:=id++Az (Gt ids places id)
def D6(ids:List Bs)(places:List Nat)(id:Bs)(k:Nat):Bs:=id++if id∈ids.take k then Az (Gt ids places id)else []
theorem Pm(ids:List Bs)(places:List Nat)(id:Bs):D6 ids places id 0=id:=by unfold D6;simp
theorem Qo{ids:List Bs}{places:List Nat}{id:Bs}{k:Nat}(hn:ids.Nodup)(hl:ids.length=places.length)(hk:k<ids.length)(h:ids.getD k []=id):D6 ids places id (k+1)=D6 ids places id k++Az (places.getD k 0):=by
  have hg:ids[k]=id:=by rw[List.getD_eq_getElem?_getD,List.getElem?_eq_getElem hk]at h;exact h
  have h1:id∉ids.take k:=fun hm=>by
    obtain⟨j,hj,e⟩:=List.getElem_of_mem hm
    rw[List.length_take]at hj
    rw[List.getElem_take]at e
    exact List.pairwise_iff_getElem.1 hn j k (by omega) hk (by omega) (e.trans hg.symm)
  have h2:id∈ids.take (k+1):=by rw[List.take_succ_eq_append_getElem hk,hg];simp
  unfold D6
  rw[if_neg h1,if_pos h2,List.append_nil]
  congr 2
  unfold Gt
  rw[CC ids places k id (places.getD k 0) hn (by rw[List.getElem?_eq_getElem hk,hg]) (Cv 0 (by omega))]
  rfl
theorem Pn{ids:List Bs}{places:List Nat}{id:Bs}{k:Nat}(hk:k<ids.length)(h:ids.getD k []≠id):D6 ids places id (k+1)=D6 ids places id k:=by
  have hg:ids[k]≠id:=by rw[List.getD_eq_getElem?_getD,List.getElem?_eq_getElem hk]at h;exact h
  unfold D6
  have:(id∈ids.take (k+1))↔id∈ids.take k:=by
    rw[List.take_succ_eq_append_getElem hk]
    simp only[List.mem_append,List.mem_singleton]
    exact⟨fun q=>q.resolve_right (fun e=>hg e.symm), .inl⟩
  by_cases q:id∈ids.take k
  · rw[if_pos q,if_pos (this.2 q)]
  · rw[if_neg q,if_neg (fun e=>q (this.1 e))]
theorem Qp{ids:List Bs}{places:List Nat}{id:Bs}{k:Nat}(h:id∈ids)(hk:ids.length≤k):D6 ids places id k=DA ids places id:=by
  unfold D6 DA
  rw[List.take_of_length_le hk,if_pos h]
theorem Qq(ids:List Bs)(places:List Nat){id:Bs}(k:Nat)(h:id.length=32):(D6 ids places id k).length≤36:=by
  unfold D6
  rw[List.length_append,h]
  split
  · rw[CM];omega
  · simp
theorem E4{α:Type}(k:Nat){g:α→Bs}:∀ {l:List α} (_:∀x∈l,(g x).length=k),(l.flatMap g).length=k*l.length
  | [],_=>by simp
  | a :: l,h=>by rw[List.flatMap_cons,List.length_append,h a (by simp),E4 k (fun x hx=>h x (by simp[hx])),List.length_cons,Nat.mul_succ,Nat.add_comm]
theorem HJ(g:Bs→Bs){l:List Bs}{i:Nat}(h:i<l.length):(l.take (i+1)).flatMap g=(l.take i).flatMap g++g (l.getD i []):=by
  rw[List.take_succ_eq_append_getElem h,List.flatMap_append,List.flatMap_singleton,List.getD_eq_getElem?_getD,List.getElem?_eq_getElem h]
  rfl
def behindR(ids:List Bs)(places:List Nat)(at_:Nat):Bs:=(AK ids).flatMap Az++(Ar ids).flatMap (DA ids places)++Az at_
theorem LH{ids:List Bs}{places:List Nat}{id:Bs}(h:id.length=32):(DA ids places id).length=36:=by unfold DA;rw[List.length_append,h,CM]
open Go.RowKit
def B1(es:List Ent)(p:Nat):Nat→Int
  | 0=> -1
  | k+1=>if(es.getD k dEnt.1).pos=p then(k:Int)else B1 es p k
theorem HK(es:List Ent)(p:Nat):∀k,-1≤B1 es p k∧B1 es p k<k
  | 0=>by unfold B1;omega
  | k+1=>by
    have:=HK es p k
    unfold B1
    split <;> omega
theorem Jb(es:List Ent)(p:Nat):∀k,0≤B1 es p k→(es.getD (B1 es p k).toNat dEnt.1).pos=p
  | 0,h=>by unfold B1 at h;omega
  | k+1,h=>by
    unfold B1 at h ⊢
    split
    · rename_i e;rw[Int.toNat_natCast];exact e
    · rename_i e;rw[if_neg e]at h;exact Jb es p k h
theorem HM(es:List Ent)(p:Nat):∀k,CB Ent.pos dEnt.1 es k p=if B1 es p k<0 then none else some (es.getD (B1 es p k).toNat dEnt.1)
  | 0=>rfl
  | k+1=>by
    show updM (CB Ent.pos dEnt.1 es k) _ _ p=_
    unfold updM B1
    by_cases e:(es.getD k dEnt.1).pos=p
    · rw[if_pos e.symm,if_pos e,if_neg (by omega),Int.toNat_natCast]
    · rw[if_neg (fun h=>e h.symm),if_neg e]
      exact HM es p k
structure B2 where
  ids:List Bs
  pl:List Nat
  en:List Ent
def Cw(es:List Ent)(pl:List Nat)(p:Nat):Int:=if p∈pl then -1 else B1 es p es.length
def FH(t:Bs)(es:List Ent)(i:Nat)(s:B2):B2:=⟨s.ids++ [AX t i],s.pl++ [Bh t i],s.en++ [es.getD (Cw es s.pl (Bh t i)).toNat dEnt.1]⟩
def HN(t:Bs)(es:List Ent)(i:Nat)(s:B2):Option B2:=
  if Cw es s.pl (Bh t i)<0∨(0<i∧0≤Lib.compareBytes (s.ids.getD (i-1) []) (AX t i))then none else some (FH t es i s)
def D7(t:Bs)(es:List Ent):Nat→Option B2
  | 0=>some ⟨[],[],[]⟩
  | i+1=>(D7 t es i).bind (HN t es i)
theorem F1{t:Bs}{es:List Ent}{i:Nat}(h:D7 t es i=none):∀n,i≤n→D7 t es n=none
  | 0,hn=>by(obtain rfl:i=0:=by omega);exact h
  | n+1,hn=>by
    by_cases e:i=n+1
    · subst e;exact h
    · show(D7 t es n).bind _=none
      rw[F1 h n (by omega)];rfl
theorem Kc{t:Bs}{es:List Ent}{i:Nat}{s:B2}(h:D7 t es i=some s):D7 t es (i+1)=HN t es i s:=by
  show(D7 t es i).bind _=_
  rw[h];rfl
def F2(l:List Bs):Prop:=l.Pairwise fun a b=>Lib.compareBytes a b<0
theorem Re{a b c:Bs}(h1:Lib.compareBytes a b<0)(h2:Lib.compareBytes b c<0):Lib.compareBytes a c<0:=by
  have h:=Ew (a:=a) (b:=b) (c:=c) (by omega) (by omega)
  by_cases e:Lib.compareBytes a c=0
  · have e:=GF e
    subst e
    have:=Fl a b
    omega
  · omega
theorem NE{l:List Bs}{x:Bs}(h:F2 l)(hl:l.length=0∨Lib.compareBytes (l.getD (l.length-1) []) x<0):F2 (l++ [x]):=by
  refine List.pairwise_append.2 ⟨h,by simp,fun a ha b hb=> ?_⟩
  rw[List.mem_singleton.1 hb]
  obtain⟨j,hj,rfl⟩:=List.mem_iff_getElem.1 ha
  rcases hl with hl | hl
  · omega
  · rw[List.getD_eq_getElem?_getD,List.getElem?_eq_getElem (by omega)]at hl
    by_cases e:j=l.length-1
    · subst e;exact hl
    · exact Re (List.pairwise_iff_getElem.1 h j (l.length-1) hj (by omega) (by omega)) hl
theorem Dx{l:List Bs}(h:F2 l):l.Nodup:=h.imp fun hab e=>by rw[e,K9]at hab;omega
theorem Po{l:List Bs}(h:F2 l):Cy l:=h.imp fun hab=>Int.le_of_lt hab
theorem NF{l:List Bs}(h:F2 l):Ar l=l:=Iq (FQ l) (Po h) (sortB_perm l)
structure RxRel (t : Bs) (es : List Ent) (i : Nat) (s : B2) (x : IxS Ent) : Prop where
  ids:x.ids=s.ids
  li:s.ids.length=i
  lp:s.pl.length=i
  le:s.en.length=i
  G:∀p,x.G p=if p∈s.pl then none else CB Ent.pos dEnt.1 es es.length p
  M:∀j,j<i→x.M (s.ids.getD j [])=some (s.en.getD j dEnt.1)
  N:∀k,k∉s.ids→x.M k=none
  pos:∀j,j<i→(s.en.getD j dEnt.1).pos=s.pl.getD j 0
  nd:s.pl.Nodup
  asc:F2 s.ids
  mem:∀e∈s.en,e∈es
  rid:∀j,j<i→s.ids.getD j []=AX t j∧s.pl.getD j 0=Bh t j
theorem CP{α:Type}{l m:List α}{d:α}{j:Nat}(h:j<l.length):(l++m).getD j d=l.getD j d:=by
  rw[List.getD_eq_getElem?_getD,List.getD_eq_getElem?_getD,List.getElem?_append_left h]
theorem CQ{α:Type}{l:List α}{x d:α}{j:Nat}(h:l.length=j):(l++ [x]).getD j d=x:=by
  subst h
  rw[List.getD_eq_getElem?_getD,List.getElem?_append_right (Nat.le_refl _),Nat.sub_self];rfl
theorem RxRel.next{t:Bs}{es:List Ent}{i:Nat}{s:B2}{x:IxS Ent}(R:RxRel t es i s x):
    (HN t es i s=none∧Cc Ent.pos t i x=none)∨∃s' x',HN t es i s=some s' ∧Cc Ent.pos t i x=some x' ∧RxRel t es (i+1) s' x' :=by
  have hG:=R.G (Bh t i)
  rw[HM]at hG
  by_cases hf:Cw es s.pl (Bh t i)<0
  · refine .inl ⟨if_pos (.inl hf),?_⟩
    have:x.G (Bh t i)=none:=by
      rw[hG]
      unfold Cw at hf
      split
      · rfl
      · rename_i hp;rw[if_neg hp]at hf;exact if_pos hf
    unfold Cc
    rw[this]
  · have hp:Bh t i∉s.pl:=fun hp=>hf (by unfold Cw;rw[if_pos hp];omega)
    have hF:Cw es s.pl (Bh t i)=B1 es (Bh t i) es.length:=if_neg hp
    rw[if_neg hp,←hF,if_neg hf]at hG
    by_cases hc:i=0∨Lib.compareBytes (s.ids.getD (i-1) []) (AX t i)<0
    · have hn:¬(Cw es s.pl (Bh t i)<0∨(0<i∧0≤Lib.compareBytes (s.ids.getD (i-1) []) (AX t i))):=by omega
      have hx:Cc Ent.pos t i x=some (Dc Ent.pos t i x (es.getD (Cw es s.pl (Bh t i)).toNat dEnt.1)):=by
        unfold Cc
        rw[hG]
        dsimp only
        rw[R.ids,if_pos hc]
      have hl:=HK es (Bh t i) es.length
      have hpos:(es.getD (Cw es s.pl (Bh t i)).toNat dEnt.1).pos=Bh t i:=by rw[hF];exact Jb _ _ _ (by omega)
      have hS:F2 (s.ids++ [AX t i]):=NE R.asc (by rw[R.li];exact hc)
      have hni:AX t i∉s.ids:=fun h=>by
        have:=List.nodup_append.1 (Dx hS)
        exact this.2.2 _ h _ (List.mem_singleton.2 rfl) rfl
      refine .inr ⟨_,_,if_neg hn,hx,⟨congrArg (· ++ [AX t i]) R.ids,?_,?_,?_,fun p=> ?_,fun j hj=> ?_,fun k hk=> ?_,fun j hj=> ?_,?_,hS,fun e he=> ?_,fun j hj=> ?_⟩⟩
      · show(s.ids++ [_]).length=_;rw[List.length_append,R.li];rfl
      · show(s.pl++ [_]).length=_;rw[List.length_append,R.lp];rfl
      · show(s.en++ [_]).length=_;rw[List.length_append,R.le];rfl
      · show updM x.G _ none p=if p∈s.pl++ [Bh t i]then _ else _
        unfold updM
        rw[hpos]
        by_cases e:p=Bh t i
        · rw[if_pos e,if_pos (by rw[e];simp)]
        · rw[if_neg e,R.G p]
          by_cases hq:p∈s.pl
          · rw[if_pos hq,if_pos (by simp[hq])]
          · rw[if_neg hq,if_neg (by simp[hq,e])]
      · show updM x.M (AX t i) (some _) ((s.ids++ [AX t i]).getD j [])=some ((s.en++ [_]).getD j dEnt.1)
        unfold updM
        by_cases e:j=i
        · subst e
          rw[CQ R.li,CQ R.le,if_pos rfl]
        · have hji:j<i:=by omega
          rw[CP (by rw[R.li];omega),CP (by rw[R.le];omega),if_neg (fun h=>hni (by rw[←h];exact getD_mem [] (by rw[R.li];omega)))]
          exact R.M j hji
      · show updM x.M (AX t i) (some _) k=none
        have hk:k∉s.ids++ [AX t i]:=hk
        rw[List.mem_append,not_or,List.mem_singleton]at hk
        unfold updM
        rw[if_neg hk.2]
        exact R.N k hk.1
      · show((s.en++ [_]).getD j dEnt.1).pos=(s.pl++ [_]).getD j 0
        by_cases e:j=i
        · subst e
          rw[CQ R.le,CQ R.lp,hpos]
        · rw[CP (by rw[R.le];omega),CP (by rw[R.lp];omega)]
          exact R.pos j (by omega)
      · show(s.pl++ [Bh t i]).Nodup
        exact List.nodup_append.2 ⟨R.nd,by simp,fun a ha b hb e=>hp (by rw[←List.mem_singleton.1 hb,←e];exact ha)⟩
      · have he:e∈s.en++ [_]:=he
        rcases List.mem_append.1 he with he | he
        · exact R.mem e he
        · rw[List.mem_singleton.1 he]
          exact getD_mem dEnt.1 (by omega)
      · show(s.ids++ [_]).getD j []=_∧(s.pl++ [_]).getD j 0=_
        by_cases e:j=i
        · subst e
          exact⟨CQ R.li,CQ R.lp⟩
        · rw[CP (by rw[R.li];omega),CP (by rw[R.lp];omega)]
          exact R.rid j (by omega)
    · refine .inl ⟨if_pos (.inr (by omega)),?_⟩
      unfold Cc
      rw[hG]
      dsimp only
      rw[R.ids,if_neg hc]
theorem Rf(t:Bs)(es:List Ent):RxRel t es 0 ⟨[],[],[]⟩ ⟨[],CB Ent.pos dEnt.1 es es.length,fun _=>none⟩:=
  ⟨rfl,rfl,rfl,rfl,fun p=>rfl,fun j hj=>absurd hj (Nat.not_lt_zero _),fun _ _=>rfl,fun j hj=>absurd hj (Nat.not_lt_zero _),List.nodup_nil,List.Pairwise.nil,fun e he=>(by cases he),fun j hj=>absurd hj (Nat.not_lt_zero _)⟩
theorem Jc(t:Bs)(es:List Ent):∀i,(D7 t es i=none∧CX Ent.pos dEnt.1 t es i=none)∨∃s x,D7 t es i=some s∧CX Ent.pos dEnt.1 t es i=some x∧RxRel t es i s x
  | 0=> .inr ⟨_,_,rfl,rfl,Rf t es⟩
  | i+1=>by
    rcases Jc t es i with ⟨h1,h2⟩ | ⟨s,x,h1,h2,R⟩
    · exact .inl ⟨F1 h1 _ (Nat.le_succ i),DM h2 1⟩
    · rw[Kc h1,Ey h2]
      exact R.next
end Go.Proofs.YtcegdjpdnlaleaaDoor
