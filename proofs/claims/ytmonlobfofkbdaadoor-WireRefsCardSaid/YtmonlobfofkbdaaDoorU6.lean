/- Part 6 of what stands behind these statements: laws and walks of the functions that are reached. Conditions: those that each theorem names. -/
import Derived.Test.YtmonlobfofkbdaaDoorU5
set_option linter.unusedVariables false
set_option linter.unusedSimpArgs false
namespace Go.Proofs.YtmonlobfofkbdaaDoor
open Go.RowKit
set_option maxRecDepth 100000
structure Ns (n : Nat) (X : Am) : Prop where
 refs:∀k,Value.ownBlock X.2.refs=some k→n≤k
 wants:∀k,Value.ownBlock X.2.wants=some k→n≤k
 haves:∀k,Value.ownBlock X.2.haves=some k→n≤k
 bytes:∀k,Value.ownBlock X.2.bytes=some k→n≤k
theorem L7(v:Value):ApartV (.slice none 0 0) v:=fun k h=>by cases h
theorem KI(v:Value):ApartV v (.slice none 0 0):=fun k _ h=>by cases h
theorem Nt{d:Option Tmp}{ty:TypeId}{pos:String}{af:Array Edge}{gd:Option (Nat × Bool)}(σ:Operand→Value)(w:World):(execOp σ ⟨d, .alloc 29,ty,pos,af,gd⟩).run Tryd.prog w = .ok (.value (PQ w.heap.size 0)) (w.alloc (.cells (msgC ((⟨0,0,[],[],[],0,0,zid,[],[],zid,zid,false,0⟩,⟨.slice none 0 0, .slice none 0 0, .slice none 0 0, .slice none 0 0⟩):Am)).toArray 29)):=by kernel_rfl
theorem FP:AG Tryd.prog 111:=fun _ _=>by kernel_rfl
theorem Nu:(Tryd.prog.info? 4).map (·.size)=some 1:=by kernel_rfl
theorem L8:(Tryd.prog.info? 27).map (·.size)=some 1:=by kernel_rfl
set_option maxHeartbeats 3200000
theorem KJ{w0 w:World}{r:Nat}{v:Value}{b:Bs}(f:Ext w0 w)(hb:w.heap[r]? =some (.cells (AU (AD v b (0))).toArray 111 (0,0)))(hr:RB w0 v b)(lr:w0.heap.size≤r)(hl:b.length≤4611686018427387904):
  Calls Tryd.prog 67 #[PQ r 0] w fun e w' =>(∃x,e = .returned x∧∃X:Am,Dm b=some X.1∧x = .agg (msgC X).toArray∧MsgAt w' X∧Ns w0.heap.size X∧Ext w0 w')∨∃ch,e = .panicked ch∧Dm b=none∧ch= [BB]∧Ext w0 w' :=by
 have nf:=f.size
 have hlr:=(bl hb)
 have hapr:b= []∨OB v r:=by
   rcases b with _ | ⟨b0,b1⟩
   ·exact .inl rfl
   ·exact .inr fun e=>by have:=RB.lt hr (by simp) e;omega
 refine Bt (args:= [PQ r 0]) Tryd.func67 rfl 95 rfl (Nat.le_of_ble_eq_true rfl) ?_
 intro gb hb
 have T0:gb 0=(PQ r 0:Value):=hb.get 0
 clear hb
 have hE:=Ext.refl w
 refine sk fun K1 gc=>(wt (oS rfl (Yk.box1 T0 rfl fun n2 w3 ge eg ct nh=> ?_)))
 have cu:=Ext.refl w
 have ni:=hE.size
 have nj:=f.size
 have nk:=Bn (bl hb) ge
 have f:=f.trans ct
 have hb:=eb ct hb
 have hE:=hE.trans ct
 have cu:=cu.trans ct
 have l:=eg;clear eg
 have nl:n2<w3.heap.size:=by omega
 refine oS rfl (Yk.alloc (cs:=(msgC ((⟨0,0,[],[],[],0,0,zid,[],[],zid,zid,false,0⟩,⟨.slice none 0 0, .slice none 0 0, .slice none 0 0, .slice none 0 0⟩):Am)).toArray) Nt fun y gf eh ei dt nm=> ?_)
 have nn:=hE.size
 have du:=f.size
 have no:=cu.size
 have np:=Bn (bl hb) eh
 have nq:=Bn (bl l) eh
 have f:=f.trans dt
 have hb:=eb dt hb
 have l:=eb dt l
 have j:=ei;clear ei
 have nr:y<gf.heap.size:=by omega
 refine oZ (tN (gc _ _ (sk fun ns ej=>(wt (oS rfl (Yk.cell1 Ea rfl (vr (PQ n2 0) rfl) (Ac l (show _=some (PQ r 0:Value)from rfl)) (oP rfl (Yp.callA1 Nq (vr (PQ r 0) rfl) ?_))))))))
 refine Ar (Hk _ r v b 0 hb (hr.keep f) hapr (Nat.zero_le _) hl) ?_ ?_
 rotate_left
 ·
  rintro ch nt ⟨hPx,rfl,hgx⟩
  refine Aq (postP_panic ?_)
  exact .inr ⟨_,rfl,by unfold Dm;rw[hPx];rfl,rfl,(Ae f hgx lr)⟩
 rintro v_ nu ⟨c1,j1,hP1,rfl,el,dv⟩
 have f:=Ae f dv (Nat.le_trans (Nat.le_refl _) lr)
 clear hb
 clear hE
 clear cu
 have l:=kb dv l (by omega)
 have j:=kb dv j (by omega)
 have hb:=el;clear el
 have hle_j1:=Hi hP1
 have nv:=bl hb
 refine oS rfl (Yk.fieldAt HW (vr (PQ y 0) rfl) (oS rfl (Yk.storeC (i:=0) (v:=B8 (c1)) (vr (PQ y 0) rfl) (vr (B8 (c1)) rfl) j (by rw[Az];decide) PG rfl rfl fun al em dw nw=> ?_)))
 have f:=Ae f dw (Nat.le_trans du (by omega))
 have l:=kb dw l (by omega)
 clear j
 have hb:=kb dw hb (by omega)
 have j:al.heap[y]? =some (.cells (msgC ((⟨c1,0,[],[],[],0,0,zid,[],[],zid,zid,false,0⟩,⟨(Value.slice none 0 0),(Value.slice none 0 0),(Value.slice none 0 0),(Value.slice none 0 0)⟩):Am)).toArray 29 (0,0)):=Bf em (Py ((⟨0,0,[],[],[],0,0,zid,[],[],zid,zid,false,0⟩,⟨.slice none 0 0, .slice none 0 0, .slice none 0 0, .slice none 0 0⟩):Am) c1);clear em
 have nx:=bl j
 refine oZ ?_
 rcases hK:AT c1 with _ | p
 ·refine tN (ej _ _ (sk fun ny gg=> ?_))
  have nz:=f.size
  have n0:n2<al.heap.size:=(bl l)
  have n1:r<al.heap.size:=(bl hb)
  have n3:y<al.heap.size:=(bl j)
  refine Du 0 7 8 9 92 (partsC (⟨false,false,false,false,false,false,false,false⟩:Ag)).toArray (partsC Bl).toArray [fun x w' =>∃b,x = .map (some b)∧MapF B8 AA (fun _:UInt8=>True) w' b AT,Is (PQ y 0),Is (B8 (c1)),Is (.tuple #[.agg (partsC Bl).toArray, .bool (false)]),Is (.tuple #[.agg (partsC Bl).toArray, .bool (false)]),Is (.agg (partsC Bl).toArray),Is (.bool (false)),RowK al 92 8,(fun _ _=>True)] (by kernel_rfl) [10,11,12,13,9,14,15,3,4] (by kernel_rfl) (by kernel_rfl) (by kernel_rfl) (by kernel_rfl) rfl rfl (by kernel_rfl) rfl rfl rfl rfl rfl rfl rfl ⟨(fun _ _ _ ⟨b,h1,h2⟩ k=>⟨b,h1,MapF.stabK h2 k⟩),Stab.is _,Stab.is _,Stab.is _,Stab.is _,Stab.is _,Stab.is _,RowK.stab _ _ _,Stab.any,trivial⟩ rfl ?gh ?hQ1002
  case gh=>
   refine⟨?_,?_,?_,?_,?_,?_,?_,?_,?_,?_,trivial⟩
   ·refine Av (Aa rfl fun σ w1 hC h=> ?_)
    have hC:Ext al w1:=hC
    refine Yk.callA0 JM ((Ca _).mono ?_)
    rintro e w2 ⟨b,rfl,hmk,hx,hom⟩
    exact⟨_,rfl,⟨hx,hom⟩,⟨b,rfl,hmk⟩⟩
   ·refine Av (Aa rfl fun σ w1 hC h=> ?_)
    have hC:Ext al w1:=hC
    have e2:σ 2=PQ y 0:=(Ad (h 2 (by decide))).trans rfl
    exact Yk.fieldAt HW e2 ⟨rfl,rfl⟩
   ·refine Av (Aa rfl fun σ w1 hC h=> ?_)
    have hC:Ext al w1:=hC
    have dx:=Ad (h 11 (by decide))
    exact Yk.cell1 u5 rfl dx (Ac (eb hC j) (show(msgC ((⟨c1,0,[],[],[],0,0,zid,[],[],zid,zid,false,0⟩,⟨(Value.slice none 0 0),(Value.slice none 0 0),(Value.slice none 0 0),(Value.slice none 0 0)⟩):Am))[0]? =some (B8 (c1):Value)from BS ((⟨c1,0,[],[],[],0,0,zid,[],[],zid,zid,false,0⟩,⟨(Value.slice none 0 0),(Value.slice none 0 0),(Value.slice none 0 0),(Value.slice none 0 0)⟩):Am))) ⟨rfl,rfl⟩
   ·refine Av (Aa rfl fun σ w1 hC h=> ?_)
    have hC:Ext al w1:=hC
    have dy:(fun x w' =>∃b,x = .map (some b)∧MapF B8 AA (fun _:UInt8=>True) w' b AT) (σ 10) w1:=h 10 (by decide)
    have dz:=Ad (h 12 (by decide))
    obtain⟨b6,k6,m6⟩:=(show ∃b,σ 10 = .map (some b)∧MapF B8 AA (fun _:UInt8=>True) w1 b AT from dy)
    exact Yk.lookOkN (ek:=B8) (ev:=AA) (D:=fun _:UInt8=>True) Cn Co (fun _ _=>C2) CG (z:=AA Bl) B9 k6 dz m6 trivial hK ⟨rfl,rfl⟩
   ·refine Av (Aa rfl fun σ w1 hC h=> ?_)
    have hC:Ext al w1:=hC
    have d0:=Ad (h 13 (by decide))
    exact Yk.move d0 ⟨rfl,rfl⟩
   ·refine Av (Aa rfl fun σ w1 hC h=> ?_)
    have hC:Ext al w1:=hC
    have e9:=Ad (h 9 (by decide))
    exact Yk.extract (vs:= [.agg (partsC Bl).toArray, .bool (false)]) e9 (show _=some (.agg (partsC Bl).toArray:Value)from rfl) ⟨rfl,rfl⟩
   ·refine Av (Aa rfl fun σ w1 hC h=> ?_)
    have hC:Ext al w1:=hC
    have e9:=Ad (h 9 (by decide))
    exact Yk.extract (vs:= [.agg (partsC Bl).toArray, .bool (false)]) e9 (show _=some (.bool (false):Value)from rfl) ⟨rfl,rfl⟩
   ·refine Av (Aa rfl fun σ w1 hC h=> ?_)
    have hC:DT al w1:=hC
    exact Yk.allocX JN ⟨⟨hC,rfl⟩,w1.heap.size,_,rfl,hC.1.size,heap_alloc_new _ _,rfl⟩
   ·refine Av (Aa rfl fun σ w1 hC h=> ?_)
    have hC:Dy al w1:=hC
    have e3:(RowK al 92 8) (σ 3) w1:=h 3 (by decide)
    have d8:=Ad (h 14 (by decide))
    obtain⟨g,cs,h1,h2,h3,h4⟩:=e3
    exact Yk.storeAll h1 d8 (show _=some (Obj.cells cs.toList.toArray 92 (0,0)) by simpa using h3) (by rw[show cs.toList.toArray=cs by simp,h4];rfl) (show(Tryd.prog.info? 92).map (·.size)=some 8 from Gj) (B7) fun w2 a b c=>⟨⟨hC,g,cs,h2,h3,(by rw[h4];rfl),a,b,c⟩,trivial⟩
   ·exact trivial
  intro en gi cv hun55 he hf
  obtain⟨-,-,-,-,-,-,k15,k3,-⟩:=hf
  obtain⟨T0,q,s,-⟩:=he.hold [(0,_),(1,PQ n2 0),(2,PQ y 0)] ⟨T0,rfl,rfl,trivial⟩ rfl
  clear he
  have f:=f.trans cv
  have l:=eb cv l
  have hb:=eb cv hb
  have j:=eb cv j
  obtain⟨gj,cs_,o,gk,eo,n4⟩:=(show(RowK al 92 8) (en 3) gi from k3)
  obtain rfl:=hun55 gj cs_ _ _ gk eo
  clear k3
  have n5:=bl eo
  have a4:en 15 = .bool (false):=k15
  clear k15
  refine oA rfl (oZ (tN (gg _ _ (sk fun n6 n7=>(wt (oM rfl (oP rfl (Yp.callA1 Cr a4 ?_))))))))
  refine Ar (AQ _ (false)) ?_ ?_
  rotate_left
  ·
   rintro ch n8 ⟨rfl,hb,hx⟩
   refine Aq (postP_panic ?_)
   exact .inr ⟨_,rfl,by unfold Dm;simp[hP1,hK],rfl,f.trans hx⟩
  rintro v_ n9 ⟨rfl,gl,oa⟩
  cases gl
 refine tN (ej _ _ (sk fun ob gm=> ?_))
 have oc:=f.size
 have od:n2<al.heap.size:=(bl l)
 have oe:r<al.heap.size:=(bl hb)
 have og:y<al.heap.size:=(bl j)
 refine Du 0 7 8 9 92 (partsC (⟨false,false,false,false,false,false,false,false⟩:Ag)).toArray (partsC p).toArray [fun x w' =>∃b,x = .map (some b)∧MapF B8 AA (fun _:UInt8=>True) w' b AT,Is (PQ y 0),Is (B8 (c1)),Is (.tuple #[.agg (partsC p).toArray, .bool (true)]),Is (.tuple #[.agg (partsC p).toArray, .bool (true)]),Is (.agg (partsC p).toArray),Is (.bool (true)),RowK al 92 8,(fun _ _=>True)] (by kernel_rfl) [10,11,12,13,9,14,15,3,4] (by kernel_rfl) (by kernel_rfl) (by kernel_rfl) (by kernel_rfl) rfl rfl (by kernel_rfl) rfl rfl rfl rfl rfl rfl rfl ⟨(fun _ _ _ ⟨b,h1,h2⟩ k=>⟨b,h1,MapF.stabK h2 k⟩),Stab.is _,Stab.is _,Stab.is _,Stab.is _,Stab.is _,Stab.is _,RowK.stab _ _ _,Stab.any,trivial⟩ rfl ?gn ?hQ2002
 case gn=>
  refine⟨?_,?_,?_,?_,?_,?_,?_,?_,?_,?_,trivial⟩
  ·refine Av (Aa rfl fun σ w1 hC h=> ?_)
   have hC:Ext al w1:=hC
   refine Yk.callA0 JM ((Ca _).mono ?_)
   rintro e w2 ⟨b,rfl,hmk,hx,hom⟩
   exact⟨_,rfl,⟨hx,hom⟩,⟨b,rfl,hmk⟩⟩
  ·refine Av (Aa rfl fun σ w1 hC h=> ?_)
   have hC:Ext al w1:=hC
   have e2:σ 2=PQ y 0:=(Ad (h 2 (by decide))).trans rfl
   exact Yk.fieldAt HW e2 ⟨rfl,rfl⟩
  ·refine Av (Aa rfl fun σ w1 hC h=> ?_)
   have hC:Ext al w1:=hC
   have dx:=Ad (h 11 (by decide))
   exact Yk.cell1 u5 rfl dx (Ac (eb hC j) (show(msgC ((⟨c1,0,[],[],[],0,0,zid,[],[],zid,zid,false,0⟩,⟨(Value.slice none 0 0),(Value.slice none 0 0),(Value.slice none 0 0),(Value.slice none 0 0)⟩):Am))[0]? =some (B8 (c1):Value)from BS ((⟨c1,0,[],[],[],0,0,zid,[],[],zid,zid,false,0⟩,⟨(Value.slice none 0 0),(Value.slice none 0 0),(Value.slice none 0 0),(Value.slice none 0 0)⟩):Am))) ⟨rfl,rfl⟩
  ·refine Av (Aa rfl fun σ w1 hC h=> ?_)
   have hC:Ext al w1:=hC
   have dy:(fun x w' =>∃b,x = .map (some b)∧MapF B8 AA (fun _:UInt8=>True) w' b AT) (σ 10) w1:=h 10 (by decide)
   have dz:=Ad (h 12 (by decide))
   obtain⟨b6,k6,m6⟩:=(show ∃b,σ 10 = .map (some b)∧MapF B8 AA (fun _:UInt8=>True) w1 b AT from dy)
   exact Yk.lookOkS (ek:=B8) (ev:=AA) (D:=fun _:UInt8=>True) Cn Co (fun _ _=>C2) CG (z:=AA Bl) B9 k6 dz m6 trivial hK ⟨rfl,rfl⟩
  ·refine Av (Aa rfl fun σ w1 hC h=> ?_)
   have hC:Ext al w1:=hC
   have d0:=Ad (h 13 (by decide))
   exact Yk.move d0 ⟨rfl,rfl⟩
  ·refine Av (Aa rfl fun σ w1 hC h=> ?_)
   have hC:Ext al w1:=hC
   have e9:=Ad (h 9 (by decide))
   exact Yk.extract (vs:= [.agg (partsC p).toArray, .bool (true)]) e9 (show _=some (.agg (partsC p).toArray:Value)from rfl) ⟨rfl,rfl⟩
  ·refine Av (Aa rfl fun σ w1 hC h=> ?_)
   have hC:Ext al w1:=hC
   have e9:=Ad (h 9 (by decide))
   exact Yk.extract (vs:= [.agg (partsC p).toArray, .bool (true)]) e9 (show _=some (.bool (true):Value)from rfl) ⟨rfl,rfl⟩
  ·refine Av (Aa rfl fun σ w1 hC h=> ?_)
   have hC:DT al w1:=hC
   exact Yk.allocX JN ⟨⟨hC,rfl⟩,w1.heap.size,_,rfl,hC.1.size,heap_alloc_new _ _,rfl⟩
  ·refine Av (Aa rfl fun σ w1 hC h=> ?_)
   have hC:Dy al w1:=hC
   have e3:(RowK al 92 8) (σ 3) w1:=h 3 (by decide)
   have d8:=Ad (h 14 (by decide))
   obtain⟨g,cs,h1,h2,h3,h4⟩:=e3
   exact Yk.storeAll h1 d8 (show _=some (Obj.cells cs.toList.toArray 92 (0,0)) by simpa using h3) (by rw[show cs.toList.toArray=cs by simp,h4];rfl) (show(Tryd.prog.info? 92).map (·.size)=some 8 from Gj) (B7) fun w2 a b c=>⟨⟨hC,g,cs,h2,h3,(by rw[h4];rfl),a,b,c⟩,trivial⟩
  ·exact trivial
 intro ep go cw hun78 he hf
 obtain⟨-,-,-,-,-,-,k15,k3,-⟩:=hf
 obtain⟨T0,q,s,-⟩:=he.hold [(0,_),(1,PQ n2 0),(2,PQ y 0)] ⟨T0,rfl,rfl,trivial⟩ rfl
 clear he
 have f:=f.trans cw
 have l:=eb cw l
 have hb:=eb cw hb
 have j:=eb cw j
 obtain⟨t,cs_,o,gp,n,oh⟩:=(show(RowK al 92 8) (ep 3) go from k3)
 obtain rfl:=hun78 t cs_ _ _ gp n
 clear k3
 have oi:=bl n
 have a4:ep 15 = .bool (true):=k15
 clear k15
 refine oA rfl (oZ (tN (gm _ _ (sk fun oj gq=>(wt (oM rfl (oP rfl (Yp.callA1 Cr a4 ?_))))))))
 refine Ar (AQ _ (true)) ?_ ?_
 rotate_left
 ·
  rintro ch ok ⟨rfl,hb,hx⟩
  refine Aq (postP_panic ?_)
  cases hb
 rintro v_ ol ⟨rfl,om,b8⟩
 have f:=f.trans b8
 have l:=eb b8 l
 have hb:=eb b8 hb
 have j:=eb b8 j
 have n:=eb b8 n
 refine oZ (tN (gq _ _ (sk fun on bt=>(wt (oS rfl (Yk.cell1 Ea rfl q (Ac l (show _=some (PQ r 0:Value)from rfl)) (oP rfl (Yp.callA1 Gt (vr (PQ r 0) rfl) ?_))))))))
 refine Ar (Ch _ r v b j1 hb (hr.keep f) hapr hle_j1 hl) ?_ ?_
 rotate_left
 ·
  rintro ch oo ⟨hPx,rfl,hgx⟩
  refine Aq (postP_panic ?_)
  exact .inr ⟨_,rfl,by unfold Dm;simp[hP1,hPx],rfl,(Ae f hgx lr)⟩
 rintro v_ op ⟨c2,j2,hP2,rfl,eq,cx⟩
 have f:=Ae f cx (Nat.le_trans (Nat.le_refl _) lr)
 have l:=kb cx l (by omega)
 clear hb
 have j:=kb cx j (by omega)
 have n:=kb cx n (by omega)
 have hb:=eq;clear eq
 have hle_j2:=Dk hle_j1 hP2
 have oq:=bl hb
 refine oS rfl (Yk.fieldAt LM s (oS rfl (Yk.storeC (i:=1) (v:=NI c2) (vr (PQ y 1) rfl) (vr (NI c2) rfl) j (by rw[Az];decide) C1 rfl rfl fun gr er cy os=> ?_)))
 have f:=Ae f cy (Nat.le_trans du (by omega))
 have l:=kb cy l (by omega)
 clear j
 have n:=kb cy n (by omega)
 have hb:=kb cy hb (by omega)
 have j:gr.heap[y]? =some (.cells (msgC ((⟨c1,((c2:Nat):Int),[],[],[],0,0,zid,[],[],zid,zid,false,0⟩,⟨(Value.slice none 0 0),(Value.slice none 0 0),(Value.slice none 0 0),(Value.slice none 0 0)⟩):Am)).toArray 29 (0,0)):=Bf er (Pz ((⟨c1,0,[],[],[],0,0,zid,[],[],zid,zid,false,0⟩,⟨(Value.slice none 0 0),(Value.slice none 0 0),(Value.slice none 0 0),(Value.slice none 0 0)⟩):Am) ((c2:Nat):Int));clear er
 have ot:=bl j
 refine oZ ?_
 rcases EQ hK with ⟨hk,rfl⟩ | ⟨hk,rfl⟩ | ⟨hk,rfl⟩ | ⟨hk,rfl⟩ | ⟨hk,rfl⟩ | ⟨hk,rfl⟩ | ⟨hk,rfl⟩ | ⟨hk,rfl⟩
 ·have hD:=Dl hP1 hK hP2
  rw[Na (m:=(⟨c1,((c2:Nat):Int),[],[],[],0,0,zid,[],[],zid,zid,false,0⟩:Msg)) hk]at hD
  refine tN (bt _ _ (sk fun ou gs=>(sk fun ov gt=>(wt (oS rfl (Yk.fieldAt LF o (oS rfl (Yk.cell1 CS rfl (vr (PQ t 0) rfl) (Ac n (show(partsC (⟨false,false,false,false,false,false,false,false⟩:Ag))[0]? =some (.bool (false):Value)from BH (⟨false,false,false,false,false,false,false,false⟩:Ag))) (oZ (tN (gt _ _ (Al (vr (.bool (false)) rfl) (Ak (tN (gs _ _ (sk fun ow gu=>(sk fun ox gv=>(wt (oS rfl (Yk.fieldAt LG o (oS rfl (Yk.cell1 CS rfl (vr (PQ t 1) rfl) (Ac n (show(partsC (⟨false,false,false,false,false,false,false,false⟩:Ag))[1]? =some (.bool (false):Value)from BI (⟨false,false,false,false,false,false,false,false⟩:Ag))) ?_))))))))))))))))))))))
  refine oZ (tN (gv _ _ (Al (vr (.bool (false)) rfl) (Ak (tN (gu _ _ (sk fun oy gw=>(sk fun oz gx=>(wt (oS rfl (Yk.fieldAt LH o (oS rfl (Yk.cell1 CS rfl (vr (PQ t 2) rfl) (Ac n (show(partsC (⟨false,false,false,false,false,false,false,false⟩:Ag))[2]? =some (.bool (false):Value)from BJ (⟨false,false,false,false,false,false,false,false⟩:Ag))) (oZ (tN (gx _ _ (Al (vr (.bool (false)) rfl) (Ak (tN (gw _ _ (sk fun o0 gy=> ?_)))))))))))))))))))))
  refine sk fun o1 gz=>(wt (oS rfl (Yk.fieldAt LI o (oS rfl (Yk.cell1 CS rfl (vr (PQ t 3) rfl) (Ac n (show(partsC (⟨false,false,false,false,false,false,false,false⟩:Ag))[3]? =some (.bool (false):Value)from BK (⟨false,false,false,false,false,false,false,false⟩:Ag))) (oZ (tN (gz _ _ (Al (vr (.bool (false)) rfl) (Ak (tN (gy _ _ (sk fun o2 g0=>(sk fun o3 g1=>(wt (oS rfl (Yk.fieldAt LJ o (oS rfl (Yk.cell1 CS rfl (vr (PQ t 4) rfl) (Ac n (show(partsC (⟨false,false,false,false,false,false,false,false⟩:Ag))[4]? =some (.bool (false):Value)from BL (⟨false,false,false,false,false,false,false,false⟩:Ag))) (oZ (tN (g1 _ _ ?_))))))))))))))))))))))
  refine Al (vr (.bool (false)) rfl) (Ak (tN (g0 _ _ (sk fun o4 g2=>(sk fun o5 g3=>(wt (oS rfl (Yk.fieldAt HT o (oS rfl (Yk.cell1 CS rfl (vr (PQ t 5) rfl) (Ac n (show(partsC (⟨false,false,false,false,false,false,false,false⟩:Ag))[5]? =some (.bool (false):Value)from Bv (⟨false,false,false,false,false,false,false,false⟩:Ag))) (oZ (tN (g3 _ _ (Al (vr (.bool (false)) rfl) (Ak (tN (g2 _ _ (sk fun o6 g4=>(sk fun o7 g5=>(wt ?_))))))))))))))))))))
  refine oS rfl (Yk.fieldAt HU o (oS rfl (Yk.cell1 CS rfl (vr (PQ t 6) rfl) (Ac n (show(partsC (⟨false,false,false,false,false,false,false,false⟩:Ag))[6]? =some (.bool (false):Value)from Bw (⟨false,false,false,false,false,false,false,false⟩:Ag))) (oZ (tN (g5 _ _ (Al (vr (.bool (false)) rfl) (Ak (tN (g4 _ _ (sk fun o8 es=>(sk fun o9 et=>(wt (oS rfl (Yk.fieldAt LL o (oS rfl (Yk.cell1 CS rfl (vr (PQ t 7) rfl) (Ac n (show(partsC (⟨false,false,false,false,false,false,false,false⟩:Ag))[7]? =some (.bool (false):Value)from Bx (⟨false,false,false,false,false,false,false,false⟩:Ag))) (oZ ?_))))))))))))))))))
  have hMl:CX (((⟨c1,((c2:Nat):Int),[],[],[],0,0,zid,[],[],zid,zid,false,0⟩,⟨(Value.slice none 0 0),(Value.slice none 0 0),(Value.slice none 0 0),(Value.slice none 0 0)⟩):Am):Am).1:=⟨by simp,fun u hu=>(by cases hu),by simp,by simp,by simp⟩
  by_cases hj:j2=b.length
  ·refine tN (et _ _ (Al (vr (.bool (false)) rfl) (Ak (tN (es _ _ (sk fun pa g6=> ?_))))))
   refine A3 14 _ [Is (PQ r 0),Is (PQ r 0),Is (PQ r 1),Is (NI j2),Is (PQ r 0),Is (PQ r 0),Is (PQ r 0),Is (v),Is (NI b.length),Is (.bool (true)),Is (.bool (true)),Is (.agg (msgC ((⟨c1,((c2:Nat):Int),[],[],[],0,0,zid,[],[],zid,zid,false,0⟩,⟨(Value.slice none 0 0),(Value.slice none 0 0),(Value.slice none 0 0),(Value.slice none 0 0)⟩):Am)).toArray),Is (.bool (rightB (((⟨c1,((c2:Nat):Int),[],[],[],0,0,zid,[],[],zid,zid,false,0⟩,⟨(Value.slice none 0 0),(Value.slice none 0 0),(Value.slice none 0 0),(Value.slice none 0 0)⟩):Am):Am).1)),Is (.bool (rightB (((⟨c1,((c2:Nat):Int),[],[],[],0,0,zid,[],[],zid,zid,false,0⟩,⟨(Value.slice none 0 0),(Value.slice none 0 0),(Value.slice none 0 0),(Value.slice none 0 0)⟩):Am):Am).1))] (by kernel_rfl) [79,80,81,82,83,84,85,86,87,88,89,90,91,92,93] (by kernel_rfl) (by kernel_rfl) (by kernel_rfl) rfl rfl rfl (fun _ _=>trivial) (Cz (Cc trivial)) ?g7 ?hQ3027
   case g7=>
    refine⟨?_,?_,?_,?_,?_,?_,?_,?_,?_,?_,?_,?_,?_,?_,?_,trivial⟩
    ·refine Ah (Aa rfl fun σ w1 hC h=> ?_)
     have e1:=(Ad (h 1 (by decide))).trans q
     exact Yk.cell1 Ea rfl e1 (Ac (eb hC l) (show _=some (PQ r 0:Value)from rfl)) ⟨Ext.refl _,rfl⟩
    ·refine Ah (Aa rfl fun σ w1 hC h=> ?_)
     have am:=Ad (h 79 (by decide))
     exact Yk.nilCheck am ⟨Ext.refl _,rfl⟩
    ·refine Ah (Aa rfl fun σ w1 hC h=> ?_)
     have an:=Ad (h 80 (by decide))
     exact Yk.fieldAt A4 an ⟨Ext.refl _,rfl⟩
    ·refine Ah (Aa rfl fun σ w1 hC h=> ?_)
     have ao:=Ad (h 81 (by decide))
     exact Yk.cell1 Fs rfl ao (Ac (eb hC hb) (show(AU (AD v b (j2)))[1]? =some (NI j2:Value)from BE (AD v b (j2)))) ⟨Ext.refl _,rfl⟩
    ·refine Ah (Aa rfl fun σ w1 hC h=> ?_)
     have e1:=(Ad (h 1 (by decide))).trans q
     exact Yk.cell1 Ea rfl e1 (Ac (eb hC l) (show _=some (PQ r 0:Value)from rfl)) ⟨Ext.refl _,rfl⟩
    ·refine Ah (Aa rfl fun σ w1 hC h=> ?_)
     have ap:=Ad (h 83 (by decide))
     exact Yk.nilCheck ap ⟨Ext.refl _,rfl⟩
    ·refine Ah (Aa rfl fun σ w1 hC h=> ?_)
     have aq:=Ad (h 84 (by decide))
     exact Yk.fieldAt BY aq ⟨Ext.refl _,rfl⟩
    ·refine Ah (Aa rfl fun σ w1 hC h=> ?_)
     have ar:=Ad (h 85 (by decide))
     exact Yk.cell1 Ff rfl ar (Ac (eb hC hb) (show(AU (AD v b (j2)))[0]? =some (v:Value)from BP (AD v b (j2)))) ⟨Ext.refl _,rfl⟩
    ·refine Ah (Aa rfl fun σ w1 hC h=> ?_)
     have au:=Ad (h 86 (by decide))
     exact Yk.lenRB Ff (RB.of (hr.keep (f.trans hC)) au) ⟨Ext.refl _,rfl⟩
    ·refine Ah (Aa rfl fun σ w1 hC h=> ?_)
     have av:=Ad (h 82 (by decide))
     have aw:=Ad (h 87 (by decide))
     exact Yk.eqI (a:=(j2:Nat)) (b:=(b.length:Nat)) av aw (k_eql _ _ _ _) ⟨Ext.refl _,(congrArg Value.bool (decide_eq_true (hj)))⟩
    ·refine Ah (Aa rfl fun σ w1 hC h=> ?_)
     have ax:=Ad (h 88 (by decide))
     exact Yk.move ax ⟨Ext.refl _,rfl⟩
    ·refine Ah (Bg 10 true 89 rfl rfl (fun _ _ h=>h) fun σ w1 hC h=> ?_)
     have e2:=(Ad (h 2 (by decide))).trans s
     exact Yk.loadAll e2 (eb hC j) (N6).choose_spec rfl (AF (Az ((⟨c1,((c2:Nat):Int),[],[],[],0,0,zid,[],[],zid,zid,false,0⟩,⟨(Value.slice none 0 0),(Value.slice none 0 0),(Value.slice none 0 0),(Value.slice none 0 0)⟩):Am)) MQ) ⟨Ext.refl _,rfl⟩
    ·refine Ah (Bg 10 true 89 rfl rfl (fun _ _ h=>h) fun σ w1 hC h=> ?_)
     have a5:=Ad (h 90 (by decide))
     refine Yk.callA1 Oj a5 ((CC _ ((⟨c1,((c2:Nat):Int),[],[],[],0,0,zid,[],[],zid,zid,false,0⟩,⟨(Value.slice none 0 0),(Value.slice none 0 0),(Value.slice none 0 0),(Value.slice none 0 0)⟩):Am) (MsgAt.mk (RG.nil _ _ _) (RG.nil _ _ _) (RG.nil _ _ _) (RB.nil _)) hMl).mono ?_)
     rintro e w2 ⟨rfl,hx⟩
     exact⟨_,rfl,hx,rfl⟩
    ·refine Ah (Aa rfl fun σ w1 hC h=> ?_)
     have ay:=Ad (h 89 (by decide))
     have a6:=Ad (h 91 (by decide))
     exact Yk.pickT ay a6 ⟨Ext.refl _,rfl⟩
    ·exact trivial
   intro g8 pb b9 he hf
   obtain⟨-,-,-,-,-,-,-,-,-,-,-,-,-,k92,-⟩:=hf
   obtain⟨T0,q,s,o,T4,ad,ae,af,ag,ah,ai,aj,az,-⟩:=he.hold [(0,_),(1,_),(2,_),(3,_),(4,_),(22, .bool (false)),(27, .bool (false)),(35, .bool (false)),(40, .bool (false)),(45, .bool (false)),(50, .bool (false)),(56, .bool (false)),(75, .bool (false))] ⟨T0,q,s,o,a4,rfl,rfl,rfl,rfl,rfl,rfl,rfl,rfl,trivial⟩ rfl
   clear he
   have f:=f.trans b9
   have l:=eb b9 l
   have n:=eb b9 n
   have hb:=eb b9 hb
   have j:=eb b9 j
   have a0:g8 92 = .bool (rightB (((⟨c1,((c2:Nat):Int),[],[],[],0,0,zid,[],[],zid,zid,false,0⟩,⟨(Value.slice none 0 0),(Value.slice none 0 0),(Value.slice none 0 0),(Value.slice none 0 0)⟩):Am):Am).1):=k92
   clear k92
   refine Yp.callA1 Cr a0 ?_
   refine Ar (AQ _ (rightB (((⟨c1,((c2:Nat):Int),[],[],[],0,0,zid,[],[],zid,zid,false,0⟩,⟨(Value.slice none 0 0),(Value.slice none 0 0),(Value.slice none 0 0),(Value.slice none 0 0)⟩):Am):Am).1)) ?_ ?_
   rotate_left
   ·
    rintro ch pc ⟨rfl,hb,hx⟩
    refine Aq (postP_panic ?_)
    exact .inr ⟨_,rfl,by rw[hD];simp only[Option.bind_some];refine if_neg ?_;rintro⟨h1,h2⟩;exact Bool.noConfusion (h2.symm.trans hb),rfl,f.trans hx⟩
   rintro v_ pd ⟨rfl,g9,ca⟩
   have f:=f.trans ca
   have l:=eb ca l
   have n:=eb ca n
   have hb:=eb ca hb
   have j:=eb ca j
   intro bb bc
   have T0:bb 0=(PQ r 0:Value):=(bc 0 (by decide)).trans T0
   have q:bb 1=(PQ n2 0:Value):=(bc 1 (by decide)).trans q
   have s:bb 2=(PQ y 0:Value):=(bc 2 (by decide)).trans s
   have o:bb 3=(PQ t 0:Value):=(bc 3 (by decide)).trans o
   have T4:bb 4=(.bool (true):Value):=(bc 4 (by decide)).trans T4
   have ad:bb 22=(.bool (false):Value):=(bc 22 (by decide)).trans ad
   have ae:bb 27=(.bool (false):Value):=(bc 27 (by decide)).trans ae
   have af:bb 35=(.bool (false):Value):=(bc 35 (by decide)).trans af
   have ag:bb 40=(.bool (false):Value):=(bc 40 (by decide)).trans ag
   have ah:bb 45=(.bool (false):Value):=(bc 45 (by decide)).trans ah
   have ai:bb 50=(.bool (false):Value):=(bc 50 (by decide)).trans ai
   have aj:bb 56=(.bool (false):Value):=(bc 56 (by decide)).trans aj
   have az:bb 75=(.bool (false):Value):=(bc 75 (by decide)).trans az
   refine tN (g6 _ _ (sk fun pe ha=>(wt (oS rfl (Yk.loadAll s j (N6).choose_spec rfl (AF (Az ((⟨c1,((c2:Nat):Int),[],[],[],0,0,zid,[],[],zid,zid,false,0⟩,⟨(Value.slice none 0 0),(Value.slice none 0 0),(Value.slice none 0 0),(Value.slice none 0 0)⟩):Am)) MQ) (oS rfl (Yk.storeAll s (vr (.agg (msgC ((⟨c1,((c2:Nat):Int),[],[],[],0,0,zid,[],[],zid,zid,false,0⟩,⟨(Value.slice none 0 0),(Value.slice none 0 0),(Value.slice none 0 0),(Value.slice none 0 0)⟩):Am)).toArray) rfl) j (by simp only[List.size_toArray,Az]) (AF (Az _) MQ) (CP (x:=((⟨c1,((c2:Nat):Int),[],[],[],0,0,zid,[],[],zid,zid,false,0⟩,⟨(Value.slice none 0 0),(Value.slice none 0 0),(Value.slice none 0 0),(Value.slice none 0 0)⟩):Am)) rfl rfl rfl rfl) fun hc eu cz pf=> ?_)))))))
   have f:=Ae f cz (Nat.le_trans du (by omega))
   have l:=kb cz l (by omega)
   have n:=kb cz n (by omega)
   have hb:=kb cz hb (by omega)
   clear j
   have j:hc.heap[y]? =some (.cells (msgC ((⟨c1,((c2:Nat):Int),[],[],[],0,0,zid,[],[],zid,zid,false,0⟩,⟨(Value.slice none 0 0),(Value.slice none 0 0),(Value.slice none 0 0),(Value.slice none 0 0)⟩):Am)).toArray 29 (0,0)):=eu;clear eu
   have pg:=bl j
   refine oZ (tN (ha _ _ (Ap (Br (fn:=Tryd.f67) _ rfl [.agg (msgC ((⟨c1,((c2:Nat):Int),[],[],[],0,0,zid,[],[],zid,zid,false,0⟩,⟨(Value.slice none 0 0),(Value.slice none 0 0),(Value.slice none 0 0),(Value.slice none 0 0)⟩):Am)).toArray] (.agg (msgC ((⟨c1,((c2:Nat):Int),[],[],[],0,0,zid,[],[],zid,zid,false,0⟩,⟨(Value.slice none 0 0),(Value.slice none 0 0),(Value.slice none 0 0),(Value.slice none 0 0)⟩):Am)).toArray) rfl ⟨ResF.row s j (N6).choose_spec rfl (AF (Az _) MQ),trivial⟩ ?_))))
   exact .inl ⟨_,rfl,((⟨c1,((c2:Nat):Int),[],[],[],0,0,zid,[],[],zid,zid,false,0⟩,⟨(Value.slice none 0 0),(Value.slice none 0 0),(Value.slice none 0 0),(Value.slice none 0 0)⟩):Am),by rw[hD];simp only[Option.bind_some];refine if_pos ?_;exact⟨hj,g9⟩,rfl,(MsgAt.mk (RG.nil _ _ _) (RG.nil _ _ _) (RG.nil _ _ _) (RB.nil _)),⟨(fun k h=>by cases h),(fun k h=>by cases h),(fun k h=>by cases h),(fun k h=>by cases h)⟩,f⟩
  refine tN (et _ _ (Al (vr (.bool (false)) rfl) (Ak (tN (es _ _ (sk fun ph pi=> ?_))))))
  refine A3 14 _ [Is (PQ r 0),Is (PQ r 0),Is (PQ r 1),Is (NI j2),Is (PQ r 0),Is (PQ r 0),Is (PQ r 0),Is (v),Is (NI b.length),Is (.bool (false)),Is (.bool (false)),Is undef,Is undef,Is (.bool (false))] (by kernel_rfl) [79,80,81,82,83,84,85,86,87,88,89,90,91,92,93] (by kernel_rfl) (by kernel_rfl) (by kernel_rfl) rfl rfl rfl (fun _ _=>trivial) (Cz (Cc trivial)) ?hd ?hQ4027
  case hd=>
   refine⟨?_,?_,?_,?_,?_,?_,?_,?_,?_,?_,?_,?_,?_,?_,?_,trivial⟩
   ·refine Ah (Aa rfl fun σ w1 hC h=> ?_)
    have e1:=(Ad (h 1 (by decide))).trans q
    exact Yk.cell1 Ea rfl e1 (Ac (eb hC l) (show _=some (PQ r 0:Value)from rfl)) ⟨Ext.refl _,rfl⟩
   ·refine Ah (Aa rfl fun σ w1 hC h=> ?_)
    have am:=Ad (h 79 (by decide))
    exact Yk.nilCheck am ⟨Ext.refl _,rfl⟩
   ·refine Ah (Aa rfl fun σ w1 hC h=> ?_)
    have an:=Ad (h 80 (by decide))
    exact Yk.fieldAt A4 an ⟨Ext.refl _,rfl⟩
   ·refine Ah (Aa rfl fun σ w1 hC h=> ?_)
    have ao:=Ad (h 81 (by decide))
    exact Yk.cell1 Fs rfl ao (Ac (eb hC hb) (show(AU (AD v b (j2)))[1]? =some (NI j2:Value)from BE (AD v b (j2)))) ⟨Ext.refl _,rfl⟩
   ·refine Ah (Aa rfl fun σ w1 hC h=> ?_)
    have e1:=(Ad (h 1 (by decide))).trans q
    exact Yk.cell1 Ea rfl e1 (Ac (eb hC l) (show _=some (PQ r 0:Value)from rfl)) ⟨Ext.refl _,rfl⟩
   ·refine Ah (Aa rfl fun σ w1 hC h=> ?_)
    have ap:=Ad (h 83 (by decide))
    exact Yk.nilCheck ap ⟨Ext.refl _,rfl⟩
   ·refine Ah (Aa rfl fun σ w1 hC h=> ?_)
    have aq:=Ad (h 84 (by decide))
    exact Yk.fieldAt BY aq ⟨Ext.refl _,rfl⟩
   ·refine Ah (Aa rfl fun σ w1 hC h=> ?_)
    have ar:=Ad (h 85 (by decide))
    exact Yk.cell1 Ff rfl ar (Ac (eb hC hb) (show(AU (AD v b (j2)))[0]? =some (v:Value)from BP (AD v b (j2)))) ⟨Ext.refl _,rfl⟩
   ·refine Ah (Aa rfl fun σ w1 hC h=> ?_)
    have au:=Ad (h 86 (by decide))
    exact Yk.lenRB Ff (RB.of (hr.keep (f.trans hC)) au) ⟨Ext.refl _,rfl⟩
   ·refine Ah (Aa rfl fun σ w1 hC h=> ?_)
    have av:=Ad (h 82 (by decide))
    have aw:=Ad (h 87 (by decide))
    exact Yk.eqI (a:=(j2:Nat)) (b:=(b.length:Nat)) av aw (k_eql _ _ _ _) ⟨Ext.refl _,(congrArg Value.bool (decide_eq_false (hj)))⟩
   ·refine Ah (Aa rfl fun σ w1 hC h=> ?_)
    have ax:=Ad (h 88 (by decide))
    exact Yk.move ax ⟨Ext.refl _,rfl⟩
   ·refine Ah (BN 10 true 89 rfl rfl (fun x _ (h:x = .bool false)=>by rw[h];intro h;cases h) fun _=>rfl)
   ·refine Ah (BN 10 true 89 rfl rfl (fun x _ (h:x = .bool false)=>by rw[h];intro h;cases h) fun _=>rfl)
   ·refine Ah (Aa rfl fun σ w1 hC h=> ?_)
    have ay:=Ad (h 89 (by decide))
    exact Yk.pickF ay (vr (.bool (false)) rfl) ⟨Ext.refl _,rfl⟩
   ·exact trivial
  intro hg pj cb he hf
  obtain⟨-,-,-,-,-,-,-,-,-,-,-,-,-,k92,-⟩:=hf
  obtain⟨T0,q,s,o,T4,ad,ae,af,ag,ah,ai,aj,az,-⟩:=he.hold [(0,_),(1,_),(2,_),(3,_),(4,_),(22, .bool (false)),(27, .bool (false)),(35, .bool (false)),(40, .bool (false)),(45, .bool (false)),(50, .bool (false)),(56, .bool (false)),(75, .bool (false))] ⟨T0,q,s,o,a4,rfl,rfl,rfl,rfl,rfl,rfl,rfl,rfl,trivial⟩ rfl
  clear he
  have f:=f.trans cb
  have l:=eb cb l
  have n:=eb cb n
  have hb:=eb cb hb
  have j:=eb cb j
  have a0:hg 92 = .bool (false):=k92
  clear k92
  refine Yp.callA1 Cr a0 ?_
  refine Ar (AQ _ (false)) ?_ ?_
  rotate_left
  ·
   rintro ch pk ⟨rfl,hb,hx⟩
   refine Aq (postP_panic ?_)
   exact .inr ⟨_,rfl,by rw[hD];simp only[Option.bind_some];refine if_neg ?_;rintro⟨h1,h2⟩;exact hj h1,rfl,f.trans hx⟩
  rintro v_ pl ⟨rfl,hh,pm⟩
  cases hh
 ·have hD:=Dl hP1 hK hP2
  rw[Nb (m:=(⟨c1,((c2:Nat):Int),[],[],[],0,0,zid,[],[],zid,zid,false,0⟩:Msg)) hk]at hD
  refine tN (bt _ _ (sk fun pn hi=>(sk fun po hm=>(wt (oS rfl (Yk.fieldAt LF o (oS rfl (Yk.cell1 CS rfl (vr (PQ t 0) rfl) (Ac n (show(partsC (⟨true,false,false,false,false,false,false,false⟩:Ag))[0]? =some (.bool (true):Value)from BH (⟨true,false,false,false,false,false,false,false⟩:Ag))) (oZ (tN (hm _ _ (AE (vr (.bool (true)) rfl) (wt (oS rfl (Yk.cell1 Ea rfl q (Ac l (show _=some (PQ r 0:Value)from rfl)) (oS rfl (Yk.mkFunc (vs:= #[PQ n2 0,PQ y 0]) (by simp only[List.map_toArray,List.map_cons,List.map_nil];exact congrArg List.toArray (BO q s)) ?_)))))))))))))))))
  have hC1:RC w0 r y n2 t v b:=⟨hr,lr,by omega,by omega,by omega,by omega,by omega,by omega,by omega,by omega,by omega,hl⟩
  refine oP rfl (Yp.callA3 FP (vr (PQ r 0) rfl) (vr (NI 128) rfl) (vr (.func (.func 112) #[] #[PQ n2 0,PQ y 0]) rfl) ?_)
  refine Ar (L4 hC1 (⟨hb,j,l,n,f,hle_j2⟩:RS w0 r y n2 t v b (⟨true,false,false,false,false,false,false,false⟩:Ag) _ j2 ((⟨c1,((c2:Nat):Int),[],[],[],0,0,zid,[],[],zid,zid,false,0⟩,⟨(Value.slice none 0 0),(Value.slice none 0 0),(Value.slice none 0 0),(Value.slice none 0 0)⟩):Am)) rfl (OG.nil _ _ _ _ _) ⟨(fun h=>by cases h),(fun h=>by cases h),(fun h=>by cases h),(fun h=>by cases h)⟩) ?_ ?_
  rotate_left
  ·
   rintro ch pp ⟨hPx,rfl,hgx⟩
   refine Aq (postP_panic ?_)
   exact .inr ⟨_,rfl,by rw[hD];simp only[hPx,Option.bind_some,Option.bind_none],rfl,hgx⟩
  rintro v_ pq ⟨rfl,l1,i1,u1,hPb1,d9,a8,ap_u1⟩
  obtain⟨hb,hbm,hbg,hbn,f,hle_i1⟩:=d9
  have pr:=bl hb
  have ps:=bl hbm
  have pt:=bl hbg
  have pu:=bl hbn
  refine oZ (tN (hi _ _ (sk fun pv hn=>(sk fun pw ho=>(wt (oS rfl (Yk.fieldAt LG o (oS rfl (Yk.cell1 CS rfl (vr (PQ t 1) rfl) (Ac hbn (show(partsC (⟨true,false,false,false,false,false,false,false⟩:Ag))[1]? =some (.bool (false):Value)from BI (⟨true,false,false,false,false,false,false,false⟩:Ag))) (oZ (tN (ho _ _ (Al (vr (.bool (false)) rfl) (Ak (tN (hn _ _ (sk fun px hp=>(sk fun py hq=>(wt (oS rfl (Yk.fieldAt LH o ?_)))))))))))))))))))))
  refine oS rfl (Yk.cell1 CS rfl (vr (PQ t 2) rfl) (Ac hbn (show(partsC (⟨true,false,false,false,false,false,false,false⟩:Ag))[2]? =some (.bool (false):Value)from BJ (⟨true,false,false,false,false,false,false,false⟩:Ag))) (oZ (tN (hq _ _ (Al (vr (.bool (false)) rfl) (Ak (tN (hp _ _ (sk fun pz hs=>(sk fun p0 ht=>(wt (oS rfl (Yk.fieldAt LI o (oS rfl (Yk.cell1 CS rfl (vr (PQ t 3) rfl) (Ac hbn (show(partsC (⟨true,false,false,false,false,false,false,false⟩:Ag))[3]? =some (.bool (false):Value)from BK (⟨true,false,false,false,false,false,false,false⟩:Ag))) (oZ (tN (ht _ _ (Al (vr (.bool (false)) rfl) (Ak (tN (hs _ _ ?_))))))))))))))))))))))
  refine sk fun p1 hv=>(sk fun p2 hw=>(wt (oS rfl (Yk.fieldAt LJ o (oS rfl (Yk.cell1 CS rfl (vr (PQ t 4) rfl) (Ac hbn (show(partsC (⟨true,false,false,false,false,false,false,false⟩:Ag))[4]? =some (.bool (false):Value)from BL (⟨true,false,false,false,false,false,false,false⟩:Ag))) (oZ (tN (hw _ _ (Al (vr (.bool (false)) rfl) (Ak (tN (hv _ _ (sk fun p3 hy=>(sk fun p4 hz=>(wt (oS rfl (Yk.fieldAt HT o (oS rfl (Yk.cell1 CS rfl (vr (PQ t 5) rfl) (Ac hbn (show(partsC (⟨true,false,false,false,false,false,false,false⟩:Ag))[5]? =some (.bool (false):Value)from Bv (⟨true,false,false,false,false,false,false,false⟩:Ag))) (oZ ?_)))))))))))))))))))))
  refine tN (hz _ _ (Al (vr (.bool (false)) rfl) (Ak (tN (hy _ _ (sk fun p5 h0=>(sk fun p6 h5=>(wt (oS rfl (Yk.fieldAt HU o (oS rfl (Yk.cell1 CS rfl (vr (PQ t 6) rfl) (Ac hbn (show(partsC (⟨true,false,false,false,false,false,false,false⟩:Ag))[6]? =some (.bool (false):Value)from Bw (⟨true,false,false,false,false,false,false,false⟩:Ag))) (oZ (tN (h5 _ _ (Al (vr (.bool (false)) rfl) (Ak (tN (h0 _ _ (sk fun p7 ew=>(sk fun p8 ex=> ?_)))))))))))))))))))))
  refine wt (oS rfl (Yk.fieldAt LL o (oS rfl (Yk.cell1 CS rfl (vr (PQ t 7) rfl) (Ac hbn (show(partsC (⟨true,false,false,false,false,false,false,false⟩:Ag))[7]? =some (.bool (false):Value)from Bx (⟨true,false,false,false,false,false,false,false⟩:Ag))) (oZ ?_)))))
  have hMl:CX (((⟨c1,((c2:Nat):Int),l1,[],[],0,0,zid,[],[],zid,zid,false,0⟩,⟨u1,(Value.slice none 0 0),(Value.slice none 0 0),(Value.slice none 0 0)⟩):Am):Am).1:=⟨by have:=(JY hPb1).1;simp only at this ⊢;omega,fun u hu=>by have:=(JY hPb1).2 u hu;omega,by simp,by simp,by simp⟩
  by_cases hj:i1=b.length
  ·refine tN (ex _ _ (Al (vr (.bool (false)) rfl) (Ak (tN (ew _ _ (sk fun p9 h6=> ?_))))))
   refine A3 14 _ [Is (PQ r 0),Is (PQ r 0),Is (PQ r 1),Is (NI i1),Is (PQ r 0),Is (PQ r 0),Is (PQ r 0),Is (v),Is (NI b.length),Is (.bool (true)),Is (.bool (true)),Is (.agg (msgC ((⟨c1,((c2:Nat):Int),l1,[],[],0,0,zid,[],[],zid,zid,false,0⟩,⟨u1,(Value.slice none 0 0),(Value.slice none 0 0),(Value.slice none 0 0)⟩):Am)).toArray),Is (.bool (rightB (((⟨c1,((c2:Nat):Int),l1,[],[],0,0,zid,[],[],zid,zid,false,0⟩,⟨u1,(Value.slice none 0 0),(Value.slice none 0 0),(Value.slice none 0 0)⟩):Am):Am).1)),Is (.bool (rightB (((⟨c1,((c2:Nat):Int),l1,[],[],0,0,zid,[],[],zid,zid,false,0⟩,⟨u1,(Value.slice none 0 0),(Value.slice none 0 0),(Value.slice none 0 0)⟩):Am):Am).1))] (by kernel_rfl) [79,80,81,82,83,84,85,86,87,88,89,90,91,92,93] (by kernel_rfl) (by kernel_rfl) (by kernel_rfl) rfl rfl rfl (fun _ _=>trivial) (Cz (Cc trivial)) ?h7 ?hQ5027
   case h7=>
    refine⟨?_,?_,?_,?_,?_,?_,?_,?_,?_,?_,?_,?_,?_,?_,?_,trivial⟩
    ·refine Ah (Aa rfl fun σ w1 hC h=> ?_)
     have e1:=(Ad (h 1 (by decide))).trans q
     exact Yk.cell1 Ea rfl e1 (Ac (eb hC hbg) (show _=some (PQ r 0:Value)from rfl)) ⟨Ext.refl _,rfl⟩
    ·refine Ah (Aa rfl fun σ w1 hC h=> ?_)
     have am:=Ad (h 79 (by decide))
     exact Yk.nilCheck am ⟨Ext.refl _,rfl⟩
    ·refine Ah (Aa rfl fun σ w1 hC h=> ?_)
     have an:=Ad (h 80 (by decide))
     exact Yk.fieldAt A4 an ⟨Ext.refl _,rfl⟩
    ·refine Ah (Aa rfl fun σ w1 hC h=> ?_)
     have ao:=Ad (h 81 (by decide))
     exact Yk.cell1 Fs rfl ao (Ac (eb hC hb) (show(AU (AD v b (i1)))[1]? =some (NI i1:Value)from BE (AD v b (i1)))) ⟨Ext.refl _,rfl⟩
    ·refine Ah (Aa rfl fun σ w1 hC h=> ?_)
     have e1:=(Ad (h 1 (by decide))).trans q
     exact Yk.cell1 Ea rfl e1 (Ac (eb hC hbg) (show _=some (PQ r 0:Value)from rfl)) ⟨Ext.refl _,rfl⟩
    ·refine Ah (Aa rfl fun σ w1 hC h=> ?_)
     have ap:=Ad (h 83 (by decide))
     exact Yk.nilCheck ap ⟨Ext.refl _,rfl⟩
    ·refine Ah (Aa rfl fun σ w1 hC h=> ?_)
     have aq:=Ad (h 84 (by decide))
     exact Yk.fieldAt BY aq ⟨Ext.refl _,rfl⟩
    ·refine Ah (Aa rfl fun σ w1 hC h=> ?_)
     have ar:=Ad (h 85 (by decide))
     exact Yk.cell1 Ff rfl ar (Ac (eb hC hb) (show(AU (AD v b (i1)))[0]? =some (v:Value)from BP (AD v b (i1)))) ⟨Ext.refl _,rfl⟩
    ·refine Ah (Aa rfl fun σ w1 hC h=> ?_)
     have au:=Ad (h 86 (by decide))
     exact Yk.lenRB Ff (RB.of (hr.keep (f.trans hC)) au) ⟨Ext.refl _,rfl⟩
    ·refine Ah (Aa rfl fun σ w1 hC h=> ?_)
     have av:=Ad (h 82 (by decide))
     have aw:=Ad (h 87 (by decide))
     exact Yk.eqI (a:=(i1:Nat)) (b:=(b.length:Nat)) av aw (k_eql _ _ _ _) ⟨Ext.refl _,(congrArg Value.bool (decide_eq_true (hj)))⟩
    ·refine Ah (Aa rfl fun σ w1 hC h=> ?_)
     have ax:=Ad (h 88 (by decide))
     exact Yk.move ax ⟨Ext.refl _,rfl⟩
    ·refine Ah (Bg 10 true 89 rfl rfl (fun _ _ h=>h) fun σ w1 hC h=> ?_)
     have e2:=(Ad (h 2 (by decide))).trans s
     exact Yk.loadAll e2 (eb hC hbm) (N6).choose_spec rfl (AF (Az ((⟨c1,((c2:Nat):Int),l1,[],[],0,0,zid,[],[],zid,zid,false,0⟩,⟨u1,(Value.slice none 0 0),(Value.slice none 0 0),(Value.slice none 0 0)⟩):Am)) MQ) ⟨Ext.refl _,rfl⟩
    ·refine Ah (Bg 10 true 89 rfl rfl (fun _ _ h=>h) fun σ w1 hC h=> ?_)
     have a5:=Ad (h 90 (by decide))
     refine Yk.callA1 Oj a5 ((CC _ ((⟨c1,((c2:Nat):Int),l1,[],[],0,0,zid,[],[],zid,zid,false,0⟩,⟨u1,(Value.slice none 0 0),(Value.slice none 0 0),(Value.slice none 0 0)⟩):Am) (MsgAt.mk (RG.ofOwn (a8.keep hC)) (RG.nil _ _ _) (RG.nil _ _ _) (RB.nil _)) hMl).mono ?_)
     rintro e w2 ⟨rfl,hx⟩
     exact⟨_,rfl,hx,rfl⟩
    ·refine Ah (Aa rfl fun σ w1 hC h=> ?_)
     have ay:=Ad (h 89 (by decide))
     have a6:=Ad (h 91 (by decide))
     exact Yk.pickT ay a6 ⟨Ext.refl _,rfl⟩
    ·exact trivial
   intro h8 qa bx he hf
   obtain⟨-,-,-,-,-,-,-,-,-,-,-,-,-,k92,-⟩:=hf
   obtain⟨T0,q,s,o,T4,ad,ae,af,ag,ah,ai,aj,az,-⟩:=he.hold [(0,_),(1,_),(2,_),(3,_),(4,_),(22, .bool (true)),(27, .bool (false)),(35, .bool (false)),(40, .bool (false)),(45, .bool (false)),(50, .bool (false)),(56, .bool (false)),(75, .bool (false))] ⟨T0,q,s,o,a4,rfl,rfl,rfl,rfl,rfl,rfl,rfl,rfl,trivial⟩ rfl
   clear he
   have f:=f.trans bx
   have hb:=eb bx hb
   have hbm:=eb bx hbm
   have hbg:=eb bx hbg
   have hbn:=eb bx hbn
   have a8:=a8.keep bx
   have a0:h8 92 = .bool (rightB (((⟨c1,((c2:Nat):Int),l1,[],[],0,0,zid,[],[],zid,zid,false,0⟩,⟨u1,(Value.slice none 0 0),(Value.slice none 0 0),(Value.slice none 0 0)⟩):Am):Am).1):=k92
   clear k92
   refine Yp.callA1 Cr a0 ?_
   refine Ar (AQ _ (rightB (((⟨c1,((c2:Nat):Int),l1,[],[],0,0,zid,[],[],zid,zid,false,0⟩,⟨u1,(Value.slice none 0 0),(Value.slice none 0 0),(Value.slice none 0 0)⟩):Am):Am).1)) ?_ ?_
   rotate_left
   ·
    rintro ch qb ⟨rfl,hb,hx⟩
    refine Aq (postP_panic ?_)
    exact .inr ⟨_,rfl,by rw[hD];simp only[hPb1,Option.bind_some];refine if_neg ?_;rintro⟨h1,h2⟩;exact Bool.noConfusion (h2.symm.trans hb),rfl,f.trans hx⟩
   rintro v_ qc ⟨rfl,h9,bz⟩
   have f:=f.trans bz
   have hb:=eb bz hb
   have hbm:=eb bz hbm
   have hbg:=eb bz hbg
   have hbn:=eb bz hbn
   have a8:=a8.keep bz
   intro bd be
   have T0:bd 0=(PQ r 0:Value):=(be 0 (by decide)).trans T0
   have q:bd 1=(PQ n2 0:Value):=(be 1 (by decide)).trans q
   have s:bd 2=(PQ y 0:Value):=(be 2 (by decide)).trans s
   have o:bd 3=(PQ t 0:Value):=(be 3 (by decide)).trans o
   have T4:bd 4=(.bool (true):Value):=(be 4 (by decide)).trans T4
   have ad:bd 22=(.bool (true):Value):=(be 22 (by decide)).trans ad
   have ae:bd 27=(.bool (false):Value):=(be 27 (by decide)).trans ae
   have af:bd 35=(.bool (false):Value):=(be 35 (by decide)).trans af
   have ag:bd 40=(.bool (false):Value):=(be 40 (by decide)).trans ag
   have ah:bd 45=(.bool (false):Value):=(be 45 (by decide)).trans ah
   have ai:bd 50=(.bool (false):Value):=(be 50 (by decide)).trans ai
   have aj:bd 56=(.bool (false):Value):=(be 56 (by decide)).trans aj
   have az:bd 75=(.bool (false):Value):=(be 75 (by decide)).trans az
   refine tN (h6 _ _ (sk fun qd ia=>(wt (oS rfl (Yk.loadAll s hbm (N6).choose_spec rfl (AF (Az ((⟨c1,((c2:Nat):Int),l1,[],[],0,0,zid,[],[],zid,zid,false,0⟩,⟨u1,(Value.slice none 0 0),(Value.slice none 0 0),(Value.slice none 0 0)⟩):Am)) MQ) (oS rfl (Yk.storeAll s (vr (.agg (msgC ((⟨c1,((c2:Nat):Int),l1,[],[],0,0,zid,[],[],zid,zid,false,0⟩,⟨u1,(Value.slice none 0 0),(Value.slice none 0 0),(Value.slice none 0 0)⟩):Am)).toArray) rfl) hbm (by simp only[List.size_toArray,Az]) (AF (Az _) MQ) (CP (x:=((⟨c1,((c2:Nat):Int),l1,[],[],0,0,zid,[],[],zid,zid,false,0⟩,⟨u1,(Value.slice none 0 0),(Value.slice none 0 0),(Value.slice none 0 0)⟩):Am)) (RG.one (RG.ofOwn a8)).2 rfl rfl rfl) fun ib ey cc qe=> ?_)))))))
   have f:=Ae f cc (Nat.le_trans (Nat.le_refl _) (by omega))
   have hb:=kb cc hb (by omega)
   clear hbm
   have hbg:=kb cc hbg (by omega)
   have hbn:=kb cc hbn (by omega)
   have a8:=OG.kept a8 cc ap_u1.m
   have hbm:ib.heap[y]? =some (.cells (msgC ((⟨c1,((c2:Nat):Int),l1,[],[],0,0,zid,[],[],zid,zid,false,0⟩,⟨u1,(Value.slice none 0 0),(Value.slice none 0 0),(Value.slice none 0 0)⟩):Am)).toArray 29 (0,0)):=ey;clear ey
   have qf:=bl hbm
   refine oZ (tN (ia _ _ (Ap (Br (fn:=Tryd.f67) _ rfl [.agg (msgC ((⟨c1,((c2:Nat):Int),l1,[],[],0,0,zid,[],[],zid,zid,false,0⟩,⟨u1,(Value.slice none 0 0),(Value.slice none 0 0),(Value.slice none 0 0)⟩):Am)).toArray] (.agg (msgC ((⟨c1,((c2:Nat):Int),l1,[],[],0,0,zid,[],[],zid,zid,false,0⟩,⟨u1,(Value.slice none 0 0),(Value.slice none 0 0),(Value.slice none 0 0)⟩):Am)).toArray) rfl ⟨ResF.row s hbm (N6).choose_spec rfl (AF (Az _) MQ),trivial⟩ ?_))))
   exact .inl ⟨_,rfl,((⟨c1,((c2:Nat):Int),l1,[],[],0,0,zid,[],[],zid,zid,false,0⟩,⟨u1,(Value.slice none 0 0),(Value.slice none 0 0),(Value.slice none 0 0)⟩):Am),by rw[hD];simp only[hPb1,Option.bind_some];refine if_pos ?_;exact⟨hj,h9⟩,rfl,(MsgAt.mk (RG.ofOwn a8) (RG.nil _ _ _) (RG.nil _ _ _) (RB.nil _)),⟨(fun k h=>(a8.2.lt k h).1),(fun k h=>by cases h),(fun k h=>by cases h),(fun k h=>by cases h)⟩,f⟩
  refine tN (ex _ _ (Al (vr (.bool (false)) rfl) (Ak (tN (ew _ _ (sk fun qg qh=> ?_))))))
  refine A3 14 _ [Is (PQ r 0),Is (PQ r 0),Is (PQ r 1),Is (NI i1),Is (PQ r 0),Is (PQ r 0),Is (PQ r 0),Is (v),Is (NI b.length),Is (.bool (false)),Is (.bool (false)),Is undef,Is undef,Is (.bool (false))] (by kernel_rfl) [79,80,81,82,83,84,85,86,87,88,89,90,91,92,93] (by kernel_rfl) (by kernel_rfl) (by kernel_rfl) rfl rfl rfl (fun _ _=>trivial) (Cz (Cc trivial)) ?ic ?hQ6027
  case ic=>
   refine⟨?_,?_,?_,?_,?_,?_,?_,?_,?_,?_,?_,?_,?_,?_,?_,trivial⟩
   ·refine Ah (Aa rfl fun σ w1 hC h=> ?_)
    have e1:=(Ad (h 1 (by decide))).trans q
    exact Yk.cell1 Ea rfl e1 (Ac (eb hC hbg) (show _=some (PQ r 0:Value)from rfl)) ⟨Ext.refl _,rfl⟩
   ·refine Ah (Aa rfl fun σ w1 hC h=> ?_)
    have am:=Ad (h 79 (by decide))
    exact Yk.nilCheck am ⟨Ext.refl _,rfl⟩
   ·refine Ah (Aa rfl fun σ w1 hC h=> ?_)
    have an:=Ad (h 80 (by decide))
    exact Yk.fieldAt A4 an ⟨Ext.refl _,rfl⟩
   ·refine Ah (Aa rfl fun σ w1 hC h=> ?_)
    have ao:=Ad (h 81 (by decide))
    exact Yk.cell1 Fs rfl ao (Ac (eb hC hb) (show(AU (AD v b (i1)))[1]? =some (NI i1:Value)from BE (AD v b (i1)))) ⟨Ext.refl _,rfl⟩
   ·refine Ah (Aa rfl fun σ w1 hC h=> ?_)
    have e1:=(Ad (h 1 (by decide))).trans q
    exact Yk.cell1 Ea rfl e1 (Ac (eb hC hbg) (show _=some (PQ r 0:Value)from rfl)) ⟨Ext.refl _,rfl⟩
   ·refine Ah (Aa rfl fun σ w1 hC h=> ?_)
    have ap:=Ad (h 83 (by decide))
    exact Yk.nilCheck ap ⟨Ext.refl _,rfl⟩
   ·refine Ah (Aa rfl fun σ w1 hC h=> ?_)
    have aq:=Ad (h 84 (by decide))
    exact Yk.fieldAt BY aq ⟨Ext.refl _,rfl⟩
   ·refine Ah (Aa rfl fun σ w1 hC h=> ?_)
    have ar:=Ad (h 85 (by decide))
    exact Yk.cell1 Ff rfl ar (Ac (eb hC hb) (show(AU (AD v b (i1)))[0]? =some (v:Value)from BP (AD v b (i1)))) ⟨Ext.refl _,rfl⟩
   ·refine Ah (Aa rfl fun σ w1 hC h=> ?_)
    have au:=Ad (h 86 (by decide))
    exact Yk.lenRB Ff (RB.of (hr.keep (f.trans hC)) au) ⟨Ext.refl _,rfl⟩
   ·refine Ah (Aa rfl fun σ w1 hC h=> ?_)
    have av:=Ad (h 82 (by decide))
    have aw:=Ad (h 87 (by decide))
    exact Yk.eqI (a:=(i1:Nat)) (b:=(b.length:Nat)) av aw (k_eql _ _ _ _) ⟨Ext.refl _,(congrArg Value.bool (decide_eq_false (hj)))⟩
   ·refine Ah (Aa rfl fun σ w1 hC h=> ?_)
    have ax:=Ad (h 88 (by decide))
    exact Yk.move ax ⟨Ext.refl _,rfl⟩
   ·refine Ah (BN 10 true 89 rfl rfl (fun x _ (h:x = .bool false)=>by rw[h];intro h;cases h) fun _=>rfl)
   ·refine Ah (BN 10 true 89 rfl rfl (fun x _ (h:x = .bool false)=>by rw[h];intro h;cases h) fun _=>rfl)
   ·refine Ah (Aa rfl fun σ w1 hC h=> ?_)
    have ay:=Ad (h 89 (by decide))
    exact Yk.pickF ay (vr (.bool (false)) rfl) ⟨Ext.refl _,rfl⟩
   ·exact trivial
  intro id qi b2 he hf
  obtain⟨-,-,-,-,-,-,-,-,-,-,-,-,-,k92,-⟩:=hf
  obtain⟨T0,q,s,o,T4,ad,ae,af,ag,ah,ai,aj,az,-⟩:=he.hold [(0,_),(1,_),(2,_),(3,_),(4,_),(22, .bool (true)),(27, .bool (false)),(35, .bool (false)),(40, .bool (false)),(45, .bool (false)),(50, .bool (false)),(56, .bool (false)),(75, .bool (false))] ⟨T0,q,s,o,a4,rfl,rfl,rfl,rfl,rfl,rfl,rfl,rfl,trivial⟩ rfl
  clear he
  have f:=f.trans b2
  have hb:=eb b2 hb
  have hbm:=eb b2 hbm
  have hbg:=eb b2 hbg
  have hbn:=eb b2 hbn
  have a8:=a8.keep b2
  have a0:id 92 = .bool (false):=k92
  clear k92
  refine Yp.callA1 Cr a0 ?_
  refine Ar (AQ _ (false)) ?_ ?_
  rotate_left
  ·
   rintro ch qj ⟨rfl,hb,hx⟩
   refine Aq (postP_panic ?_)
   exact .inr ⟨_,rfl,by rw[hD];simp only[hPb1,Option.bind_some];refine if_neg ?_;rintro⟨h1,h2⟩;exact hj h1,rfl,f.trans hx⟩
  rintro v_ qk ⟨rfl,ie,ql⟩
  cases ie
 ·have hD:=Dl hP1 hK hP2
  rw[Nc (m:=(⟨c1,((c2:Nat):Int),[],[],[],0,0,zid,[],[],zid,zid,false,0⟩:Msg)) hk]at hD
  refine tN (bt _ _ (sk fun qm ig=>(sk fun qn ih=>(wt (oS rfl (Yk.fieldAt LF o (oS rfl (Yk.cell1 CS rfl (vr (PQ t 0) rfl) (Ac n (show(partsC (⟨false,true,false,false,false,false,false,false⟩:Ag))[0]? =some (.bool (false):Value)from BH (⟨false,true,false,false,false,false,false,false⟩:Ag))) (oZ (tN (ih _ _ (Al (vr (.bool (false)) rfl) (Ak (tN (ig _ _ (sk fun qo ii=>(sk fun qp ij=>(wt (oS rfl (Yk.fieldAt LG o (oS rfl (Yk.cell1 CS rfl (vr (PQ t 1) rfl) (Ac n (show(partsC (⟨false,true,false,false,false,false,false,false⟩:Ag))[1]? =some (.bool (true):Value)from BI (⟨false,true,false,false,false,false,false,false⟩:Ag))) ?_))))))))))))))))))))))
  refine oZ (tN (ij _ _ (AE (vr (.bool (true)) rfl) (sk fun qq ik=>(wt (oS rfl (Yk.cell1 Ea rfl q (Ac l (show _=some (PQ r 0:Value)from rfl)) (oS rfl (Yk.mkFunc (vs:= #[PQ y 0,PQ n2 0]) (by simp only[List.map_toArray,List.map_cons,List.map_nil];exact congrArg List.toArray (BO s q)) ?_)))))))))
  have hC1:RC w0 r y n2 t v b:=⟨hr,lr,by omega,by omega,by omega,by omega,by omega,by omega,by omega,by omega,by omega,hl⟩
  refine oP rfl (Yp.callA3 FP (vr (PQ r 0) rfl) (vr (NI 65536) rfl) (vr (.func (.func 115) #[] #[PQ y 0,PQ n2 0]) rfl) ?_)
  refine Ar (L5 hC1 (⟨hb,j,l,n,f,hle_j2⟩:RS w0 r y n2 t v b (⟨false,true,false,false,false,false,false,false⟩:Ag) _ j2 ((⟨c1,((c2:Nat):Int),[],[],[],0,0,zid,[],[],zid,zid,false,0⟩,⟨(Value.slice none 0 0),(Value.slice none 0 0),(Value.slice none 0 0),(Value.slice none 0 0)⟩):Am)) rfl (OG.nil _ _ _ _ _) ⟨(fun h=>by cases h),(fun h=>by cases h),(fun h=>by cases h),(fun h=>by cases h)⟩) ?_ ?_
  rotate_left
  ·
   rintro ch qr ⟨hPx,rfl,hgx⟩
   refine Aq (Aq (postP_panic ?_))
   exact .inr ⟨_,rfl,by rw[hD];simp only[hPx,Option.bind_some,Option.bind_none],rfl,hgx⟩
  rintro v_ qs ⟨rfl,l1,i1,u1,hPb1,d9,a8,ap_u1⟩
  obtain⟨hb,hbm,hbg,hbn,f,hle_i1⟩:=d9
  have qt:=bl hb
  have qu:=bl hbm
  have qv:=bl hbg
  have qw:=bl hbn
  refine oZ (tN (ik _ _ (wt (oS rfl (Yk.cell1 Ea rfl q (Ac hbg (show _=some (PQ r 0:Value)from rfl)) (oS rfl (Yk.mkFunc (vs:= #[PQ y 0,PQ n2 0]) (by simp only[List.map_toArray,List.map_cons,List.map_nil];exact congrArg List.toArray (BO s q)) ?_)))))))
  have hC2:RC w0 r y n2 t v b:=⟨hr,lr,by omega,by omega,by omega,by omega,by omega,by omega,by omega,by omega,by omega,hl⟩
  refine oP rfl (Yp.callA3 FP (vr (PQ r 0) rfl) (vr (NI 65536) rfl) (vr (.func (.func 116) #[] #[PQ y 0,PQ n2 0]) rfl) ?_)
  refine Ar (L6 hC2 (⟨hb,hbm,hbg,hbn,f,hle_i1⟩:RS w0 r y n2 t v b (⟨false,true,false,false,false,false,false,false⟩:Ag) _ i1 ((⟨c1,((c2:Nat):Int),[],l1,[],0,0,zid,[],[],zid,zid,false,0⟩,⟨(Value.slice none 0 0),u1,(Value.slice none 0 0),(Value.slice none 0 0)⟩):Am)) rfl (OG.nil _ _ _ _ _) ⟨(fun h=>by cases h),(fun h=>by cases h),(fun h=>by cases h),(fun h=>by cases h)⟩ a8 ap_u1 (L7 _) (KI _)) ?_ ?_
  rotate_left
  ·
   rintro ch qx ⟨hPx,rfl,hgx⟩
   refine Aq (postP_panic ?_)
   exact .inr ⟨_,rfl,by rw[hD];simp only[hPb1,hPx,Option.bind_some,Option.bind_none],rfl,hgx⟩
  rintro v_ qy ⟨rfl,l2,i2,u2,hPb2,il,bs,ap_u2,hoq,aq_,qa_⟩
  obtain⟨hb,hbm,hbg,hbn,f,hle_i2⟩:=il
  have qz:=bl hb
  have q0:=bl hbm
  have q1:=bl hbg
  have q2:=bl hbn
  refine oZ (tN (ii _ _ (sk fun q3 im=>(sk fun q4 io=>(wt (oS rfl (Yk.fieldAt LH o (oS rfl (Yk.cell1 CS rfl (vr (PQ t 2) rfl) (Ac hbn (show(partsC (⟨false,true,false,false,false,false,false,false⟩:Ag))[2]? =some (.bool (false):Value)from BJ (⟨false,true,false,false,false,false,false,false⟩:Ag))) (oZ (tN (io _ _ (Al (vr (.bool (false)) rfl) (Ak (tN (im _ _ (sk fun q5 ip=>(sk fun q6 iq=>(wt (oS rfl (Yk.fieldAt LI o ?_)))))))))))))))))))))
  refine oS rfl (Yk.cell1 CS rfl (vr (PQ t 3) rfl) (Ac hbn (show(partsC (⟨false,true,false,false,false,false,false,false⟩:Ag))[3]? =some (.bool (false):Value)from BK (⟨false,true,false,false,false,false,false,false⟩:Ag))) (oZ (tN (iq _ _ (Al (vr (.bool (false)) rfl) (Ak (tN (ip _ _ (sk fun q7 ir=>(sk fun q8 iu=>(wt (oS rfl (Yk.fieldAt LJ o (oS rfl (Yk.cell1 CS rfl (vr (PQ t 4) rfl) (Ac hbn (show(partsC (⟨false,true,false,false,false,false,false,false⟩:Ag))[4]? =some (.bool (false):Value)from BL (⟨false,true,false,false,false,false,false,false⟩:Ag))) (oZ (tN (iu _ _ (Al (vr (.bool (false)) rfl) (Ak (tN (ir _ _ ?_))))))))))))))))))))))
  refine sk fun q9 iv=>(sk fun ra iw=>(wt (oS rfl (Yk.fieldAt HT o (oS rfl (Yk.cell1 CS rfl (vr (PQ t 5) rfl) (Ac hbn (show(partsC (⟨false,true,false,false,false,false,false,false⟩:Ag))[5]? =some (.bool (false):Value)from Bv (⟨false,true,false,false,false,false,false,false⟩:Ag))) (oZ (tN (iw _ _ (Al (vr (.bool (false)) rfl) (Ak (tN (iv _ _ (sk fun rb ix=>(sk fun rc iy=>(wt (oS rfl (Yk.fieldAt HU o (oS rfl (Yk.cell1 CS rfl (vr (PQ t 6) rfl) (Ac hbn (show(partsC (⟨false,true,false,false,false,false,false,false⟩:Ag))[6]? =some (.bool (false):Value)from Bw (⟨false,true,false,false,false,false,false,false⟩:Ag))) (oZ ?_)))))))))))))))))))))
  refine tN (iy _ _ (Al (vr (.bool (false)) rfl) (Ak (tN (ix _ _ (sk fun rd ez=>(sk fun re e0=>(wt (oS rfl (Yk.fieldAt LL o (oS rfl (Yk.cell1 CS rfl (vr (PQ t 7) rfl) (Ac hbn (show(partsC (⟨false,true,false,false,false,false,false,false⟩:Ag))[7]? =some (.bool (false):Value)from Bx (⟨false,true,false,false,false,false,false,false⟩:Ag))) (oZ ?_)))))))))))))
  have hMl:CX (((⟨c1,((c2:Nat):Int),[],l1,l2,0,0,zid,[],[],zid,zid,false,0⟩,⟨(Value.slice none 0 0),u1,u2,(Value.slice none 0 0)⟩):Am):Am).1:=⟨by simp,fun u hu=>(by cases hu),by have:=KY hPb1;simp only at this ⊢;omega,by have:=KY hPb2;simp only at this ⊢;omega,by simp⟩
  by_cases hj:i2=b.length
  ·refine tN (e0 _ _ (Al (vr (.bool (false)) rfl) (Ak (tN (ez _ _ (sk fun rf iz=> ?_))))))
   refine A3 14 _ [Is (PQ r 0),Is (PQ r 0),Is (PQ r 1),Is (NI i2),Is (PQ r 0),Is (PQ r 0),Is (PQ r 0),Is (v),Is (NI b.length),Is (.bool (true)),Is (.bool (true)),Is (.agg (msgC ((⟨c1,((c2:Nat):Int),[],l1,l2,0,0,zid,[],[],zid,zid,false,0⟩,⟨(Value.slice none 0 0),u1,u2,(Value.slice none 0 0)⟩):Am)).toArray),Is (.bool (rightB (((⟨c1,((c2:Nat):Int),[],l1,l2,0,0,zid,[],[],zid,zid,false,0⟩,⟨(Value.slice none 0 0),u1,u2,(Value.slice none 0 0)⟩):Am):Am).1)),Is (.bool (rightB (((⟨c1,((c2:Nat):Int),[],l1,l2,0,0,zid,[],[],zid,zid,false,0⟩,⟨(Value.slice none 0 0),u1,u2,(Value.slice none 0 0)⟩):Am):Am).1))] (by kernel_rfl) [79,80,81,82,83,84,85,86,87,88,89,90,91,92,93] (by kernel_rfl) (by kernel_rfl) (by kernel_rfl) rfl rfl rfl (fun _ _=>trivial) (Cz (Cc trivial)) ?i0 ?hQ7027
   case i0=>
    refine⟨?_,?_,?_,?_,?_,?_,?_,?_,?_,?_,?_,?_,?_,?_,?_,trivial⟩
    ·refine Ah (Aa rfl fun σ w1 hC h=> ?_)
     have e1:=(Ad (h 1 (by decide))).trans q
     exact Yk.cell1 Ea rfl e1 (Ac (eb hC hbg) (show _=some (PQ r 0:Value)from rfl)) ⟨Ext.refl _,rfl⟩
    ·refine Ah (Aa rfl fun σ w1 hC h=> ?_)
     have am:=Ad (h 79 (by decide))
     exact Yk.nilCheck am ⟨Ext.refl _,rfl⟩
    ·refine Ah (Aa rfl fun σ w1 hC h=> ?_)
     have an:=Ad (h 80 (by decide))
     exact Yk.fieldAt A4 an ⟨Ext.refl _,rfl⟩
    ·refine Ah (Aa rfl fun σ w1 hC h=> ?_)
     have ao:=Ad (h 81 (by decide))
     exact Yk.cell1 Fs rfl ao (Ac (eb hC hb) (show(AU (AD v b (i2)))[1]? =some (NI i2:Value)from BE (AD v b (i2)))) ⟨Ext.refl _,rfl⟩
    ·refine Ah (Aa rfl fun σ w1 hC h=> ?_)
     have e1:=(Ad (h 1 (by decide))).trans q
     exact Yk.cell1 Ea rfl e1 (Ac (eb hC hbg) (show _=some (PQ r 0:Value)from rfl)) ⟨Ext.refl _,rfl⟩
    ·refine Ah (Aa rfl fun σ w1 hC h=> ?_)
     have ap:=Ad (h 83 (by decide))
     exact Yk.nilCheck ap ⟨Ext.refl _,rfl⟩
    ·refine Ah (Aa rfl fun σ w1 hC h=> ?_)
     have aq:=Ad (h 84 (by decide))
     exact Yk.fieldAt BY aq ⟨Ext.refl _,rfl⟩
    ·refine Ah (Aa rfl fun σ w1 hC h=> ?_)
     have ar:=Ad (h 85 (by decide))
     exact Yk.cell1 Ff rfl ar (Ac (eb hC hb) (show(AU (AD v b (i2)))[0]? =some (v:Value)from BP (AD v b (i2)))) ⟨Ext.refl _,rfl⟩
    ·refine Ah (Aa rfl fun σ w1 hC h=> ?_)
     have au:=Ad (h 86 (by decide))
     exact Yk.lenRB Ff (RB.of (hr.keep (f.trans hC)) au) ⟨Ext.refl _,rfl⟩
    ·refine Ah (Aa rfl fun σ w1 hC h=> ?_)
     have av:=Ad (h 82 (by decide))
     have aw:=Ad (h 87 (by decide))
     exact Yk.eqI (a:=(i2:Nat)) (b:=(b.length:Nat)) av aw (k_eql _ _ _ _) ⟨Ext.refl _,(congrArg Value.bool (decide_eq_true (hj)))⟩
    ·refine Ah (Aa rfl fun σ w1 hC h=> ?_)
     have ax:=Ad (h 88 (by decide))
     exact Yk.move ax ⟨Ext.refl _,rfl⟩
    ·refine Ah (Bg 10 true 89 rfl rfl (fun _ _ h=>h) fun σ w1 hC h=> ?_)
     have e2:=(Ad (h 2 (by decide))).trans s
     exact Yk.loadAll e2 (eb hC hbm) (N6).choose_spec rfl (AF (Az ((⟨c1,((c2:Nat):Int),[],l1,l2,0,0,zid,[],[],zid,zid,false,0⟩,⟨(Value.slice none 0 0),u1,u2,(Value.slice none 0 0)⟩):Am)) MQ) ⟨Ext.refl _,rfl⟩
    ·refine Ah (Bg 10 true 89 rfl rfl (fun _ _ h=>h) fun σ w1 hC h=> ?_)
     have a5:=Ad (h 90 (by decide))
     refine Yk.callA1 Oj a5 ((CC _ ((⟨c1,((c2:Nat):Int),[],l1,l2,0,0,zid,[],[],zid,zid,false,0⟩,⟨(Value.slice none 0 0),u1,u2,(Value.slice none 0 0)⟩):Am) (MsgAt.mk (RG.nil _ _ _) (RG.ofOwn (hoq.keep hC)) (RG.ofOwn (bs.keep hC)) (RB.nil _)) hMl).mono ?_)
     rintro e w2 ⟨rfl,hx⟩
     exact⟨_,rfl,hx,rfl⟩
    ·refine Ah (Aa rfl fun σ w1 hC h=> ?_)
     have ay:=Ad (h 89 (by decide))
     have a6:=Ad (h 91 (by decide))
     exact Yk.pickT ay a6 ⟨Ext.refl _,rfl⟩
    ·exact trivial
   intro i7 rg bv he hf
   obtain⟨-,-,-,-,-,-,-,-,-,-,-,-,-,k92,-⟩:=hf
   obtain⟨T0,q,s,o,T4,ad,ae,af,ag,ah,ai,aj,az,-⟩:=he.hold [(0,_),(1,_),(2,_),(3,_),(4,_),(22, .bool (false)),(27, .bool (true)),(35, .bool (false)),(40, .bool (false)),(45, .bool (false)),(50, .bool (false)),(56, .bool (false)),(75, .bool (false))] ⟨T0,q,s,o,a4,rfl,rfl,rfl,rfl,rfl,rfl,rfl,rfl,trivial⟩ rfl
   clear he
   have f:=f.trans bv
   have hb:=eb bv hb
   have hbm:=eb bv hbm
   have hbg:=eb bv hbg
   have hbn:=eb bv hbn
   have bs:=bs.keep bv
   have hoq:=hoq.keep bv
   have a0:i7 92 = .bool (rightB (((⟨c1,((c2:Nat):Int),[],l1,l2,0,0,zid,[],[],zid,zid,false,0⟩,⟨(Value.slice none 0 0),u1,u2,(Value.slice none 0 0)⟩):Am):Am).1):=k92
   clear k92
   refine Yp.callA1 Cr a0 ?_
   refine Ar (AQ _ (rightB (((⟨c1,((c2:Nat):Int),[],l1,l2,0,0,zid,[],[],zid,zid,false,0⟩,⟨(Value.slice none 0 0),u1,u2,(Value.slice none 0 0)⟩):Am):Am).1)) ?_ ?_
   rotate_left
   ·
    rintro ch rh ⟨rfl,hb,hx⟩
    refine Aq (postP_panic ?_)
    exact .inr ⟨_,rfl,by rw[hD];simp only[hPb1,hPb2,Option.bind_some];refine if_neg ?_;rintro⟨h1,h2⟩;exact Bool.noConfusion (h2.symm.trans hb),rfl,f.trans hx⟩
   rintro v_ ri ⟨rfl,i8,bw⟩
   have f:=f.trans bw
   have hb:=eb bw hb
   have hbm:=eb bw hbm
   have hbg:=eb bw hbg
   have hbn:=eb bw hbn
   have bs:=bs.keep bw
   have hoq:=hoq.keep bw
   intro bf bg
   have T0:bf 0=(PQ r 0:Value):=(bg 0 (by decide)).trans T0
   have q:bf 1=(PQ n2 0:Value):=(bg 1 (by decide)).trans q
   have s:bf 2=(PQ y 0:Value):=(bg 2 (by decide)).trans s
   have o:bf 3=(PQ t 0:Value):=(bg 3 (by decide)).trans o
   have T4:bf 4=(.bool (true):Value):=(bg 4 (by decide)).trans T4
   have ad:bf 22=(.bool (false):Value):=(bg 22 (by decide)).trans ad
   have ae:bf 27=(.bool (true):Value):=(bg 27 (by decide)).trans ae
   have af:bf 35=(.bool (false):Value):=(bg 35 (by decide)).trans af
   have ag:bf 40=(.bool (false):Value):=(bg 40 (by decide)).trans ag
   have ah:bf 45=(.bool (false):Value):=(bg 45 (by decide)).trans ah
   have ai:bf 50=(.bool (false):Value):=(bg 50 (by decide)).trans ai
   have aj:bf 56=(.bool (false):Value):=(bg 56 (by decide)).trans aj
   have az:bf 75=(.bool (false):Value):=(bg 75 (by decide)).trans az
   refine tN (iz _ _ (sk fun rj i9=>(wt (oS rfl (Yk.loadAll s hbm (N6).choose_spec rfl (AF (Az ((⟨c1,((c2:Nat):Int),[],l1,l2,0,0,zid,[],[],zid,zid,false,0⟩,⟨(Value.slice none 0 0),u1,u2,(Value.slice none 0 0)⟩):Am)) MQ) (oS rfl (Yk.storeAll s (vr (.agg (msgC ((⟨c1,((c2:Nat):Int),[],l1,l2,0,0,zid,[],[],zid,zid,false,0⟩,⟨(Value.slice none 0 0),u1,u2,(Value.slice none 0 0)⟩):Am)).toArray) rfl) hbm (by simp only[List.size_toArray,Az]) (AF (Az _) MQ) (CP (x:=((⟨c1,((c2:Nat):Int),[],l1,l2,0,0,zid,[],[],zid,zid,false,0⟩,⟨(Value.slice none 0 0),u1,u2,(Value.slice none 0 0)⟩):Am)) rfl (RG.one (RG.ofOwn hoq)).2 (RG.one (RG.ofOwn bs)).2 rfl) fun ja e4 b3 rk=> ?_)))))))
   have f:=Ae f b3 (Nat.le_trans (Nat.le_refl _) (by omega))
   have hb:=kb b3 hb (by omega)
   clear hbm
   have hbg:=kb b3 hbg (by omega)
   have hbn:=kb b3 hbn (by omega)
   have bs:=OG.kept bs b3 ap_u2.m
   have hoq:=OG.kept hoq b3 ap_u1.m
   have hbm:ja.heap[y]? =some (.cells (msgC ((⟨c1,((c2:Nat):Int),[],l1,l2,0,0,zid,[],[],zid,zid,false,0⟩,⟨(Value.slice none 0 0),u1,u2,(Value.slice none 0 0)⟩):Am)).toArray 29 (0,0)):=e4;clear e4
   have rl:=bl hbm
   refine oZ (tN (i9 _ _ (Ap (Br (fn:=Tryd.f67) _ rfl [.agg (msgC ((⟨c1,((c2:Nat):Int),[],l1,l2,0,0,zid,[],[],zid,zid,false,0⟩,⟨(Value.slice none 0 0),u1,u2,(Value.slice none 0 0)⟩):Am)).toArray] (.agg (msgC ((⟨c1,((c2:Nat):Int),[],l1,l2,0,0,zid,[],[],zid,zid,false,0⟩,⟨(Value.slice none 0 0),u1,u2,(Value.slice none 0 0)⟩):Am)).toArray) rfl ⟨ResF.row s hbm (N6).choose_spec rfl (AF (Az _) MQ),trivial⟩ ?_))))
   exact .inl ⟨_,rfl,((⟨c1,((c2:Nat):Int),[],l1,l2,0,0,zid,[],[],zid,zid,false,0⟩,⟨(Value.slice none 0 0),u1,u2,(Value.slice none 0 0)⟩):Am),by rw[hD];simp only[hPb1,hPb2,Option.bind_some];refine if_pos ?_;exact⟨hj,i8⟩,rfl,(MsgAt.mk (RG.nil _ _ _) (RG.ofOwn hoq) (RG.ofOwn bs) (RB.nil _)),⟨(fun k h=>by cases h),(fun k h=>(hoq.2.lt k h).1),(fun k h=>(bs.2.lt k h).1),(fun k h=>by cases h)⟩,f⟩
  refine tN (e0 _ _ (Al (vr (.bool (false)) rfl) (Ak (tN (ez _ _ (sk fun rm rn=> ?_))))))
  refine A3 14 _ [Is (PQ r 0),Is (PQ r 0),Is (PQ r 1),Is (NI i2),Is (PQ r 0),Is (PQ r 0),Is (PQ r 0),Is (v),Is (NI b.length),Is (.bool (false)),Is (.bool (false)),Is undef,Is undef,Is (.bool (false))] (by kernel_rfl) [79,80,81,82,83,84,85,86,87,88,89,90,91,92,93] (by kernel_rfl) (by kernel_rfl) (by kernel_rfl) rfl rfl rfl (fun _ _=>trivial) (Cz (Cc trivial)) ?jb ?hQ8027
  case jb=>
   refine⟨?_,?_,?_,?_,?_,?_,?_,?_,?_,?_,?_,?_,?_,?_,?_,trivial⟩
   ·refine Ah (Aa rfl fun σ w1 hC h=> ?_)
    have e1:=(Ad (h 1 (by decide))).trans q
    exact Yk.cell1 Ea rfl e1 (Ac (eb hC hbg) (show _=some (PQ r 0:Value)from rfl)) ⟨Ext.refl _,rfl⟩
   ·refine Ah (Aa rfl fun σ w1 hC h=> ?_)
    have am:=Ad (h 79 (by decide))
    exact Yk.nilCheck am ⟨Ext.refl _,rfl⟩
   ·refine Ah (Aa rfl fun σ w1 hC h=> ?_)
    have an:=Ad (h 80 (by decide))
    exact Yk.fieldAt A4 an ⟨Ext.refl _,rfl⟩
   ·refine Ah (Aa rfl fun σ w1 hC h=> ?_)
    have ao:=Ad (h 81 (by decide))
    exact Yk.cell1 Fs rfl ao (Ac (eb hC hb) (show(AU (AD v b (i2)))[1]? =some (NI i2:Value)from BE (AD v b (i2)))) ⟨Ext.refl _,rfl⟩
   ·refine Ah (Aa rfl fun σ w1 hC h=> ?_)
    have e1:=(Ad (h 1 (by decide))).trans q
    exact Yk.cell1 Ea rfl e1 (Ac (eb hC hbg) (show _=some (PQ r 0:Value)from rfl)) ⟨Ext.refl _,rfl⟩
   ·refine Ah (Aa rfl fun σ w1 hC h=> ?_)
    have ap:=Ad (h 83 (by decide))
    exact Yk.nilCheck ap ⟨Ext.refl _,rfl⟩
   ·refine Ah (Aa rfl fun σ w1 hC h=> ?_)
    have aq:=Ad (h 84 (by decide))
    exact Yk.fieldAt BY aq ⟨Ext.refl _,rfl⟩
   ·refine Ah (Aa rfl fun σ w1 hC h=> ?_)
    have ar:=Ad (h 85 (by decide))
    exact Yk.cell1 Ff rfl ar (Ac (eb hC hb) (show(AU (AD v b (i2)))[0]? =some (v:Value)from BP (AD v b (i2)))) ⟨Ext.refl _,rfl⟩
   ·refine Ah (Aa rfl fun σ w1 hC h=> ?_)
    have au:=Ad (h 86 (by decide))
    exact Yk.lenRB Ff (RB.of (hr.keep (f.trans hC)) au) ⟨Ext.refl _,rfl⟩
   ·refine Ah (Aa rfl fun σ w1 hC h=> ?_)
    have av:=Ad (h 82 (by decide))
    have aw:=Ad (h 87 (by decide))
    exact Yk.eqI (a:=(i2:Nat)) (b:=(b.length:Nat)) av aw (k_eql _ _ _ _) ⟨Ext.refl _,(congrArg Value.bool (decide_eq_false (hj)))⟩
   ·refine Ah (Aa rfl fun σ w1 hC h=> ?_)
    have ax:=Ad (h 88 (by decide))
    exact Yk.move ax ⟨Ext.refl _,rfl⟩
   ·refine Ah (BN 10 true 89 rfl rfl (fun x _ (h:x = .bool false)=>by rw[h];intro h;cases h) fun _=>rfl)
   ·refine Ah (BN 10 true 89 rfl rfl (fun x _ (h:x = .bool false)=>by rw[h];intro h;cases h) fun _=>rfl)
   ·refine Ah (Aa rfl fun σ w1 hC h=> ?_)
    have ay:=Ad (h 89 (by decide))
    exact Yk.pickF ay (vr (.bool (false)) rfl) ⟨Ext.refl _,rfl⟩
   ·exact trivial
  intro jc ro b4 he hf
  obtain⟨-,-,-,-,-,-,-,-,-,-,-,-,-,k92,-⟩:=hf
  obtain⟨T0,q,s,o,T4,ad,ae,af,ag,ah,ai,aj,az,-⟩:=he.hold [(0,_),(1,_),(2,_),(3,_),(4,_),(22, .bool (false)),(27, .bool (true)),(35, .bool (false)),(40, .bool (false)),(45, .bool (false)),(50, .bool (false)),(56, .bool (false)),(75, .bool (false))] ⟨T0,q,s,o,a4,rfl,rfl,rfl,rfl,rfl,rfl,rfl,rfl,trivial⟩ rfl
  clear he
  have f:=f.trans b4
  have hb:=eb b4 hb
  have hbm:=eb b4 hbm
  have hbg:=eb b4 hbg
  have hbn:=eb b4 hbn
  have hoq:=hoq.keep b4
  have a0:jc 92 = .bool (false):=k92
  clear k92
  refine Yp.callA1 Cr a0 ?_
  refine Ar (AQ _ (false)) ?_ ?_
  rotate_left
  ·
   rintro ch rp ⟨rfl,hb,hx⟩
   refine Aq (postP_panic ?_)
   exact .inr ⟨_,rfl,by rw[hD];simp only[hPb1,hPb2,Option.bind_some];refine if_neg ?_;rintro⟨h1,h2⟩;exact hj h1,rfl,f.trans hx⟩
  rintro v_ rq ⟨rfl,jd,rr⟩
  cases jd
 ·have hD:=Dl hP1 hK hP2
  rw[Nd (m:=(⟨c1,((c2:Nat):Int),[],[],[],0,0,zid,[],[],zid,zid,false,0⟩:Msg)) hk]at hD
  refine tN (bt _ _ (sk fun rs je=>(sk fun rt jf=>(wt (oS rfl (Yk.fieldAt LF o (oS rfl (Yk.cell1 CS rfl (vr (PQ t 0) rfl) (Ac n (show(partsC (⟨false,false,true,false,true,false,false,false⟩:Ag))[0]? =some (.bool (false):Value)from BH (⟨false,false,true,false,true,false,false,false⟩:Ag))) (oZ (tN (jf _ _ (Al (vr (.bool (false)) rfl) (Ak (tN (je _ _ (sk fun ru jg=>(sk fun rv jh=>(wt (oS rfl (Yk.fieldAt LG o (oS rfl (Yk.cell1 CS rfl (vr (PQ t 1) rfl) (Ac n (show(partsC (⟨false,false,true,false,true,false,false,false⟩:Ag))[1]? =some (.bool (false):Value)from BI (⟨false,false,true,false,true,false,false,false⟩:Ag))) ?_))))))))))))))))))))))
  refine oZ (tN (jh _ _ (Al (vr (.bool (false)) rfl) (Ak (tN (jg _ _ (sk fun rx ji=>(sk fun ry jj=>(wt (oS rfl (Yk.fieldAt LH o (oS rfl (Yk.cell1 CS rfl (vr (PQ t 2) rfl) (Ac n (show(partsC (⟨false,false,true,false,true,false,false,false⟩:Ag))[2]? =some (.bool (true):Value)from BJ (⟨false,false,true,false,true,false,false,false⟩:Ag))) (oZ (tN (jj _ _ (AE (vr (.bool (true)) rfl) (wt (oS rfl (Yk.cell1 Ea rfl q (Ac l (show _=some (PQ r 0:Value)from rfl)) (oP rfl (Yp.callA1 Gt (vr (PQ r 0) rfl) ?_))))))))))))))))))))))
  refine Ar (Ch _ r v b j2 hb (hr.keep f) hapr hle_j2 hl) ?_ ?_
  rotate_left
  ·
   rintro ch rz ⟨hPx,rfl,hgx⟩
   refine Aq (postP_panic ?_)
   exact .inr ⟨_,rfl,by rw[hD];simp only[hPx,Option.bind_some,Option.bind_none],rfl,(Ae f hgx lr)⟩
  rintro v_ r0 ⟨d1,i1,hPb1,rfl,e5,c0⟩
  have f:=Ae f c0 (Nat.le_trans (Nat.le_refl _) lr)
  have l:=kb c0 l (by omega)
  have n:=kb c0 n (by omega)
  clear hb
  have j:=kb c0 j (by omega)
  have hb:=e5;clear e5
  have hle_i1:=Dk hle_j2 hPb1
  have r1:=bl hb
  refine oS rfl (Yk.fieldAt HP s (oS rfl (Yk.storeC (i:=5) (v:=NI d1) (vr (PQ y 5) rfl) (vr (NI d1) rfl) j (by rw[Az];decide) C1 rfl rfl fun jk e6 c3 r2=> ?_)))
  have f:=Ae f c3 (Nat.le_trans (Nat.le_refl _) (by omega))
  have l:=kb c3 l (by omega)
  have n:=kb c3 n (by omega)
  clear j
  have hb:=kb c3 hb (by omega)
  have j:jk.heap[y]? =some (.cells (msgC ((⟨c1,((c2:Nat):Int),[],[],[],((d1:Nat):Int),0,zid,[],[],zid,zid,false,0⟩,⟨(Value.slice none 0 0),(Value.slice none 0 0),(Value.slice none 0 0),(Value.slice none 0 0)⟩):Am)).toArray 29 (0,0)):=Bf e6 (Mq ((⟨c1,((c2:Nat):Int),[],[],[],0,0,zid,[],[],zid,zid,false,0⟩,⟨(Value.slice none 0 0),(Value.slice none 0 0),(Value.slice none 0 0),(Value.slice none 0 0)⟩):Am) ((d1:Nat):Int));clear e6
  have r3:=bl j
  refine oZ (tN (ji _ _ (sk fun r4 jl=>(sk fun r5 jm=>(wt (oS rfl (Yk.fieldAt LI o (oS rfl (Yk.cell1 CS rfl (vr (PQ t 3) rfl) (Ac n (show(partsC (⟨false,false,true,false,true,false,false,false⟩:Ag))[3]? =some (.bool (false):Value)from BK (⟨false,false,true,false,true,false,false,false⟩:Ag))) (oZ (tN (jm _ _ (Al (vr (.bool (false)) rfl) (Ak (tN (jl _ _ (sk fun r6 jn=>(sk fun r7 jo=>(wt (oS rfl (Yk.fieldAt LJ o ?_)))))))))))))))))))))
  refine oS rfl (Yk.cell1 CS rfl (vr (PQ t 4) rfl) (Ac n (show(partsC (⟨false,false,true,false,true,false,false,false⟩:Ag))[4]? =some (.bool (true):Value)from BL (⟨false,false,true,false,true,false,false,false⟩:Ag))) (oZ (tN (jo _ _ (AE (vr (.bool (true)) rfl) (wt (oS rfl (Yk.cell1 Ea rfl q (Ac l (show _=some (PQ r 0:Value)from rfl)) (oP rfl (Yp.callA1 Gu (vr (PQ r 0) rfl) ?_))))))))))
  refine Ar (DV _ r v b i1 hb (hr.keep f) hapr hle_i1 hl) ?_ ?_
  rotate_left
  ·
   rintro ch r8 ⟨hPx,rfl,hgx⟩
   refine Aq (postP_panic ?_)
   exact .inr ⟨_,rfl,by rw[hD];simp only[hPb1,hPx,Option.bind_some,Option.bind_none],rfl,(Ae f hgx lr)⟩
  rintro v_ r9 ⟨d2,i2,hPb2,rfl,e7,c4⟩
  have f:=Ae f c4 (Nat.le_trans (Nat.le_refl _) lr)
  have l:=kb c4 l (by omega)
  have n:=kb c4 n (by omega)
  clear hb
  have j:=kb c4 j (by omega)
  have hb:=e7;clear e7
  have hle_i2:=ES hPb2
  have sa:=bl hb
  refine oS rfl (Yk.fieldAt LK s (oS rfl (Yk.storeMid (a:=EK ((⟨c1,((c2:Nat):Int),[],[],[],((d1:Nat):Int),0,zid,[],[],zid,zid,false,0⟩,⟨(Value.slice none 0 0),(Value.slice none 0 0),(Value.slice none 0 0),(Value.slice none 0 0)⟩):Am)) (m:=Lib.byteCells zid.1) (z:=F9 ((⟨c1,((c2:Nat):Int),[],[],[],((d1:Nat):Int),0,zid,[],[],zid,zid,false,0⟩,⟨(Value.slice none 0 0),(Value.slice none 0 0),(Value.slice none 0 0),(Value.slice none 0 0)⟩):Am)) (cells:=Lib.byteCells d2.1) (vr (PQ y 7) rfl) (vr (AB d2.1) rfl) (D4 ((⟨c1,((c2:Nat):Int),[],[],[],((d1:Nat):Int),0,zid,[],[],zid,zid,false,0⟩,⟨(Value.slice none 0 0),(Value.slice none 0 0),(Value.slice none 0 0),(Value.slice none 0 0)⟩):Am)▸j) (EL ((⟨c1,((c2:Nat):Int),[],[],[],((d1:Nat):Int),0,zid,[],[],zid,zid,false,0⟩,⟨(Value.slice none 0 0),(Value.slice none 0 0),(Value.slice none 0 0),(Value.slice none 0 0)⟩):Am)) (by rw[Lib.byteCells_length,Lib.byteCells_length,zid.2,d2.2]) (by rw[Lib.byteCells_length,d2.2];exact Mx) (AI _) fun jp e8 c5 sb=> ?_)))
  have f:=Ae f c5 (Nat.le_trans (Nat.le_refl _) (by omega))
  have l:=kb c5 l (by omega)
  have n:=kb c5 n (by omega)
  clear j
  have hb:=kb c5 hb (by omega)
  have j:jp.heap[y]? =some (.cells (msgC ((⟨c1,((c2:Nat):Int),[],[],[],((d1:Nat):Int),0,d2,[],[],zid,zid,false,0⟩,⟨(Value.slice none 0 0),(Value.slice none 0 0),(Value.slice none 0 0),(Value.slice none 0 0)⟩):Am)).toArray 29 (0,0)):=Bf e8 (Ms ((⟨c1,((c2:Nat):Int),[],[],[],((d1:Nat):Int),0,zid,[],[],zid,zid,false,0⟩,⟨(Value.slice none 0 0),(Value.slice none 0 0),(Value.slice none 0 0),(Value.slice none 0 0)⟩):Am) d2);clear e8
  have sc:=bl j
  refine oZ (tN (jn _ _ (sk fun sd jq=>(sk fun se jr=>(wt (oS rfl (Yk.fieldAt HT o (oS rfl (Yk.cell1 CS rfl (vr (PQ t 5) rfl) (Ac n (show(partsC (⟨false,false,true,false,true,false,false,false⟩:Ag))[5]? =some (.bool (false):Value)from Bv (⟨false,false,true,false,true,false,false,false⟩:Ag))) (oZ (tN (jr _ _ (Al (vr (.bool (false)) rfl) (Ak (tN (jq _ _ (sk fun sf js=>(sk fun sg jt=>(wt (oS rfl (Yk.fieldAt HU o ?_)))))))))))))))))))))
  refine oS rfl (Yk.cell1 CS rfl (vr (PQ t 6) rfl) (Ac n (show(partsC (⟨false,false,true,false,true,false,false,false⟩:Ag))[6]? =some (.bool (false):Value)from Bw (⟨false,false,true,false,true,false,false,false⟩:Ag))) (oZ (tN (jt _ _ (Al (vr (.bool (false)) rfl) (Ak (tN (js _ _ (sk fun sh fa=>(sk fun si fb=>(wt (oS rfl (Yk.fieldAt LL o (oS rfl (Yk.cell1 CS rfl (vr (PQ t 7) rfl) (Ac n (show(partsC (⟨false,false,true,false,true,false,false,false⟩:Ag))[7]? =some (.bool (false):Value)from Bx (⟨false,false,true,false,true,false,false,false⟩:Ag))) (oZ ?_))))))))))))))))
  have hMl:CX (((⟨c1,((c2:Nat):Int),[],[],[],((d1:Nat):Int),0,d2,[],[],zid,zid,false,0⟩,⟨(Value.slice none 0 0),(Value.slice none 0 0),(Value.slice none 0 0),(Value.slice none 0 0)⟩):Am):Am).1:=⟨by simp,fun u hu=>(by cases hu),by simp,by simp,by simp⟩
  by_cases hj:i2=b.length
  ·refine tN (fb _ _ (Al (vr (.bool (false)) rfl) (Ak (tN (fa _ _ (sk fun sj ju=> ?_))))))
   refine A3 14 _ [Is (PQ r 0),Is (PQ r 0),Is (PQ r 1),Is (NI i2),Is (PQ r 0),Is (PQ r 0),Is (PQ r 0),Is (v),Is (NI b.length),Is (.bool (true)),Is (.bool (true)),Is (.agg (msgC ((⟨c1,((c2:Nat):Int),[],[],[],((d1:Nat):Int),0,d2,[],[],zid,zid,false,0⟩,⟨(Value.slice none 0 0),(Value.slice none 0 0),(Value.slice none 0 0),(Value.slice none 0 0)⟩):Am)).toArray),Is (.bool (rightB (((⟨c1,((c2:Nat):Int),[],[],[],((d1:Nat):Int),0,d2,[],[],zid,zid,false,0⟩,⟨(Value.slice none 0 0),(Value.slice none 0 0),(Value.slice none 0 0),(Value.slice none 0 0)⟩):Am):Am).1)),Is (.bool (rightB (((⟨c1,((c2:Nat):Int),[],[],[],((d1:Nat):Int),0,d2,[],[],zid,zid,false,0⟩,⟨(Value.slice none 0 0),(Value.slice none 0 0),(Value.slice none 0 0),(Value.slice none 0 0)⟩):Am):Am).1))] (by kernel_rfl) [79,80,81,82,83,84,85,86,87,88,89,90,91,92,93] (by kernel_rfl) (by kernel_rfl) (by kernel_rfl) rfl rfl rfl (fun _ _=>trivial) (Cz (Cc trivial)) ?jv ?hQ9027
   case jv=>
    refine⟨?_,?_,?_,?_,?_,?_,?_,?_,?_,?_,?_,?_,?_,?_,?_,trivial⟩
    ·refine Ah (Aa rfl fun σ w1 hC h=> ?_)
     have e1:=(Ad (h 1 (by decide))).trans q
     exact Yk.cell1 Ea rfl e1 (Ac (eb hC l) (show _=some (PQ r 0:Value)from rfl)) ⟨Ext.refl _,rfl⟩
    ·refine Ah (Aa rfl fun σ w1 hC h=> ?_)
     have am:=Ad (h 79 (by decide))
     exact Yk.nilCheck am ⟨Ext.refl _,rfl⟩
    ·refine Ah (Aa rfl fun σ w1 hC h=> ?_)
     have an:=Ad (h 80 (by decide))
     exact Yk.fieldAt A4 an ⟨Ext.refl _,rfl⟩
    ·refine Ah (Aa rfl fun σ w1 hC h=> ?_)
     have ao:=Ad (h 81 (by decide))
     exact Yk.cell1 Fs rfl ao (Ac (eb hC hb) (show(AU (AD v b (i2)))[1]? =some (NI i2:Value)from BE (AD v b (i2)))) ⟨Ext.refl _,rfl⟩
    ·refine Ah (Aa rfl fun σ w1 hC h=> ?_)
     have e1:=(Ad (h 1 (by decide))).trans q
     exact Yk.cell1 Ea rfl e1 (Ac (eb hC l) (show _=some (PQ r 0:Value)from rfl)) ⟨Ext.refl _,rfl⟩
    ·refine Ah (Aa rfl fun σ w1 hC h=> ?_)
     have ap:=Ad (h 83 (by decide))
     exact Yk.nilCheck ap ⟨Ext.refl _,rfl⟩
    ·refine Ah (Aa rfl fun σ w1 hC h=> ?_)
     have aq:=Ad (h 84 (by decide))
     exact Yk.fieldAt BY aq ⟨Ext.refl _,rfl⟩
    ·refine Ah (Aa rfl fun σ w1 hC h=> ?_)
     have ar:=Ad (h 85 (by decide))
     exact Yk.cell1 Ff rfl ar (Ac (eb hC hb) (show(AU (AD v b (i2)))[0]? =some (v:Value)from BP (AD v b (i2)))) ⟨Ext.refl _,rfl⟩
    ·refine Ah (Aa rfl fun σ w1 hC h=> ?_)
     have au:=Ad (h 86 (by decide))
     exact Yk.lenRB Ff (RB.of (hr.keep (f.trans hC)) au) ⟨Ext.refl _,rfl⟩
    ·refine Ah (Aa rfl fun σ w1 hC h=> ?_)
     have av:=Ad (h 82 (by decide))
     have aw:=Ad (h 87 (by decide))
     exact Yk.eqI (a:=(i2:Nat)) (b:=(b.length:Nat)) av aw (k_eql _ _ _ _) ⟨Ext.refl _,(congrArg Value.bool (decide_eq_true (hj)))⟩
    ·refine Ah (Aa rfl fun σ w1 hC h=> ?_)
     have ax:=Ad (h 88 (by decide))
     exact Yk.move ax ⟨Ext.refl _,rfl⟩
    ·refine Ah (Bg 10 true 89 rfl rfl (fun _ _ h=>h) fun σ w1 hC h=> ?_)
     have e2:=(Ad (h 2 (by decide))).trans s
     exact Yk.loadAll e2 (eb hC j) (N6).choose_spec rfl (AF (Az ((⟨c1,((c2:Nat):Int),[],[],[],((d1:Nat):Int),0,d2,[],[],zid,zid,false,0⟩,⟨(Value.slice none 0 0),(Value.slice none 0 0),(Value.slice none 0 0),(Value.slice none 0 0)⟩):Am)) MQ) ⟨Ext.refl _,rfl⟩
    ·refine Ah (Bg 10 true 89 rfl rfl (fun _ _ h=>h) fun σ w1 hC h=> ?_)
     have a5:=Ad (h 90 (by decide))
     refine Yk.callA1 Oj a5 ((CC _ ((⟨c1,((c2:Nat):Int),[],[],[],((d1:Nat):Int),0,d2,[],[],zid,zid,false,0⟩,⟨(Value.slice none 0 0),(Value.slice none 0 0),(Value.slice none 0 0),(Value.slice none 0 0)⟩):Am) (MsgAt.mk (RG.nil _ _ _) (RG.nil _ _ _) (RG.nil _ _ _) (RB.nil _)) hMl).mono ?_)
     rintro e w2 ⟨rfl,hx⟩
     exact⟨_,rfl,hx,rfl⟩
    ·refine Ah (Aa rfl fun σ w1 hC h=> ?_)
     have ay:=Ad (h 89 (by decide))
     have a6:=Ad (h 91 (by decide))
     exact Yk.pickT ay a6 ⟨Ext.refl _,rfl⟩
    ·exact trivial
   intro jw sl cd he hf
   obtain⟨-,-,-,-,-,-,-,-,-,-,-,-,-,k92,-⟩:=hf
   obtain⟨T0,q,s,o,T4,ad,ae,af,ag,ah,ai,aj,az,-⟩:=he.hold [(0,_),(1,_),(2,_),(3,_),(4,_),(22, .bool (false)),(27, .bool (false)),(35, .bool (true)),(40, .bool (false)),(45, .bool (true)),(50, .bool (false)),(56, .bool (false)),(75, .bool (false))] ⟨T0,q,s,o,a4,rfl,rfl,rfl,rfl,rfl,rfl,rfl,rfl,trivial⟩ rfl
   clear he
   have f:=f.trans cd
   have l:=eb cd l
   have n:=eb cd n
   have hb:=eb cd hb
   have j:=eb cd j
   have a0:jw 92 = .bool (rightB (((⟨c1,((c2:Nat):Int),[],[],[],((d1:Nat):Int),0,d2,[],[],zid,zid,false,0⟩,⟨(Value.slice none 0 0),(Value.slice none 0 0),(Value.slice none 0 0),(Value.slice none 0 0)⟩):Am):Am).1):=k92
   clear k92
   refine Yp.callA1 Cr a0 ?_
   refine Ar (AQ _ (rightB (((⟨c1,((c2:Nat):Int),[],[],[],((d1:Nat):Int),0,d2,[],[],zid,zid,false,0⟩,⟨(Value.slice none 0 0),(Value.slice none 0 0),(Value.slice none 0 0),(Value.slice none 0 0)⟩):Am):Am).1)) ?_ ?_
   rotate_left
   ·
    rintro ch sm ⟨rfl,hb,hx⟩
    refine Aq (postP_panic ?_)
    exact .inr ⟨_,rfl,by rw[hD];simp only[hPb1,hPb2,Option.bind_some];refine if_neg ?_;rintro⟨h1,h2⟩;exact Bool.noConfusion (h2.symm.trans hb),rfl,f.trans hx⟩
   rintro v_ sn ⟨rfl,jx,ce⟩
   have f:=f.trans ce
   have l:=eb ce l
   have n:=eb ce n
   have hb:=eb ce hb
   have j:=eb ce j
   intro bh bi
   have T0:bh 0=(PQ r 0:Value):=(bi 0 (by decide)).trans T0
   have q:bh 1=(PQ n2 0:Value):=(bi 1 (by decide)).trans q
   have s:bh 2=(PQ y 0:Value):=(bi 2 (by decide)).trans s
   have o:bh 3=(PQ t 0:Value):=(bi 3 (by decide)).trans o
   have T4:bh 4=(.bool (true):Value):=(bi 4 (by decide)).trans T4
   have ad:bh 22=(.bool (false):Value):=(bi 22 (by decide)).trans ad
   have ae:bh 27=(.bool (false):Value):=(bi 27 (by decide)).trans ae
   have af:bh 35=(.bool (true):Value):=(bi 35 (by decide)).trans af
   have ag:bh 40=(.bool (false):Value):=(bi 40 (by decide)).trans ag
   have ah:bh 45=(.bool (true):Value):=(bi 45 (by decide)).trans ah
   have ai:bh 50=(.bool (false):Value):=(bi 50 (by decide)).trans ai
   have aj:bh 56=(.bool (false):Value):=(bi 56 (by decide)).trans aj
   have az:bh 75=(.bool (false):Value):=(bi 75 (by decide)).trans az
   refine tN (ju _ _ (sk fun so jy=>(wt (oS rfl (Yk.loadAll s j (N6).choose_spec rfl (AF (Az ((⟨c1,((c2:Nat):Int),[],[],[],((d1:Nat):Int),0,d2,[],[],zid,zid,false,0⟩,⟨(Value.slice none 0 0),(Value.slice none 0 0),(Value.slice none 0 0),(Value.slice none 0 0)⟩):Am)) MQ) (oS rfl (Yk.storeAll s (vr (.agg (msgC ((⟨c1,((c2:Nat):Int),[],[],[],((d1:Nat):Int),0,d2,[],[],zid,zid,false,0⟩,⟨(Value.slice none 0 0),(Value.slice none 0 0),(Value.slice none 0 0),(Value.slice none 0 0)⟩):Am)).toArray) rfl) j (by simp only[List.size_toArray,Az]) (AF (Az _) MQ) (CP (x:=((⟨c1,((c2:Nat):Int),[],[],[],((d1:Nat):Int),0,d2,[],[],zid,zid,false,0⟩,⟨(Value.slice none 0 0),(Value.slice none 0 0),(Value.slice none 0 0),(Value.slice none 0 0)⟩):Am)) rfl rfl rfl rfl) fun jz fc c6 sp=> ?_)))))))
   have f:=Ae f c6 (Nat.le_trans (Nat.le_refl _) (by omega))
   have l:=kb c6 l (by omega)
   have n:=kb c6 n (by omega)
   have hb:=kb c6 hb (by omega)
   clear j
   have j:jz.heap[y]? =some (.cells (msgC ((⟨c1,((c2:Nat):Int),[],[],[],((d1:Nat):Int),0,d2,[],[],zid,zid,false,0⟩,⟨(Value.slice none 0 0),(Value.slice none 0 0),(Value.slice none 0 0),(Value.slice none 0 0)⟩):Am)).toArray 29 (0,0)):=fc;clear fc
   have sq:=bl j
   refine oZ (tN (jy _ _ (Ap (Br (fn:=Tryd.f67) _ rfl [.agg (msgC ((⟨c1,((c2:Nat):Int),[],[],[],((d1:Nat):Int),0,d2,[],[],zid,zid,false,0⟩,⟨(Value.slice none 0 0),(Value.slice none 0 0),(Value.slice none 0 0),(Value.slice none 0 0)⟩):Am)).toArray] (.agg (msgC ((⟨c1,((c2:Nat):Int),[],[],[],((d1:Nat):Int),0,d2,[],[],zid,zid,false,0⟩,⟨(Value.slice none 0 0),(Value.slice none 0 0),(Value.slice none 0 0),(Value.slice none 0 0)⟩):Am)).toArray) rfl ⟨ResF.row s j (N6).choose_spec rfl (AF (Az _) MQ),trivial⟩ ?_))))
   exact .inl ⟨_,rfl,((⟨c1,((c2:Nat):Int),[],[],[],((d1:Nat):Int),0,d2,[],[],zid,zid,false,0⟩,⟨(Value.slice none 0 0),(Value.slice none 0 0),(Value.slice none 0 0),(Value.slice none 0 0)⟩):Am),by rw[hD];simp only[hPb1,hPb2,Option.bind_some];refine if_pos ?_;exact⟨hj,jx⟩,rfl,(MsgAt.mk (RG.nil _ _ _) (RG.nil _ _ _) (RG.nil _ _ _) (RB.nil _)),⟨(fun k h=>by cases h),(fun k h=>by cases h),(fun k h=>by cases h),(fun k h=>by cases h)⟩,f⟩
  refine tN (fb _ _ (Al (vr (.bool (false)) rfl) (Ak (tN (fa _ _ (sk fun sr ss=> ?_))))))
  refine A3 14 _ [Is (PQ r 0),Is (PQ r 0),Is (PQ r 1),Is (NI i2),Is (PQ r 0),Is (PQ r 0),Is (PQ r 0),Is (v),Is (NI b.length),Is (.bool (false)),Is (.bool (false)),Is undef,Is undef,Is (.bool (false))] (by kernel_rfl) [79,80,81,82,83,84,85,86,87,88,89,90,91,92,93] (by kernel_rfl) (by kernel_rfl) (by kernel_rfl) rfl rfl rfl (fun _ _=>trivial) (Cz (Cc trivial)) ?j0 ?hQ10027
  case j0=>
   refine⟨?_,?_,?_,?_,?_,?_,?_,?_,?_,?_,?_,?_,?_,?_,?_,trivial⟩
   ·refine Ah (Aa rfl fun σ w1 hC h=> ?_)
    have e1:=(Ad (h 1 (by decide))).trans q
    exact Yk.cell1 Ea rfl e1 (Ac (eb hC l) (show _=some (PQ r 0:Value)from rfl)) ⟨Ext.refl _,rfl⟩
   ·refine Ah (Aa rfl fun σ w1 hC h=> ?_)
    have am:=Ad (h 79 (by decide))
    exact Yk.nilCheck am ⟨Ext.refl _,rfl⟩
   ·refine Ah (Aa rfl fun σ w1 hC h=> ?_)
    have an:=Ad (h 80 (by decide))
    exact Yk.fieldAt A4 an ⟨Ext.refl _,rfl⟩
   ·refine Ah (Aa rfl fun σ w1 hC h=> ?_)
    have ao:=Ad (h 81 (by decide))
    exact Yk.cell1 Fs rfl ao (Ac (eb hC hb) (show(AU (AD v b (i2)))[1]? =some (NI i2:Value)from BE (AD v b (i2)))) ⟨Ext.refl _,rfl⟩
   ·refine Ah (Aa rfl fun σ w1 hC h=> ?_)
    have e1:=(Ad (h 1 (by decide))).trans q
    exact Yk.cell1 Ea rfl e1 (Ac (eb hC l) (show _=some (PQ r 0:Value)from rfl)) ⟨Ext.refl _,rfl⟩
   ·refine Ah (Aa rfl fun σ w1 hC h=> ?_)
    have ap:=Ad (h 83 (by decide))
    exact Yk.nilCheck ap ⟨Ext.refl _,rfl⟩
   ·refine Ah (Aa rfl fun σ w1 hC h=> ?_)
    have aq:=Ad (h 84 (by decide))
    exact Yk.fieldAt BY aq ⟨Ext.refl _,rfl⟩
   ·refine Ah (Aa rfl fun σ w1 hC h=> ?_)
    have ar:=Ad (h 85 (by decide))
    exact Yk.cell1 Ff rfl ar (Ac (eb hC hb) (show(AU (AD v b (i2)))[0]? =some (v:Value)from BP (AD v b (i2)))) ⟨Ext.refl _,rfl⟩
   ·refine Ah (Aa rfl fun σ w1 hC h=> ?_)
    have au:=Ad (h 86 (by decide))
    exact Yk.lenRB Ff (RB.of (hr.keep (f.trans hC)) au) ⟨Ext.refl _,rfl⟩
   ·refine Ah (Aa rfl fun σ w1 hC h=> ?_)
    have av:=Ad (h 82 (by decide))
    have aw:=Ad (h 87 (by decide))
    exact Yk.eqI (a:=(i2:Nat)) (b:=(b.length:Nat)) av aw (k_eql _ _ _ _) ⟨Ext.refl _,(congrArg Value.bool (decide_eq_false (hj)))⟩
   ·refine Ah (Aa rfl fun σ w1 hC h=> ?_)
    have ax:=Ad (h 88 (by decide))
    exact Yk.move ax ⟨Ext.refl _,rfl⟩
   ·refine Ah (BN 10 true 89 rfl rfl (fun x _ (h:x = .bool false)=>by rw[h];intro h;cases h) fun _=>rfl)
   ·refine Ah (BN 10 true 89 rfl rfl (fun x _ (h:x = .bool false)=>by rw[h];intro h;cases h) fun _=>rfl)
   ·refine Ah (Aa rfl fun σ w1 hC h=> ?_)
    have ay:=Ad (h 89 (by decide))
    exact Yk.pickF ay (vr (.bool (false)) rfl) ⟨Ext.refl _,rfl⟩
   ·exact trivial
  intro j3 st cf he hf
  obtain⟨-,-,-,-,-,-,-,-,-,-,-,-,-,k92,-⟩:=hf
  obtain⟨T0,q,s,o,T4,ad,ae,af,ag,ah,ai,aj,az,-⟩:=he.hold [(0,_),(1,_),(2,_),(3,_),(4,_),(22, .bool (false)),(27, .bool (false)),(35, .bool (true)),(40, .bool (false)),(45, .bool (true)),(50, .bool (false)),(56, .bool (false)),(75, .bool (false))] ⟨T0,q,s,o,a4,rfl,rfl,rfl,rfl,rfl,rfl,rfl,rfl,trivial⟩ rfl
  clear he
  have f:=f.trans cf
  have l:=eb cf l
  have n:=eb cf n
  have hb:=eb cf hb
  have j:=eb cf j
  have a0:j3 92 = .bool (false):=k92
  clear k92
  refine Yp.callA1 Cr a0 ?_
  refine Ar (AQ _ (false)) ?_ ?_
  rotate_left
  ·
   rintro ch su ⟨rfl,hb,hx⟩
   refine Aq (postP_panic ?_)
   exact .inr ⟨_,rfl,by rw[hD];simp only[hPb1,hPb2,Option.bind_some];refine if_neg ?_;rintro⟨h1,h2⟩;exact hj h1,rfl,f.trans hx⟩
  rintro v_ sv ⟨rfl,j4,sw⟩
  cases j4
 ·have hD:=Dl hP1 hK hP2
  rw[Nf (m:=(⟨c1,((c2:Nat):Int),[],[],[],0,0,zid,[],[],zid,zid,false,0⟩:Msg)) hk]at hD
  refine tN (bt _ _ (sk fun sx j5=>(sk fun sy j6=>(wt (oS rfl (Yk.fieldAt LF o (oS rfl (Yk.cell1 CS rfl (vr (PQ t 0) rfl) (Ac n (show(partsC (⟨false,false,false,true,false,false,false,false⟩:Ag))[0]? =some (.bool (false):Value)from BH (⟨false,false,false,true,false,false,false,false⟩:Ag))) (oZ (tN (j6 _ _ (Al (vr (.bool (false)) rfl) (Ak (tN (j5 _ _ (sk fun sz j7=>(sk fun s0 j8=>(wt (oS rfl (Yk.fieldAt LG o (oS rfl (Yk.cell1 CS rfl (vr (PQ t 1) rfl) (Ac n (show(partsC (⟨false,false,false,true,false,false,false,false⟩:Ag))[1]? =some (.bool (false):Value)from BI (⟨false,false,false,true,false,false,false,false⟩:Ag))) ?_))))))))))))))))))))))
  refine oZ (tN (j8 _ _ (Al (vr (.bool (false)) rfl) (Ak (tN (j7 _ _ (sk fun s1 j9=>(sk fun s2 ka=>(wt (oS rfl (Yk.fieldAt LH o (oS rfl (Yk.cell1 CS rfl (vr (PQ t 2) rfl) (Ac n (show(partsC (⟨false,false,false,true,false,false,false,false⟩:Ag))[2]? =some (.bool (false):Value)from BJ (⟨false,false,false,true,false,false,false,false⟩:Ag))) (oZ (tN (ka _ _ (Al (vr (.bool (false)) rfl) (Ak (tN (j9 _ _ (sk fun s3 kc=> ?_)))))))))))))))))))))
  refine sk fun s4 kd=>(wt (oS rfl (Yk.fieldAt LI o (oS rfl (Yk.cell1 CS rfl (vr (PQ t 3) rfl) (Ac n (show(partsC (⟨false,false,false,true,false,false,false,false⟩:Ag))[3]? =some (.bool (true):Value)from BK (⟨false,false,false,true,false,false,false,false⟩:Ag))) (oZ (tN (kd _ _ (AE (vr (.bool (true)) rfl) (wt (oS rfl (Yk.cell1 Ea rfl q (Ac l (show _=some (PQ r 0:Value)from rfl)) (oP rfl (Yp.callA1 Gt (vr (PQ r 0) rfl) ?_))))))))))))))
  refine Ar (Ch _ r v b j2 hb (hr.keep f) hapr hle_j2 hl) ?_ ?_
  rotate_left
  ·
   rintro ch s5 ⟨hPx,rfl,hgx⟩
   refine Aq (postP_panic ?_)
   exact .inr ⟨_,rfl,by rw[hD];simp only[hPx,Option.bind_some,Option.bind_none],rfl,(Ae f hgx lr)⟩
  rintro v_ s6 ⟨d1,i1,hPb1,rfl,fd,c7⟩
  have f:=Ae f c7 (Nat.le_trans (Nat.le_refl _) lr)
  have l:=kb c7 l (by omega)
  have n:=kb c7 n (by omega)
  clear hb
  have j:=kb c7 j (by omega)
  have hb:=fd;clear fd
  have hle_i1:=Dk hle_j2 hPb1
  have s7:=bl hb
  refine oS rfl (Yk.fieldAt HQ s (oS rfl (Yk.storeC (i:=6) (v:=NI d1) (vr (PQ y 6) rfl) (vr (NI d1) rfl) j (by rw[Az];decide) C1 rfl rfl fun ke fe c8 s8=> ?_)))
  have f:=Ae f c8 (Nat.le_trans (Nat.le_refl _) (by omega))
  have l:=kb c8 l (by omega)
  have n:=kb c8 n (by omega)
  clear j
  have hb:=kb c8 hb (by omega)
  have j:ke.heap[y]? =some (.cells (msgC ((⟨c1,((c2:Nat):Int),[],[],[],0,((d1:Nat):Int),zid,[],[],zid,zid,false,0⟩,⟨(Value.slice none 0 0),(Value.slice none 0 0),(Value.slice none 0 0),(Value.slice none 0 0)⟩):Am)).toArray 29 (0,0)):=Bf fe (Mr ((⟨c1,((c2:Nat):Int),[],[],[],0,0,zid,[],[],zid,zid,false,0⟩,⟨(Value.slice none 0 0),(Value.slice none 0 0),(Value.slice none 0 0),(Value.slice none 0 0)⟩):Am) ((d1:Nat):Int));clear fe
  have s9:=bl j
  refine oZ (tN (kc _ _ (sk fun ta kf=>(sk fun tb kg=>(wt (oS rfl (Yk.fieldAt LJ o (oS rfl (Yk.cell1 CS rfl (vr (PQ t 4) rfl) (Ac n (show(partsC (⟨false,false,false,true,false,false,false,false⟩:Ag))[4]? =some (.bool (false):Value)from BL (⟨false,false,false,true,false,false,false,false⟩:Ag))) (oZ (tN (kg _ _ (Al (vr (.bool (false)) rfl) (Ak (tN (kf _ _ (sk fun tc kh=>(sk fun td ki=>(wt (oS rfl (Yk.fieldAt HT o ?_)))))))))))))))))))))
  refine oS rfl (Yk.cell1 CS rfl (vr (PQ t 5) rfl) (Ac n (show(partsC (⟨false,false,false,true,false,false,false,false⟩:Ag))[5]? =some (.bool (false):Value)from Bv (⟨false,false,false,true,false,false,false,false⟩:Ag))) (oZ (tN (ki _ _ (Al (vr (.bool (false)) rfl) (Ak (tN (kh _ _ (sk fun te kj=>(sk fun tf kk=>(wt (oS rfl (Yk.fieldAt HU o (oS rfl (Yk.cell1 CS rfl (vr (PQ t 6) rfl) (Ac n (show(partsC (⟨false,false,false,true,false,false,false,false⟩:Ag))[6]? =some (.bool (false):Value)from Bw (⟨false,false,false,true,false,false,false,false⟩:Ag))) (oZ (tN (kk _ _ (Al (vr (.bool (false)) rfl) (Ak (tN (kj _ _ ?_))))))))))))))))))))))
  refine sk fun tg ff=>(sk fun th fg=>(wt (oS rfl (Yk.fieldAt LL o (oS rfl (Yk.cell1 CS rfl (vr (PQ t 7) rfl) (Ac n (show(partsC (⟨false,false,false,true,false,false,false,false⟩:Ag))[7]? =some (.bool (false):Value)from Bx (⟨false,false,false,true,false,false,false,false⟩:Ag))) (oZ ?_)))))))
  have hMl:CX (((⟨c1,((c2:Nat):Int),[],[],[],0,((d1:Nat):Int),zid,[],[],zid,zid,false,0⟩,⟨(Value.slice none 0 0),(Value.slice none 0 0),(Value.slice none 0 0),(Value.slice none 0 0)⟩):Am):Am).1:=⟨by simp,fun u hu=>(by cases hu),by simp,by simp,by simp⟩
  by_cases hj:i1=b.length
  ·refine tN (fg _ _ (Al (vr (.bool (false)) rfl) (Ak (tN (ff _ _ (sk fun ti kl=> ?_))))))
   refine A3 14 _ [Is (PQ r 0),Is (PQ r 0),Is (PQ r 1),Is (NI i1),Is (PQ r 0),Is (PQ r 0),Is (PQ r 0),Is (v),Is (NI b.length),Is (.bool (true)),Is (.bool (true)),Is (.agg (msgC ((⟨c1,((c2:Nat):Int),[],[],[],0,((d1:Nat):Int),zid,[],[],zid,zid,false,0⟩,⟨(Value.slice none 0 0),(Value.slice none 0 0),(Value.slice none 0 0),(Value.slice none 0 0)⟩):Am)).toArray),Is (.bool (rightB (((⟨c1,((c2:Nat):Int),[],[],[],0,((d1:Nat):Int),zid,[],[],zid,zid,false,0⟩,⟨(Value.slice none 0 0),(Value.slice none 0 0),(Value.slice none 0 0),(Value.slice none 0 0)⟩):Am):Am).1)),Is (.bool (rightB (((⟨c1,((c2:Nat):Int),[],[],[],0,((d1:Nat):Int),zid,[],[],zid,zid,false,0⟩,⟨(Value.slice none 0 0),(Value.slice none 0 0),(Value.slice none 0 0),(Value.slice none 0 0)⟩):Am):Am).1))] (by kernel_rfl) [79,80,81,82,83,84,85,86,87,88,89,90,91,92,93] (by kernel_rfl) (by kernel_rfl) (by kernel_rfl) rfl rfl rfl (fun _ _=>trivial) (Cz (Cc trivial)) ?km ?hQ11027
   case km=>
    refine⟨?_,?_,?_,?_,?_,?_,?_,?_,?_,?_,?_,?_,?_,?_,?_,trivial⟩
    ·refine Ah (Aa rfl fun σ w1 hC h=> ?_)
     have e1:=(Ad (h 1 (by decide))).trans q
     exact Yk.cell1 Ea rfl e1 (Ac (eb hC l) (show _=some (PQ r 0:Value)from rfl)) ⟨Ext.refl _,rfl⟩
    ·refine Ah (Aa rfl fun σ w1 hC h=> ?_)
     have am:=Ad (h 79 (by decide))
     exact Yk.nilCheck am ⟨Ext.refl _,rfl⟩
    ·refine Ah (Aa rfl fun σ w1 hC h=> ?_)
     have an:=Ad (h 80 (by decide))
     exact Yk.fieldAt A4 an ⟨Ext.refl _,rfl⟩
    ·refine Ah (Aa rfl fun σ w1 hC h=> ?_)
     have ao:=Ad (h 81 (by decide))
     exact Yk.cell1 Fs rfl ao (Ac (eb hC hb) (show(AU (AD v b (i1)))[1]? =some (NI i1:Value)from BE (AD v b (i1)))) ⟨Ext.refl _,rfl⟩
    ·refine Ah (Aa rfl fun σ w1 hC h=> ?_)
     have e1:=(Ad (h 1 (by decide))).trans q
     exact Yk.cell1 Ea rfl e1 (Ac (eb hC l) (show _=some (PQ r 0:Value)from rfl)) ⟨Ext.refl _,rfl⟩
    ·refine Ah (Aa rfl fun σ w1 hC h=> ?_)
     have ap:=Ad (h 83 (by decide))
     exact Yk.nilCheck ap ⟨Ext.refl _,rfl⟩
    ·refine Ah (Aa rfl fun σ w1 hC h=> ?_)
     have aq:=Ad (h 84 (by decide))
     exact Yk.fieldAt BY aq ⟨Ext.refl _,rfl⟩
    ·refine Ah (Aa rfl fun σ w1 hC h=> ?_)
     have ar:=Ad (h 85 (by decide))
     exact Yk.cell1 Ff rfl ar (Ac (eb hC hb) (show(AU (AD v b (i1)))[0]? =some (v:Value)from BP (AD v b (i1)))) ⟨Ext.refl _,rfl⟩
    ·refine Ah (Aa rfl fun σ w1 hC h=> ?_)
     have au:=Ad (h 86 (by decide))
     exact Yk.lenRB Ff (RB.of (hr.keep (f.trans hC)) au) ⟨Ext.refl _,rfl⟩
    ·refine Ah (Aa rfl fun σ w1 hC h=> ?_)
     have av:=Ad (h 82 (by decide))
     have aw:=Ad (h 87 (by decide))
     exact Yk.eqI (a:=(i1:Nat)) (b:=(b.length:Nat)) av aw (k_eql _ _ _ _) ⟨Ext.refl _,(congrArg Value.bool (decide_eq_true (hj)))⟩
    ·refine Ah (Aa rfl fun σ w1 hC h=> ?_)
     have ax:=Ad (h 88 (by decide))
     exact Yk.move ax ⟨Ext.refl _,rfl⟩
    ·refine Ah (Bg 10 true 89 rfl rfl (fun _ _ h=>h) fun σ w1 hC h=> ?_)
     have e2:=(Ad (h 2 (by decide))).trans s
     exact Yk.loadAll e2 (eb hC j) (N6).choose_spec rfl (AF (Az ((⟨c1,((c2:Nat):Int),[],[],[],0,((d1:Nat):Int),zid,[],[],zid,zid,false,0⟩,⟨(Value.slice none 0 0),(Value.slice none 0 0),(Value.slice none 0 0),(Value.slice none 0 0)⟩):Am)) MQ) ⟨Ext.refl _,rfl⟩
    ·refine Ah (Bg 10 true 89 rfl rfl (fun _ _ h=>h) fun σ w1 hC h=> ?_)
     have a5:=Ad (h 90 (by decide))
     refine Yk.callA1 Oj a5 ((CC _ ((⟨c1,((c2:Nat):Int),[],[],[],0,((d1:Nat):Int),zid,[],[],zid,zid,false,0⟩,⟨(Value.slice none 0 0),(Value.slice none 0 0),(Value.slice none 0 0),(Value.slice none 0 0)⟩):Am) (MsgAt.mk (RG.nil _ _ _) (RG.nil _ _ _) (RG.nil _ _ _) (RB.nil _)) hMl).mono ?_)
     rintro e w2 ⟨rfl,hx⟩
     exact⟨_,rfl,hx,rfl⟩
    ·refine Ah (Aa rfl fun σ w1 hC h=> ?_)
     have ay:=Ad (h 89 (by decide))
     have a6:=Ad (h 91 (by decide))
     exact Yk.pickT ay a6 ⟨Ext.refl _,rfl⟩
    ·exact trivial
   intro kn tj cg he hf
   obtain⟨-,-,-,-,-,-,-,-,-,-,-,-,-,k92,-⟩:=hf
   obtain⟨T0,q,s,o,T4,ad,ae,af,ag,ah,ai,aj,az,-⟩:=he.hold [(0,_),(1,_),(2,_),(3,_),(4,_),(22, .bool (false)),(27, .bool (false)),(35, .bool (false)),(40, .bool (true)),(45, .bool (false)),(50, .bool (false)),(56, .bool (false)),(75, .bool (false))] ⟨T0,q,s,o,a4,rfl,rfl,rfl,rfl,rfl,rfl,rfl,rfl,trivial⟩ rfl
   clear he
   have f:=f.trans cg
   have l:=eb cg l
   have n:=eb cg n
   have hb:=eb cg hb
   have j:=eb cg j
   have a0:kn 92 = .bool (rightB (((⟨c1,((c2:Nat):Int),[],[],[],0,((d1:Nat):Int),zid,[],[],zid,zid,false,0⟩,⟨(Value.slice none 0 0),(Value.slice none 0 0),(Value.slice none 0 0),(Value.slice none 0 0)⟩):Am):Am).1):=k92
   clear k92
   refine Yp.callA1 Cr a0 ?_
   refine Ar (AQ _ (rightB (((⟨c1,((c2:Nat):Int),[],[],[],0,((d1:Nat):Int),zid,[],[],zid,zid,false,0⟩,⟨(Value.slice none 0 0),(Value.slice none 0 0),(Value.slice none 0 0),(Value.slice none 0 0)⟩):Am):Am).1)) ?_ ?_
   rotate_left
   ·
    rintro ch tk ⟨rfl,hb,hx⟩
    refine Aq (postP_panic ?_)
    exact .inr ⟨_,rfl,by rw[hD];simp only[hPb1,Option.bind_some];refine if_neg ?_;rintro⟨h1,h2⟩;exact Bool.noConfusion (h2.symm.trans hb),rfl,f.trans hx⟩
   rintro v_ tl ⟨rfl,ko,ci⟩
   have f:=f.trans ci
   have l:=eb ci l
   have n:=eb ci n
   have hb:=eb ci hb
   have j:=eb ci j
   intro bj bk
   have T0:bj 0=(PQ r 0:Value):=(bk 0 (by decide)).trans T0
   have q:bj 1=(PQ n2 0:Value):=(bk 1 (by decide)).trans q
   have s:bj 2=(PQ y 0:Value):=(bk 2 (by decide)).trans s
   have o:bj 3=(PQ t 0:Value):=(bk 3 (by decide)).trans o
   have T4:bj 4=(.bool (true):Value):=(bk 4 (by decide)).trans T4
   have ad:bj 22=(.bool (false):Value):=(bk 22 (by decide)).trans ad
   have ae:bj 27=(.bool (false):Value):=(bk 27 (by decide)).trans ae
   have af:bj 35=(.bool (false):Value):=(bk 35 (by decide)).trans af
   have ag:bj 40=(.bool (true):Value):=(bk 40 (by decide)).trans ag
   have ah:bj 45=(.bool (false):Value):=(bk 45 (by decide)).trans ah
   have ai:bj 50=(.bool (false):Value):=(bk 50 (by decide)).trans ai
   have aj:bj 56=(.bool (false):Value):=(bk 56 (by decide)).trans aj
   have az:bj 75=(.bool (false):Value):=(bk 75 (by decide)).trans az
   refine tN (kl _ _ (sk fun tm kp=>(wt (oS rfl (Yk.loadAll s j (N6).choose_spec rfl (AF (Az ((⟨c1,((c2:Nat):Int),[],[],[],0,((d1:Nat):Int),zid,[],[],zid,zid,false,0⟩,⟨(Value.slice none 0 0),(Value.slice none 0 0),(Value.slice none 0 0),(Value.slice none 0 0)⟩):Am)) MQ) (oS rfl (Yk.storeAll s (vr (.agg (msgC ((⟨c1,((c2:Nat):Int),[],[],[],0,((d1:Nat):Int),zid,[],[],zid,zid,false,0⟩,⟨(Value.slice none 0 0),(Value.slice none 0 0),(Value.slice none 0 0),(Value.slice none 0 0)⟩):Am)).toArray) rfl) j (by simp only[List.size_toArray,Az]) (AF (Az _) MQ) (CP (x:=((⟨c1,((c2:Nat):Int),[],[],[],0,((d1:Nat):Int),zid,[],[],zid,zid,false,0⟩,⟨(Value.slice none 0 0),(Value.slice none 0 0),(Value.slice none 0 0),(Value.slice none 0 0)⟩):Am)) rfl rfl rfl rfl) fun kq fh c9 tn=> ?_)))))))
   have f:=Ae f c9 (Nat.le_trans (Nat.le_refl _) (by omega))
   have l:=kb c9 l (by omega)
   have n:=kb c9 n (by omega)
   have hb:=kb c9 hb (by omega)
   clear j
   have j:kq.heap[y]? =some (.cells (msgC ((⟨c1,((c2:Nat):Int),[],[],[],0,((d1:Nat):Int),zid,[],[],zid,zid,false,0⟩,⟨(Value.slice none 0 0),(Value.slice none 0 0),(Value.slice none 0 0),(Value.slice none 0 0)⟩):Am)).toArray 29 (0,0)):=fh;clear fh
   have tp:=bl j
   refine oZ (tN (kp _ _ (Ap (Br (fn:=Tryd.f67) _ rfl [.agg (msgC ((⟨c1,((c2:Nat):Int),[],[],[],0,((d1:Nat):Int),zid,[],[],zid,zid,false,0⟩,⟨(Value.slice none 0 0),(Value.slice none 0 0),(Value.slice none 0 0),(Value.slice none 0 0)⟩):Am)).toArray] (.agg (msgC ((⟨c1,((c2:Nat):Int),[],[],[],0,((d1:Nat):Int),zid,[],[],zid,zid,false,0⟩,⟨(Value.slice none 0 0),(Value.slice none 0 0),(Value.slice none 0 0),(Value.slice none 0 0)⟩):Am)).toArray) rfl ⟨ResF.row s j (N6).choose_spec rfl (AF (Az _) MQ),trivial⟩ ?_))))
   exact .inl ⟨_,rfl,((⟨c1,((c2:Nat):Int),[],[],[],0,((d1:Nat):Int),zid,[],[],zid,zid,false,0⟩,⟨(Value.slice none 0 0),(Value.slice none 0 0),(Value.slice none 0 0),(Value.slice none 0 0)⟩):Am),by rw[hD];simp only[hPb1,Option.bind_some];refine if_pos ?_;exact⟨hj,ko⟩,rfl,(MsgAt.mk (RG.nil _ _ _) (RG.nil _ _ _) (RG.nil _ _ _) (RB.nil _)),⟨(fun k h=>by cases h),(fun k h=>by cases h),(fun k h=>by cases h),(fun k h=>by cases h)⟩,f⟩
  refine tN (fg _ _ (Al (vr (.bool (false)) rfl) (Ak (tN (ff _ _ (sk fun tq tr=> ?_))))))
  refine A3 14 _ [Is (PQ r 0),Is (PQ r 0),Is (PQ r 1),Is (NI i1),Is (PQ r 0),Is (PQ r 0),Is (PQ r 0),Is (v),Is (NI b.length),Is (.bool (false)),Is (.bool (false)),Is undef,Is undef,Is (.bool (false))] (by kernel_rfl) [79,80,81,82,83,84,85,86,87,88,89,90,91,92,93] (by kernel_rfl) (by kernel_rfl) (by kernel_rfl) rfl rfl rfl (fun _ _=>trivial) (Cz (Cc trivial)) ?kr ?hQ12027
  case kr=>
   refine⟨?_,?_,?_,?_,?_,?_,?_,?_,?_,?_,?_,?_,?_,?_,?_,trivial⟩
   ·refine Ah (Aa rfl fun σ w1 hC h=> ?_)
    have e1:=(Ad (h 1 (by decide))).trans q
    exact Yk.cell1 Ea rfl e1 (Ac (eb hC l) (show _=some (PQ r 0:Value)from rfl)) ⟨Ext.refl _,rfl⟩
   ·refine Ah (Aa rfl fun σ w1 hC h=> ?_)
    have am:=Ad (h 79 (by decide))
    exact Yk.nilCheck am ⟨Ext.refl _,rfl⟩
   ·refine Ah (Aa rfl fun σ w1 hC h=> ?_)
    have an:=Ad (h 80 (by decide))
    exact Yk.fieldAt A4 an ⟨Ext.refl _,rfl⟩
   ·refine Ah (Aa rfl fun σ w1 hC h=> ?_)
    have ao:=Ad (h 81 (by decide))
    exact Yk.cell1 Fs rfl ao (Ac (eb hC hb) (show(AU (AD v b (i1)))[1]? =some (NI i1:Value)from BE (AD v b (i1)))) ⟨Ext.refl _,rfl⟩
   ·refine Ah (Aa rfl fun σ w1 hC h=> ?_)
    have e1:=(Ad (h 1 (by decide))).trans q
    exact Yk.cell1 Ea rfl e1 (Ac (eb hC l) (show _=some (PQ r 0:Value)from rfl)) ⟨Ext.refl _,rfl⟩
   ·refine Ah (Aa rfl fun σ w1 hC h=> ?_)
    have ap:=Ad (h 83 (by decide))
    exact Yk.nilCheck ap ⟨Ext.refl _,rfl⟩
   ·refine Ah (Aa rfl fun σ w1 hC h=> ?_)
    have aq:=Ad (h 84 (by decide))
    exact Yk.fieldAt BY aq ⟨Ext.refl _,rfl⟩
   ·refine Ah (Aa rfl fun σ w1 hC h=> ?_)
    have ar:=Ad (h 85 (by decide))
    exact Yk.cell1 Ff rfl ar (Ac (eb hC hb) (show(AU (AD v b (i1)))[0]? =some (v:Value)from BP (AD v b (i1)))) ⟨Ext.refl _,rfl⟩
   ·refine Ah (Aa rfl fun σ w1 hC h=> ?_)
    have au:=Ad (h 86 (by decide))
    exact Yk.lenRB Ff (RB.of (hr.keep (f.trans hC)) au) ⟨Ext.refl _,rfl⟩
   ·refine Ah (Aa rfl fun σ w1 hC h=> ?_)
    have av:=Ad (h 82 (by decide))
    have aw:=Ad (h 87 (by decide))
    exact Yk.eqI (a:=(i1:Nat)) (b:=(b.length:Nat)) av aw (k_eql _ _ _ _) ⟨Ext.refl _,(congrArg Value.bool (decide_eq_false (hj)))⟩
   ·refine Ah (Aa rfl fun σ w1 hC h=> ?_)
    have ax:=Ad (h 88 (by decide))
    exact Yk.move ax ⟨Ext.refl _,rfl⟩
   ·refine Ah (BN 10 true 89 rfl rfl (fun x _ (h:x = .bool false)=>by rw[h];intro h;cases h) fun _=>rfl)
   ·refine Ah (BN 10 true 89 rfl rfl (fun x _ (h:x = .bool false)=>by rw[h];intro h;cases h) fun _=>rfl)
   ·refine Ah (Aa rfl fun σ w1 hC h=> ?_)
    have ay:=Ad (h 89 (by decide))
    exact Yk.pickF ay (vr (.bool (false)) rfl) ⟨Ext.refl _,rfl⟩
   ·exact trivial
  intro ks ts cj he hf
  obtain⟨-,-,-,-,-,-,-,-,-,-,-,-,-,k92,-⟩:=hf
  obtain⟨T0,q,s,o,T4,ad,ae,af,ag,ah,ai,aj,az,-⟩:=he.hold [(0,_),(1,_),(2,_),(3,_),(4,_),(22, .bool (false)),(27, .bool (false)),(35, .bool (false)),(40, .bool (true)),(45, .bool (false)),(50, .bool (false)),(56, .bool (false)),(75, .bool (false))] ⟨T0,q,s,o,a4,rfl,rfl,rfl,rfl,rfl,rfl,rfl,rfl,trivial⟩ rfl
  clear he
  have f:=f.trans cj
  have l:=eb cj l
  have n:=eb cj n
  have hb:=eb cj hb
  have j:=eb cj j
  have a0:ks 92 = .bool (false):=k92
  clear k92
  refine Yp.callA1 Cr a0 ?_
  refine Ar (AQ _ (false)) ?_ ?_
  rotate_left
  ·
   rintro ch tt ⟨rfl,hb,hx⟩
   refine Aq (postP_panic ?_)
   exact .inr ⟨_,rfl,by rw[hD];simp only[hPb1,Option.bind_some];refine if_neg ?_;rintro⟨h1,h2⟩;exact hj h1,rfl,f.trans hx⟩
  rintro v_ tu ⟨rfl,kt,tv⟩
  cases kt
 ·have hD:=Dl hP1 hK hP2
  rw[Ng (m:=(⟨c1,((c2:Nat):Int),[],[],[],0,0,zid,[],[],zid,zid,false,0⟩:Msg)) hk]at hD
  refine tN (bt _ _ (sk fun tw ku=>(sk fun tx kv=>(wt (oS rfl (Yk.fieldAt LF o (oS rfl (Yk.cell1 CS rfl (vr (PQ t 0) rfl) (Ac n (show(partsC (⟨false,false,false,true,false,true,false,false⟩:Ag))[0]? =some (.bool (false):Value)from BH (⟨false,false,false,true,false,true,false,false⟩:Ag))) (oZ (tN (kv _ _ (Al (vr (.bool (false)) rfl) (Ak (tN (ku _ _ (sk fun ty kw=>(sk fun tz kx=>(wt (oS rfl (Yk.fieldAt LG o (oS rfl (Yk.cell1 CS rfl (vr (PQ t 1) rfl) (Ac n (show(partsC (⟨false,false,false,true,false,true,false,false⟩:Ag))[1]? =some (.bool (false):Value)from BI (⟨false,false,false,true,false,true,false,false⟩:Ag))) ?_))))))))))))))))))))))
  refine oZ (tN (kx _ _ (Al (vr (.bool (false)) rfl) (Ak (tN (kw _ _ (sk fun t0 ky=>(sk fun t1 kz=>(wt (oS rfl (Yk.fieldAt LH o (oS rfl (Yk.cell1 CS rfl (vr (PQ t 2) rfl) (Ac n (show(partsC (⟨false,false,false,true,false,true,false,false⟩:Ag))[2]? =some (.bool (false):Value)from BJ (⟨false,false,false,true,false,true,false,false⟩:Ag))) (oZ (tN (kz _ _ (Al (vr (.bool (false)) rfl) (Ak (tN (ky _ _ (sk fun t2 k0=> ?_)))))))))))))))))))))
  refine sk fun t3 k1=>(wt (oS rfl (Yk.fieldAt LI o (oS rfl (Yk.cell1 CS rfl (vr (PQ t 3) rfl) (Ac n (show(partsC (⟨false,false,false,true,false,true,false,false⟩:Ag))[3]? =some (.bool (true):Value)from BK (⟨false,false,false,true,false,true,false,false⟩:Ag))) (oZ (tN (k1 _ _ (AE (vr (.bool (true)) rfl) (wt (oS rfl (Yk.cell1 Ea rfl q (Ac l (show _=some (PQ r 0:Value)from rfl)) (oP rfl (Yp.callA1 Gt (vr (PQ r 0) rfl) ?_))))))))))))))
  refine Ar (Ch _ r v b j2 hb (hr.keep f) hapr hle_j2 hl) ?_ ?_
  rotate_left
  ·
   rintro ch t4 ⟨hPx,rfl,hgx⟩
   refine Aq (postP_panic ?_)
   exact .inr ⟨_,rfl,by rw[hD];simp only[hPx,Option.bind_some,Option.bind_none],rfl,(Ae f hgx lr)⟩
  rintro v_ t5 ⟨d1,i1,hPb1,rfl,fi,da⟩
  have f:=Ae f da (Nat.le_trans (Nat.le_refl _) lr)
  have l:=kb da l (by omega)
  have n:=kb da n (by omega)
  clear hb
  have j:=kb da j (by omega)
  have hb:=fi;clear fi
  have hle_i1:=Dk hle_j2 hPb1
  have t6:=bl hb
  refine oS rfl (Yk.fieldAt HQ s (oS rfl (Yk.storeC (i:=6) (v:=NI d1) (vr (PQ y 6) rfl) (vr (NI d1) rfl) j (by rw[Az];decide) C1 rfl rfl fun k2 fj db t7=> ?_)))
  have f:=Ae f db (Nat.le_trans (Nat.le_refl _) (by omega))
  have l:=kb db l (by omega)
  have n:=kb db n (by omega)
  clear j
  have hb:=kb db hb (by omega)
  have j:k2.heap[y]? =some (.cells (msgC ((⟨c1,((c2:Nat):Int),[],[],[],0,((d1:Nat):Int),zid,[],[],zid,zid,false,0⟩,⟨(Value.slice none 0 0),(Value.slice none 0 0),(Value.slice none 0 0),(Value.slice none 0 0)⟩):Am)).toArray 29 (0,0)):=Bf fj (Mr ((⟨c1,((c2:Nat):Int),[],[],[],0,0,zid,[],[],zid,zid,false,0⟩,⟨(Value.slice none 0 0),(Value.slice none 0 0),(Value.slice none 0 0),(Value.slice none 0 0)⟩):Am) ((d1:Nat):Int));clear fj
  have t8:=bl j
  refine oZ (tN (k0 _ _ (sk fun t9 k4=>(sk fun ua k5=>(wt (oS rfl (Yk.fieldAt LJ o (oS rfl (Yk.cell1 CS rfl (vr (PQ t 4) rfl) (Ac n (show(partsC (⟨false,false,false,true,false,true,false,false⟩:Ag))[4]? =some (.bool (false):Value)from BL (⟨false,false,false,true,false,true,false,false⟩:Ag))) (oZ (tN (k5 _ _ (Al (vr (.bool (false)) rfl) (Ak (tN (k4 _ _ (sk fun ub k7=>(sk fun uc k8=>(wt (oS rfl (Yk.fieldAt HT o ?_)))))))))))))))))))))
  refine oS rfl (Yk.cell1 CS rfl (vr (PQ t 5) rfl) (Ac n (show(partsC (⟨false,false,false,true,false,true,false,false⟩:Ag))[5]? =some (.bool (true):Value)from Bv (⟨false,false,false,true,false,true,false,false⟩:Ag))) (oZ (tN (k8 _ _ (AE (vr (.bool (true)) rfl) (wt (oS rfl (Yk.cell1 Ea rfl q (Ac l (show _=some (PQ r 0:Value)from rfl)) (oP rfl (Yp.callA2 Nr (vr (PQ r 0) rfl) (vr (NI 256) rfl) ?_))))))))))
  refine Ar (Gs _ r v b i1 hb (hr.keep f) hapr hle_i1 hl 256) ?_ ?_
  rotate_left
  ·
   rintro ch ud ⟨hPx,rfl,hgx⟩
   refine Aq (postP_panic ?_)
   exact .inr ⟨_,rfl,by rw[hD];simp only[hPb1,hPx,Option.bind_some,Option.bind_none],rfl,(Ae f hgx lr)⟩
  rintro v_ ue ⟨d2,i2,hPb2,rfl,fk,dc⟩
  have f:=Ae f dc (Nat.le_trans (Nat.le_refl _) lr)
  have l:=kb dc l (by omega)
  have n:=kb dc n (by omega)
  clear hb
  have j:=kb dc j (by omega)
  have hb:=fk;clear fk
  have hle_i2:=(EC hPb2).1
  have uf:=bl hb
  refine oS rfl (Yk.convStr Dx Ff u5 (vr (St (d2)) rfl) (by have:=(EC hPb2).2;omega) fun a2 ug bm ck hq391=> ?_)
  have fl:OB a2 y:=fun e=>by have:=(hq391 _ e).1;have:=(bl j);omega
  have hzq:=f.size
  have f:=f.trans ck
  have l:=eb ck l
  have n:=eb ck n
  have j:=eb ck j
  have hb:=eb ck hb
  refine oS rfl (Yk.fieldAt FI s (oS rfl (Yk.storeC (i:=39) (v:=a2) (vr (PQ y 39) rfl) (vr a2 rfl) j (by rw[Az];decide) IQ (RB.one bm).1 (RB.one bm).2 fun k9 fm cl uh=> ?_)))
  have f:=Ae f cl (Nat.le_trans (Nat.le_refl _) (by omega))
  have l:=kb cl l (by omega)
  have n:=kb cl n (by omega)
  clear j
  have hb:=kb cl hb (by omega)
  have bm:=RB.kept bm cl (.inr fl)
  have j:k9.heap[y]? =some (.cells (msgC ((⟨c1,((c2:Nat):Int),[],[],[],0,((d1:Nat):Int),zid,d2,[],zid,zid,false,0⟩,⟨(Value.slice none 0 0),(Value.slice none 0 0),(Value.slice none 0 0),a2⟩):Am)).toArray 29 (0,0)):=Bf fm (PD ((⟨c1,((c2:Nat):Int),[],[],[],0,((d1:Nat):Int),zid,[],[],zid,zid,false,0⟩,⟨(Value.slice none 0 0),(Value.slice none 0 0),(Value.slice none 0 0),(Value.slice none 0 0)⟩):Am) a2 (d2));clear fm
  have ui:=bl j
  refine oZ (tN (k7 _ _ (sk fun uj la=>(sk fun uk lb=>(wt (oS rfl (Yk.fieldAt HU o (oS rfl (Yk.cell1 CS rfl (vr (PQ t 6) rfl) (Ac n (show(partsC (⟨false,false,false,true,false,true,false,false⟩:Ag))[6]? =some (.bool (false):Value)from Bw (⟨false,false,false,true,false,true,false,false⟩:Ag))) (oZ (tN (lb _ _ (Al (vr (.bool (false)) rfl) (Ak (tN (la _ _ (sk fun ul fo=>(sk fun um fp=>(wt (oS rfl (Yk.fieldAt LL o ?_)))))))))))))))))))))
  refine oS rfl (Yk.cell1 CS rfl (vr (PQ t 7) rfl) (Ac n (show(partsC (⟨false,false,false,true,false,true,false,false⟩:Ag))[7]? =some (.bool (false):Value)from Bx (⟨false,false,false,true,false,true,false,false⟩:Ag))) (oZ ?_))
  have hMl:CX (((⟨c1,((c2:Nat):Int),[],[],[],0,((d1:Nat):Int),zid,d2,[],zid,zid,false,0⟩,⟨(Value.slice none 0 0),(Value.slice none 0 0),(Value.slice none 0 0),a2⟩):Am):Am).1:=⟨by simp,fun u hu=>(by cases hu),by simp,by simp,by simp⟩
  by_cases hj:i2=b.length
  ·refine tN (fp _ _ (Al (vr (.bool (false)) rfl) (Ak (tN (fo _ _ (sk fun un lc=> ?_))))))
   refine A3 14 _ [Is (PQ r 0),Is (PQ r 0),Is (PQ r 1),Is (NI i2),Is (PQ r 0),Is (PQ r 0),Is (PQ r 0),Is (v),Is (NI b.length),Is (.bool (true)),Is (.bool (true)),Is (.agg (msgC ((⟨c1,((c2:Nat):Int),[],[],[],0,((d1:Nat):Int),zid,d2,[],zid,zid,false,0⟩,⟨(Value.slice none 0 0),(Value.slice none 0 0),(Value.slice none 0 0),a2⟩):Am)).toArray),Is (.bool (rightB (((⟨c1,((c2:Nat):Int),[],[],[],0,((d1:Nat):Int),zid,d2,[],zid,zid,false,0⟩,⟨(Value.slice none 0 0),(Value.slice none 0 0),(Value.slice none 0 0),a2⟩):Am):Am).1)),Is (.bool (rightB (((⟨c1,((c2:Nat):Int),[],[],[],0,((d1:Nat):Int),zid,d2,[],zid,zid,false,0⟩,⟨(Value.slice none 0 0),(Value.slice none 0 0),(Value.slice none 0 0),a2⟩):Am):Am).1))] (by kernel_rfl) [79,80,81,82,83,84,85,86,87,88,89,90,91,92,93] (by kernel_rfl) (by kernel_rfl) (by kernel_rfl) rfl rfl rfl (fun _ _=>trivial) (Cz (Cc trivial)) ?ld ?hQ13027
   case ld=>
    refine⟨?_,?_,?_,?_,?_,?_,?_,?_,?_,?_,?_,?_,?_,?_,?_,trivial⟩
    ·refine Ah (Aa rfl fun σ w1 hC h=> ?_)
     have e1:=(Ad (h 1 (by decide))).trans q
     exact Yk.cell1 Ea rfl e1 (Ac (eb hC l) (show _=some (PQ r 0:Value)from rfl)) ⟨Ext.refl _,rfl⟩
    ·refine Ah (Aa rfl fun σ w1 hC h=> ?_)
     have am:=Ad (h 79 (by decide))
     exact Yk.nilCheck am ⟨Ext.refl _,rfl⟩
    ·refine Ah (Aa rfl fun σ w1 hC h=> ?_)
     have an:=Ad (h 80 (by decide))
     exact Yk.fieldAt A4 an ⟨Ext.refl _,rfl⟩
    ·refine Ah (Aa rfl fun σ w1 hC h=> ?_)
     have ao:=Ad (h 81 (by decide))
     exact Yk.cell1 Fs rfl ao (Ac (eb hC hb) (show(AU (AD v b (i2)))[1]? =some (NI i2:Value)from BE (AD v b (i2)))) ⟨Ext.refl _,rfl⟩
    ·refine Ah (Aa rfl fun σ w1 hC h=> ?_)
     have e1:=(Ad (h 1 (by decide))).trans q
     exact Yk.cell1 Ea rfl e1 (Ac (eb hC l) (show _=some (PQ r 0:Value)from rfl)) ⟨Ext.refl _,rfl⟩
    ·refine Ah (Aa rfl fun σ w1 hC h=> ?_)
     have ap:=Ad (h 83 (by decide))
     exact Yk.nilCheck ap ⟨Ext.refl _,rfl⟩
    ·refine Ah (Aa rfl fun σ w1 hC h=> ?_)
     have aq:=Ad (h 84 (by decide))
     exact Yk.fieldAt BY aq ⟨Ext.refl _,rfl⟩
    ·refine Ah (Aa rfl fun σ w1 hC h=> ?_)
     have ar:=Ad (h 85 (by decide))
     exact Yk.cell1 Ff rfl ar (Ac (eb hC hb) (show(AU (AD v b (i2)))[0]? =some (v:Value)from BP (AD v b (i2)))) ⟨Ext.refl _,rfl⟩
    ·refine Ah (Aa rfl fun σ w1 hC h=> ?_)
     have au:=Ad (h 86 (by decide))
     exact Yk.lenRB Ff (RB.of (hr.keep (f.trans hC)) au) ⟨Ext.refl _,rfl⟩
    ·refine Ah (Aa rfl fun σ w1 hC h=> ?_)
     have av:=Ad (h 82 (by decide))
     have aw:=Ad (h 87 (by decide))
     exact Yk.eqI (a:=(i2:Nat)) (b:=(b.length:Nat)) av aw (k_eql _ _ _ _) ⟨Ext.refl _,(congrArg Value.bool (decide_eq_true (hj)))⟩
    ·refine Ah (Aa rfl fun σ w1 hC h=> ?_)
     have ax:=Ad (h 88 (by decide))
     exact Yk.move ax ⟨Ext.refl _,rfl⟩
    ·refine Ah (Bg 10 true 89 rfl rfl (fun _ _ h=>h) fun σ w1 hC h=> ?_)
     have e2:=(Ad (h 2 (by decide))).trans s
     exact Yk.loadAll e2 (eb hC j) (N6).choose_spec rfl (AF (Az ((⟨c1,((c2:Nat):Int),[],[],[],0,((d1:Nat):Int),zid,d2,[],zid,zid,false,0⟩,⟨(Value.slice none 0 0),(Value.slice none 0 0),(Value.slice none 0 0),a2⟩):Am)) MQ) ⟨Ext.refl _,rfl⟩
    ·refine Ah (Bg 10 true 89 rfl rfl (fun _ _ h=>h) fun σ w1 hC h=> ?_)
     have a5:=Ad (h 90 (by decide))
     refine Yk.callA1 Oj a5 ((CC _ ((⟨c1,((c2:Nat):Int),[],[],[],0,((d1:Nat):Int),zid,d2,[],zid,zid,false,0⟩,⟨(Value.slice none 0 0),(Value.slice none 0 0),(Value.slice none 0 0),a2⟩):Am) (MsgAt.mk (RG.nil _ _ _) (RG.nil _ _ _) (RG.nil _ _ _) (bm.keep hC)) hMl).mono ?_)
     rintro e w2 ⟨rfl,hx⟩
     exact⟨_,rfl,hx,rfl⟩
    ·refine Ah (Aa rfl fun σ w1 hC h=> ?_)
     have ay:=Ad (h 89 (by decide))
     have a6:=Ad (h 91 (by decide))
     exact Yk.pickT ay a6 ⟨Ext.refl _,rfl⟩
    ·exact trivial
   intro le uo b5 he hf
   obtain⟨-,-,-,-,-,-,-,-,-,-,-,-,-,k92,-⟩:=hf
   obtain⟨T0,q,s,o,T4,ad,ae,af,ag,ah,ai,aj,az,-⟩:=he.hold [(0,_),(1,_),(2,_),(3,_),(4,_),(22, .bool (false)),(27, .bool (false)),(35, .bool (false)),(40, .bool (true)),(45, .bool (false)),(50, .bool (true)),(56, .bool (false)),(75, .bool (false))] ⟨T0,q,s,o,a4,rfl,rfl,rfl,rfl,rfl,rfl,rfl,rfl,trivial⟩ rfl
   clear he
   have f:=f.trans b5
   have l:=eb b5 l
   have n:=eb b5 n
   have hb:=eb b5 hb
   have bm:=bm.keep b5
   have j:=eb b5 j
   have a0:le 92 = .bool (rightB (((⟨c1,((c2:Nat):Int),[],[],[],0,((d1:Nat):Int),zid,d2,[],zid,zid,false,0⟩,⟨(Value.slice none 0 0),(Value.slice none 0 0),(Value.slice none 0 0),a2⟩):Am):Am).1):=k92
   clear k92
   refine Yp.callA1 Cr a0 ?_
   refine Ar (AQ _ (rightB (((⟨c1,((c2:Nat):Int),[],[],[],0,((d1:Nat):Int),zid,d2,[],zid,zid,false,0⟩,⟨(Value.slice none 0 0),(Value.slice none 0 0),(Value.slice none 0 0),a2⟩):Am):Am).1)) ?_ ?_
   rotate_left
   ·
    rintro ch up ⟨rfl,hb,hx⟩
    refine Aq (postP_panic ?_)
    exact .inr ⟨_,rfl,by rw[hD];simp only[hPb1,hPb2,Option.bind_some];refine if_neg ?_;rintro⟨h1,h2⟩;exact Bool.noConfusion (h2.symm.trans hb),rfl,f.trans hx⟩
   rintro v_ uq ⟨rfl,lf,b7⟩
   have f:=f.trans b7
   have l:=eb b7 l
   have n:=eb b7 n
   have hb:=eb b7 hb
   have bm:=bm.keep b7
   have j:=eb b7 j
   intro bn bo
   have T0:bn 0=(PQ r 0:Value):=(bo 0 (by decide)).trans T0
   have q:bn 1=(PQ n2 0:Value):=(bo 1 (by decide)).trans q
   have s:bn 2=(PQ y 0:Value):=(bo 2 (by decide)).trans s
   have o:bn 3=(PQ t 0:Value):=(bo 3 (by decide)).trans o
   have T4:bn 4=(.bool (true):Value):=(bo 4 (by decide)).trans T4
   have ad:bn 22=(.bool (false):Value):=(bo 22 (by decide)).trans ad
   have ae:bn 27=(.bool (false):Value):=(bo 27 (by decide)).trans ae
   have af:bn 35=(.bool (false):Value):=(bo 35 (by decide)).trans af
   have ag:bn 40=(.bool (true):Value):=(bo 40 (by decide)).trans ag
   have ah:bn 45=(.bool (false):Value):=(bo 45 (by decide)).trans ah
   have ai:bn 50=(.bool (true):Value):=(bo 50 (by decide)).trans ai
   have aj:bn 56=(.bool (false):Value):=(bo 56 (by decide)).trans aj
   have az:bn 75=(.bool (false):Value):=(bo 75 (by decide)).trans az
   refine tN (lc _ _ (sk fun ur lg=>(wt (oS rfl (Yk.loadAll s j (N6).choose_spec rfl (AF (Az ((⟨c1,((c2:Nat):Int),[],[],[],0,((d1:Nat):Int),zid,d2,[],zid,zid,false,0⟩,⟨(Value.slice none 0 0),(Value.slice none 0 0),(Value.slice none 0 0),a2⟩):Am)) MQ) (oS rfl (Yk.storeAll s (vr (.agg (msgC ((⟨c1,((c2:Nat):Int),[],[],[],0,((d1:Nat):Int),zid,d2,[],zid,zid,false,0⟩,⟨(Value.slice none 0 0),(Value.slice none 0 0),(Value.slice none 0 0),a2⟩):Am)).toArray) rfl) j (by simp only[List.size_toArray,Az]) (AF (Az _) MQ) (CP (x:=((⟨c1,((c2:Nat):Int),[],[],[],0,((d1:Nat):Int),zid,d2,[],zid,zid,false,0⟩,⟨(Value.slice none 0 0),(Value.slice none 0 0),(Value.slice none 0 0),a2⟩):Am)) rfl rfl rfl (RB.one bm).2) fun lh fq cm ut=> ?_)))))))
   have f:=Ae f cm (Nat.le_trans (Nat.le_refl _) (by omega))
   have l:=kb cm l (by omega)
   have n:=kb cm n (by omega)
   have hb:=kb cm hb (by omega)
   have bm:=RB.kept bm cm (.inr fl)
   clear j
   have j:lh.heap[y]? =some (.cells (msgC ((⟨c1,((c2:Nat):Int),[],[],[],0,((d1:Nat):Int),zid,d2,[],zid,zid,false,0⟩,⟨(Value.slice none 0 0),(Value.slice none 0 0),(Value.slice none 0 0),a2⟩):Am)).toArray 29 (0,0)):=fq;clear fq
   have uu:=bl j
   refine oZ (tN (lg _ _ (Ap (Br (fn:=Tryd.f67) _ rfl [.agg (msgC ((⟨c1,((c2:Nat):Int),[],[],[],0,((d1:Nat):Int),zid,d2,[],zid,zid,false,0⟩,⟨(Value.slice none 0 0),(Value.slice none 0 0),(Value.slice none 0 0),a2⟩):Am)).toArray] (.agg (msgC ((⟨c1,((c2:Nat):Int),[],[],[],0,((d1:Nat):Int),zid,d2,[],zid,zid,false,0⟩,⟨(Value.slice none 0 0),(Value.slice none 0 0),(Value.slice none 0 0),a2⟩):Am)).toArray) rfl ⟨ResF.row s j (N6).choose_spec rfl (AF (Az _) MQ),trivial⟩ ?_))))
   exact .inl ⟨_,rfl,((⟨c1,((c2:Nat):Int),[],[],[],0,((d1:Nat):Int),zid,d2,[],zid,zid,false,0⟩,⟨(Value.slice none 0 0),(Value.slice none 0 0),(Value.slice none 0 0),a2⟩):Am),by rw[hD];simp only[hPb1,hPb2,Option.bind_some];refine if_pos ?_;exact⟨hj,lf⟩,rfl,(MsgAt.mk (RG.nil _ _ _) (RG.nil _ _ _) (RG.nil _ _ _) bm),⟨(fun k h=>by cases h),(fun k h=>by cases h),(fun k h=>by cases h),(fun k h=>by have:=(hq391 k h).1;omega)⟩,f⟩
  refine tN (fp _ _ (Al (vr (.bool (false)) rfl) (Ak (tN (fo _ _ (sk fun uv uw=> ?_))))))
  refine A3 14 _ [Is (PQ r 0),Is (PQ r 0),Is (PQ r 1),Is (NI i2),Is (PQ r 0),Is (PQ r 0),Is (PQ r 0),Is (v),Is (NI b.length),Is (.bool (false)),Is (.bool (false)),Is undef,Is undef,Is (.bool (false))] (by kernel_rfl) [79,80,81,82,83,84,85,86,87,88,89,90,91,92,93] (by kernel_rfl) (by kernel_rfl) (by kernel_rfl) rfl rfl rfl (fun _ _=>trivial) (Cz (Cc trivial)) ?li ?hQ14027
  case li=>
   refine⟨?_,?_,?_,?_,?_,?_,?_,?_,?_,?_,?_,?_,?_,?_,?_,trivial⟩
   ·refine Ah (Aa rfl fun σ w1 hC h=> ?_)
    have e1:=(Ad (h 1 (by decide))).trans q
    exact Yk.cell1 Ea rfl e1 (Ac (eb hC l) (show _=some (PQ r 0:Value)from rfl)) ⟨Ext.refl _,rfl⟩
   ·refine Ah (Aa rfl fun σ w1 hC h=> ?_)
    have am:=Ad (h 79 (by decide))
    exact Yk.nilCheck am ⟨Ext.refl _,rfl⟩
   ·refine Ah (Aa rfl fun σ w1 hC h=> ?_)
    have an:=Ad (h 80 (by decide))
    exact Yk.fieldAt A4 an ⟨Ext.refl _,rfl⟩
   ·refine Ah (Aa rfl fun σ w1 hC h=> ?_)
    have ao:=Ad (h 81 (by decide))
    exact Yk.cell1 Fs rfl ao (Ac (eb hC hb) (show(AU (AD v b (i2)))[1]? =some (NI i2:Value)from BE (AD v b (i2)))) ⟨Ext.refl _,rfl⟩
   ·refine Ah (Aa rfl fun σ w1 hC h=> ?_)
    have e1:=(Ad (h 1 (by decide))).trans q
    exact Yk.cell1 Ea rfl e1 (Ac (eb hC l) (show _=some (PQ r 0:Value)from rfl)) ⟨Ext.refl _,rfl⟩
   ·refine Ah (Aa rfl fun σ w1 hC h=> ?_)
    have ap:=Ad (h 83 (by decide))
    exact Yk.nilCheck ap ⟨Ext.refl _,rfl⟩
   ·refine Ah (Aa rfl fun σ w1 hC h=> ?_)
    have aq:=Ad (h 84 (by decide))
    exact Yk.fieldAt BY aq ⟨Ext.refl _,rfl⟩
   ·refine Ah (Aa rfl fun σ w1 hC h=> ?_)
    have ar:=Ad (h 85 (by decide))
    exact Yk.cell1 Ff rfl ar (Ac (eb hC hb) (show(AU (AD v b (i2)))[0]? =some (v:Value)from BP (AD v b (i2)))) ⟨Ext.refl _,rfl⟩
   ·refine Ah (Aa rfl fun σ w1 hC h=> ?_)
    have au:=Ad (h 86 (by decide))
    exact Yk.lenRB Ff (RB.of (hr.keep (f.trans hC)) au) ⟨Ext.refl _,rfl⟩
   ·refine Ah (Aa rfl fun σ w1 hC h=> ?_)
    have av:=Ad (h 82 (by decide))
    have aw:=Ad (h 87 (by decide))
    exact Yk.eqI (a:=(i2:Nat)) (b:=(b.length:Nat)) av aw (k_eql _ _ _ _) ⟨Ext.refl _,(congrArg Value.bool (decide_eq_false (hj)))⟩
   ·refine Ah (Aa rfl fun σ w1 hC h=> ?_)
    have ax:=Ad (h 88 (by decide))
    exact Yk.move ax ⟨Ext.refl _,rfl⟩
   ·refine Ah (BN 10 true 89 rfl rfl (fun x _ (h:x = .bool false)=>by rw[h];intro h;cases h) fun _=>rfl)
   ·refine Ah (BN 10 true 89 rfl rfl (fun x _ (h:x = .bool false)=>by rw[h];intro h;cases h) fun _=>rfl)
   ·refine Ah (Aa rfl fun σ w1 hC h=> ?_)
    have ay:=Ad (h 89 (by decide))
    exact Yk.pickF ay (vr (.bool (false)) rfl) ⟨Ext.refl _,rfl⟩
   ·exact trivial
  intro lj ux cn he hf
  obtain⟨-,-,-,-,-,-,-,-,-,-,-,-,-,k92,-⟩:=hf
  obtain⟨T0,q,s,o,T4,ad,ae,af,ag,ah,ai,aj,az,-⟩:=he.hold [(0,_),(1,_),(2,_),(3,_),(4,_),(22, .bool (false)),(27, .bool (false)),(35, .bool (false)),(40, .bool (true)),(45, .bool (false)),(50, .bool (true)),(56, .bool (false)),(75, .bool (false))] ⟨T0,q,s,o,a4,rfl,rfl,rfl,rfl,rfl,rfl,rfl,rfl,trivial⟩ rfl
  clear he
  have f:=f.trans cn
  have l:=eb cn l
  have n:=eb cn n
  have hb:=eb cn hb
  have j:=eb cn j
  have a0:lj 92 = .bool (false):=k92
  clear k92
  refine Yp.callA1 Cr a0 ?_
  refine Ar (AQ _ (false)) ?_ ?_
  rotate_left
  ·
   rintro ch uy ⟨rfl,hb,hx⟩
   refine Aq (postP_panic ?_)
   exact .inr ⟨_,rfl,by rw[hD];simp only[hPb1,hPb2,Option.bind_some];refine if_neg ?_;rintro⟨h1,h2⟩;exact hj h1,rfl,f.trans hx⟩
  rintro v_ uz ⟨rfl,lk,u0⟩
  cases lk
 ·have hD:=Dl hP1 hK hP2
  rw[Nh (m:=(⟨c1,((c2:Nat):Int),[],[],[],0,0,zid,[],[],zid,zid,false,0⟩:Msg)) hk]at hD
  refine tN (bt _ _ (sk fun u3 ll=>(sk fun u4 lm=>(wt (oS rfl (Yk.fieldAt LF o (oS rfl (Yk.cell1 CS rfl (vr (PQ t 0) rfl) (Ac n (show(partsC (⟨false,false,true,false,true,false,true,false⟩:Ag))[0]? =some (.bool (false):Value)from BH (⟨false,false,true,false,true,false,true,false⟩:Ag))) (oZ (tN (lm _ _ (Al (vr (.bool (false)) rfl) (Ak (tN (ll _ _ (sk fun u6 ln=>(sk fun u7 lo=>(wt (oS rfl (Yk.fieldAt LG o (oS rfl (Yk.cell1 CS rfl (vr (PQ t 1) rfl) (Ac n (show(partsC (⟨false,false,true,false,true,false,true,false⟩:Ag))[1]? =some (.bool (false):Value)from BI (⟨false,false,true,false,true,false,true,false⟩:Ag))) ?_))))))))))))))))))))))
  refine oZ (tN (lo _ _ (Al (vr (.bool (false)) rfl) (Ak (tN (ln _ _ (sk fun u8 lp=>(sk fun u9 lq=>(wt (oS rfl (Yk.fieldAt LH o (oS rfl (Yk.cell1 CS rfl (vr (PQ t 2) rfl) (Ac n (show(partsC (⟨false,false,true,false,true,false,true,false⟩:Ag))[2]? =some (.bool (true):Value)from BJ (⟨false,false,true,false,true,false,true,false⟩:Ag))) (oZ (tN (lq _ _ (AE (vr (.bool (true)) rfl) (wt (oS rfl (Yk.cell1 Ea rfl q (Ac l (show _=some (PQ r 0:Value)from rfl)) (oP rfl (Yp.callA1 Gt (vr (PQ r 0) rfl) ?_))))))))))))))))))))))
  refine Ar (Ch _ r v b j2 hb (hr.keep f) hapr hle_j2 hl) ?_ ?_
  rotate_left
  ·
   rintro ch va ⟨hPx,rfl,hgx⟩
   refine Aq (postP_panic ?_)
   exact .inr ⟨_,rfl,by rw[hD];simp only[hPx,Option.bind_some,Option.bind_none],rfl,(Ae f hgx lr)⟩
  rintro v_ vb ⟨d1,i1,hPb1,rfl,fr,dd⟩
  have f:=Ae f dd (Nat.le_trans (Nat.le_refl _) lr)
  have l:=kb dd l (by omega)
  have n:=kb dd n (by omega)
  clear hb
  have j:=kb dd j (by omega)
  have hb:=fr;clear fr
  have hle_i1:=Dk hle_j2 hPb1
  have vc:=bl hb
  refine oS rfl (Yk.fieldAt HP s (oS rfl (Yk.storeC (i:=5) (v:=NI d1) (vr (PQ y 5) rfl) (vr (NI d1) rfl) j (by rw[Az];decide) C1 rfl rfl fun ls fs de vd=> ?_)))
  have f:=Ae f de (Nat.le_trans (Nat.le_refl _) (by omega))
  have l:=kb de l (by omega)
  have n:=kb de n (by omega)
  clear j
  have hb:=kb de hb (by omega)
  have j:ls.heap[y]? =some (.cells (msgC ((⟨c1,((c2:Nat):Int),[],[],[],((d1:Nat):Int),0,zid,[],[],zid,zid,false,0⟩,⟨(Value.slice none 0 0),(Value.slice none 0 0),(Value.slice none 0 0),(Value.slice none 0 0)⟩):Am)).toArray 29 (0,0)):=Bf fs (Mq ((⟨c1,((c2:Nat):Int),[],[],[],0,0,zid,[],[],zid,zid,false,0⟩,⟨(Value.slice none 0 0),(Value.slice none 0 0),(Value.slice none 0 0),(Value.slice none 0 0)⟩):Am) ((d1:Nat):Int));clear fs
  have ve:=bl j
  refine oZ (tN (lp _ _ (sk fun vf lu=>(sk fun vg lv=>(wt (oS rfl (Yk.fieldAt LI o (oS rfl (Yk.cell1 CS rfl (vr (PQ t 3) rfl) (Ac n (show(partsC (⟨false,false,true,false,true,false,true,false⟩:Ag))[3]? =some (.bool (false):Value)from BK (⟨false,false,true,false,true,false,true,false⟩:Ag))) (oZ (tN (lv _ _ (Al (vr (.bool (false)) rfl) (Ak (tN (lu _ _ (sk fun vh lw=>(sk fun vi lx=>(wt (oS rfl (Yk.fieldAt LJ o ?_)))))))))))))))))))))
  refine oS rfl (Yk.cell1 CS rfl (vr (PQ t 4) rfl) (Ac n (show(partsC (⟨false,false,true,false,true,false,true,false⟩:Ag))[4]? =some (.bool (true):Value)from BL (⟨false,false,true,false,true,false,true,false⟩:Ag))) (oZ (tN (lx _ _ (AE (vr (.bool (true)) rfl) (wt (oS rfl (Yk.cell1 Ea rfl q (Ac l (show _=some (PQ r 0:Value)from rfl)) (oP rfl (Yp.callA1 Gu (vr (PQ r 0) rfl) ?_))))))))))
  refine Ar (DV _ r v b i1 hb (hr.keep f) hapr hle_i1 hl) ?_ ?_
  rotate_left
  ·
   rintro ch vj ⟨hPx,rfl,hgx⟩
   refine Aq (postP_panic ?_)
   exact .inr ⟨_,rfl,by rw[hD];simp only[hPb1,hPx,Option.bind_some,Option.bind_none],rfl,(Ae f hgx lr)⟩
  rintro v_ vk ⟨d2,i2,hPb2,rfl,ft,df⟩
  have f:=Ae f df (Nat.le_trans (Nat.le_refl _) lr)
  have l:=kb df l (by omega)
  have n:=kb df n (by omega)
  clear hb
  have j:=kb df j (by omega)
  have hb:=ft;clear ft
  have hle_i2:=ES hPb2
  have vl:=bl hb
  refine oS rfl (Yk.fieldAt LK s (oS rfl (Yk.storeMid (a:=EK ((⟨c1,((c2:Nat):Int),[],[],[],((d1:Nat):Int),0,zid,[],[],zid,zid,false,0⟩,⟨(Value.slice none 0 0),(Value.slice none 0 0),(Value.slice none 0 0),(Value.slice none 0 0)⟩):Am)) (m:=Lib.byteCells zid.1) (z:=F9 ((⟨c1,((c2:Nat):Int),[],[],[],((d1:Nat):Int),0,zid,[],[],zid,zid,false,0⟩,⟨(Value.slice none 0 0),(Value.slice none 0 0),(Value.slice none 0 0),(Value.slice none 0 0)⟩):Am)) (cells:=Lib.byteCells d2.1) (vr (PQ y 7) rfl) (vr (AB d2.1) rfl) (D4 ((⟨c1,((c2:Nat):Int),[],[],[],((d1:Nat):Int),0,zid,[],[],zid,zid,false,0⟩,⟨(Value.slice none 0 0),(Value.slice none 0 0),(Value.slice none 0 0),(Value.slice none 0 0)⟩):Am)▸j) (EL ((⟨c1,((c2:Nat):Int),[],[],[],((d1:Nat):Int),0,zid,[],[],zid,zid,false,0⟩,⟨(Value.slice none 0 0),(Value.slice none 0 0),(Value.slice none 0 0),(Value.slice none 0 0)⟩):Am)) (by rw[Lib.byteCells_length,Lib.byteCells_length,zid.2,d2.2]) (by rw[Lib.byteCells_length,d2.2];exact Mx) (AI _) fun ly fu dg vm=> ?_)))
  have f:=Ae f dg (Nat.le_trans (Nat.le_refl _) (by omega))
  have l:=kb dg l (by omega)
  have n:=kb dg n (by omega)
  clear j
  have hb:=kb dg hb (by omega)
  have j:ly.heap[y]? =some (.cells (msgC ((⟨c1,((c2:Nat):Int),[],[],[],((d1:Nat):Int),0,d2,[],[],zid,zid,false,0⟩,⟨(Value.slice none 0 0),(Value.slice none 0 0),(Value.slice none 0 0),(Value.slice none 0 0)⟩):Am)).toArray 29 (0,0)):=Bf fu (Ms ((⟨c1,((c2:Nat):Int),[],[],[],((d1:Nat):Int),0,zid,[],[],zid,zid,false,0⟩,⟨(Value.slice none 0 0),(Value.slice none 0 0),(Value.slice none 0 0),(Value.slice none 0 0)⟩):Am) d2);clear fu
  have vn:=bl j
  refine oZ (tN (lw _ _ (sk fun vo lz=>(sk fun vp l0=>(wt (oS rfl (Yk.fieldAt HT o (oS rfl (Yk.cell1 CS rfl (vr (PQ t 5) rfl) (Ac n (show(partsC (⟨false,false,true,false,true,false,true,false⟩:Ag))[5]? =some (.bool (false):Value)from Bv (⟨false,false,true,false,true,false,true,false⟩:Ag))) (oZ (tN (l0 _ _ (Al (vr (.bool (false)) rfl) (Ak (tN (lz _ _ (sk fun vq l3=>(sk fun vt l4=>(wt (oS rfl (Yk.fieldAt HU o ?_)))))))))))))))))))))
  refine oS rfl (Yk.cell1 CS rfl (vr (PQ t 6) rfl) (Ac n (show(partsC (⟨false,false,true,false,true,false,true,false⟩:Ag))[6]? =some (.bool (true):Value)from Bw (⟨false,false,true,false,true,false,true,false⟩:Ag))) (oZ (tN (l4 _ _ (AE (vr (.bool (true)) rfl) (sk fun vu l5=>(wt (oS rfl (Yk.cell1 Ea rfl q (Ac l (show _=some (PQ r 0:Value)from rfl)) (oP rfl (Yp.callA2 Nr (vr (PQ r 0) rfl) (vr (NI 32) rfl) ?_)))))))))))
  refine Ar (Gs _ r v b i2 hb (hr.keep f) hapr hle_i2 hl 32) ?_ ?_
  rotate_left
  ·
   rintro ch vv ⟨hPx,rfl,hgx⟩
   refine Aq (Aq (postP_panic ?_))
   exact .inr ⟨_,rfl,by rw[hD];simp only[hPb1,hPb2,hPx,Option.bind_some,Option.bind_none],rfl,(Ae f hgx lr)⟩
  rintro v_ vw ⟨d3,i3,hPb3,rfl,fv,dh⟩
  have f:=Ae f dh (Nat.le_trans (Nat.le_refl _) lr)
  have l:=kb dh l (by omega)
  have n:=kb dh n (by omega)
  clear hb
  have j:=kb dh j (by omega)
  have hb:=fv;clear fv
  have hle_i3:=(EC hPb3).1
  have vx:=bl hb
  refine oS rfl (Yk.fieldAt HV s (oS rfl (Yk.storeC (i:=40) (v:=St (d3)) (vr (PQ y 40) rfl) (vr (St (d3)) rfl) j (by rw[Az];decide) MY rfl rfl fun l6 fw di vy=> ?_)))
  have f:=Ae f di (Nat.le_trans (Nat.le_refl _) (by omega))
  have l:=kb di l (by omega)
  have n:=kb di n (by omega)
  clear j
  have hb:=kb di hb (by omega)
  have j:l6.heap[y]? =some (.cells (msgC ((⟨c1,((c2:Nat):Int),[],[],[],((d1:Nat):Int),0,d2,[],d3,zid,zid,false,0⟩,⟨(Value.slice none 0 0),(Value.slice none 0 0),(Value.slice none 0 0),(Value.slice none 0 0)⟩):Am)).toArray 29 (0,0)):=Bf fw (PE ((⟨c1,((c2:Nat):Int),[],[],[],((d1:Nat):Int),0,d2,[],[],zid,zid,false,0⟩,⟨(Value.slice none 0 0),(Value.slice none 0 0),(Value.slice none 0 0),(Value.slice none 0 0)⟩):Am) d3);clear fw
  have vz:=bl j
  refine oZ (tN (l5 _ _ (sk fun v0 l7=>(wt (oS rfl (Yk.cell1 Ea rfl q (Ac l (show _=some (PQ r 0:Value)from rfl)) (oP rfl (Yp.callA1 Gu (vr (PQ r 0) rfl) ?_))))))))
  refine Ar (DV _ r v b i3 hb (hr.keep f) hapr hle_i3 hl) ?_ ?_
  rotate_left
  ·
   rintro ch v1 ⟨hPx,rfl,hgx⟩
   refine Aq (Aq (postP_panic ?_))
   exact .inr ⟨_,rfl,by rw[hD];simp only[hPb1,hPb2,hPb3,hPx,Option.bind_some,Option.bind_none],rfl,(Ae f hgx lr)⟩
  rintro v_ v2 ⟨d4,i4,hPb4,rfl,fx,dj⟩
  have f:=Ae f dj (Nat.le_trans (Nat.le_refl _) lr)
  have l:=kb dj l (by omega)
  have n:=kb dj n (by omega)
  clear hb
  have j:=kb dj j (by omega)
  have hb:=fx;clear fx
  have hle_i4:=ES hPb4
  have v3:=bl hb
  refine oS rfl (Yk.fieldAt Kz s (oS rfl (Yk.storeMid (a:=Ey ((⟨c1,((c2:Nat):Int),[],[],[],((d1:Nat):Int),0,d2,[],d3,zid,zid,false,0⟩,⟨(Value.slice none 0 0),(Value.slice none 0 0),(Value.slice none 0 0),(Value.slice none 0 0)⟩):Am)) (m:=Lib.byteCells zid.1) (z:=GB ((⟨c1,((c2:Nat):Int),[],[],[],((d1:Nat):Int),0,d2,[],d3,zid,zid,false,0⟩,⟨(Value.slice none 0 0),(Value.slice none 0 0),(Value.slice none 0 0),(Value.slice none 0 0)⟩):Am)) (cells:=Lib.byteCells d4.1) (vr (PQ y 41) rfl) (vr (AB d4.1) rfl) (Ez ((⟨c1,((c2:Nat):Int),[],[],[],((d1:Nat):Int),0,d2,[],d3,zid,zid,false,0⟩,⟨(Value.slice none 0 0),(Value.slice none 0 0),(Value.slice none 0 0),(Value.slice none 0 0)⟩):Am)▸j) (Fp ((⟨c1,((c2:Nat):Int),[],[],[],((d1:Nat):Int),0,d2,[],d3,zid,zid,false,0⟩,⟨(Value.slice none 0 0),(Value.slice none 0 0),(Value.slice none 0 0),(Value.slice none 0 0)⟩):Am)) (by rw[Lib.byteCells_length,Lib.byteCells_length,zid.2,d4.2]) (by rw[Lib.byteCells_length,d4.2];exact Mx) (AI _) fun l8 fy dk v4=> ?_)))
  have f:=Ae f dk (Nat.le_trans (Nat.le_refl _) (by omega))
  have l:=kb dk l (by omega)
  have n:=kb dk n (by omega)
  clear j
  have hb:=kb dk hb (by omega)
  have j:l8.heap[y]? =some (.cells (msgC ((⟨c1,((c2:Nat):Int),[],[],[],((d1:Nat):Int),0,d2,[],d3,d4,zid,false,0⟩,⟨(Value.slice none 0 0),(Value.slice none 0 0),(Value.slice none 0 0),(Value.slice none 0 0)⟩):Am)).toArray 29 (0,0)):=Bf fy (O0 ((⟨c1,((c2:Nat):Int),[],[],[],((d1:Nat):Int),0,d2,[],d3,zid,zid,false,0⟩,⟨(Value.slice none 0 0),(Value.slice none 0 0),(Value.slice none 0 0),(Value.slice none 0 0)⟩):Am) d4);clear fy
  have v5:=bl j
  refine Be [(0,PQ r 0),(1,PQ n2 0),(2,PQ y 0),(3,PQ t 0),(4, .bool (true)),(22, .bool (false)),(27, .bool (false)),(35, .bool (true)),(40, .bool (false)),(45, .bool (true)),(50, .bool (false)),(56, .bool (true))] ⟨T0,q,s,o,a4,rfl,rfl,rfl,rfl,rfl,rfl,rfl,trivial⟩ fun v6 ⟨T0,q,s,o,T4,ad,ae,af,ag,ah,ai,aj,_⟩=>(tN (l7 _ _ (sk fun v7 l9=>(wt (oS rfl (Yk.cell1 Ea rfl q (Ac l (show _=some (PQ r 0:Value)from rfl)) (oP rfl (Yp.callA1 Gu (vr (PQ r 0) rfl) ?_))))))))
  refine Ar (DV _ r v b i4 hb (hr.keep f) hapr hle_i4 hl) ?_ ?_
  rotate_left
  ·
   rintro ch v8 ⟨hPx,rfl,hgx⟩
   refine Aq (Aq (postP_panic ?_))
   exact .inr ⟨_,rfl,by rw[hD];simp only[hPb1,hPb2,hPb3,hPb4,hPx,Option.bind_some,Option.bind_none],rfl,(Ae f hgx lr)⟩
  rintro v_ v9 ⟨d5,i5,hPb5,rfl,fz,dl⟩
  have f:=Ae f dl (Nat.le_trans (Nat.le_refl _) lr)
  have l:=kb dl l (by omega)
  have n:=kb dl n (by omega)
  clear hb
  have j:=kb dl j (by omega)
  have hb:=fz;clear fz
  have hle_i5:=ES hPb5
  have wa:=bl hb
  refine oS rfl (Yk.fieldAt GY s (oS rfl (Yk.storeMid (a:=EA ((⟨c1,((c2:Nat):Int),[],[],[],((d1:Nat):Int),0,d2,[],d3,d4,zid,false,0⟩,⟨(Value.slice none 0 0),(Value.slice none 0 0),(Value.slice none 0 0),(Value.slice none 0 0)⟩):Am)) (m:=Lib.byteCells zid.1) (z:=GC ((⟨c1,((c2:Nat):Int),[],[],[],((d1:Nat):Int),0,d2,[],d3,d4,zid,false,0⟩,⟨(Value.slice none 0 0),(Value.slice none 0 0),(Value.slice none 0 0),(Value.slice none 0 0)⟩):Am)) (cells:=Lib.byteCells d5.1) (vr (PQ y 73) rfl) (vr (AB d5.1) rfl) (DQ ((⟨c1,((c2:Nat):Int),[],[],[],((d1:Nat):Int),0,d2,[],d3,d4,zid,false,0⟩,⟨(Value.slice none 0 0),(Value.slice none 0 0),(Value.slice none 0 0),(Value.slice none 0 0)⟩):Am)▸j) (EB ((⟨c1,((c2:Nat):Int),[],[],[],((d1:Nat):Int),0,d2,[],d3,d4,zid,false,0⟩,⟨(Value.slice none 0 0),(Value.slice none 0 0),(Value.slice none 0 0),(Value.slice none 0 0)⟩):Am)) (by rw[Lib.byteCells_length,Lib.byteCells_length,zid.2,d5.2]) (by rw[Lib.byteCells_length,d5.2];exact Mx) (AI _) fun ma f0 dm wb=> ?_)))
  have f:=Ae f dm (Nat.le_trans (Nat.le_refl _) (by omega))
  have l:=kb dm l (by omega)
  have n:=kb dm n (by omega)
  clear j
  have hb:=kb dm hb (by omega)
  have j:ma.heap[y]? =some (.cells (msgC ((⟨c1,((c2:Nat):Int),[],[],[],((d1:Nat):Int),0,d2,[],d3,d4,d5,false,0⟩,⟨(Value.slice none 0 0),(Value.slice none 0 0),(Value.slice none 0 0),(Value.slice none 0 0)⟩):Am)).toArray 29 (0,0)):=Bf f0 (O1 ((⟨c1,((c2:Nat):Int),[],[],[],((d1:Nat):Int),0,d2,[],d3,d4,zid,false,0⟩,⟨(Value.slice none 0 0),(Value.slice none 0 0),(Value.slice none 0 0),(Value.slice none 0 0)⟩):Am) d5);clear f0
  have wc:=bl j
  refine oZ (tN (l9 _ _ (sk fun wd mb=>(wt (oS rfl (Yk.cell1 Ea rfl q (Ac l (show _=some (PQ r 0:Value)from rfl)) (oP rfl (Yp.callA1 Nq (vr (PQ r 0) rfl) ?_))))))))
  refine Ar (Hk _ r v b i5 hb (hr.keep f) hapr hle_i5 hl) ?_ ?_
  rotate_left
  ·
   rintro ch we ⟨hPx,rfl,hgx⟩
   refine Aq (Aq (postP_panic ?_))
   exact .inr ⟨_,rfl,by rw[hD];simp only[hPb1,hPb2,hPb3,hPb4,hPb5,hPx,Option.bind_some,Option.bind_none],rfl,(Ae f hgx lr)⟩
  rintro v_ wf ⟨d6,i6,hPb6,rfl,f1,dn⟩
  have f:=Ae f dn (Nat.le_trans (Nat.le_refl _) lr)
  have l:=kb dn l (by omega)
  have n:=kb dn n (by omega)
  clear hb
  have j:=kb dn j (by omega)
  have hb:=f1;clear f1
  have hle_i6:=Hi hPb6
  have wg:=bl hb
  refine oA rfl (oZ (tN (mb _ _ (sk fun wh mc=>(wt (oM rfl (oS rfl (Yk.eqI (a:=((d6).toNat:Nat)) (b:=(1:Nat)) rfl rfl (Cl _ _ _ _) (oP rfl (Yp.callA1 Cr (vr (.bool (decide (((d6).toNat)≤(1)))) rfl) ?_))))))))))
  refine Ar (AQ _ (decide (((d6).toNat)≤(1)))) ?_ ?_
  rotate_left
  ·
   rintro ch wi ⟨rfl,hb,hx⟩
   refine Aq (Aq (postP_panic ?_))
   have hno:=of_decide_eq_false hb
   exact .inr ⟨_,rfl,by rw[hD];simp only[hPb1,hPb2,hPb3,hPb4,hPb5,hPb6,Option.bind_some];rw[if_neg hno];rfl,rfl,f.trans hx⟩
  rintro v_ wj ⟨rfl,md,co⟩
  have f:=f.trans co
  have l:=eb co l
  have n:=eb co n
  have j:=eb co j
  have hb:=eb co hb
  have ea:=of_decide_eq_true md
  refine oZ (tN (mc _ _ (wt (oM rfl (oS rfl (Yk.eqI (a:=((d6).toNat:Nat)) (b:=(1:Nat)) rfl rfl (k_eql _ _ _ _) (oS rfl (Yk.fieldAt KA s (oS rfl (Yk.storeC (i:=105) (v:= .bool (decide (((d6).toNat:Nat)=(1)))) (vr (PQ y 105) rfl) (vr (.bool (decide (((d6).toNat:Nat)=(1)))) rfl) j (by rw[Az];decide) Nu rfl rfl fun me f2 dp wk=> ?_))))))))))
  have f:=Ae f dp (Nat.le_trans (Nat.le_refl _) (by omega))
  have l:=kb dp l (by omega)
  have n:=kb dp n (by omega)
  clear j
  have hb:=kb dp hb (by omega)
  have j:me.heap[y]? =some (.cells (msgC ((⟨c1,((c2:Nat):Int),[],[],[],((d1:Nat):Int),0,d2,[],d3,d4,d5,(decide (((d6).toNat:Nat)=(1))),0⟩,⟨(Value.slice none 0 0),(Value.slice none 0 0),(Value.slice none 0 0),(Value.slice none 0 0)⟩):Am)).toArray 29 (0,0)):=Bf f2 (O2 ((⟨c1,((c2:Nat):Int),[],[],[],((d1:Nat):Int),0,d2,[],d3,d4,d5,false,0⟩,⟨(Value.slice none 0 0),(Value.slice none 0 0),(Value.slice none 0 0),(Value.slice none 0 0)⟩):Am) (decide (((d6).toNat:Nat)=(1))));clear f2
  have wl:=bl j
  refine oZ (tN (l3 _ _ (sk fun wm f3=>(sk fun wn f4=>(wt (oS rfl (Yk.fieldAt LL o (oS rfl (Yk.cell1 CS rfl (vr (PQ t 7) rfl) (Ac n (show(partsC (⟨false,false,true,false,true,false,true,false⟩:Ag))[7]? =some (.bool (false):Value)from Bx (⟨false,false,true,false,true,false,true,false⟩:Ag))) (oZ ?_))))))))))
  have hMl:CX (((⟨c1,((c2:Nat):Int),[],[],[],((d1:Nat):Int),0,d2,[],d3,d4,d5,(decide (((d6).toNat:Nat)=(1))),0⟩,⟨(Value.slice none 0 0),(Value.slice none 0 0),(Value.slice none 0 0),(Value.slice none 0 0)⟩):Am):Am).1:=⟨by simp,fun u hu=>(by cases hu),by simp,by simp,by have:=(EC hPb3).2;simp only;omega⟩
  by_cases hj:i6=b.length
  ·refine tN (f4 _ _ (Al (vr (.bool (false)) rfl) (Ak (tN (f3 _ _ (sk fun wo mf=> ?_))))))
   refine A3 14 _ [Is (PQ r 0),Is (PQ r 0),Is (PQ r 1),Is (NI i6),Is (PQ r 0),Is (PQ r 0),Is (PQ r 0),Is (v),Is (NI b.length),Is (.bool (true)),Is (.bool (true)),Is (.agg (msgC ((⟨c1,((c2:Nat):Int),[],[],[],((d1:Nat):Int),0,d2,[],d3,d4,d5,(decide (((d6).toNat:Nat)=(1))),0⟩,⟨(Value.slice none 0 0),(Value.slice none 0 0),(Value.slice none 0 0),(Value.slice none 0 0)⟩):Am)).toArray),Is (.bool (rightB (((⟨c1,((c2:Nat):Int),[],[],[],((d1:Nat):Int),0,d2,[],d3,d4,d5,(decide (((d6).toNat:Nat)=(1))),0⟩,⟨(Value.slice none 0 0),(Value.slice none 0 0),(Value.slice none 0 0),(Value.slice none 0 0)⟩):Am):Am).1)),Is (.bool (rightB (((⟨c1,((c2:Nat):Int),[],[],[],((d1:Nat):Int),0,d2,[],d3,d4,d5,(decide (((d6).toNat:Nat)=(1))),0⟩,⟨(Value.slice none 0 0),(Value.slice none 0 0),(Value.slice none 0 0),(Value.slice none 0 0)⟩):Am):Am).1))] (by kernel_rfl) [79,80,81,82,83,84,85,86,87,88,89,90,91,92,93] (by kernel_rfl) (by kernel_rfl) (by kernel_rfl) rfl rfl rfl (fun _ _=>trivial) (Cz (Cc trivial)) ?mg ?hQ15027
   case mg=>
    refine⟨?_,?_,?_,?_,?_,?_,?_,?_,?_,?_,?_,?_,?_,?_,?_,trivial⟩
    ·refine Ah (Aa rfl fun σ w1 hC h=> ?_)
     have e1:=(Ad (h 1 (by decide))).trans q
     exact Yk.cell1 Ea rfl e1 (Ac (eb hC l) (show _=some (PQ r 0:Value)from rfl)) ⟨Ext.refl _,rfl⟩
    ·refine Ah (Aa rfl fun σ w1 hC h=> ?_)
     have am:=Ad (h 79 (by decide))
     exact Yk.nilCheck am ⟨Ext.refl _,rfl⟩
    ·refine Ah (Aa rfl fun σ w1 hC h=> ?_)
     have an:=Ad (h 80 (by decide))
     exact Yk.fieldAt A4 an ⟨Ext.refl _,rfl⟩
    ·refine Ah (Aa rfl fun σ w1 hC h=> ?_)
     have ao:=Ad (h 81 (by decide))
     exact Yk.cell1 Fs rfl ao (Ac (eb hC hb) (show(AU (AD v b (i6)))[1]? =some (NI i6:Value)from BE (AD v b (i6)))) ⟨Ext.refl _,rfl⟩
    ·refine Ah (Aa rfl fun σ w1 hC h=> ?_)
     have e1:=(Ad (h 1 (by decide))).trans q
     exact Yk.cell1 Ea rfl e1 (Ac (eb hC l) (show _=some (PQ r 0:Value)from rfl)) ⟨Ext.refl _,rfl⟩
    ·refine Ah (Aa rfl fun σ w1 hC h=> ?_)
     have ap:=Ad (h 83 (by decide))
     exact Yk.nilCheck ap ⟨Ext.refl _,rfl⟩
    ·refine Ah (Aa rfl fun σ w1 hC h=> ?_)
     have aq:=Ad (h 84 (by decide))
     exact Yk.fieldAt BY aq ⟨Ext.refl _,rfl⟩
    ·refine Ah (Aa rfl fun σ w1 hC h=> ?_)
     have ar:=Ad (h 85 (by decide))
     exact Yk.cell1 Ff rfl ar (Ac (eb hC hb) (show(AU (AD v b (i6)))[0]? =some (v:Value)from BP (AD v b (i6)))) ⟨Ext.refl _,rfl⟩
    ·refine Ah (Aa rfl fun σ w1 hC h=> ?_)
     have au:=Ad (h 86 (by decide))
     exact Yk.lenRB Ff (RB.of (hr.keep (f.trans hC)) au) ⟨Ext.refl _,rfl⟩
    ·refine Ah (Aa rfl fun σ w1 hC h=> ?_)
     have av:=Ad (h 82 (by decide))
     have aw:=Ad (h 87 (by decide))
     exact Yk.eqI (a:=(i6:Nat)) (b:=(b.length:Nat)) av aw (k_eql _ _ _ _) ⟨Ext.refl _,(congrArg Value.bool (decide_eq_true (hj)))⟩
    ·refine Ah (Aa rfl fun σ w1 hC h=> ?_)
     have ax:=Ad (h 88 (by decide))
     exact Yk.move ax ⟨Ext.refl _,rfl⟩
    ·refine Ah (Bg 10 true 89 rfl rfl (fun _ _ h=>h) fun σ w1 hC h=> ?_)
     have e2:=(Ad (h 2 (by decide))).trans s
     exact Yk.loadAll e2 (eb hC j) (N6).choose_spec rfl (AF (Az ((⟨c1,((c2:Nat):Int),[],[],[],((d1:Nat):Int),0,d2,[],d3,d4,d5,(decide (((d6).toNat:Nat)=(1))),0⟩,⟨(Value.slice none 0 0),(Value.slice none 0 0),(Value.slice none 0 0),(Value.slice none 0 0)⟩):Am)) MQ) ⟨Ext.refl _,rfl⟩
    ·refine Ah (Bg 10 true 89 rfl rfl (fun _ _ h=>h) fun σ w1 hC h=> ?_)
     have a5:=Ad (h 90 (by decide))
     refine Yk.callA1 Oj a5 ((CC _ ((⟨c1,((c2:Nat):Int),[],[],[],((d1:Nat):Int),0,d2,[],d3,d4,d5,(decide (((d6).toNat:Nat)=(1))),0⟩,⟨(Value.slice none 0 0),(Value.slice none 0 0),(Value.slice none 0 0),(Value.slice none 0 0)⟩):Am) (MsgAt.mk (RG.nil _ _ _) (RG.nil _ _ _) (RG.nil _ _ _) (RB.nil _)) hMl).mono ?_)
     rintro e w2 ⟨rfl,hx⟩
     exact⟨_,rfl,hx,rfl⟩
    ·refine Ah (Aa rfl fun σ w1 hC h=> ?_)
     have ay:=Ad (h 89 (by decide))
     have a6:=Ad (h 91 (by decide))
     exact Yk.pickT ay a6 ⟨Ext.refl _,rfl⟩
    ·exact trivial
   intro mh wp cp he hf
   obtain⟨-,-,-,-,-,-,-,-,-,-,-,-,-,k92,-⟩:=hf
   obtain⟨T0,q,s,o,T4,T5,ad,ae,af,ag,ah,ai,aj,az,-⟩:=he.hold [(0,_),(1,_),(2,_),(3,_),(4,_),(5,B8 (d6)),(22,_),(27,_),(35,_),(40,_),(45,_),(50,_),(56,_),(75, .bool (false))] ⟨T0,q,s,o,T4,rfl,ad,ae,af,ag,ah,ai,aj,rfl,trivial⟩ rfl
   clear he
   have f:=f.trans cp
   have l:=eb cp l
   have n:=eb cp n
   have hb:=eb cp hb
   have j:=eb cp j
   have a0:mh 92 = .bool (rightB (((⟨c1,((c2:Nat):Int),[],[],[],((d1:Nat):Int),0,d2,[],d3,d4,d5,(decide (((d6).toNat:Nat)=(1))),0⟩,⟨(Value.slice none 0 0),(Value.slice none 0 0),(Value.slice none 0 0),(Value.slice none 0 0)⟩):Am):Am).1):=k92
   clear k92
   refine Yp.callA1 Cr a0 ?_
   refine Ar (AQ _ (rightB (((⟨c1,((c2:Nat):Int),[],[],[],((d1:Nat):Int),0,d2,[],d3,d4,d5,(decide (((d6).toNat:Nat)=(1))),0⟩,⟨(Value.slice none 0 0),(Value.slice none 0 0),(Value.slice none 0 0),(Value.slice none 0 0)⟩):Am):Am).1)) ?_ ?_
   rotate_left
   ·
    rintro ch wq ⟨rfl,hb,hx⟩
    refine Aq (postP_panic ?_)
    exact .inr ⟨_,rfl,by rw[hD];simp only[hPb1,hPb2,hPb3,hPb4,hPb5,hPb6,if_pos ea,Option.bind_some];refine if_neg ?_;rintro⟨h1,h2⟩;exact Bool.noConfusion (h2.symm.trans hb),rfl,f.trans hx⟩
   rintro v_ wr ⟨rfl,mi,cq⟩
   have f:=f.trans cq
   have l:=eb cq l
   have n:=eb cq n
   have hb:=eb cq hb
   have j:=eb cq j
   intro a9 ba
   have T0:a9 0=(PQ r 0:Value):=(ba 0 (by decide)).trans T0
   have q:a9 1=(PQ n2 0:Value):=(ba 1 (by decide)).trans q
   have s:a9 2=(PQ y 0:Value):=(ba 2 (by decide)).trans s
   have o:a9 3=(PQ t 0:Value):=(ba 3 (by decide)).trans o
   have T4:a9 4=(.bool (true):Value):=(ba 4 (by decide)).trans T4
   have T5:a9 5=(B8 (d6):Value):=(ba 5 (by decide)).trans T5
   have ad:a9 22=(.bool (false):Value):=(ba 22 (by decide)).trans ad
   have ae:a9 27=(.bool (false):Value):=(ba 27 (by decide)).trans ae
   have af:a9 35=(.bool (true):Value):=(ba 35 (by decide)).trans af
   have ag:a9 40=(.bool (false):Value):=(ba 40 (by decide)).trans ag
   have ah:a9 45=(.bool (true):Value):=(ba 45 (by decide)).trans ah
   have ai:a9 50=(.bool (false):Value):=(ba 50 (by decide)).trans ai
   have aj:a9 56=(.bool (true):Value):=(ba 56 (by decide)).trans aj
   have az:a9 75=(.bool (false):Value):=(ba 75 (by decide)).trans az
   refine tN (mf _ _ (sk fun ws mj=>(wt (oS rfl (Yk.loadAll s j (N6).choose_spec rfl (AF (Az ((⟨c1,((c2:Nat):Int),[],[],[],((d1:Nat):Int),0,d2,[],d3,d4,d5,(decide (((d6).toNat:Nat)=(1))),0⟩,⟨(Value.slice none 0 0),(Value.slice none 0 0),(Value.slice none 0 0),(Value.slice none 0 0)⟩):Am)) MQ) (oS rfl (Yk.storeAll s (vr (.agg (msgC ((⟨c1,((c2:Nat):Int),[],[],[],((d1:Nat):Int),0,d2,[],d3,d4,d5,(decide (((d6).toNat:Nat)=(1))),0⟩,⟨(Value.slice none 0 0),(Value.slice none 0 0),(Value.slice none 0 0),(Value.slice none 0 0)⟩):Am)).toArray) rfl) j (by simp only[List.size_toArray,Az]) (AF (Az _) MQ) (CP (x:=((⟨c1,((c2:Nat):Int),[],[],[],((d1:Nat):Int),0,d2,[],d3,d4,d5,(decide (((d6).toNat:Nat)=(1))),0⟩,⟨(Value.slice none 0 0),(Value.slice none 0 0),(Value.slice none 0 0),(Value.slice none 0 0)⟩):Am)) rfl rfl rfl rfl) fun ml f5 dq wu=> ?_)))))))
   have f:=Ae f dq (Nat.le_trans (Nat.le_refl _) (by omega))
   have l:=kb dq l (by omega)
   have n:=kb dq n (by omega)
   have hb:=kb dq hb (by omega)
   clear j
   have j:ml.heap[y]? =some (.cells (msgC ((⟨c1,((c2:Nat):Int),[],[],[],((d1:Nat):Int),0,d2,[],d3,d4,d5,(decide (((d6).toNat:Nat)=(1))),0⟩,⟨(Value.slice none 0 0),(Value.slice none 0 0),(Value.slice none 0 0),(Value.slice none 0 0)⟩):Am)).toArray 29 (0,0)):=f5;clear f5
   have wv:=bl j
   refine oZ (tN (mj _ _ (Ap (Br (fn:=Tryd.f67) _ rfl [.agg (msgC ((⟨c1,((c2:Nat):Int),[],[],[],((d1:Nat):Int),0,d2,[],d3,d4,d5,(decide (((d6).toNat:Nat)=(1))),0⟩,⟨(Value.slice none 0 0),(Value.slice none 0 0),(Value.slice none 0 0),(Value.slice none 0 0)⟩):Am)).toArray] (.agg (msgC ((⟨c1,((c2:Nat):Int),[],[],[],((d1:Nat):Int),0,d2,[],d3,d4,d5,(decide (((d6).toNat:Nat)=(1))),0⟩,⟨(Value.slice none 0 0),(Value.slice none 0 0),(Value.slice none 0 0),(Value.slice none 0 0)⟩):Am)).toArray) rfl ⟨ResF.row s j (N6).choose_spec rfl (AF (Az _) MQ),trivial⟩ ?_))))
   exact .inl ⟨_,rfl,((⟨c1,((c2:Nat):Int),[],[],[],((d1:Nat):Int),0,d2,[],d3,d4,d5,(decide (((d6).toNat:Nat)=(1))),0⟩,⟨(Value.slice none 0 0),(Value.slice none 0 0),(Value.slice none 0 0),(Value.slice none 0 0)⟩):Am),by rw[hD];simp only[hPb1,hPb2,hPb3,hPb4,hPb5,hPb6,if_pos ea,Option.bind_some];refine if_pos ?_;exact⟨hj,mi⟩,rfl,(MsgAt.mk (RG.nil _ _ _) (RG.nil _ _ _) (RG.nil _ _ _) (RB.nil _)),⟨(fun k h=>by cases h),(fun k h=>by cases h),(fun k h=>by cases h),(fun k h=>by cases h)⟩,f⟩
  refine tN (f4 _ _ (Al (vr (.bool (false)) rfl) (Ak (tN (f3 _ _ (sk fun ww wx=> ?_))))))
  refine A3 14 _ [Is (PQ r 0),Is (PQ r 0),Is (PQ r 1),Is (NI i6),Is (PQ r 0),Is (PQ r 0),Is (PQ r 0),Is (v),Is (NI b.length),Is (.bool (false)),Is (.bool (false)),Is undef,Is undef,Is (.bool (false))] (by kernel_rfl) [79,80,81,82,83,84,85,86,87,88,89,90,91,92,93] (by kernel_rfl) (by kernel_rfl) (by kernel_rfl) rfl rfl rfl (fun _ _=>trivial) (Cz (Cc trivial)) ?mm ?hQ16027
  case mm=>
   refine⟨?_,?_,?_,?_,?_,?_,?_,?_,?_,?_,?_,?_,?_,?_,?_,trivial⟩
   ·refine Ah (Aa rfl fun σ w1 hC h=> ?_)
    have e1:=(Ad (h 1 (by decide))).trans q
    exact Yk.cell1 Ea rfl e1 (Ac (eb hC l) (show _=some (PQ r 0:Value)from rfl)) ⟨Ext.refl _,rfl⟩
   ·refine Ah (Aa rfl fun σ w1 hC h=> ?_)
    have am:=Ad (h 79 (by decide))
    exact Yk.nilCheck am ⟨Ext.refl _,rfl⟩
   ·refine Ah (Aa rfl fun σ w1 hC h=> ?_)
    have an:=Ad (h 80 (by decide))
    exact Yk.fieldAt A4 an ⟨Ext.refl _,rfl⟩
   ·refine Ah (Aa rfl fun σ w1 hC h=> ?_)
    have ao:=Ad (h 81 (by decide))
    exact Yk.cell1 Fs rfl ao (Ac (eb hC hb) (show(AU (AD v b (i6)))[1]? =some (NI i6:Value)from BE (AD v b (i6)))) ⟨Ext.refl _,rfl⟩
   ·refine Ah (Aa rfl fun σ w1 hC h=> ?_)
    have e1:=(Ad (h 1 (by decide))).trans q
    exact Yk.cell1 Ea rfl e1 (Ac (eb hC l) (show _=some (PQ r 0:Value)from rfl)) ⟨Ext.refl _,rfl⟩
   ·refine Ah (Aa rfl fun σ w1 hC h=> ?_)
    have ap:=Ad (h 83 (by decide))
    exact Yk.nilCheck ap ⟨Ext.refl _,rfl⟩
   ·refine Ah (Aa rfl fun σ w1 hC h=> ?_)
    have aq:=Ad (h 84 (by decide))
    exact Yk.fieldAt BY aq ⟨Ext.refl _,rfl⟩
   ·refine Ah (Aa rfl fun σ w1 hC h=> ?_)
    have ar:=Ad (h 85 (by decide))
    exact Yk.cell1 Ff rfl ar (Ac (eb hC hb) (show(AU (AD v b (i6)))[0]? =some (v:Value)from BP (AD v b (i6)))) ⟨Ext.refl _,rfl⟩
   ·refine Ah (Aa rfl fun σ w1 hC h=> ?_)
    have au:=Ad (h 86 (by decide))
    exact Yk.lenRB Ff (RB.of (hr.keep (f.trans hC)) au) ⟨Ext.refl _,rfl⟩
   ·refine Ah (Aa rfl fun σ w1 hC h=> ?_)
    have av:=Ad (h 82 (by decide))
    have aw:=Ad (h 87 (by decide))
    exact Yk.eqI (a:=(i6:Nat)) (b:=(b.length:Nat)) av aw (k_eql _ _ _ _) ⟨Ext.refl _,(congrArg Value.bool (decide_eq_false (hj)))⟩
   ·refine Ah (Aa rfl fun σ w1 hC h=> ?_)
    have ax:=Ad (h 88 (by decide))
    exact Yk.move ax ⟨Ext.refl _,rfl⟩
   ·refine Ah (BN 10 true 89 rfl rfl (fun x _ (h:x = .bool false)=>by rw[h];intro h;cases h) fun _=>rfl)
   ·refine Ah (BN 10 true 89 rfl rfl (fun x _ (h:x = .bool false)=>by rw[h];intro h;cases h) fun _=>rfl)
   ·refine Ah (Aa rfl fun σ w1 hC h=> ?_)
    have ay:=Ad (h 89 (by decide))
    exact Yk.pickF ay (vr (.bool (false)) rfl) ⟨Ext.refl _,rfl⟩
   ·exact trivial
  intro mn wy cr he hf
  obtain⟨-,-,-,-,-,-,-,-,-,-,-,-,-,k92,-⟩:=hf
  obtain⟨T0,q,s,o,T4,T5,ad,ae,af,ag,ah,ai,aj,az,-⟩:=he.hold [(0,_),(1,_),(2,_),(3,_),(4,_),(5,B8 (d6)),(22,_),(27,_),(35,_),(40,_),(45,_),(50,_),(56,_),(75, .bool (false))] ⟨T0,q,s,o,T4,rfl,ad,ae,af,ag,ah,ai,aj,rfl,trivial⟩ rfl
  clear he
  have f:=f.trans cr
  have l:=eb cr l
  have n:=eb cr n
  have hb:=eb cr hb
  have j:=eb cr j
  have a0:mn 92 = .bool (false):=k92
  clear k92
  refine Yp.callA1 Cr a0 ?_
  refine Ar (AQ _ (false)) ?_ ?_
  rotate_left
  ·
   rintro ch wz ⟨rfl,hb,hx⟩
   refine Aq (postP_panic ?_)
   exact .inr ⟨_,rfl,by rw[hD];simp only[hPb1,hPb2,hPb3,hPb4,hPb5,hPb6,if_pos ea,Option.bind_some];refine if_neg ?_;rintro⟨h1,h2⟩;exact hj h1,rfl,f.trans hx⟩
  rintro v_ w4 ⟨rfl,mo,w5⟩
  cases mo
 have hD:=Dl hP1 hK hP2
 rw[Ni (m:=(⟨c1,((c2:Nat):Int),[],[],[],0,0,zid,[],[],zid,zid,false,0⟩:Msg)) hk]at hD
 refine tN (bt _ _ (sk fun w6 mp=>(sk fun w7 mq=>(wt (oS rfl (Yk.fieldAt LF o (oS rfl (Yk.cell1 CS rfl (vr (PQ t 0) rfl) (Ac n (show(partsC (⟨false,false,false,false,false,false,false,true⟩:Ag))[0]? =some (.bool (false):Value)from BH (⟨false,false,false,false,false,false,false,true⟩:Ag))) (oZ (tN (mq _ _ (Al (vr (.bool (false)) rfl) (Ak (tN (mp _ _ (sk fun w8 mr=>(sk fun w9 ms=>(wt (oS rfl (Yk.fieldAt LG o (oS rfl (Yk.cell1 CS rfl (vr (PQ t 1) rfl) (Ac n (show(partsC (⟨false,false,false,false,false,false,false,true⟩:Ag))[1]? =some (.bool (false):Value)from BI (⟨false,false,false,false,false,false,false,true⟩:Ag))) ?_))))))))))))))))))))))
 refine oZ (tN (ms _ _ (Al (vr (.bool (false)) rfl) (Ak (tN (mr _ _ (sk fun xa mt=>(sk fun xb mu=>(wt (oS rfl (Yk.fieldAt LH o (oS rfl (Yk.cell1 CS rfl (vr (PQ t 2) rfl) (Ac n (show(partsC (⟨false,false,false,false,false,false,false,true⟩:Ag))[2]? =some (.bool (false):Value)from BJ (⟨false,false,false,false,false,false,false,true⟩:Ag))) (oZ (tN (mu _ _ (Al (vr (.bool (false)) rfl) (Ak (tN (mt _ _ (sk fun xc mv=> ?_)))))))))))))))))))))
 refine sk fun xd mw=>(wt (oS rfl (Yk.fieldAt LI o (oS rfl (Yk.cell1 CS rfl (vr (PQ t 3) rfl) (Ac n (show(partsC (⟨false,false,false,false,false,false,false,true⟩:Ag))[3]? =some (.bool (false):Value)from BK (⟨false,false,false,false,false,false,false,true⟩:Ag))) (oZ (tN (mw _ _ (Al (vr (.bool (false)) rfl) (Ak (tN (mv _ _ (sk fun xe mx=>(sk fun xf my=>(wt (oS rfl (Yk.fieldAt LJ o (oS rfl (Yk.cell1 CS rfl (vr (PQ t 4) rfl) (Ac n (show(partsC (⟨false,false,false,false,false,false,false,true⟩:Ag))[4]? =some (.bool (false):Value)from BL (⟨false,false,false,false,false,false,false,true⟩:Ag))) (oZ (tN (my _ _ ?_))))))))))))))))))))))
 refine Al (vr (.bool (false)) rfl) (Ak (tN (mx _ _ (sk fun xg mz=>(sk fun xh m0=>(wt (oS rfl (Yk.fieldAt HT o (oS rfl (Yk.cell1 CS rfl (vr (PQ t 5) rfl) (Ac n (show(partsC (⟨false,false,false,false,false,false,false,true⟩:Ag))[5]? =some (.bool (false):Value)from Bv (⟨false,false,false,false,false,false,false,true⟩:Ag))) (oZ (tN (m0 _ _ (Al (vr (.bool (false)) rfl) (Ak (tN (mz _ _ (sk fun xi m1=>(sk fun xj m2=>(wt ?_))))))))))))))))))))
 refine oS rfl (Yk.fieldAt HU o (oS rfl (Yk.cell1 CS rfl (vr (PQ t 6) rfl) (Ac n (show(partsC (⟨false,false,false,false,false,false,false,true⟩:Ag))[6]? =some (.bool (false):Value)from Bw (⟨false,false,false,false,false,false,false,true⟩:Ag))) (oZ (tN (m2 _ _ (Al (vr (.bool (false)) rfl) (Ak (tN (m1 _ _ (sk fun xk f6=>(sk fun xl m3=>(wt (oS rfl (Yk.fieldAt LL o (oS rfl (Yk.cell1 CS rfl (vr (PQ t 7) rfl) (Ac n (show(partsC (⟨false,false,false,false,false,false,false,true⟩:Ag))[7]? =some (.bool (true):Value)from Bx (⟨false,false,false,false,false,false,false,true⟩:Ag))) (oZ (tN (m3 _ _ (AE (vr (.bool (true)) rfl) (wt ?_))))))))))))))))))))))
 refine oS rfl (Yk.cell1 Ea rfl q (Ac l (show _=some (PQ r 0:Value)from rfl)) (oP rfl (Yp.callA1 Gt (vr (PQ r 0) rfl) ?_)))
 refine Ar (Ch _ r v b j2 hb (hr.keep f) hapr hle_j2 hl) ?_ ?_
 rotate_left
 ·
  rintro ch xm ⟨hPx,rfl,hgx⟩
  refine Aq (postP_panic ?_)
  exact .inr ⟨_,rfl,by rw[hD];simp only[hPx,Option.bind_some,Option.bind_none],rfl,(Ae f hgx lr)⟩
 rintro v_ xn ⟨d1,i1,hPb1,rfl,f7,ed⟩
 have f:=Ae f ed (Nat.le_trans (Nat.le_refl _) lr)
 have l:=kb ed l (by omega)
 clear hb
 have j:=kb ed j (by omega)
 have hb:=f7;clear f7
 have hle_i1:=Dk hle_j2 hPb1
 have xo:=bl hb
 refine oS rfl (Yk.fieldAt GZ s (oS rfl (Yk.storeC (i:=106) (v:=NI d1) (vr (PQ y 106) rfl) (vr (NI d1) rfl) j (by rw[Az];decide) L8 rfl rfl fun m4 f8 ee xp=> ?_)))
 have f:=Ae f ee (Nat.le_trans (Nat.le_refl _) (by omega))
 have l:=kb ee l (by omega)
 clear j
 have hb:=kb ee hb (by omega)
 have j:m4.heap[y]? =some (.cells (msgC ((⟨c1,((c2:Nat):Int),[],[],[],0,0,zid,[],[],zid,zid,false,((d1:Nat):Int)⟩,⟨(Value.slice none 0 0),(Value.slice none 0 0),(Value.slice none 0 0),(Value.slice none 0 0)⟩):Am)).toArray 29 (0,0)):=Bf f8 (O3 ((⟨c1,((c2:Nat):Int),[],[],[],0,0,zid,[],[],zid,zid,false,0⟩,⟨(Value.slice none 0 0),(Value.slice none 0 0),(Value.slice none 0 0),(Value.slice none 0 0)⟩):Am) ((d1:Nat):Int));clear f8
 have xq:=bl j
 refine oZ ?_
 have hMl:CX (((⟨c1,((c2:Nat):Int),[],[],[],0,0,zid,[],[],zid,zid,false,((d1:Nat):Int)⟩,⟨(Value.slice none 0 0),(Value.slice none 0 0),(Value.slice none 0 0),(Value.slice none 0 0)⟩):Am):Am).1:=⟨by simp,fun u hu=>(by cases hu),by simp,by simp,by simp⟩
 by_cases hj:i1=b.length
 ·refine tN (f6 _ _ (sk fun xr m5=> ?_))
  refine A3 14 _ [Is (PQ r 0),Is (PQ r 0),Is (PQ r 1),Is (NI i1),Is (PQ r 0),Is (PQ r 0),Is (PQ r 0),Is (v),Is (NI b.length),Is (.bool (true)),Is (.bool (true)),Is (.agg (msgC ((⟨c1,((c2:Nat):Int),[],[],[],0,0,zid,[],[],zid,zid,false,((d1:Nat):Int)⟩,⟨(Value.slice none 0 0),(Value.slice none 0 0),(Value.slice none 0 0),(Value.slice none 0 0)⟩):Am)).toArray),Is (.bool (rightB (((⟨c1,((c2:Nat):Int),[],[],[],0,0,zid,[],[],zid,zid,false,((d1:Nat):Int)⟩,⟨(Value.slice none 0 0),(Value.slice none 0 0),(Value.slice none 0 0),(Value.slice none 0 0)⟩):Am):Am).1)),Is (.bool (rightB (((⟨c1,((c2:Nat):Int),[],[],[],0,0,zid,[],[],zid,zid,false,((d1:Nat):Int)⟩,⟨(Value.slice none 0 0),(Value.slice none 0 0),(Value.slice none 0 0),(Value.slice none 0 0)⟩):Am):Am).1))] (by kernel_rfl) [79,80,81,82,83,84,85,86,87,88,89,90,91,92,93] (by kernel_rfl) (by kernel_rfl) (by kernel_rfl) rfl rfl rfl (fun _ _=>trivial) (Cz (Cc trivial)) ?m7 ?hQ17027
  case m7=>
   refine⟨?_,?_,?_,?_,?_,?_,?_,?_,?_,?_,?_,?_,?_,?_,?_,trivial⟩
   ·refine Ah (Aa rfl fun σ w1 hC h=> ?_)
    have e1:=(Ad (h 1 (by decide))).trans q
    exact Yk.cell1 Ea rfl e1 (Ac (eb hC l) (show _=some (PQ r 0:Value)from rfl)) ⟨Ext.refl _,rfl⟩
   ·refine Ah (Aa rfl fun σ w1 hC h=> ?_)
    have am:=Ad (h 79 (by decide))
    exact Yk.nilCheck am ⟨Ext.refl _,rfl⟩
   ·refine Ah (Aa rfl fun σ w1 hC h=> ?_)
    have an:=Ad (h 80 (by decide))
    exact Yk.fieldAt A4 an ⟨Ext.refl _,rfl⟩
   ·refine Ah (Aa rfl fun σ w1 hC h=> ?_)
    have ao:=Ad (h 81 (by decide))
    exact Yk.cell1 Fs rfl ao (Ac (eb hC hb) (show(AU (AD v b (i1)))[1]? =some (NI i1:Value)from BE (AD v b (i1)))) ⟨Ext.refl _,rfl⟩
   ·refine Ah (Aa rfl fun σ w1 hC h=> ?_)
    have e1:=(Ad (h 1 (by decide))).trans q
    exact Yk.cell1 Ea rfl e1 (Ac (eb hC l) (show _=some (PQ r 0:Value)from rfl)) ⟨Ext.refl _,rfl⟩
   ·refine Ah (Aa rfl fun σ w1 hC h=> ?_)
    have ap:=Ad (h 83 (by decide))
    exact Yk.nilCheck ap ⟨Ext.refl _,rfl⟩
   ·refine Ah (Aa rfl fun σ w1 hC h=> ?_)
    have aq:=Ad (h 84 (by decide))
    exact Yk.fieldAt BY aq ⟨Ext.refl _,rfl⟩
   ·refine Ah (Aa rfl fun σ w1 hC h=> ?_)
    have ar:=Ad (h 85 (by decide))
    exact Yk.cell1 Ff rfl ar (Ac (eb hC hb) (show(AU (AD v b (i1)))[0]? =some (v:Value)from BP (AD v b (i1)))) ⟨Ext.refl _,rfl⟩
   ·refine Ah (Aa rfl fun σ w1 hC h=> ?_)
    have au:=Ad (h 86 (by decide))
    exact Yk.lenRB Ff (RB.of (hr.keep (f.trans hC)) au) ⟨Ext.refl _,rfl⟩
   ·refine Ah (Aa rfl fun σ w1 hC h=> ?_)
    have av:=Ad (h 82 (by decide))
    have aw:=Ad (h 87 (by decide))
    exact Yk.eqI (a:=(i1:Nat)) (b:=(b.length:Nat)) av aw (k_eql _ _ _ _) ⟨Ext.refl _,(congrArg Value.bool (decide_eq_true (hj)))⟩
   ·refine Ah (Aa rfl fun σ w1 hC h=> ?_)
    have ax:=Ad (h 88 (by decide))
    exact Yk.move ax ⟨Ext.refl _,rfl⟩
   ·refine Ah (Bg 10 true 89 rfl rfl (fun _ _ h=>h) fun σ w1 hC h=> ?_)
    have e2:=(Ad (h 2 (by decide))).trans s
    exact Yk.loadAll e2 (eb hC j) (N6).choose_spec rfl (AF (Az ((⟨c1,((c2:Nat):Int),[],[],[],0,0,zid,[],[],zid,zid,false,((d1:Nat):Int)⟩,⟨(Value.slice none 0 0),(Value.slice none 0 0),(Value.slice none 0 0),(Value.slice none 0 0)⟩):Am)) MQ) ⟨Ext.refl _,rfl⟩
   ·refine Ah (Bg 10 true 89 rfl rfl (fun _ _ h=>h) fun σ w1 hC h=> ?_)
    have a5:=Ad (h 90 (by decide))
    refine Yk.callA1 Oj a5 ((CC _ ((⟨c1,((c2:Nat):Int),[],[],[],0,0,zid,[],[],zid,zid,false,((d1:Nat):Int)⟩,⟨(Value.slice none 0 0),(Value.slice none 0 0),(Value.slice none 0 0),(Value.slice none 0 0)⟩):Am) (MsgAt.mk (RG.nil _ _ _) (RG.nil _ _ _) (RG.nil _ _ _) (RB.nil _)) hMl).mono ?_)
    rintro e w2 ⟨rfl,hx⟩
    exact⟨_,rfl,hx,rfl⟩
   ·refine Ah (Aa rfl fun σ w1 hC h=> ?_)
    have ay:=Ad (h 89 (by decide))
    have a6:=Ad (h 91 (by decide))
    exact Yk.pickT ay a6 ⟨Ext.refl _,rfl⟩
   ·exact trivial
  intro m8 xs dr he hf
  obtain⟨-,-,-,-,-,-,-,-,-,-,-,-,-,k92,-⟩:=hf
  obtain⟨T0,q,s,o,T4,ad,ae,af,ag,ah,ai,aj,az,-⟩:=he.hold [(0,_),(1,_),(2,_),(3,_),(4,_),(22, .bool (false)),(27, .bool (false)),(35, .bool (false)),(40, .bool (false)),(45, .bool (false)),(50, .bool (false)),(56, .bool (false)),(75, .bool (true))] ⟨T0,q,s,o,a4,rfl,rfl,rfl,rfl,rfl,rfl,rfl,rfl,trivial⟩ rfl
  clear he
  have f:=f.trans dr
  have l:=eb dr l
  have hb:=eb dr hb
  have j:=eb dr j
  have a0:m8 92 = .bool (rightB (((⟨c1,((c2:Nat):Int),[],[],[],0,0,zid,[],[],zid,zid,false,((d1:Nat):Int)⟩,⟨(Value.slice none 0 0),(Value.slice none 0 0),(Value.slice none 0 0),(Value.slice none 0 0)⟩):Am):Am).1):=k92
  clear k92
  refine Yp.callA1 Cr a0 ?_
  refine Ar (AQ _ (rightB (((⟨c1,((c2:Nat):Int),[],[],[],0,0,zid,[],[],zid,zid,false,((d1:Nat):Int)⟩,⟨(Value.slice none 0 0),(Value.slice none 0 0),(Value.slice none 0 0),(Value.slice none 0 0)⟩):Am):Am).1)) ?_ ?_
  rotate_left
  ·
   rintro ch xt ⟨rfl,hb,hx⟩
   refine Aq (postP_panic ?_)
   exact .inr ⟨_,rfl,by rw[hD];simp only[hPb1,Option.bind_some];refine if_neg ?_;rintro⟨h1,h2⟩;exact Bool.noConfusion (h2.symm.trans hb),rfl,f.trans hx⟩
  rintro v_ xu ⟨rfl,m9,ds⟩
  have f:=f.trans ds
  have l:=eb ds l
  have hb:=eb ds hb
  have j:=eb ds j
  intro bp bq
  have T0:bp 0=(PQ r 0:Value):=(bq 0 (by decide)).trans T0
  have q:bp 1=(PQ n2 0:Value):=(bq 1 (by decide)).trans q
  have s:bp 2=(PQ y 0:Value):=(bq 2 (by decide)).trans s
  have o:bp 3=(PQ t 0:Value):=(bq 3 (by decide)).trans o
  have T4:bp 4=(.bool (true):Value):=(bq 4 (by decide)).trans T4
  have ad:bp 22=(.bool (false):Value):=(bq 22 (by decide)).trans ad
  have ae:bp 27=(.bool (false):Value):=(bq 27 (by decide)).trans ae
  have af:bp 35=(.bool (false):Value):=(bq 35 (by decide)).trans af
  have ag:bp 40=(.bool (false):Value):=(bq 40 (by decide)).trans ag
  have ah:bp 45=(.bool (false):Value):=(bq 45 (by decide)).trans ah
  have ai:bp 50=(.bool (false):Value):=(bq 50 (by decide)).trans ai
  have aj:bp 56=(.bool (false):Value):=(bq 56 (by decide)).trans aj
  have az:bp 75=(.bool (true):Value):=(bq 75 (by decide)).trans az
  refine tN (m5 _ _ (sk fun xv na=>(wt (oS rfl (Yk.loadAll s j (N6).choose_spec rfl (AF (Az ((⟨c1,((c2:Nat):Int),[],[],[],0,0,zid,[],[],zid,zid,false,((d1:Nat):Int)⟩,⟨(Value.slice none 0 0),(Value.slice none 0 0),(Value.slice none 0 0),(Value.slice none 0 0)⟩):Am)) MQ) (oS rfl (Yk.storeAll s (vr (.agg (msgC ((⟨c1,((c2:Nat):Int),[],[],[],0,0,zid,[],[],zid,zid,false,((d1:Nat):Int)⟩,⟨(Value.slice none 0 0),(Value.slice none 0 0),(Value.slice none 0 0),(Value.slice none 0 0)⟩):Am)).toArray) rfl) j (by simp only[List.size_toArray,Az]) (AF (Az _) MQ) (CP (x:=((⟨c1,((c2:Nat):Int),[],[],[],0,0,zid,[],[],zid,zid,false,((d1:Nat):Int)⟩,⟨(Value.slice none 0 0),(Value.slice none 0 0),(Value.slice none 0 0),(Value.slice none 0 0)⟩):Am)) rfl rfl rfl rfl) fun nb f9 ef xw=> ?_)))))))
  have f:=Ae f ef (Nat.le_trans (Nat.le_refl _) (by omega))
  have l:=kb ef l (by omega)
  have hb:=kb ef hb (by omega)
  clear j
  have j:nb.heap[y]? =some (.cells (msgC ((⟨c1,((c2:Nat):Int),[],[],[],0,0,zid,[],[],zid,zid,false,((d1:Nat):Int)⟩,⟨(Value.slice none 0 0),(Value.slice none 0 0),(Value.slice none 0 0),(Value.slice none 0 0)⟩):Am)).toArray 29 (0,0)):=f9;clear f9
  have xx:=bl j
  refine oZ (tN (na _ _ (Ap (Br (fn:=Tryd.f67) _ rfl [.agg (msgC ((⟨c1,((c2:Nat):Int),[],[],[],0,0,zid,[],[],zid,zid,false,((d1:Nat):Int)⟩,⟨(Value.slice none 0 0),(Value.slice none 0 0),(Value.slice none 0 0),(Value.slice none 0 0)⟩):Am)).toArray] (.agg (msgC ((⟨c1,((c2:Nat):Int),[],[],[],0,0,zid,[],[],zid,zid,false,((d1:Nat):Int)⟩,⟨(Value.slice none 0 0),(Value.slice none 0 0),(Value.slice none 0 0),(Value.slice none 0 0)⟩):Am)).toArray) rfl ⟨ResF.row s j (N6).choose_spec rfl (AF (Az _) MQ),trivial⟩ ?_))))
  exact .inl ⟨_,rfl,((⟨c1,((c2:Nat):Int),[],[],[],0,0,zid,[],[],zid,zid,false,((d1:Nat):Int)⟩,⟨(Value.slice none 0 0),(Value.slice none 0 0),(Value.slice none 0 0),(Value.slice none 0 0)⟩):Am),by rw[hD];simp only[hPb1,Option.bind_some];refine if_pos ?_;exact⟨hj,m9⟩,rfl,(MsgAt.mk (RG.nil _ _ _) (RG.nil _ _ _) (RG.nil _ _ _) (RB.nil _)),⟨(fun k h=>by cases h),(fun k h=>by cases h),(fun k h=>by cases h),(fun k h=>by cases h)⟩,f⟩
 refine tN (f6 _ _ (sk fun xy xz=> ?_))
 refine A3 14 _ [Is (PQ r 0),Is (PQ r 0),Is (PQ r 1),Is (NI i1),Is (PQ r 0),Is (PQ r 0),Is (PQ r 0),Is (v),Is (NI b.length),Is (.bool (false)),Is (.bool (false)),Is undef,Is undef,Is (.bool (false))] (by kernel_rfl) [79,80,81,82,83,84,85,86,87,88,89,90,91,92,93] (by kernel_rfl) (by kernel_rfl) (by kernel_rfl) rfl rfl rfl (fun _ _=>trivial) (Cz (Cc trivial)) ?nc ?hQ18027
 case nc=>
  refine⟨?_,?_,?_,?_,?_,?_,?_,?_,?_,?_,?_,?_,?_,?_,?_,trivial⟩
  ·refine Ah (Aa rfl fun σ w1 hC h=> ?_)
   have e1:=(Ad (h 1 (by decide))).trans q
   exact Yk.cell1 Ea rfl e1 (Ac (eb hC l) (show _=some (PQ r 0:Value)from rfl)) ⟨Ext.refl _,rfl⟩
  ·refine Ah (Aa rfl fun σ w1 hC h=> ?_)
   have am:=Ad (h 79 (by decide))
   exact Yk.nilCheck am ⟨Ext.refl _,rfl⟩
  ·refine Ah (Aa rfl fun σ w1 hC h=> ?_)
   have an:=Ad (h 80 (by decide))
   exact Yk.fieldAt A4 an ⟨Ext.refl _,rfl⟩
  ·refine Ah (Aa rfl fun σ w1 hC h=> ?_)
   have ao:=Ad (h 81 (by decide))
   exact Yk.cell1 Fs rfl ao (Ac (eb hC hb) (show(AU (AD v b (i1)))[1]? =some (NI i1:Value)from BE (AD v b (i1)))) ⟨Ext.refl _,rfl⟩
  ·refine Ah (Aa rfl fun σ w1 hC h=> ?_)
   have e1:=(Ad (h 1 (by decide))).trans q
   exact Yk.cell1 Ea rfl e1 (Ac (eb hC l) (show _=some (PQ r 0:Value)from rfl)) ⟨Ext.refl _,rfl⟩
  ·refine Ah (Aa rfl fun σ w1 hC h=> ?_)
   have ap:=Ad (h 83 (by decide))
   exact Yk.nilCheck ap ⟨Ext.refl _,rfl⟩
  ·refine Ah (Aa rfl fun σ w1 hC h=> ?_)
   have aq:=Ad (h 84 (by decide))
   exact Yk.fieldAt BY aq ⟨Ext.refl _,rfl⟩
  ·refine Ah (Aa rfl fun σ w1 hC h=> ?_)
   have ar:=Ad (h 85 (by decide))
   exact Yk.cell1 Ff rfl ar (Ac (eb hC hb) (show(AU (AD v b (i1)))[0]? =some (v:Value)from BP (AD v b (i1)))) ⟨Ext.refl _,rfl⟩
  ·refine Ah (Aa rfl fun σ w1 hC h=> ?_)
   have au:=Ad (h 86 (by decide))
   exact Yk.lenRB Ff (RB.of (hr.keep (f.trans hC)) au) ⟨Ext.refl _,rfl⟩
  ·refine Ah (Aa rfl fun σ w1 hC h=> ?_)
   have av:=Ad (h 82 (by decide))
   have aw:=Ad (h 87 (by decide))
   exact Yk.eqI (a:=(i1:Nat)) (b:=(b.length:Nat)) av aw (k_eql _ _ _ _) ⟨Ext.refl _,(congrArg Value.bool (decide_eq_false (hj)))⟩
  ·refine Ah (Aa rfl fun σ w1 hC h=> ?_)
   have ax:=Ad (h 88 (by decide))
   exact Yk.move ax ⟨Ext.refl _,rfl⟩
  ·refine Ah (BN 10 true 89 rfl rfl (fun x _ (h:x = .bool false)=>by rw[h];intro h;cases h) fun _=>rfl)
  ·refine Ah (BN 10 true 89 rfl rfl (fun x _ (h:x = .bool false)=>by rw[h];intro h;cases h) fun _=>rfl)
  ·refine Ah (Aa rfl fun σ w1 hC h=> ?_)
   have ay:=Ad (h 89 (by decide))
   exact Yk.pickF ay (vr (.bool (false)) rfl) ⟨Ext.refl _,rfl⟩
  ·exact trivial
 intro nd x0 ga he hf
 obtain⟨-,-,-,-,-,-,-,-,-,-,-,-,-,k92,-⟩:=hf
 obtain⟨T0,q,s,o,T4,ad,ae,af,ag,ah,ai,aj,az,-⟩:=he.hold [(0,_),(1,_),(2,_),(3,_),(4,_),(22, .bool (false)),(27, .bool (false)),(35, .bool (false)),(40, .bool (false)),(45, .bool (false)),(50, .bool (false)),(56, .bool (false)),(75, .bool (true))] ⟨T0,q,s,o,a4,rfl,rfl,rfl,rfl,rfl,rfl,rfl,rfl,trivial⟩ rfl
 clear he
 have f:=f.trans ga
 have hb:=eb ga hb
 have a0:nd 92 = .bool (false):=k92
 clear k92
 refine Yp.callA1 Cr a0 ?_
 refine Ar (AQ _ (false)) ?_ ?_
 rotate_left
 ·
  rintro ch x1 ⟨rfl,hb,hx⟩
  refine Aq (postP_panic ?_)
  exact .inr ⟨_,rfl,by rw[hD];simp only[hPb1,Option.bind_some];refine if_neg ?_;rintro⟨h1,h2⟩;exact hj h1,rfl,f.trans hx⟩
 rintro v_ x2 ⟨rfl,ne,x3⟩
 cases ne
open Go.RowKit
structure FitsD (n : Nat) (D : List Deferred) (ρ : At) (a : Act) : Prop where
  size:a.tmps.size=n
  defers:a.defers=D
  get:∀t,a.tmps.getD t undef=ρ t
theorem FitsD.fits{n:Nat}{D:List Deferred}{ρ:At}{a:Act}(h:FitsD n D ρ a):Fits n ρ { a with defers:= [] } :=⟨h.size,rfl,h.get⟩
theorem FitsD.ofFits{n:Nat}{ρ:At}{a:Act}(h:Fits n ρ a):FitsD n [] ρ a:=⟨h.size,h.defers,h.get⟩
theorem FitsD.toFits{n:Nat}{ρ:At}{a:Act}(h:FitsD n [] ρ a):Fits n ρ a:=⟨h.size,h.defers,h.get⟩
theorem FitsD.eval{n:Nat}{D:List Deferred}{ρ:At}{a:Act}(h:FitsD n D ρ a):a.eval=Ai ρ:=by
  funext x
  cases x with
  | tmp t=>exact h.get t
  | _=>rfl
theorem FitsD.put{n:Nat}{D:List Deferred}{ρ:At}{a:Act}(h:FitsD n D ρ a)(d:Option Tmp)(hd:∀t,d=some t→t<n)(v:Value):FitsD n D (Bo ρ d v) (a.put d v):=by
  have hf:=h.fits.put d hd v
  cases d with
  | none=>exact h
  | some d=>exact⟨hf.size,h.defers,hf.get⟩
def J0(P:Program)(n:Nat)(D:List Deferred)(c:Code)(QQ:Exit→Act→World→Prop)(ρ:At)(w:World):Prop:=∀a,FitsD n D ρ a→c.wp P QQ a w
def Gv(P:Program)(ops:Array Oper)(n:Nat)(D:List Deferred)(QQ:Exit→Act→World→Prop)(l:List Oper)(ρ:At)(w:World):Prop:=∀a,FitsD n D ρ a→wpList P ops QQ l a w
section
variable {P : Program} {n : Nat} {D : List Deferred} {QQ : Exit → Act → World → Prop} {ρ : At} {w : World}
theorem Nv{x y:Code}(QR:B2)(hq:∀e ρ a w,e ≠ .normal→Fits n ρ a→QR e ρ w→QQ e a w)(h:∀K:At→World→Prop,(∀ρ w,J0 P n [] y QQ ρ w→K ρ w)→B1 P n x (EY K QR) ρ w):J0 P n [] (.seq x y) QQ ρ w:=fun a ha=>
  wp_seq (wp_mono (h (fun ρ w=>J0 P n [] y QQ ρ w) (fun _ _ h=>h) a ha.toFits) fun e a' w' ⟨ρ',hf,hQ⟩=>by
    cases e with
    | normal=>exact hQ a' (FitsD.ofFits hf)
    | exit _=>exact hq _ ρ' a' w' (by simp) hf hQ
    | goto _=>exact hq _ ρ' a' w' (by simp) hf hQ
    | ret=>exact hq _ ρ' a' w' (by simp) hf hQ
    | panic _=>exact hq _ ρ' a' w' (by simp) hf hQ
    | outgrown=>exact hq _ ρ' a' w' (by simp) hf hQ)
theorem Gw{id:Nat}{l:List Oper}{y:Code}(h:Gv P l.toArray n D (Exit.then (y.wp P QQ) QQ) l ρ w):J0 P n D (.seq (.region id l.toArray false) y) QQ ρ w:=fun a ha=>wp_seq (wp_region_lit (h a ha))
theorem Pg(h:∀a,FitsD n D ρ a→QQ .ret a w):J0 P n D .ret QQ ρ w:=fun a ha=>wp_ret (h a ha)
theorem J1{ops:Array Oper}{y:Code}(I:At→Prop)(hI:I ρ)(h:∀ρ',I ρ' →J0 P n D y QQ ρ' w):Gv P ops n D (Exit.then (y.wp P QQ) QQ) [] ρ w:=fun a ha=>h ρ hI a ha
theorem H7{ops:Array Oper}{rest:List Oper}{dst:Option Tmp}{op:Op}{ty:TypeId}{pos:String}{af:Array Edge}(hd:(match dst with | some d=>Nat.blt d n | none=>true)=true) 
    (h:Yp P (fun v w' =>Gv P ops n D QQ rest (Bo ρ dst v) w') (fun ch w' =>∀a,FitsD n D ρ a→QQ (.panic ch) a w') ((execOp (Ai ρ) ⟨dst,op,ty,pos,af,none⟩).run P w)):Gv P ops n D QQ (⟨dst,op,ty,pos,af,none⟩ :: rest) ρ w:=by
  intro a ha
  have hdn:∀t,dst=some t→t<n:=fun t ht=>by subst ht;exact Nat.le_of_ble_eq_true hd
  refine wpList_plain rfl fun K hK=> ?_
  unfold Oper.wp Oper.upon
  rw[ha.eval]
  have hput:=fun v=>ha.put dst hdn v
  revert h
  generalize (execOp (Ai ρ) ⟨dst,op,ty,pos,af,none⟩).run P w=r
  intro h
  match r,h with
  | .ok (.value v) w',h=>exact hK _ _ (h _ (hput v))
  | .ok .skip w',h=>exact hK _ _ (h _ (hput undef))
  | .halt (.panic v) w',h=>exact h a ha
  | .ok (.enter f args) w',h=>
    refine Calls.mono h ?_
    intro e w'' hx
    match e,hx with
    | .returned v,hx=>exact hK _ _ (hx _ (hput v))
    | .panicked ch,hx=>exact hx a ha
theorem DD{ops:Array Oper}{rest:List Oper}{dst:Option Tmp}{op:Op}{ty:TypeId}{pos:String}{af:Array Edge}(hd:(match dst with | some d=>Nat.blt d n | none=>true)=true) 
    (h:Yk P (fun v w' =>Gv P ops n D QQ rest (Bo ρ dst v) w') ((execOp (Ai ρ) ⟨dst,op,ty,pos,af,none⟩).run P w)):Gv P ops n D QQ (⟨dst,op,ty,pos,af,none⟩ :: rest) ρ w:=
  H7 hd (Yp.ofK h)
theorem L9{ops:Array Oper}{rest:List Oper}{x:Operand}{ty:TypeId}{pos:String}{af:Array Edge}{fv:Fn}{first cap:Array Value}(hx:Ai ρ x = .func fv first cap) 
    (hr:(execOp (Ai ρ) ⟨none, .defer ⟨.value x,#[],#[]⟩,ty,pos,af,none⟩).run P w = .ok (.defer ⟨.fn fv cap,first⟩) w)
    (h:Gv P ops n (⟨.fn fv cap,first⟩ :: D) QQ rest ρ w):Gv P ops n D QQ (⟨none, .defer ⟨.value x,#[],#[]⟩,ty,pos,af,none⟩ :: rest) ρ w:=by
  intro a ha
  refine wpList_plain rfl fun K hK=> ?_
  unfold Oper.wp Oper.upon
  rw[ha.eval,hr]
  refine hK _ _ (h _ ⟨ha.size,?_,ha.get⟩)
  show _ :: a.defers=_
  rw[ha.defers]
theorem KK{fn:Func}{R:Ending→World→Prop}:∀e ρ a w,e ≠ .normal→Fits n ρ a→GE P fn R e ρ w→bodyPostD P fn R e a w:=fun e ρ a w he ha h=>by
  cases e with
  | normal=>exact absurd rfl he
  | ret=>
    show Leaves P fn a.tmps R a.defers .returning w
    rw[ha.defers]
    exact h a.tmps ha.get
  | panic ch=>
    show Leaves P fn a.tmps R a.defers (.panicking ch) w
    rw[ha.defers]
    exact h
  | exit _=>exact h.elim
  | goto _=>exact h.elim
  | outgrown=>exact h.elim
theorem J2{f:FuncId}{fn:Func}{c:Code}{args:List Value}{R:Ending→World→Prop}(hf:P.funcs[f]? =some fn)(hb:fn.body=some c)(m:Nat)(hm:fn.ntmps=m)(hn:args.length≤m) 
    (h:∀ρ,Jj args ρ→J0 P m [] c (bodyPostD P fn R) ρ w):Calls P f args.toArray w R:=by
  subst hm
  refine calls_of_wp_defers hf hb ?_
  have hget:∀t,(args.toArray++Array.replicate (fn.ntmps-args.toArray.size) undef).getD t undef=args.getD t undef:=fun t=>by
    simp only[Array.getD_eq_getD_getElem?,List.getD_eq_getElem?_getD,Array.getElem?_append,List.size_toArray,List.getElem?_toArray]
    by_cases ht:t<args.length
    · rw[if_pos ht]
    · rw[if_neg ht,List.getElem?_eq_none (by omega),Array.getElem?_replicate]
      split <;> rfl
  refine h (fun t=>args.getD t undef) ⟨fun _=>rfl⟩ _ ⟨?_,rfl,hget⟩
  simp
  omega
end
open Go.RowKit
section
variable {P : Program} {n : Nat}
theorem Nw{c:Code}{QF:B2}{Q:Exit→Act→World→Prop}{ρ:At}{a:Act}{w:World}(h:B1 P n c QF ρ w)(ha:Fits n ρ a)(hq:∀e ρ' a' w',Fits n ρ' a' →QF e ρ' w' →Q e a' w'):c.wp P Q a w:=
  wp_mono (h a ha) fun e a' w' ⟨ρ',hf,hQ⟩=>hq e ρ' a' w' hf hQ
def BV:FrameMode→Value × FrameMode
  | .panicking ({ v,recovered:=false,goexit:=false } :: older)=>(v, .panicking ({ v,recovered:=true } :: older))
  | u=>(.nilIface,u)
theorem KM(c₀:Frame)(cs:List Frame)(u:FrameMode)(hu:c₀.mode=u)(K:Value→List Frame→Prop)(h:K (BV u).1 ({ c₀ with mode:=(BV u).2 } :: cs)):
    match recoverD (c₀ :: cs)with
    | some (v,cs')=>K v cs'
    | none=>K .nilIface (c₀ :: cs):=by
  subst hu
  obtain⟨cf,ct,ctodo,cd,cm,ck,cr⟩:=c₀
  match cm,h with
  | .run,h=>exact h
  | .returning,h=>exact h
  | .panicking [],h=>exact h
  | .panicking ({ v,recovered:=true,goexit:=g } :: older),h=>exact h
  | .panicking ({ v,recovered:=false,goexit:=true } :: older),h=>exact h
  | .panicking ({ v,recovered:=false,goexit:=false } :: older),h=>exact h
theorem Fy{f:FuncId}{fn:Func}{c:Code}{args:List Value}{u:FrameMode}{w:World}{R:Ending→World→Prop}{id:Nat}{d0 d1:Tmp}{ty0 ty1:TypeId}{p0 p1:String}{af0 af1:Array Edge} 
    (hf:P.funcs[f]? =some fn) (hb:fn.body=some (.seq (.region id #[⟨some d0, .call ⟨.builtin .recover,#[],#[]⟩,ty0,p0,af0,none⟩,⟨some d1, .assign (.tmp d0),ty1,p1,af1,none⟩] false) c)) (m:Nat) (hm:fn.ntmps=m) (hn:args.length≤m) (h0:Nat.blt d0 m=true) (h1:Nat.blt d1 m=true)
    (h:∀b,Jj args b→B1 P m c (GE P fn R) (Bo (Bo b (some d0) (BV u).1) (some d1) (BV u).1) w):
    CallsD P f args.toArray u w fun e u' w' =>u' =(BV u).2∧R e w' :=by
  subst hm
  refine callsD_of_wpS hf hb fun c₀ cs hu=> ?_
  have hget:∀t,(args.toArray++Array.replicate (fn.ntmps-args.toArray.size) undef).getD t undef=args.getD t undef:=fun t=>by
    simp only[Array.getD_eq_getD_getElem?,List.getD_eq_getElem?_getD,Array.getElem?_append,List.size_toArray,List.getElem?_toArray]
    by_cases ht:t<args.length
    · rw[if_pos ht]
    · rw[if_neg ht,List.getElem?_eq_none (by omega),Array.getElem?_replicate]
      split <;> rfl
  have hF:Fits fn.ntmps (fun t=>args.getD t undef) { tmps:=args.toArray++Array.replicate (fn.ntmps-args.toArray.size) undef,defers:= [] } :=⟨by simp;omega,rfl,hget⟩
  generalize ({ tmps:=args.toArray++Array.replicate (fn.ntmps-args.toArray.size) undef,defers:= [] } :Act)=a at hF ⊢
  have hd0:∀t,some d0=some t→t<fn.ntmps:=fun t ht=>by cases ht;exact Nat.le_of_ble_eq_true h0
  have hd1:∀t,some d1=some t→t<fn.ntmps:=fun t ht=>by cases ht;exact Nat.le_of_ble_eq_true h1
  have hF1:=hF.put (some d0) hd0 (BV u).1
  have hF2:=hF1.put (some d1) hd1 (BV u).1
  apply wpS_seq
  apply wpS_region
  have g:(execOp a.eval (⟨some d0, .call ⟨.builtin .recover,#[],#[]⟩,ty0,p0,af0,none⟩:Oper)).run P w = .ok .recover w:=by
    simp[go_sem]
  have hkey:∀(v:Value) (cs' :List Frame),v=(BV u).1→cs' = { c₀ with mode:=(BV u).2 } :: cs→wpOpsS P #[⟨some d0, .call ⟨.builtin .recover,#[],#[]⟩,ty0,p0,af0,none⟩,⟨some d1, .assign (.tmp d0),ty1,p1,af1,none⟩] (Exit.thenS (c.wpS P (bodyPostS P fn c₀ cs fun e u' w' =>u' =(BV u).2∧R e w')) (bodyPostS P fn c₀ cs fun e u' w' =>u' =(BV u).2∧R e w')) [1] (a.put (some d0) v) cs' w:=by
    rintro v cs' rfl rfl
    have hv:(a.put (some d0) (BV u).1).eval (.tmp d0)=(BV u).1:=by
      rw[hF1.eval]
      show(bif Nat.beq d0 d0 then _ else _)=_
      rw[Nat.beq_refl]
      rfl
    have i:(execOp (a.put (some d0) (BV u).1).eval (⟨some d1, .assign (.tmp d0),ty1,p1,af1,none⟩:Oper)).run P w = .ok (.value (BV u).1) w:=by
      simp[execOp,hv]
    simp only[wpOpsS,List.getElem?_toArray,List.getElem?_cons_succ,List.getElem?_cons_zero,Region.wanted,i,Oper.upon,if_true]
    refine wpS_of_wp (Nw (h _ ⟨fun _=>rfl⟩) hF2 fun e ρ' a' w' hf' hQ=> ?_)
    cases e with
    | normal=>obtain⟨v,hv,hR⟩:=hQ a'.tmps hf'.get;exact⟨hf'.defers,_,rfl,v,hv,rfl,hR⟩
    | ret=>obtain⟨v,hv,hR⟩:=hQ a'.tmps hf'.get;exact⟨hf'.defers,_,rfl,v,hv,rfl,hR⟩
    | panic ch=>exact⟨hf'.defers,_,rfl,rfl,hQ⟩
    | exit _=>exact hQ.elim
    | goto _=>exact hQ.elim
    | outgrown=>exact hQ.elim
  show wpOpsS P _ _ [0,1] a (c₀ :: cs) w
  unfold wpOpsS
  simp only[List.getElem?_toArray,List.getElem?_cons_zero,Region.wanted,if_true,g]
  exact KM c₀ cs u hu (fun v cs' =>wpOpsS P _ _ [1] (a.put (some d0) v) cs' w) (hkey _ _ rfl rfl)
end
open Go.RowKit
section
variable {P : Program} {K : Value → World → Prop} {ρ : At} {w : World} {d : Option Tmp} {ty : TypeId} {pos : String} {af : Array Edge} {gd : Option (Nat × Bool)} {t ty2 : TypeId}
theorem Yk.assertOk{x:Operand}{u:TypeId}{v:Value}{fs}(hu:P.underlying u=some (.struct fs))(hx:Ai ρ x = .iface u v)(hk:K (.tuple #[v, .bool true]) w):Yk P K ((execOp (Ai ρ) ⟨d, .typeAssert x t u true,ty,pos,af,gd⟩).run P w):=by
  refine Yk.value (v:= .tuple #[v, .bool true]) (w' :=w) ?_ hk
  unfold execOp
  simp[Instr.typeAssert,hx,run_underlying hu,Result.andThen]
theorem Yk.neqNilN{x:Operand}(he:(Op.equal t .nilIface .nilIface).run P w = .ok true w)(hx:Ai ρ x = .nilIface)(hk:K (.bool false) w):Yk P K ((execOp (Ai ρ) ⟨d, .binOp .neq t x (.const .nilIface) ty2,ty,pos,af,gd⟩).run P w):=by
  have hy:Ai ρ (.const .nilIface) = .nilIface:=rfl
  refine Yk.value (v:= .bool false) (w' :=w) ?_ hk
  unfold execOp
  simp only[hx,hy]
  simp[eqGuard,Go.binOp,he,Result.andThen]
theorem Yk.neqNilS{x:Operand}{u:TypeId}{v:Value}(he:(Op.equal t (.iface u v) .nilIface).run P w = .ok false w)(hx:Ai ρ x = .iface u v)(hk:K (.bool true) w):Yk P K ((execOp (Ai ρ) ⟨d, .binOp .neq t x (.const .nilIface) ty2,ty,pos,af,gd⟩).run P w):=by
  have hy:Ai ρ (.const .nilIface) = .nilIface:=rfl
  refine Yk.value (v:= .bool true) (w' :=w) ?_ hk
  unfold execOp
  simp only[hx,hy]
  simp[eqGuard,Go.binOp,he,Result.andThen]
theorem Ph{x:Operand}{fv:Fn}{first cap:Array Value}(hx:Ai ρ x = .func fv first cap):(execOp (Ai ρ) ⟨none, .defer ⟨.value x,#[],#[]⟩,ty,pos,af,none⟩).run P w = .ok (.defer ⟨.fn fv cap,first⟩) w:=by
  unfold execOp
  simp[resolve,hx,Deferred.ofValue]
theorem ResF.cell1{p:Tmp}{ty:TypeId}{g:Nat}{t:TypeId}{v:Value}{fr:Nat × Nat}{d:TypeDesc}(hp:ρ p = .pointer (some ⟨g,0,none⟩))(hg:w.heap[g]? =some (.cells ([v]).toArray t fr)) 
    (hu:P.underlying ty=some d) (hd:(match d with | .struct _ | .array _ _=>false | _=>true)=true):ResF P ρ w (.cell p ty) v:=by
  refine⟨_,hp,?_⟩
  have hc:w.cell? ⟨g,0,none⟩=some v:=Ac hg rfl
  have hagg:(isAgg ty).run P w = .ok false w:=by
    unfold isAgg
    cases d <;> first | (simp at hd;done) | simp[run_underlying hu,Result.andThen]
  simp[loadVar,hagg,hc]
theorem H8{fn:Func}{tmps:Array Value}{R:Ending→World→Prop}(rs:List ResultVar)(hrs:fn.results=rs.toArray)(vs:List Value)(v:Value)(hv:EI vs=v)(ht:∀t,tmps.getD t undef=ρ t)(h:D1 P ρ w rs vs)(hR:R (.returned v) w):Leaves P fn tmps R [] .returning w:=
  ⟨_,DF hrs ht h,by rw[hv];exact hR⟩
end
open Go.RowKit
set_option maxRecDepth 100000
theorem Pi(w:World):(Op.equal 20 .nilIface .nilIface).run Tryd.prog w = .ok true w:=by kernel_rfl
theorem Pj(u:TypeId)(v:Value)(w:World):(Op.equal 20 (.iface u v) .nilIface).run Tryd.prog w = .ok false w:=by kernel_rfl
theorem Ma{d:Option Tmp}{ty:TypeId}{pos:String}{af:Array Edge}{gd:Option (Nat × Bool)}(σ:Operand→Value)(w:World):(execOp σ ⟨d, .alloc 107,ty,pos,af,gd⟩).run Tryd.prog w = .ok (.value (PQ w.heap.size 0)) (w.alloc (.cells (([]:List Value)).toArray 107)):=by kernel_rfl
theorem J3(b2 b3:Nat)(w:World):CallsD Tryd.prog 66 #[PQ b2 0,PQ b3 0] (.returning) w fun e u' w' =>u' =(BV (.returning)).2∧(e = .returned (.tuple #[])∧Ext w w'):=by
 have hE:=Ext.refl w
 refine Fy (u:= .returning) (args:= [PQ b2 0,PQ b3 0]) Tryd.func66 rfl 17 rfl (Nat.le_of_ble_eq_true rfl) rfl rfl (R:=fun e w' =>e = .returned (.tuple #[])∧Ext w w') ?_
 intro ρz hb
 have b:(Bo (Bo ρz (some 5) (BV (.returning)).1) (some 2) (BV (.returning)).1) 0=(PQ b2 0:Value):=hb.get 0
 have c:(Bo (Bo ρz (some 5) (BV (.returning)).1) (some 2) (BV (.returning)).1) 1=(PQ b3 0:Value):=hb.get 1
 have a:(Bo (Bo ρz (some 5) (BV (.returning)).1) (some 2) (BV (.returning)).1) 2=(.nilIface:Value):=rfl
 generalize Bo (Bo ρz (some 5) (BV (.returning)).1) (some 2) (BV (.returning)).1=g at b c a ⊢
 clear hb
 refine sk fun h f=>(wt (oM rfl (oS rfl (Yk.neqNilN (Pi _) a (oZ (tN (f _ _ (Al (vr (.bool (false)) rfl) (Ak (CB (fn:=Tryd.f66) [] rfl [] (.tuple #[]) rfl trivial ?_))))))))))
 exact⟨rfl,hE⟩

theorem J4(w0:World)(b2 b3:Nat)(X2:Am)(r:Value)(w:World)(h0:Ext w0 w)(l2:w0.heap.size≤b2)(l3:w0.heap.size≤b3)(hne:b2≠b3)(h2:w.heap[b2]? =some (.cells (msgC X2).toArray 29 (0,0)))(h3:w.heap[b3]? =some (.cells ([r]).toArray 27 (0,0))):CallsD Tryd.prog 66 #[PQ b2 0,PQ b3 0] (.panicking [BB]) w fun e u' w' =>u' =(BV (.panicking [BB])).2∧(e = .returned (.tuple #[])∧w'.heap[b2]? =some (.cells (msgC ((⟨0,0,[],[],[],0,0,zid,[],[],zid,zid,false,0⟩,⟨.slice none 0 0, .slice none 0 0, .slice none 0 0, .slice none 0 0⟩):Am)).toArray 29 (0,0))∧w'.heap[b3]? =some (.cells ([NI 6]).toArray 27 (0,0))∧Ext w0 w'):=by
 have hl2_:=(bl h2)
 have hl3_:=(bl h3)
 refine Fy (u:= .panicking [BB]) (args:= [PQ b2 0,PQ b3 0]) Tryd.func66 rfl 17 rfl (Nat.le_of_ble_eq_true rfl) rfl rfl (R:=fun e w' =>e = .returned (.tuple #[])∧w'.heap[b2]? =some (.cells (msgC ((⟨0,0,[],[],[],0,0,zid,[],[],zid,zid,false,0⟩,⟨.slice none 0 0, .slice none 0 0, .slice none 0 0, .slice none 0 0⟩):Am)).toArray 29 (0,0))∧w'.heap[b3]? =some (.cells ([NI 6]).toArray 27 (0,0))∧Ext w0 w') ?_
 intro ρz hb
 have g:(Bo (Bo ρz (some 5) (BV (.panicking [BB])).1) (some 2) (BV (.panicking [BB])).1) 0=(PQ b2 0:Value):=hb.get 0
 have h:(Bo (Bo ρz (some 5) (BV (.panicking [BB])).1) (some 2) (BV (.panicking [BB])).1) 1=(PQ b3 0:Value):=hb.get 1
 have b:(Bo (Bo ρz (some 5) (BV (.panicking [BB])).1) (some 2) (BV (.panicking [BB])).1) 2=((.iface 107 (.agg #[])):Value):=rfl
 generalize Bo (Bo ρz (some 5) (BV (.panicking [BB])).1) (some 2) (BV (.panicking [BB])).1=ad at g h b ⊢
 clear hb
 refine sk fun K1 s=>(wt (oM rfl (oS rfl (Yk.neqNilS (Pj _ _ _) b (oZ (tN (s _ _ (AE (vr (.bool (true)) rfl) (sk fun K2 t=>(sk fun K3 y=>(wt (oM rfl (oS rfl (Yk.assertOk (Nj).choose_spec b (oM rfl (oS rfl (Yk.extract (vs:= [.agg (([]:List Value)).toArray, .bool (true)]) (vr (.tuple #[.agg (([]:List Value)).toArray, .bool (true)]) rfl) (show _=some (.agg (([]:List Value)).toArray:Value)from rfl) (oS rfl (Yk.extract (vs:= [.agg (([]:List Value)).toArray, .bool (true)]) (vr (.tuple #[.agg (([]:List Value)).toArray, .bool (true)]) rfl) (show _=some (.bool (true):Value)from rfl) (oS rfl (Yk.alloc (cs:=(([]:List Value)).toArray) Ma fun j z k l c ah=> ?_)))))))))))))))))))))
 have aa:=h0.size
 have ai:=Bn (bl h2) k
 have aj:=Bn (bl h3) k
 have h0:=h0.trans c
 have h2:=eb c h2
 have h3:=eb c h3
 have a:=l;clear l
 have ak:j<z.heap.size:=by omega
 refine oS rfl (Yk.storeAll (vr (PQ j 0) rfl) (vr (.agg (([]:List Value)).toArray) rfl) a (rfl) ((show(Tryd.prog.info? 107).map (·.size)=some 0 from by kernel_rfl)) ((by intro u hu;cases hu)) fun al m f am=> ?_)
 have h0:=Ae h0 f (Nat.le_trans aa (by omega))
 have h2:=kb f h2 (by omega)
 have h3:=kb f h3 (by omega)
 clear a
 have a:=m;clear m
 have an:=bl a
 refine oA rfl (oZ (tN (y _ _ (sk fun ao ab=>(wt (oM rfl (oS rfl (Yk.notB (vr (.bool (true)) rfl) (oZ (tN (ab _ _ (Al (vr (.bool (false)) rfl) (Ak (tN (t _ _ (wt (oS rfl (Yk.run (v:= .agg (msgC ((⟨0,0,[],[],[],0,0,zid,[],[],zid,zid,false,0⟩,⟨.slice none 0 0, .slice none 0 0, .slice none 0 0, .slice none 0 0⟩):Am)).toArray) (by kernel_rfl) (oS rfl (Yk.storeAll g (vr (.agg (msgC ((⟨0,0,[],[],[],0,0,zid,[],[],zid,zid,false,0⟩,⟨.slice none 0 0, .slice none 0 0, .slice none 0 0, .slice none 0 0⟩):Am)).toArray) rfl) h2 (by simp only[List.size_toArray,Az]) (AF (Az _) MQ) (CP (x:=((⟨0,0,[],[],[],0,0,zid,[],[],zid,zid,false,0⟩,⟨.slice none 0 0, .slice none 0 0, .slice none 0 0, .slice none 0 0⟩):Am)) rfl rfl rfl rfl) fun ac n o ap=> ?_))))))))))))))))))))
 have h0:=Ae h0 o (Nat.le_trans (Nat.le_refl _) (by omega))
 clear h2
 have h3:=kb o h3 (by omega)
 have h2:ac.heap[b2]? =some (.cells (msgC ((⟨0,0,[],[],[],0,0,zid,[],[],zid,zid,false,0⟩,⟨.slice none 0 0, .slice none 0 0, .slice none 0 0, .slice none 0 0⟩):Am)).toArray 29 (0,0)):=n;clear n
 have aq:=bl h2
 refine oS rfl (Yk.storeC (i:=0) (v:=NI 6) h (vr (NI 6) rfl) h3 (Nat.le_of_ble_eq_true rfl) L8 rfl rfl fun ar p q au=> ?_)
 have h0:=Ae h0 q (Nat.le_trans (Nat.le_refl _) (by omega))
 clear h3
 have h2:=kb q h2 (by omega)
 have h3:=p;clear p
 have av:=bl h3
 refine oZ (CB (fn:=Tryd.f66) [] rfl [] (.tuple #[]) rfl trivial ?_)
 exact⟨rfl,h2,h3,h0⟩
open Go.RowKit
set_option maxRecDepth 100000
theorem RG.kept{α:Type}{k:Nat}{enc:α→List Value}{w w' :World}{v:Value}{l:List α}(h:RG k enc w v l){row:Option Nat}(hg:w.grownBy w' row)(hv:v.ownBlock=none∨v.ownBlock≠row):RG k enc w' v l:=by
 refine⟨h.1,?_⟩
 obtain⟨h1,ao,cap,rfl,h2,h3,h4,h5⟩:=h.2
 refine⟨h1,ao,cap,rfl,h2,h3,h4,fun a ha j u hu=> ?_⟩
 have hc:=h5 a ha j u hu
 subst ha
 have hlt:=World.block_lt_of_cell? w _ hc
 have hbl:(a.add j).block=a.block:=by unfold Addr.add;split <;> rfl
 have hne:(some a.block)≠row:=by
  rcases hv with hv | hv
  ·cases hv
  ·exact hv
 rw[hbl]at hlt
 rw[World.cell?_of_block (w:=w) (by rw[hbl];exact hg.block a.block hlt hne)]
 exact hc
theorem MsgAt.set{w w' :World}{X:Am}{n g:Nat}(h:MsgAt w X)(hn:Ns n X)(hg:w.grownBy w' (some g))(hl:g<n):MsgAt w' X:=
 ⟨h.refs.kept hg (.inr fun e=>by have:=hn.refs g e;omega),h.wants.kept hg (.inr fun e=>by have:=hn.wants g e;omega),h.haves.kept hg (.inr fun e=>by have:=hn.haves g e;omega),h.bytes.kept hg (.inr fun e=>by have:=hn.bytes g e;omega)⟩
def DecRes(w:World)(X:Am)(c:Nat):Option Msg→Prop
 | some m=>c=0∧X.1=m∧MsgAt w X
 | none=>c=6∧X=((⟨0,0,[],[],[],0,0,zid,[],[],zid,zid,false,0⟩,⟨.slice none 0 0, .slice none 0 0, .slice none 0 0, .slice none 0 0⟩):Am)
theorem Nx{d:Option Tmp}{ty:TypeId}{pos:String}{af:Array Edge}{gd:Option (Nat × Bool)}(σ:Operand→Value)(w:World):(execOp σ ⟨d, .alloc 27,ty,pos,af,gd⟩).run Tryd.prog w = .ok (.value (PQ w.heap.size 0)) (w.alloc (.cells ([NI 0]).toArray 27)):=by kernel_rfl
theorem Jg{z0:Value}(h0:∃ao n c,z0 = .slice ao n c)(w:World):(Instr.build 111 #[(0,z0)]).run Tryd.prog w = .ok (.agg #[z0, .int .i64 0]) w:=by obtain⟨_,_,_,rfl⟩:=h0;kernel_rfl
theorem J5{z0:Value}(h0:∃ao n c,z0 = .slice ao n c)(w:World):(Instr.build 111 #[(0,z0)]).run Tryd.prog w = .ok (.agg (z0 :: (.int .i64 (0) :: ([]))).toArray) w:=by
 exact Jg h0 w
theorem Ny:AG Tryd.prog 67:=fun _ _=>by kernel_rfl
set_option maxHeartbeats 1600000
theorem Mb(w:World)(v:Value)(b:Bs)(hr:RB w v b)(hl:b.length≤4611686018427387904):
  Calls Tryd.prog 22 #[v] w fun e w' =>∃x,e = .returned x∧∃X c,x = .tuple #[.agg (msgC X).toArray,NI c]∧DecRes w' X c (Dm b)∧Ext w w' :=by
 refine J2 (args:= [v]) Tryd.func22 rfl 9 rfl (Nat.le_of_ble_eq_true rfl) ?_
 intro aj hb
 have m:aj 0=(v:Value):=hb.get 0
 clear hb
 have hE:=Ext.refl w
 refine Nv _ KK fun K1 ak=>(wt (oS rfl (Yk.alloc (cs:=(msgC ((⟨0,0,[],[],[],0,0,zid,[],[],zid,zid,false,0⟩,⟨.slice none 0 0, .slice none 0 0, .slice none 0 0, .slice none 0 0⟩):Am)).toArray) Nt fun a o aw y al ax=> ?_)))
 have hE:=hE.trans al
 have n:=y;clear y
 have ay:a<o.heap.size:=by omega
 refine oS rfl (Yk.alloc (cs:=([NI 0]).toArray) Nx fun g p am z q az=> ?_)
 have r:=Ext.refl o
 have an:=hE.size
 have a0:=Bn (bl n) am
 have hE:=hE.trans q
 have n:=eb q n
 have r:=r.trans q
 have aa:=z;clear z
 have a1:g<p.heap.size:=by omega
 refine Be [(0,v),(2,PQ a 0),(3,PQ g 0)] ⟨m,rfl,rfl,trivial⟩ fun a2 ⟨m,k,l,_⟩=> ?_
 have hrA:RB p v b:=(hr.keep hE)
 have ab:=n
 have ac:=aa
 have hEA:=hE
 have s:=Ext.refl p
 have a3:=hE.size
 have a4:=r.size
 refine tN (ak _ _ (Gw (DD rfl (Yk.mkFunc (vs:= #[PQ a 0,PQ g 0]) (by simp only[List.map_toArray,List.map_cons,List.map_nil];exact congrArg List.toArray (BO k l)) (L9 (vr (.func (.func 66) #[] #[PQ a 0,PQ g 0]) rfl) (Ph (vr (.func (.func 66) #[] #[PQ a 0,PQ g 0]) rfl)) (J1 (fun ρ=>ρ 0=(v:Value)∧ρ 2=(PQ a 0:Value)∧ρ 3=(PQ g 0:Value)∧True) ⟨m,k,l,trivial⟩ fun a5 ⟨m,k,l,_⟩=>(Gw (DD rfl (Yk.move m (DD rfl (Yk.build1 (vr v rfl) (fun w=>J5 (RB.slice (hr.keep hE)) w) (DD rfl (Yk.box (cs:=(AU ((⟨b,0⟩,⟨v⟩):Dp):List Value).toArray) (vr (.agg (AU ((⟨b,0⟩,⟨v⟩):Dp)).toArray) rfl) fun ad ao ae af ap a6=> ?_)))))))))))))
 have a7:=Bn (bl n) ae
 have a8:=Bn (bl aa) ae
 have s:=s.trans ap
 have aq:=af;clear af
 have a9:ad<ao.heap.size:=by omega
 refine H7 rfl (Yp.callA1 Ny (vr (PQ ad 0) rfl) ?_)
 refine Ar (KJ s aq hrA (by omega) hl) ?_ ?_
 rotate_left
 ·
  rintro ch ba ⟨hP,rfl,hx⟩
  intro a_ ha_
  show Leaves _ _ a_.tmps _ a_.defers (.panicking _) _
  rw[ha_.defers]
  refine leaves_cons (f:=66) (args:= #[PQ a 0,PQ g 0]) (by simp) (by simp[go_sem]) ((J4 w a g _ _ _ (hEA.trans hx) (by omega) (by omega) (by omega) (eb hx ab) (eb hx ac)).mono ?_)
  rintro e u' o ⟨rfl,rfl,h,j,ar⟩
  exact H8 (ρ:=_) _ rfl [.agg (msgC ((⟨0,0,[],[],[],0,0,zid,[],[],zid,zid,false,0⟩,⟨.slice none 0 0, .slice none 0 0, .slice none 0 0, .slice none 0 0⟩):Am)).toArray,NI 6] (.tuple #[.agg (msgC ((⟨0,0,[],[],[],0,0,zid,[],[],zid,zid,false,0⟩,⟨.slice none 0 0, .slice none 0 0, .slice none 0 0, .slice none 0 0⟩):Am)).toArray,NI 6]) rfl ha_.get ⟨ResF.row (k) h (N6).choose_spec rfl (AF (Az _) MQ),ResF.cell1 (l) j JL rfl,trivial⟩ ⟨_,rfl,_,_,rfl,by rw[hP];exact⟨rfl,rfl⟩,ar⟩
 rintro v_ bb ⟨X,hP,rfl,hX,hXn,hx⟩
 have hE:=hEA.trans hx
 have h:=eb hx ab
 have j:=eb hx ac
 have bc:=hx.size
 have hmr:=hX.refs
 have hmw:=hX.wants
 have hmh:=hX.haves
 have hmb:=hX.bytes
 have bd:=(bl h)
 have be:=(bl j)
 refine DD rfl (Yk.storeAll k (vr (.agg (msgC X).toArray) rfl) h (by simp only[List.size_toArray,Az]) (AF (Az _) MQ) (CP (x:=X) (RG.one hmr).2 (RG.one hmw).2 (RG.one hmh).2 (RB.one hmb).2) fun ag ah t bf=> ?_)
 have hE:=Ae hE t (Nat.le_trans (Nat.le_refl _) (by omega))
 clear h
 have j:=kb t j (by omega)
 have hX:MsgAt ag X:=MsgAt.set hX hXn t (by omega)
 clear hmr
 clear hmw
 clear hmh
 clear hmb
 have h:ag.heap[a]? =some (.cells (msgC X).toArray 29 (0,0)):=ah;clear ah
 have bg:=bl h
 refine DD rfl (Yk.storeC (i:=0) (v:=NI 0) l (vr (NI 0) rfl) j (Nat.le_of_ble_eq_true rfl) L8 rfl rfl fun au ai u bh=> ?_)
 have hE:=Ae hE u (Nat.le_trans an (by omega))
 clear j
 have hX:MsgAt au X:=MsgAt.set hX hXn u (by omega)
 have h:=kb u h (by omega)
 have j:=ai;clear ai
 have bi:=bl j
 refine J1 (fun ρ=>ρ 0=(v:Value)∧ρ 2=(PQ a 0:Value)∧ρ 3=(PQ g 0:Value)∧True) ⟨m,k,l,trivial⟩ fun bj ⟨m,k,l,_⟩=>(Pg fun a_ ha_=> ?_)
 show Leaves _ _ a_.tmps _ a_.defers .returning _
 rw[ha_.defers]
 refine leaves_cons (f:=66) (args:= #[PQ a 0,PQ g 0]) (by simp) (by simp[go_sem]) ((J3 a g _).mono ?_)
 rintro e u' o ⟨rfl,rfl,hxi⟩
 exact H8 (ρ:=_) _ rfl [.agg (msgC X).toArray,NI 0] (.tuple #[.agg (msgC X).toArray,NI 0]) rfl ha_.get ⟨ResF.row (k) (eb hxi h) (N6).choose_spec rfl (AF (Az _) MQ),ResF.cell1 (l) (eb hxi j) JL rfl,trivial⟩ ⟨_,rfl,_,_,rfl,by rw[hP];exact⟨rfl,rfl,(hX).keep hxi⟩,hE.trans hxi⟩
open Go.RowKit
theorem Cy{α:Type}{b u r:List α}{i:Nat}(h:b.drop i=u++r):b.drop (i+u.length)=r:=by
  rw[←List.drop_drop,h,List.drop_left]
theorem Mc{α:Type}{b u r:List α}{i:Nat}(h:b.drop i=u++r)(hu:0<u.length):i+u.length+r.length=b.length:=by
  have h1:=congrArg List.length h
  rw[List.length_drop,List.length_append]at h1
  omega
theorem Iq{b r:Bs}{c:UInt8}{i:Nat}(h:b.drop i=c :: r):CZ b i=some (c,i+1):=by
  have h0:=Mc (u:= [c]) h (by simp)
  have h1:b[i]? =some c:=by have:=congrArg (fun l:Bs=>l[0]?) h;simpa using this
  unfold CZ
  rw[if_pos (by simp only[List.length_singleton]at h0;omega),List.getD_eq_getElem?_getD,h1]
  rfl
theorem ET{b r:Bs}{n i:Nat}(h:b.drop i=Lib.uvarint n++r)(hn:n<9223372036854775808):Bh b i=some (n,i+(Lib.uvarint n).length):=by
  have h4:(128:Nat)^(8+1)=9223372036854775808:=by decide
  unfold Bh
  rw[h,DR r 8 n 0 (by omega) (by omega) (by omega)]
  rfl
theorem GJ{b r:Bs}{x:BZ}{i:Nat}(h:b.drop i=x.1++r):C7 b i=some (x,i+x.1.length):=by
  have hx:=x.2
  have h0:=Mc h (by omega)
  unfold C7
  rw[dif_pos (by omega),hx]
  congr 2
  refine Subtype.ext ?_
  show(b.drop i).take 32=x.1
  rw[h]
  exact List.take_left' hx
theorem J6{b r s:Bs}{most i:Nat}(h:b.drop i=Bz s++r)(hs:s.length≤most)(hm:most<9223372036854775808):CI b i most=some (s,i+(Bz s).length):=by
  have h4:(128:Nat)^(8+1)=9223372036854775808:=by decide
  have h' :b.drop i=Lib.uvarint s.length++(s++r):=by rw[h];unfold Bz;rw[List.append_assoc]
  have h0:=Mc h' (Lib.uvarint_pos _)
  have h2:=Cy h'
  unfold CI
  rw[h',DR (s++r) 8 s.length 0 (by omega) (by omega) (by omega)]
  simp only
  rw[List.length_append]at h0
  rw[if_neg (by omega),if_neg (by omega),h2,List.take_left]
  unfold Bz
  rw[List.length_append,Nat.add_assoc]
theorem PS{b r:Bs}{u:AO}{i:Nat}(h:b.drop i=Cf u++r)(hu:u.name.length≤32)(ho:u.old=zid):updP b i=some (u,i+(Cf u).length):=by
  have a:b.drop i=u.kind :: (Bz u.name++(u.new.1++r)):=by rw[h];unfold Cf;simp
  have c:b.drop (i+1)=Bz u.name++(u.new.1++r):=Cy (u:= [u.kind]) a
  have e:=Cy c
  unfold updP
  rw[Iq a,Option.bind_some,J6 c hu (by omega),Option.bind_some,GJ e,Option.bind_some]
  simp only[Option.some.injEq,Prod.mk.injEq]
  refine⟨?_,by unfold Cf;simp only[List.length_append,List.length_singleton];omega⟩
  rw[←ho]
theorem J7{σ:Type}{f:σ→Option σ}:∀(n:Nat) (s:σ),C8 f (n+1) s=(f s).bind (C8 f n)
  | 0,s=>by
    show f s=_
    cases f s <;> rfl
  | n+1,s=>by
    show(C8 f (n+1) s).bind f=_
    rw[J7 n s]
    cases f s with
    | none=>rfl
    | some t=>rfl
theorem OI{α:Type}(f:α→Bs){b:Bs}(st:List α × Nat→Option (List α × Nat)):∀(l:List α) (a:List α) (r:Bs) (i:Nat),b.drop i=l.flatMap f++r →
    (∀x∈l,∀(a:List α) (i:Nat) (r:Bs),b.drop i=f x++r→st (a,i)=some (a++ [x],i+(f x).length))→C8 st l.length (a,i)=some (a++l,i+(l.flatMap f).length)
  | [],a,r,i,_,_=>by simp[C8]
  | x :: l,a,r,i,h,hst=>by
    rw[List.flatMap_cons,List.append_assoc]at h
    rw[List.length_cons,J7,hst x (by simp) a i _ h,Option.bind_some,OI f st l (a++ [x]) r _ (Cy h) (fun y hy=>hst y (by simp[hy]))]
    simp[Nat.add_assoc]
theorem KZ{α:Type}(f:α→Bs){b:Bs}{most:Nat}(st:List α × Nat→Option (List α × Nat)){l:List α}{r:Bs}{i:Nat}(h:b.drop i=Lib.uvarint l.length++(l.flatMap f++r))(hl:l.length≤most)(hm:most<9223372036854775808) 
    (hst:∀x∈l,∀(a:List α) (i:Nat) (r:Bs),b.drop i=f x++r→st (a,i)=some (a++ [x],i+(f x).length)):BA b i most st []=some (l,i+(Lib.uvarint l.length).length+(l.flatMap f).length):=by
  rw[C0 (ET h (by omega)) hl,OI f st l [] r _ (Cy h) hst,List.nil_append]
theorem Pk{b r:Bs}{l:List AO}{i:Nat}(h:b.drop i=(Lib.uvarint l.length++l.flatMap Cf)++r)(hl:l.length≤128)(hu:∀u∈l,u.name.length≤32∧u.old=zid):BA b i 128 (addUpd b) []=some (l,i+(Lib.uvarint l.length++l.flatMap Cf).length):=by
  rw[List.append_assoc]at h
  rw[KZ Cf (addUpd b) h hl (by omega) (fun x hx a i r hr=>by unfold addUpd;rw[PS hr (hu x hx).1 (hu x hx).2];rfl),List.length_append,Nat.add_assoc]
theorem Nz{b r:Bs}{l:List Bs}{i:Nat}(h:b.drop i=CY l++r)(hl:l.length≤65536)(hu:∀x∈l,x.length=32):BA b i 65536 (addId b) []=some (l,i+(CY l).length):=by
  have h' :b.drop i=Lib.uvarint l.length++(l.flatMap (fun x=>x)++r):=by rw[h];unfold CY;rw[List.append_assoc]
  rw[KZ (fun x=>x) (addId b) h' hl (by omega) (fun x hx a i r hr=>by
    unfold addId
    rw[GJ (x:=⟨x,hu x hx⟩) hr]
    rfl)]
  unfold CY
  rw[List.length_append,Nat.add_assoc]
theorem FQ{x:BZ}(h:zeroB x=true):x=zid:=Subtype.ext (of_decide_eq_true h)
structure PT (m : Msg) (p : Ag) : Prop where
  refs:p.refs=false→m.refs= []
  ids:p.ids=false→m.wants= []∧m.haves= []
  size:p.size=false→m.size=0
  at_:p.at_=false→m.at_=0
  id:p.id=false→m.id=zid
  bytes:p.bytes=false→m.bytes= []
  push:p.push=false→m.name= []∧m.old=zid∧m.new=zid∧m.force=false
  code:p.code=false→m.code=0
theorem IU{m:Msg}{p:Ag}(h:CA m p=true):PT m p:=by
  unfold CA at h
  simp only[Bool.and_eq_true,Bool.or_eq_true,decide_eq_true_eq,Bool.not_eq_true']at h
  obtain⟨⟨⟨⟨⟨⟨⟨h1,h2⟩,h3⟩,h4⟩,h5⟩,h6⟩,h7⟩,h8⟩:=h
  refine⟨fun e=> ?_,fun e=> ?_,fun e=> ?_,fun e=> ?_,fun e=> ?_,fun e=> ?_,fun e=> ?_,fun e=> ?_⟩
  · rw[e]at h1;exact List.eq_nil_of_length_eq_zero (h1.resolve_left (by simp))
  · rw[e]at h2;have h:=h2.resolve_left (by simp);exact⟨List.eq_nil_of_length_eq_zero h.1,List.eq_nil_of_length_eq_zero h.2⟩
  · rw[e]at h3;exact h3.resolve_left (by simp)
  · rw[e]at h4;exact h4.resolve_left (by simp)
  · rw[e]at h5;exact FQ (h5.resolve_left (by simp))
  · rw[e]at h6;exact List.eq_nil_of_length_eq_zero (h6.resolve_left (by simp))
  · rw[e]at h7;have h:=h7.resolve_left (by simp);exact⟨h.1.1.1,FQ h.1.1.2,FQ h.1.2,h.2⟩
  · rw[e]at h8;exact h8.resolve_left (by simp)
theorem FX{m:Msg}{p:Ag}(h:CR m p=true):CA m p=true∧Cm m.refs=true:=by
  unfold CR at h
  simp only[Bool.and_eq_true,Bool.not_eq_true',Bool.or_eq_false_iff,Bool.not_eq_false']at h
  exact⟨h.1.1.1.1.2,h.1.1.1.2⟩
theorem IV(f:Bool):(EP f).toNat≤1∧decide ((EP f).toNat=1)=f:=by cases f <;> exact⟨by decide,by decide⟩
abbrev msg0(k:UInt8)(s:Int):Msg:=⟨k,s,[],[],[],0,0,zid,[],[],zid,zid,false,0⟩
def DZ(m:Msg):Prop:=(∀x∈m.wants,x.length=32)∧∀x∈m.haves,x.length=32
theorem NA{l:List AO}(h:Cm l=true):∀u∈l,u.name.length≤32∧u.old=zid:=by
  classical
  intro u hu
  refine⟨(listB_facts h).2 u hu,?_⟩
  unfold Cm at h
  have h1:=of_decide_eq_true h
  obtain⟨i,hi,rfl⟩:=List.getElem_of_mem hu
  have h2:=(h1.1 i hi).1
  rw[List.getD_eq_getElem?_getD,List.getElem?_eq_getElem hi]at h2
  unfold EM at h2
  simp only[Option.getD_some,Bool.or_eq_false_iff,Bool.not_eq_false']at h2
  exact FQ h2.1.2
theorem NB{m:Msg}(hR:rightB m=true)(hI:DZ m){b r:Bs}{i:Nat}(hb:b.drop i=Ba m++r):Cg b (msg0 m.kind m.session) i=some (m,i+(Ba m).length):=by
  obtain⟨p,hK,hP⟩:=En hR
  have hF:=DK hP
  obtain⟨hA,hL⟩:=FX hP
  have hU:=NA hL
  have hB:=IU hA
  obtain⟨u,ac⟩:=hF.size
  obtain⟨ha0,ha1⟩:=hF.at_
  obtain⟨hd0,hd1⟩:=hF.code
  obtain⟨aa,l⟩:=hF.refs
  have hw1:=hF.wants
  have hh1:=hF.haves
  have g:=hF.bytes
  have j:=hF.name
  obtain⟨hI1,hI2⟩:=hI
  clear hF hA hP hL hR
  rcases EQ hK with ⟨hk,rfl⟩ | ⟨hk,rfl⟩ | ⟨hk,rfl⟩ | ⟨hk,rfl⟩ | ⟨hk,rfl⟩ | ⟨hk,rfl⟩ | ⟨hk,rfl⟩ | ⟨hk,rfl⟩ <;> clear hK
  · have ht:Ba m= []:=by unfold Ba;rw[hk];simp
    rw[ht,Na (m:=msg0 m.kind m.session) hk]
    have h1:=hB.refs rfl
    have h2:=hB.ids rfl
    have h3:=hB.size rfl
    have h4:=hB.at_ rfl
    have h5:=hB.id rfl
    have h6:=hB.bytes rfl
    have h7:=hB.push rfl
    have h8:=hB.code rfl
    clear hB hU g j hI1 hI2 l
    obtain⟨k,s,r_,w,h,z,a,d,c,n,o,t,f,e⟩:=m
    simp only at h1 h2 h3 h4 h5 h6 h7 h8
    obtain⟨h2a,h2b⟩:=h2
    obtain⟨h7a,h7b,h7c,h7d⟩:=h7
    subst h1 h2a h2b h3 h4 h5 h6 h7a h7b h7c h7d h8
    rfl
  · have ht:Ba m=Lib.uvarint m.refs.length++m.refs.flatMap Cf:=by unfold Ba;rw[hk];simp
    rw[ht]at hb ⊢
    rw[Nb (m:=msg0 m.kind m.session) hk]
    rw[Pk hb aa hU,Option.bind_some]
    have h2:=hB.ids rfl
    have h3:=hB.size rfl
    have h4:=hB.at_ rfl
    have h5:=hB.id rfl
    have h6:=hB.bytes rfl
    have h7:=hB.push rfl
    have h8:=hB.code rfl
    clear hB hU g j hI1 hI2 l
    obtain⟨k,s,r_,w,h,z,a,d,c,n,o,t,f,e⟩:=m
    simp only at h2 h3 h4 h5 h6 h7 h8
    obtain⟨h2a,h2b⟩:=h2
    obtain⟨h7a,h7b,h7c,h7d⟩:=h7
    subst h2a h2b h3 h4 h5 h6 h7a h7b h7c h7d h8
    rfl
  · have ht:Ba m=CY m.wants++CY m.haves:=by unfold Ba;rw[hk];simp
    rw[ht]at hb ⊢
    rw[Nc (m:=msg0 m.kind m.session) hk]
    simp only[List.append_assoc]at hb
    rw[Nz hb hw1 hI1,Option.bind_some]
    have q:=Cy hb
    rw[Nz q hh1 hI2,Option.bind_some]
    have h1:=hB.refs rfl
    have h3:=hB.size rfl
    have h4:=hB.at_ rfl
    have h5:=hB.id rfl
    have h6:=hB.bytes rfl
    have h7:=hB.push rfl
    have h8:=hB.code rfl
    clear hB hU g j hI1 hI2 l
    obtain⟨k,s,r_,w,h,z,a,d,c,n,o,t,f,e⟩:=m
    simp only at h1 h3 h4 h5 h6 h7 h8
    obtain⟨h7a,h7b,h7c,h7d⟩:=h7
    subst h1 h3 h4 h5 h6 h7a h7b h7c h7d h8
    simp only[List.length_append,Nat.add_assoc]
  · have ht:Ba m=Lib.uvarint m.size.toNat++m.id.1:=by unfold Ba;rw[hk];simp
    rw[ht]at hb ⊢
    rw[Nd (m:=msg0 m.kind m.session) hk]
    simp only[List.append_assoc]at hb
    rw[ET hb (by omega),Option.bind_some]
    have q:=Cy hb
    rw[GJ q,Option.bind_some]
    rw[Int.toNat_of_nonneg u]
    have h1:=hB.refs rfl
    have h2:=hB.ids rfl
    have h4:=hB.at_ rfl
    have h6:=hB.bytes rfl
    have h7:=hB.push rfl
    have h8:=hB.code rfl
    clear hB hU g j hI1 hI2 l
    obtain⟨k,s,r_,w,h,z,a,d,c,n,o,t,f,e⟩:=m
    simp only at h1 h2 h4 h6 h7 h8
    obtain⟨h2a,h2b⟩:=h2
    obtain⟨h7a,h7b,h7c,h7d⟩:=h7
    subst h1 h2a h2b h4 h6 h7a h7b h7c h7d h8
    simp only[List.length_append,Nat.add_assoc]
  · have ht:Ba m=Lib.uvarint m.at_.toNat:=by unfold Ba;rw[hk];simp
    rw[ht]at hb ⊢
    rw[Nf (m:=msg0 m.kind m.session) hk]
    rw[ET hb (by omega),Option.bind_some]
    rw[Int.toNat_of_nonneg ha0]
    have h1:=hB.refs rfl
    have h2:=hB.ids rfl
    have h3:=hB.size rfl
    have h5:=hB.id rfl
    have h6:=hB.bytes rfl
    have h7:=hB.push rfl
    have h8:=hB.code rfl
    clear hB hU g j hI1 hI2 l
    obtain⟨k,s,r_,w,h,z,a,d,c,n,o,t,f,e⟩:=m
    simp only at h1 h2 h3 h5 h6 h7 h8
    obtain⟨h2a,h2b⟩:=h2
    obtain⟨h7a,h7b,h7c,h7d⟩:=h7
    subst h1 h2a h2b h3 h5 h6 h7a h7b h7c h7d h8
    rfl
  · have ht:Ba m=Lib.uvarint m.at_.toNat++Bz m.bytes:=by unfold Ba;rw[hk];simp
    rw[ht]at hb ⊢
    rw[Ng (m:=msg0 m.kind m.session) hk]
    simp only[List.append_assoc]at hb
    rw[ET hb (by omega),Option.bind_some]
    have q:=Cy hb
    rw[J6 q (g rfl) (by omega),Option.bind_some]
    rw[Int.toNat_of_nonneg ha0]
    have h1:=hB.refs rfl
    have h2:=hB.ids rfl
    have h3:=hB.size rfl
    have h5:=hB.id rfl
    have h7:=hB.push rfl
    have h8:=hB.code rfl
    clear hB hU g j hI1 hI2 l
    obtain⟨k,s,r_,w,h,z,a,d,c,n,o,t,f,e⟩:=m
    simp only at h1 h2 h3 h5 h7 h8
    obtain⟨h2a,h2b⟩:=h2
    obtain⟨h7a,h7b,h7c,h7d⟩:=h7
    subst h1 h2a h2b h3 h5 h7a h7b h7c h7d h8
    simp only[List.length_append,Nat.add_assoc]
  · have ht:Ba m=Lib.uvarint m.size.toNat++(m.id.1++(Bz m.name++(m.old.1++(m.new.1++ [EP m.force])))):=by unfold Ba;rw[hk];simp
    rw[ht]at hb ⊢
    rw[Nh (m:=msg0 m.kind m.session) hk]
    simp only[List.append_assoc]at hb
    rw[ET hb (by omega),Option.bind_some]
    have q:=Cy hb
    rw[GJ q,Option.bind_some]
    have v:=Cy q
    rw[J6 v (j rfl) (by omega),Option.bind_some]
    have x:=Cy v
    rw[GJ x,Option.bind_some]
    have y:=Cy x
    rw[GJ y,Option.bind_some]
    have e5:=Cy y
    rw[Iq e5,Option.bind_some]
    rw[if_pos (IV m.force).1,Int.toNat_of_nonneg u]
    simp only[(IV m.force).2]
    have h1:=hB.refs rfl
    have h2:=hB.ids rfl
    have h4:=hB.at_ rfl
    have h6:=hB.bytes rfl
    have h8:=hB.code rfl
    clear hB hU g j hI1 hI2 l
    obtain⟨k,s,r_,w,h,z,a,d,c,n,o,t,f,e⟩:=m
    simp only at h1 h2 h4 h6 h8
    obtain⟨h2a,h2b⟩:=h2
    subst h1 h2a h2b h4 h6 h8
    simp only[List.length_append,List.length_singleton,Nat.add_assoc]
  · have ht:Ba m=Lib.uvarint m.code.toNat:=by unfold Ba;rw[hk];simp
    rw[ht]at hb ⊢
    rw[Ni (m:=msg0 m.kind m.session) hk]
    rw[ET hb (by omega),Option.bind_some]
    rw[Int.toNat_of_nonneg hd0]
    have h1:=hB.refs rfl
    have h2:=hB.ids rfl
    have h3:=hB.size rfl
    have h4:=hB.at_ rfl
    have h5:=hB.id rfl
    have h6:=hB.bytes rfl
    have h7:=hB.push rfl
    clear hB hU g j hI1 hI2 l
    obtain⟨k,s,r_,w,h,z,a,d,c,n,o,t,f,e⟩:=m
    simp only at h1 h2 h3 h4 h5 h6 h7
    obtain⟨h2a,h2b⟩:=h2
    obtain⟨h7a,h7b,h7c,h7d⟩:=h7
    subst h1 h2a h2b h3 h4 h5 h6 h7a h7b h7c h7d
    rfl
theorem IW{m:Msg}(hR:rightB m=true)(hI:DZ m)(r:Bs):Dm (BM m++r)=if r= []then some m else none:=by
  obtain⟨p,hK,hP⟩:=En hR
  obtain⟨h0,h1⟩:=(DK hP).session
  have a:(BM m++r).drop 0=m.kind :: (Lib.uvarint m.session.toNat++(Ba m++r)):=by unfold BM;simp
  have b:(BM m++r).drop 1=Lib.uvarint m.session.toNat++(Ba m++r):=Cy (u:= [m.kind]) a
  have c:=Cy b
  rw[Dl (Iq a) hK (ET b (by omega)),show((m.session.toNat:Nat):Int)=m.session from Int.toNat_of_nonneg h0,NB hR hI c,Option.bind_some]
  have hl:(BM m).length=1+(Lib.uvarint m.session.toNat).length+(Ba m).length:=by unfold BM;simp;omega
  by_cases hr:r= []
  · subst hr
    rw[if_pos ⟨by rw[List.append_nil,hl],hR⟩,if_pos rfl]
  · have:=List.length_pos_iff.2 hr
    rw[if_neg (fun h=>by have:=h.1;rw[List.length_append,hl]at this;omega),if_neg hr]
theorem Or{m:Msg}(hR:rightB m=true)(hI:DZ m):Dm (BM m)=some m:=by
  have:=IW hR hI []
  rwa [List.append_nil,if_pos rfl]at this
theorem Fb:∀(l:Bs) (k:Nat) (x:Nat × Nat),Bb k l=some x→l=Lib.uvarint x.1++l.drop x.2∧(0<k→0<x.1)
  | [],k,x,h=>by simp[Bb]at h
  | c :: r,k,x,h=>by
    have hc:=c.toNat_lt
    unfold Bb at h
    split at h
    · split at h
      · cases h
      · obtain⟨y,hy,rfl⟩:=Option.map_eq_some_iff.1 h
        obtain⟨h1,h2⟩:=Fb r (k+1) y hy
        have h2:=h2 (by omega)
        have a:(c.toNat-128+128*y.1)%128+128=c.toNat:=by omega
        have b:(c.toNat-128+128*y.1)/128=y.1:=by omega
        refine⟨?_,fun _=>by simp only;omega⟩
        simp only
        rw[Lib.uvarint_big (by omega),a,b,List.drop_succ_cons,List.cons_append,←h1]
        simp
    · split at h
      · cases h
      · rename_i h1 h2
        cases h
        refine⟨?_,fun _=>by simp only;omega⟩
        simp only
        rw[Lib.uvarint_small (by omega)]
        simp
theorem Ir{b:Bs}{i n:Nat}{c:UInt8}(h:CZ b i=some (c,n)):b.drop i= [c]++b.drop n:=by
  unfold CZ at h
  split at h
  · cases h
    rename_i hi
    rw[MC 0 hi]
    rfl
  · cases h
theorem EU{b:Bs}{i n k:Nat}(h:Bh b i=some (k,n)):b.drop i=Lib.uvarint k++b.drop n:=by
  unfold Bh at h
  obtain⟨x,hx,h2⟩:=Option.map_eq_some_iff.1 h
  cases h2
  have:=(Fb _ _ _ hx).1
  rwa [List.drop_drop]at this
theorem GK{b:Bs}{i n:Nat}{x:BZ}(h:C7 b i=some (x,n)):b.drop i=x.1++b.drop n:=by
  unfold C7 at h
  split at h
  · cases h
    show b.drop i=(b.drop i).take 32++b.drop (i+32)
    rw[←List.drop_drop,List.take_append_drop]
  · cases h
theorem J8{b s:Bs}{i n most:Nat}(h:CI b i most=some (s,n)):b.drop i=Bz s++b.drop n:=by
  unfold CI at h
  split at h
  · cases h
  · rename_i x hx
    split at h
    · cases h
    · split at h
      · cases h
      · cases h
        have h1:=(Fb _ _ _ hx).1
        rw[List.drop_drop]at h1
        have hl:((b.drop (i+x.2)).take x.1).length=x.1:=by rw[List.length_take,List.length_drop];omega
        unfold Bz
        rw[hl,List.append_assoc,←List.drop_drop (i:=x.1),List.take_append_drop]
        exact h1
theorem PU{b:Bs}{i n:Nat}{u:AO}(h:updP b i=some (u,n)):b.drop i=Cf u++b.drop n:=by
  unfold updP at h
  simp only[Option.bind_eq_some_iff]at h
  obtain⟨⟨c,j1⟩,h1,⟨s,j2⟩,h2,⟨x,j3⟩,h3,h4⟩:=h
  cases h4
  rw[Ir h1,J8 h2,GK h3]
  unfold Cf
  simp only[List.append_assoc]
theorem OJ{α:Type}{f:α→Bs}{Q:α→Prop}{b:Bs}{st:List α × Nat→Option (List α × Nat)}(hst:∀a i t,st (a,i)=some t→∃x,t.1=a++ [x]∧Q x∧b.drop i=f x++b.drop t.2):∀(n:Nat) (a:List α) (i:Nat) (t:List α × Nat),C8 st n (a,i)=some t→∃l,t.1=a++l∧l.length=n∧(∀x∈l,Q x)∧b.drop i=l.flatMap f++b.drop t.2
  | 0,a,i,t,h=>by cases h;exact⟨[],by simp,rfl,(fun x hx=>by cases hx),rfl⟩
  | n+1,a,i,t,h=>by
    obtain⟨u,h1,h2⟩:=Hj h
    obtain⟨l,c,e,g,j⟩:=OJ hst n a i u h1
    obtain⟨x,f1,f2,f3⟩:=hst u.1 u.2 t h2
    refine⟨l++ [x],by rw[f1,c,List.append_assoc],by simp[e],fun y hy=> ?_,?_⟩
    · rcases List.mem_append.1 hy with hy | hy
      · exact g y hy
      · rw[List.mem_singleton.1 hy];exact f2
    · rw[j,f3,List.flatMap_append,List.flatMap_singleton,List.append_assoc]
theorem K0{α:Type}{f:α→Bs}{Q:α→Prop}{b:Bs}{most i:Nat}{st:List α × Nat→Option (List α × Nat)}{t:List α × Nat}(hst:∀a i t,st (a,i)=some t→∃x,t.1=a++ [x]∧Q x∧b.drop i=f x++b.drop t.2)(h:BA b i most st []=some t):b.drop i=(Lib.uvarint t.1.length++t.1.flatMap f)++b.drop t.2∧∀x∈t.1,Q x:=by
  obtain⟨n,j,h1,-,h2⟩:=Gr h
  obtain⟨l,c,e,g,k⟩:=OJ hst n [] j t h2
  rw[List.nil_append]at c
  rw[c,EU h1,e,k,List.append_assoc]
  exact⟨rfl,g⟩
theorem Pm{b:Bs}{i:Nat}{t:List AO × Nat}(h:BA b i 128 (addUpd b) []=some t):b.drop i=(Lib.uvarint t.1.length++t.1.flatMap Cf)++b.drop t.2:=
  (K0 (Q:=fun _=>True) (f:=Cf) (fun a i t h=>by
    unfold addUpd at h
    obtain⟨x,hx,h2⟩:=Option.map_eq_some_iff.1 h
    cases h2
    exact⟨x.1,rfl,trivial,PU hx⟩) h).1
theorem NC{b:Bs}{i:Nat}{t:List Bs × Nat}(h:BA b i 65536 (addId b) []=some t):b.drop i=CY t.1++b.drop t.2∧∀x∈t.1,x.length=32:=
  K0 (Q:=fun x=>x.length=32) (f:=fun x=>x) (fun a i t h=>by
    unfold addId at h
    obtain⟨x,hx,h2⟩:=Option.map_eq_some_iff.1 h
    cases h2
    exact⟨x.1.1,rfl,x.1.2,GK hx⟩) h
theorem Pn{k:UInt8}{s:Int}{b:Bs}{i:Nat}{z:Msg × Nat}(h:Cg b (msg0 k s) i=some z):b.drop i=Ba z.1++b.drop z.2∧z.1.kind=k∧z.1.session=s∧DZ z.1:=by
  have hn:DZ (msg0 k s):=⟨fun x hx=>(by cases hx),fun x hx=>(by cases hx)⟩
  have key:∀(m:Msg) (j:Nat) (t:Bs),z=(m,j)→m.kind=k→m.session=s→DZ m→Ba m=t→b.drop i=t++b.drop j→b.drop i=Ba z.1++b.drop z.2∧z.1.kind=k∧z.1.session=s∧DZ z.1:=by
    rintro m j t rfl h1 h2 h3 rfl h4
    exact⟨h4,h1,h2,h3⟩
  unfold Cg at h
  split at h
  · rename_i hk
    replace hk:k=1:=hk
    cases h
    exact key _ _ [] rfl rfl rfl hn (by unfold Ba;simp only[hk];simp) rfl
  · split at h
    · rename_i hk
      replace hk:k=2:=hk
      simp only[Option.bind_eq_some_iff]at h
      obtain⟨⟨l,j⟩,h1,h2⟩:=h
      cases h2
      exact key _ _ (Lib.uvarint l.length++l.flatMap Cf) rfl rfl rfl hn (by unfold Ba;simp only[hk];simp) (Pm h1)
    · split at h
      · rename_i hk
        replace hk:k=3:=hk
        simp only[Option.bind_eq_some_iff]at h
        obtain⟨⟨l,j⟩,h1,⟨l2,j2⟩,h2,h3⟩:=h
        cases h3
        obtain⟨g1,g2⟩:=NC h1
        obtain⟨g3,g4⟩:=NC h2
        refine key _ _ (CY l++CY l2) rfl rfl rfl ⟨g2,g4⟩ (by unfold Ba;simp only[hk];simp) ?_
        rw[g1,g3,List.append_assoc]
      · split at h
        · rename_i hk
          replace hk:k=4:=hk
          simp only[Option.bind_eq_some_iff]at h
          obtain⟨⟨n,j⟩,h1,⟨x,j2⟩,h2,h3⟩:=h
          cases h3
          refine key _ _ (Lib.uvarint n++x.1) rfl rfl rfl hn (by unfold Ba;simp only[hk];simp) ?_
          rw[EU h1,GK h2,List.append_assoc]
        · split at h
          · rename_i hk
            replace hk:k=5:=hk
            simp only[Option.bind_eq_some_iff]at h
            obtain⟨⟨n,j⟩,h1,h2⟩:=h
            cases h2
            exact key _ _ (Lib.uvarint n) rfl rfl rfl hn (by unfold Ba;simp only[hk];simp) (EU h1)
          · split at h
            · rename_i hk
              replace hk:k=6:=hk
              simp only[Option.bind_eq_some_iff]at h
              obtain⟨⟨n,j⟩,h1,⟨x,j2⟩,h2,h3⟩:=h
              cases h3
              refine key _ _ (Lib.uvarint n++Bz x) rfl rfl rfl hn (by unfold Ba;simp only[hk];simp) ?_
              rw[EU h1,J8 h2,List.append_assoc]
            · split at h
              · rename_i hk
                replace hk:k=7:=hk
                simp only[Option.bind_eq_some_iff]at h
                obtain⟨⟨n,j⟩,h1,⟨x,j2⟩,h2,⟨y,j3⟩,h3,⟨o,j4⟩,h4,⟨a,j5⟩,h5,⟨f,j6⟩,h6,h7⟩:=h
                split at h7
                · rename_i hf
                  cases h7
                  have hfb:EP (decide (f.toNat=1))=f:=by
                    by_cases e:f.toNat=1
                    · rw[decide_eq_true e];exact(UInt8.toNat_inj.1 e).symm
                    · rw[decide_eq_false e];exact(UInt8.toNat_inj.1 (show f.toNat=0 by have:f.toNat≤1:=hf;omega)).symm
                  refine key _ _ (Lib.uvarint n++(x.1++(Bz y++(o.1++(a.1++ [f]))))) rfl rfl rfl hn (by unfold Ba;simp only[hk,hfb,Int.toNat_natCast];simp) ?_
                  rw[EU h1,GK h2,J8 h3,GK h4,GK h5,Ir h6]
                  simp only[List.append_assoc]
                · cases h7
              · split at h
                · rename_i hk
                  replace hk:k=8:=hk
                  simp only[Option.bind_eq_some_iff]at h
                  obtain⟨⟨n,j⟩,h1,h2⟩:=h
                  cases h2
                  exact key _ _ (Lib.uvarint n) rfl rfl rfl hn (by unfold Ba;simp only[hk];simp) (EU h1)
                · cases h
theorem ND{b:Bs}{m:Msg}(h:Dm b=some m):rightB m=true∧BM m=b∧DZ m:=by
  unfold Dm at h
  rw[Option.bind_eq_some_iff]at h
  obtain⟨⟨k,j⟩,h1,h⟩:=h
  split at h
  · rw[Option.bind_eq_some_iff]at h
    obtain⟨⟨s,j2⟩,h2,h⟩:=h
    rw[Option.bind_eq_some_iff]at h
    obtain⟨⟨m',j3⟩,h3,h⟩:=h
    split at h
    · rename_i hq
      obtain rfl:m' =m:=Option.some.inj h
      obtain⟨g1,g2,g3,g4⟩:=Pn h3
      refine⟨hq.2,?_,g4⟩
      have e:b.drop 0= [k]++(Lib.uvarint s++(Ba m' ++b.drop j3)):=by rw[Ir h1,EU h2,g1]
      rw[show j3=b.length from hq.1,List.drop_length,List.append_nil,List.drop_zero]at e
      rw[e]
      unfold BM
      rw[show m'.kind=k from g2,show m'.session=((s:Nat):Int)from g3]
      simp
    · cases h
  · cases h
theorem Ot{m:Msg}(hR:rightB m=true)(hI:DZ m){n:Nat}(hn:n<(BM m).length):Dm ((BM m).take n)=none:=by
  cases hd:Dm ((BM m).take n)with
  | none=>rfl
  | some m' =>
    obtain⟨h1,h2,h3⟩:=ND hd
    have h4:=IW h1 h3 ((BM m).drop n)
    rw[h2,List.take_append_drop,Or hR hI,if_neg (fun e=>by have:=congrArg List.length e;rw[List.length_drop,List.length_nil]at this;omega)]at h4
    cases h4
open Go.RowKit
def Ou(x y:AO):Bool:=decide (x.kind=y.kind)&&(decide (x.name=y.name)&&(decide (x.old=y.old)&&(decide (x.new=y.new)&&true)))
theorem J9{x y:AO}:Ou x y=true↔x=y:=by
  obtain⟨a,b,c,d⟩:=x
  obtain⟨e,f,g,h⟩:=y
  simp[Ou]
instance:DecidableEq AO:=fun _ _=>decidable_of_iff _ J9
theorem Po(x y:AO):Ou x y=decide (x=y):=by
  rw[Bool.eq_iff_iff,J9,decide_eq_true_iff]
theorem OL(w:World)(x y:AO):(Op.equalIn 10000 67 (.agg (updC x).toArray) (.agg (updC y).toArray)).run Tryd.prog w = .ok (decide (x=y)) w:=by
  refine(run_equalIn_struct w 9999 _ _ _ (by kernel_rfl) (by kernel_rfl)).trans ?_
  rw[←Po]
  exact FL (t:=5) (o:=0) (r:= [(9,1),(25,2),(25,34)]) (by kernel_rfl) (FM (by kernel_rfl) (D2 x)) (FM (by kernel_rfl) (D2 y)) (PP (d:=9998) (by kernel_rfl)) fun _ h=>
    FL h (FM (by kernel_rfl) (Fg x)) (FM (by kernel_rfl) (Fg y)) (Pf (d:=9998) (by kernel_rfl)) fun _ h=>
    FL h (GI (by kernel_rfl) (by kernel_rfl) (Jq x) (Jr x) x.old.2) (GI (by kernel_rfl) (by kernel_rfl) (Jq y) (Jr y) y.old.2) (M8 (d:=9997) (e:=5) (by kernel_rfl) (by kernel_rfl) (by kernel_rfl)) fun _ h=>
    FL h (GI (by kernel_rfl) (by kernel_rfl) (Fi x) (F7 x) x.new.2) (GI (by kernel_rfl) (by kernel_rfl) (Fi y) (F7 y) y.new.2) (M8 (d:=9997) (e:=5) (by kernel_rfl) (by kernel_rfl) (by kernel_rfl)) fun _ h=>Pe h
theorem NE{m:Msg}(h:rightB m=true):CX m:=by
  obtain⟨p,hK,hP⟩:=En h
  have hF:=DK hP
  obtain⟨hA,-⟩:=FX hP
  have hB:=IU hA
  refine⟨Nat.le_trans hF.refs.1 (by decide),fun u hu=>Nat.le_trans (hF.refs.2 u hu) (by decide),Nat.le_trans hF.wants (by decide),Nat.le_trans hF.haves (by decide),?_⟩
  cases hp:p.push with
  | true=>exact Nat.le_trans (hF.name hp) (by decide)
  | false=>rw[(hB.push hp).1];exact Nat.zero_le _
def NF(m n:Msg):Bool:=(((((((((((decide (m.kind.toNat=n.kind.toNat)&&decide (m.session=n.session))&&decide (m.wants=n.wants))&&decide (m.haves=n.haves))&&decide (m.size=n.size))&&decide (m.at_=n.at_))&&decide (m.id.1=n.id.1))&&decide (m.bytes=n.bytes))&&decide (m.name=n.name))&&decide (m.old.1=n.old.1))&&decide (m.new.1=n.new.1))&&(m.force==n.force))&&decide (m.code=n.code)
open Classical in
noncomputable def H9(m n:Msg):Bool:=decide (m=n)
theorem Ia{m n:Msg}(h:m.refs≠n.refs):H9 m n=false:=by
  classical
  exact decide_eq_false fun e=>h (by rw[e])
theorem KN{m n:Msg}(h:m.refs=n.refs):NF m n=H9 m n:=by
  classical
  obtain⟨k,s,r,w,v,z,a,i,b,t,o,q,f,c⟩:=m
  obtain⟨k',s',r',w',v',z',a',i',b',t',o',q',f',c'⟩:=n
  simp only at h
  subst h
  unfold H9 NF
  rw[Bool.eq_iff_iff]
  simp only[Bool.and_eq_true,decide_eq_true_eq,beq_iff_eq,Msg.mk.injEq,UInt8.toNat_inj,Subtype.ext_iff]
  constructor
  · rintro⟨⟨⟨⟨⟨⟨⟨⟨⟨⟨⟨⟨rfl,rfl⟩,rfl⟩,rfl⟩,rfl⟩,rfl⟩,h1⟩,rfl⟩,rfl⟩,h2⟩,h3⟩,rfl⟩,rfl⟩
    exact⟨rfl,rfl,trivial,rfl,rfl,rfl,rfl,h1,rfl,rfl,h2,h3,rfl,rfl⟩
  · rintro⟨rfl,rfl,-,rfl,rfl,rfl,rfl,h1,rfl,rfl,h2,h3,rfl,rfl⟩
    exact⟨⟨⟨⟨⟨⟨⟨⟨⟨⟨⟨⟨rfl,rfl⟩,rfl⟩,rfl⟩,rfl⟩,rfl⟩,h1⟩,rfl⟩,rfl⟩,h2⟩,h3⟩,rfl⟩,rfl⟩
theorem Md(m:Msg):H9 m m=true:=by
  classical
  exact decide_eq_true rfl
def PV(m:Msg)(c:Nat):Option Msg→Prop
  | some n=>c=0∧m=n
  | none=>c=6∧m=msg0 0 0
theorem DecRes.all{w:World}{X:Am}{c:Nat}{o:Option Msg}(h:DecRes w X c o):MsgAt w X∧PV X.1 c o:=by
  cases o with
  | some m=>exact⟨h.2.2,h.1,h.2.1⟩
  | none=>
    obtain⟨h1,h2⟩:=h
    subst h2
    exact⟨⟨RG.nil _ _ _,RG.nil _ _ _,RG.nil _ _ _,RB.nil _⟩,h1,rfl⟩
theorem Me(w:World)(v:Value)(b:Bs)(hr:RB w v b)(hl:b.length≤4611686018427387904):
    Calls Tryd.prog 22 #[v] w fun e w' =>∃X c,e = .returned (.tuple #[.agg (msgC X).toArray,NI c])∧MsgAt w' X∧PV X.1 c (Dm b)∧Ext w w' :=
  (Mb w v b hr hl).mono fun e w' h=>by
    obtain⟨x,rfl,X,c,rfl,h1,h2⟩:=h
    exact⟨X,c,rfl,h1.all.1,h1.all.2,h2⟩
theorem IX:Cm []=true:=by
  classical
  exact decide_eq_true ⟨fun j h=>(by cases h),by decide⟩
theorem Ka:CF []=true:=by
  classical
  have:G9 []=true:=decide_eq_true (fun j _ h=>(by cases h))
  unfold CF
  rw[this]
  rfl
theorem Ov:rightB (msg0 1 5)=true:=by
  rw[C5 (m:=msg0 1 5) (p:=Bl) rfl]
  unfold CR
  rw[IX,Ka]
  rfl
theorem Kb:rightB { msg0 8 300 with code:=13 } = true:=by
  rw[C5 (m:= { msg0 8 300 with code:=13 }) (p:=⟨false,false,false,false,false,false,false,true⟩) rfl]
  unfold CR
  show(!(((((!boundB 300 2147483647|| !CA _ _)|| !Cm [])|| !CF [])|| !CF []))&&_)=true
  rw[IX,Ka]
  rfl
theorem Pp(k:UInt8)(s c:Int):DZ { msg0 k s with code:=c } :=⟨fun x hx=>(by cases hx),fun x hx=>(by cases hx)⟩
theorem PW:BM (msg0 1 5)= [1,5]:=by
  show(1:UInt8) :: (Lib.uvarint 5++ [])=_
  rw[Lib.uvarint_small (by decide)]
  rfl
theorem Kc:BM { msg0 8 300 with code:=13 } = [8,172,2,13]:=by
  show(8:UInt8) :: (Lib.uvarint 300++Lib.uvarint 13)=_
  rw[Lib.uvarint_big (by decide),Lib.uvarint_small (show 300/128<128 by decide),Lib.uvarint_small (show 13<128 by decide)]
  rfl
theorem Kd{w:World}{X:Am}{m:Msg}{b:Bs}(h:X.1=m)(h2:X.2=⟨.slice none 0 0, .slice none 0 0, .slice none 0 0, .slice none 0 0⟩)(hl:m.refs= []∧m.wants= []∧m.haves= []∧m.bytes= []∧m.name= [])(hR:rightB m=true)(hb:BM m=b):
    Calls Tryd.prog 16 #[.agg (msgC X).toArray] w fun e w' =>∃v,e = .returned (.tuple #[v,NI 0])∧RB w' v b∧Ext w w' :=by
  obtain⟨X1,X2⟩:=X
  subst h h2 hb
  obtain⟨a,c,f,g,i⟩:=hl
  refine(L2 w (X1,_) ⟨by rw[a];exact RG.nil _ _ _,by rw[c];exact RG.nil _ _ _,by rw[f];exact RG.nil _ _ _,by rw[g];exact RB.nil _⟩ (NE hR)).mono ?_
  rintro e w' ⟨v,rfl,h1,h2⟩
  rw[if_pos hR]at h1
  exact⟨v,by rw[if_pos hR],h1,h2⟩
theorem PX:Dm ([8,172,2,13].take 3)=none:=by
  have:=Ot Kb (Pp 8 300 13) (n:=3) (by rw[Kc];decide)
  rwa [Kc]at this
end Go.Proofs.YtmonlobfofkbdaaDoor
