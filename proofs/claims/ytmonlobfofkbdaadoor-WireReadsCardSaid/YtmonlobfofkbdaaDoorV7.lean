/- Part 7 of what stands behind these statements: laws and walks of the functions that are reached. Conditions: those that each theorem names. -/
import Derived.Test.YtmonlobfofkbdaaDoorV6
set_option linter.unusedVariables false
set_option linter.unusedSimpArgs false
namespace Go.Proofs.YtmonlobfofkbdaaDoor
open Go.RowKit
set_option maxRecDepth 100000
theorem Jb{k c:UInt8}(h:k.toNat=c.toNat):k=c:=UInt8.toNat_inj.1 h
theorem CN{k c:UInt8}(h:¬k.toNat=c.toNat):¬k=c:=fun e=>h (by rw[e])
theorem Ks{b:Bool}(w:World)(x:Ah)(hm:MsgAt w x)(hL:B9 x.1)(hR:rightB x.1=b):
  Calls Tryd.prog 19 #[.agg (msgC x).toArray] w fun e w' =>e = .returned (.bool b)∧Ext w w' :=by
 have h:=CP w x hm hL
 rwa [hR]at h
theorem C9{b:Bool}(w:World)(x:Ah)(hm:MsgAt w x)(hL:B9 x.1)(hR:rightB x.1=b):
  Calls Tryd.prog 20 #[.agg (msgC x).toArray] w fun e w' =>e = .returned (.bool b)∧Ext w w' :=by
 have h:=Kq w x hm hL
 rwa [hR]at h
theorem C5:AN Tryd.prog 101:=fun _ _=>by kernel_rfl
theorem F3:AN Tryd.prog 102:=fun _ _=>by kernel_rfl
theorem If:AN Tryd.prog 103:=fun _ _=>by kernel_rfl
theorem Ft:AN Tryd.prog 20:=fun _ _=>by kernel_rfl
theorem M7:AN Tryd.prog 54:=fun _ _=>by kernel_rfl
theorem M8:AN Tryd.prog 15:=fun _ _=>by kernel_rfl
theorem Fu:AN Tryd.prog 17:=fun _ _=>by kernel_rfl
theorem Jc:AN Tryd.prog 18:=fun _ _=>by kernel_rfl
theorem Jd:AN Tryd.prog 21:=fun _ _=>by kernel_rfl
set_option maxHeartbeats 1600000
theorem refIds_any(w:World)(v:Value)(l:List Bs)(hr:RG 32 Lib.byteCells w v l)(hl:l.length≤65536):
  Calls Tryd.prog 103 #[v] w fun e w' =>∃v',e = .returned v' ∧NewB 5 w w' v' (CK l):=by
 have o:=hr
 refine calls_of_wpF (args:= [v]) Tryd.func103 rfl 21 rfl (Nat.le_of_ble_eq_true rfl) ?_
 intro u hb
 have c:u 0=(v:Value):=hb.get 0
 clear hb
 have hE:=Ext.refl w
 refine sk fun K1 y=>(wt (oA rfl (oZ (tN (y _ _ (sk fun K2 z=>(wt (oM rfl (oS rfl (Yk.lenRG Bw (RG.of hr c) (oS rfl (Yk.callA1 C5 (vr (NI l.length) rfl) ((DZ _ l.length (by omega)).mono ?_)))))))))))))
 rintro e w5 ⟨p,rfl,j⟩
 refine⟨_,rfl,?_⟩
 have hE:=hE.trans j.ext
 have q:=j.own;clear j
 refine oA rfl (oZ (tN (z _ _ (sk fun K7 aa=>(sk fun K8 ab=>(wt (oA rfl (Bp [(0,v),(2,(Value.slice none 0 0)),(3,p),(4,NI 0)] ⟨c,rfl,rfl,rfl,trivial⟩ fun av ⟨c,h,g,f,_⟩=>(tN (ab _ _ (AA (Bu (fun(ρ:As) (wz:World)=>∃i:Nat,∃vb1:Value,ρ 0=(v:Value)∧ρ 2=((Value.slice none 0 0):Value)∧ρ 4=(NI i:Value)∧ρ 3=(vb1:Value)∧Ext w wz∧wz.ownsRow w.heap.size 5 1 vb1 (Lib.uvarint l.length++(l.take i).flatMap fun x=>x:List UInt8).length (Lib.byteCells (Lib.uvarint l.length++(l.take i).flatMap fun x=>x))∧(i≤l.length)∧True) (fun ρ _=>l.length-(intOf (ρ 4)).toNat) ⟨0,p,c,h,f,g,hE,Eb q (by simp),Nat.zero_le _,trivial⟩ ?_))))))))))))
 clear q
 clear hE
 rintro ac ad ⟨i,vb1,c,h,f,g,hE,ho_vb1,hi,-⟩
 have q4:=f
 have ql3:=Gk ho_vb1
 refine sk fun aw ae=>(sk fun ax af=>(wt (oM rfl (oM rfl (oS rfl (Yk.lenRG Bw (RG.of (hr.keep hE) c) (oS rfl (Yk.eqI (a:=(i:Nat)) (b:=(l.length:Nat)) f rfl (A0 _ _ _ _) (oZ (tN (af _ _ ?_)))))))))))
 refine AX ((i)<(l.length)) (vr (.bool (decide ((i)<(l.length)))) rfl) (fun r=> ?_) (fun r=> ?_)
 ·have hlt:i<l.length:=r
  have hel:(l.getD i []).length=32:=A3 (RG.elem o [] hlt)
  have hul:=Bx (n:=l.length) (by omega)
  have hfl:=Gb (RG.lens o) i hi
  refine Ak (tN (ae _ _ (sk fun ay ag=>(AA (wt (oM rfl (oM rfl (oM rfl ?_))))))))
  have ah:(Lib.byteCells (l.getD (i) ([]:List UInt8))).length=32:=(RG.elem (hr.keep hE) ([]:List UInt8) (by omega))
  refine oS rfl (Yk.atRG Bw Cq (by decide) ([]:List UInt8) (RG.of (hr.keep hE) c) f (by omega) fun ai s=>(oS rfl (Yk.slicePR (l:=l.getD (i) ([]:List UInt8)) NV Lt (PR.of s (vr ai rfl)) (A3 ah) (by decide) fun aj t=>(oS rfl (Yk.appendRB _ _ w.heap.size (.int .u8 0) El Hz rfl El (Lib.uvarint l.length++(l.take i).flatMap fun x=>x) (l.getD (i) ([]:List UInt8)) (own_of ho_vb1 g) (RB.of t (vr aj rfl)) (by simp only[List.length_append];omega) hE.size fun k ak al m=> ?_)))))
  have m:Grew ad ak vb1 k:= .eqv g m
  have hE:=AF hE m ho_vb1 (Nat.le_refl _)
  clear ho_vb1
  clear s
  clear t
  refine oA rfl (oZ (bN (tN (ag _ _ (wt (oM rfl (oS rfl (Yk.bin (xv:=NI i) (yv:=NI 1) f rfl rfl (Be _ _ _ (by omega)) (oA rfl (Bp [(0,v),(2,(Value.slice none 0 0)),(3,k),(4,NI ((i)+(1)))] ⟨c,h,rfl,rfl,trivial⟩ fun am ⟨c,h,g,f,_⟩=>(tN (And.intro ⟨i+1,k,c,h,f,g,hE,Eb al (by rw[IW hlt,List.append_assoc]),by omega,trivial⟩ ?_))))))))))))
  show l.length-(intOf (am 4)).toNat<l.length-(intOf (ac 4)).toNat
  rw[f,q4]
  simp only[intOf,Int.toNat_natCast];omega
 refine Bm (Ax (Ax (AS (tN (aa _ _ (sk fun az an=>(wt (oM rfl (oA rfl (oZ (tN (an _ _ (Ao (An (fn:=Tryd.f103) _ rfl [vb1] (vb1) rfl ⟨g,trivial⟩ ?_))))))))))))))
 rw[show i=l.length by omega,List.take_length]at ho_vb1
 exact⟨_,rfl,⟨ho_vb1,hE.grown⟩⟩

theorem GE(w:World)(y:Ah)(hm:MsgAt w y)(hR:rightB y.1=true):
  Calls Tryd.prog 54 #[.agg (msgC y).toArray] w fun e w' =>∃v',e = .returned v' ∧NewB 5 w w' v' (encB y.1):=by
 have hmr:=hm.refs
 have hmw:=hm.wants
 have hmh:=hm.haves
 have hmb:=hm.bytes
 obtain⟨p,hK,hP⟩:=DT hR
 have hF:=Dg hP
 obtain⟨hh,hj⟩:=hF.session
 obtain⟨hl,hn⟩:=hF.size
 obtain⟨ha0,ha1⟩:=hF.at_
 obtain⟨hd0,hd1⟩:=hF.code
 obtain⟨hp,ca⟩:=hF.refs
 have hw1:=hF.wants
 have hh1:=hF.haves
 obtain⟨hq,hr⟩:=L2 hR
 have hdl:y.1.id.1.length=32:=y.1.id.2
 have hol:y.1.old.1.length=32:=y.1.old.2
 have hnl2:y.1.new.1.length=32:=y.1.new.2
 have hs:=Bx (n:=y.1.session.toNat) (by omega)
 have ht:=Bx (n:=y.1.size.toNat) (by omega)
 have hv:=Bx (n:=y.1.at_.toNat) (by omega)
 have hw:=Bx (n:=y.1.code.toNat) (by omega)
 have hx:=Bx (n:=y.1.refs.length) (by omega)
 have hy:=FW hm.ids.1 hw1
 have hz:=FW hm.ids.2 hh1
 have h0:=Ep (s:=y.1.bytes) (by omega)
 have h1:=Ep (s:=y.1.name) (by omega)
 have hLx:=EC ca
 clear hK hP hF
 refine calls_of_wpF (args:= [.agg (msgC y).toArray]) Tryd.func54 rfl 137 rfl (Nat.le_of_ble_eq_true rfl) ?_
 intro dk hb
 have z:dk 0=(.agg (msgC y).toArray:Value):=hb.get 0
 clear hb
 have hE:=Ext.refl w
 refine sk fun K1 dl=>(wt (oS rfl (Yk.box (cs:=(msgC y:List Value).toArray) z fun g j h3 cp dm h4=> ?_)))
 have hE:=hE.trans dm
 have c:=cp;clear cp
 have h5:g<j.heap.size:=by omega
 refine oA rfl (oZ (tN (dl _ _ (sk fun h6 dn=> ?_))))
 have f:=Ext.refl j
 have t:=hE.size
 have dp:g<j.heap.size:=(bl c)
 refine IA j.heap.size (Nat.le_refl _) [6] (fun m=>if m=6 then [2,5]else []) (fun m=>if m=6 then [2,5,6,7]else []) [Is (PQ g 0),Is (B8 (y.1.kind)),fun x w' =>w'.ownsRow j.heap.size 5 1 x ([(y.1.kind:UInt8)]:List UInt8).length (Lib.byteCells ([(y.1.kind:UInt8)])),Is (PQ g 1),Is (.int .i64 (y.1.session:Int)),fun x w' =>w'.ownsRow j.heap.size 5 1 x (Lib.uvarint y.1.session.toNat:List UInt8).length (Lib.byteCells (Lib.uvarint y.1.session.toNat)),fun x w' =>w'.ownsRow j.heap.size 5 1 x (([(y.1.kind:UInt8)]:List UInt8)++(Lib.uvarint y.1.session.toNat:List UInt8):List UInt8).length (Lib.byteCells (([(y.1.kind:UInt8)]:List UInt8)++(Lib.uvarint y.1.session.toNat:List UInt8))),fun x w' =>w'.ownsRow j.heap.size 5 1 x (([(y.1.kind:UInt8)]:List UInt8)++(Lib.uvarint y.1.session.toNat:List UInt8):List UInt8).length (Lib.byteCells (([(y.1.kind:UInt8)]:List UInt8)++(Lib.uvarint y.1.session.toNat:List UInt8)))] (by kernel_rfl) [6,7,8,9,10,11,12,3] (by kernel_rfl) (by kernel_rfl) (by kernel_rfl) (by kernel_rfl) rfl (Db ⟨(Stab.own _ _ _ _ _),(Db ⟨(Stab.own _ _ _ _ _),(Stab.own _ _ _ _ _),(Stab.own _ _ _ _ _),trivial⟩)⟩) ⟨⟨.inr (Stab.is _), .inr (Stab.is _), .inl rfl, .inr (Stab.is _), .inr (Stab.is _), .inl rfl, .inl rfl, .inl rfl,trivial⟩,trivial⟩ ?dq ?hQ2001
 case dq=>
  refine⟨?_,?_,?_,?_,?_,?_,?_,?_,trivial⟩
  ·refine Aa rfl fun σ w1 hC h=> ?_
   have hC:Ext j w1:=hC
   have e1:σ 1=PQ g 0:=(Af (h 1 (by decide))).trans rfl
   exact Yk.fieldAt H8 e1 ⟨Ext.refl _,rfl⟩
  ·refine Aa rfl fun σ w1 hC h=> ?_
   have hC:Ext j w1:=hC
   have e6:=Af (h 6 (by decide))
   exact Yk.cell1 u5 rfl e6 (Ab (eb hC c) (show(msgC y)[0]? =some (B8 (y.1.kind):Value)from Bv y)) ⟨Ext.refl _,rfl⟩
  ·refine Aa rfl fun σ w1 hC h=> ?_
   have hC:Ext j w1:=hC
   have e7:=Af (h 7 (by decide))
   exact Yk.lit1 (b:=y.1.kind) CA e7 fun v w2 hN=>⟨hN.ext,AC hN.own hC.size⟩
  ·refine Aa rfl fun σ w1 hC h=> ?_
   have hC:Ext j w1:=hC
   have e1:σ 1=PQ g 0:=(Af (h 1 (by decide))).trans rfl
   exact Yk.fieldAt LK e1 ⟨Ext.refl _,rfl⟩
  ·refine Aa rfl fun σ w1 hC h=> ?_
   have hC:Ext j w1:=hC
   have e9:=Af (h 9 (by decide))
   exact Yk.cell1 FI rfl e9 (Ab (eb hC c) (show(msgC y)[1]? =some (.int .i64 (y.1.session:Int):Value)from CU y)) ⟨Ext.refl _,rfl⟩
  ·refine Aa rfl fun σ w1 hC h=> ?_
   have hC:Ext j w1:=hC
   have du:=Af (h 10 (by decide))
   refine Yk.callA1 C5 du ((DW _ y.1.session (by omega) (by omega)).mono ?_)
   rintro e w2 ⟨v,rfl,hN⟩
   exact⟨_,rfl,hN.ext,AC hN.own hC.size⟩
  ·refine Aa rfl fun σ w1 hC h=> ?_
   have hC:Ext j w1:=hC
   have e8:(fun x w' =>w'.ownsRow j.heap.size 5 1 x ([(y.1.kind:UInt8)]:List UInt8).length (Lib.byteCells ([(y.1.kind:UInt8)]))) (σ 8) w1:=h 8 (by decide)
   have dv:(fun x w' =>w'.ownsRow j.heap.size 5 1 x (Lib.uvarint y.1.session.toNat:List UInt8).length (Lib.byteCells (Lib.uvarint y.1.session.toNat))) (σ 11) w1:=h 11 (by decide)
   exact Yk.appendRB _ _ j.heap.size (.int .u8 0) El Hz rfl El ([(y.1.kind:UInt8)]) (Lib.uvarint y.1.session.toNat) e8 (RB.ofOwn dv) (by simp only[List.length_append,List.length_cons,List.length_nil];omega) hC.size fun v w2 ho hg=>⟨hg.below hC.size (fun k hk=>(e8.lt k hk).1),ho⟩
  ·refine Aa rfl fun σ w1 hC h=> ?_
   have hC:Ext j w1:=hC
   have dw:(fun x w' =>w'.ownsRow j.heap.size 5 1 x (([(y.1.kind:UInt8)]:List UInt8)++(Lib.uvarint y.1.session.toNat:List UInt8):List UInt8).length (Lib.byteCells (([(y.1.kind:UInt8)]:List UInt8)++(Lib.uvarint y.1.session.toNat:List UInt8)))) (σ 12) w1:=h 12 (by decide)
   exact Yk.assign rfl ⟨Ext.refl _,dw⟩
 intro ct cu bh he hf
 obtain⟨-,-,-,-,-,-,-,k3,-⟩:=hf
 obtain⟨z,q,T2,-⟩:=he.hold [(0,_),(1,PQ g 0),(2,(Value.slice none 0 0))] ⟨z,rfl,rfl,trivial⟩ rfl
 clear he
 have bh:Ext j cu:=bh
 have hE:=hE.trans bh
 have c:=eb bh c
 have f:=f.trans bh
 have k3:(fun x w' =>w'.ownsRow j.heap.size 5 1 x (([(y.1.kind:UInt8)]:List UInt8)++(Lib.uvarint y.1.session.toNat:List UInt8):List UInt8).length (Lib.byteCells (([(y.1.kind:UInt8)]:List UInt8)++(Lib.uvarint y.1.session.toNat:List UInt8)))) (ct 3) cu:=k3
 obtain⟨ad,r⟩:∃v,ct 3=v:=⟨_,rfl⟩
 rw[r]at k3
 have o:=k3;clear k3
 have ab:OB ad g:=AY o dp
 refine tN (dn _ _ (sk fun h7 ag=>(sk fun h8 dx=>(wt (oS rfl (Yk.fieldAt H8 q (oS rfl (Yk.cell1 u5 rfl (vr (PQ g 0) rfl) (Ab c (show(msgC y)[0]? =some (B8 (y.1.kind):Value)from Bv y)) (oZ (tN (dx _ _ (AA (sk fun h9 dy=>(wt (oS rfl (Yk.eqI (a:=((y.1.kind).toNat:Nat)) (b:=(2:Nat)) rfl rfl (k_eql _ _ _ _) (oA rfl (oZ (tN (dy _ _ ?_))))))))))))))))))))
 refine AX (((y.1.kind).toNat:Nat)=(2)) (vr (.bool (decide (((y.1.kind).toNat:Nat)=(2)))) rfl) (fun ae=> ?_) (fun ae=> ?_)
 ·refine sk fun ia dz=>(wt (oM rfl (oS rfl (Yk.fieldAt H0 q (oS rfl (Yk.cell1 CJ rfl (vr (PQ g 2) rfl) (Ab c (show(msgC y)[2]? =some (y.2.refs:Value)from BF y)) (oS rfl (Yk.lenRG CJ (RG.of (hmr.keep hE) (vr y.2.refs rfl)) (oS rfl (Yk.callA1 C5 (vr (NI ((y.1.refs).length)) rfl) ((DZ _ ((y.1.refs).length) (by omega)).mono ?_)))))))))))
  rintro e d0 ⟨d1,rfl,ak⟩
  refine⟨_,rfl,?_⟩
  have ib:=hE.size
  have ic:=f.size
  have hE:=hE.trans ak.ext
  have c:=eb ak.ext c
  have f:=f.trans ak.ext
  have o:=Stab.own _ _ _ _ _ _ _ _ o ak.ext
  have cv:=ak.own;clear ak
  refine oS rfl (Yk.appendRB _ _ j.heap.size (.int .u8 0) El Hz rfl El (([(y.1.kind:UInt8)]:List UInt8)++(Lib.uvarint y.1.session.toNat:List UInt8)) (Lib.uvarint ((y.1.refs).length)) (own_of o r) (RB.of (RB.ofOwn cv) (vr d1 rfl)) (by simp only[List.length_append,List.length_cons,List.length_nil];omega) f.size fun bs d2 cw al=> ?_)
  have al:Grew d0 d2 ad bs:= .eqv r al
  have d3:OB bs g:=AP al ab (bl c)
  have hE:=AF hE al o t
  have c:=AG c al ab
  have f:=AF f al o (Nat.le_refl _)
  clear o
  refine oA rfl (oZ (tN (dz _ _ (sk fun ie d4=>(wt (oA rfl (Bp [(0, .agg (msgC y).toArray),(1,PQ g 0),(2,(Value.slice none 0 0)),(3,bs),(4,NI 0),(14,B8 (y.1.kind))] ⟨z,q,T2,rfl,rfl,rfl,trivial⟩ fun ig ⟨z,q,T2,r,T4,am,_⟩=>(tN (d4 _ _ (AA (Bu (fun(ρ:As) (wz:World)=>∃i:Nat,∃vb1:Value,ρ 0=(.agg (msgC y).toArray:Value)∧ρ 1=(PQ g 0:Value)∧ρ 2=((Value.slice none 0 0):Value)∧ρ 14=(B8 (y.1.kind):Value)∧ρ 4=(NI i:Value)∧ρ 3=(vb1:Value)∧Ext w wz∧wz.heap[g]? =some (.cells (msgC y).toArray 29 (0,0))∧Ext j wz∧wz.ownsRow j.heap.size 5 1 vb1 (([(y.1.kind:UInt8)]:List UInt8)++(Lib.uvarint y.1.session.toNat:List UInt8)++Lib.uvarint ((y.1.refs).length)++(y.1.refs.take i).flatMap B4:List UInt8).length (Lib.byteCells (([(y.1.kind:UInt8)]:List UInt8)++(Lib.uvarint y.1.session.toNat:List UInt8)++Lib.uvarint ((y.1.refs).length)++(y.1.refs.take i).flatMap B4))∧(i≤y.1.refs.length)∧(OB vb1 g)∧True) (fun ρ _=>y.1.refs.length-(intOf (ρ 4)).toNat) ⟨0,bs,z,q,T2,am,T4,r,hE,c,f,Eb cw (by simp),Nat.zero_le _,d3,trivial⟩ ?_)))))))))))
  clear cv
  clear cw
  clear hE c f
  rintro d5 d6 ⟨i,vb1,z,q,T2,am,T4,r,hE,c,f,ho_vb1,hi,hap_vb1_n2,-⟩
  have q4:=T4
  have ql3:=Gk ho_vb1
  refine sk fun ih d7=>(sk fun ii d8=>(wt (oM rfl (oS rfl (Yk.fieldAt H0 q (oS rfl (Yk.cell1 CJ rfl (vr (PQ g 2) rfl) (Ab c (show(msgC y)[2]? =some (y.2.refs:Value)from BF y)) (oS rfl (Yk.lenRG CJ (RG.of (hmr.keep hE) (vr y.2.refs rfl)) (oS rfl (Yk.eqI (a:=(i:Nat)) (b:=((y.1.refs).length:Nat)) T4 rfl (A0 _ _ _ _) (oZ (tN (d8 _ _ ?_))))))))))))))
  refine AX ((i)<((y.1.refs).length)) (vr (.bool (decide ((i)<((y.1.refs).length)))) rfl) (fun cx=> ?_) (fun cx=> ?_)
  ·have hlt:i<y.1.refs.length:=cx
   have hul:=ca _ (E3 Ac hlt)
   have hLl:=EC (l:=y.1.refs.take i) (fun u hu=>ca u (List.mem_of_mem_take hu))
   rw[List.length_take]at hLl
   have huu:=Bx (n:=(y.1.refs.getD i Ac).name.length) (by omega)
   have htu:=Ep (s:=(y.1.refs.getD i Ac).name) (by omega)
   have hnu:(y.1.refs.getD i Ac).new.1.length=32:=(y.1.refs.getD i Ac).new.2
   refine Ak (tN (d7 _ _ (sk fun ij d9=>(AA (sk fun ik ea=>(wt (oM rfl (oS rfl (Yk.fieldAt H0 q (oS rfl (Yk.cell1 CJ rfl (vr (PQ g 2) rfl) (Ab c (show(msgC y)[2]? =some (y.2.refs:Value)from BF y)) (oM rfl ?_))))))))))))
   have il:(updC ((y.1.refs).getD (i) Ac)).length=66:=(RG.elem (hmr.keep hE) Ac (by omega))
   refine oS rfl (Yk.atRG CJ Di (by decide) Ac (RG.of (hmr.keep hE) (vr y.2.refs rfl)) T4 (by omega) fun ec ed=>(oS rfl (Yk.fieldPR (n:=1) Cd (PR.of ed (vr ec rfl)) fun cy cc=> ?_)))
   have cc:PCell (B8 (((y.1.refs).getD (i) Ac).kind)) cy d6:=PR.pcell ((Gm ((y.1.refs).getD (i) Ac))▸cc)
   refine oS rfl (Yk.loadC u5 rfl (PCell.of cc (vr cy rfl)) (oS rfl (Yk.lit1 (b:=((y.1.refs).getD (i) Ac).kind) CA (vr (B8 (((y.1.refs).getD (i) Ac).kind)) rfl) fun ee ef an=> ?_)))
   have im:=hE.size
   have io:=f.size
   have hE:=hE.trans an.ext
   have c:=eb an.ext c
   have f:=f.trans an.ext
   have ho_vb1:=Stab.own _ _ _ _ _ _ _ _ ho_vb1 an.ext
   have eg:=an.own;clear an
   refine oS rfl (Yk.appendRB _ _ j.heap.size (.int .u8 0) El Hz rfl El (([(y.1.kind:UInt8)]:List UInt8)++(Lib.uvarint y.1.session.toNat:List UInt8)++Lib.uvarint ((y.1.refs).length)++(y.1.refs.take i).flatMap B4) ([(((y.1.refs).getD (i) Ac).kind:UInt8)]) (own_of ho_vb1 r) (RB.of (RB.ofOwn eg) (vr ee rfl)) (by simp only[List.length_append,List.length_cons,List.length_nil];omega) f.size fun bt cz ao ap=> ?_)
   have ap:Grew ef cz vb1 bt:= .eqv r ap
   have c0:OB bt g:=AP ap hap_vb1_n2 (bl c)
   have hE:=AF hE ap ho_vb1 t
   have c:=AG c ap hap_vb1_n2
   have f:=AF f ap ho_vb1 (Nat.le_refl _)
   clear ho_vb1
   refine oA rfl (oZ (tN (ea _ _ (sk fun ip eh=>(wt (oM rfl (oS rfl (Yk.fieldAt H0 q (oS rfl (Yk.cell1 CJ rfl (vr (PQ g 2) rfl) (Ab c (show(msgC y)[2]? =some (y.2.refs:Value)from BF y)) (oM rfl ?_)))))))))))
   have iq:(updC ((y.1.refs).getD (i) Ac)).length=66:=(RG.elem (hmr.keep hE) Ac (by omega))
   refine oS rfl (Yk.atRG CJ Di (by decide) Ac (RG.of (hmr.keep hE) (vr y.2.refs rfl)) T4 (by omega) fun ei ej=>(oS rfl (Yk.fieldPR (n:=1) DS (PR.of ej (vr ei rfl)) fun c1 cd=> ?_)))
   have cd:PCell (St (((y.1.refs).getD (i) Ac).name)) c1 cz:=PR.pcell ((HC ((y.1.refs).getD (i) Ac))▸cd)
   refine oS rfl (Yk.loadC CD rfl (PCell.of cd (vr c1 rfl)) (oS rfl (Yk.callA1 F3 (vr (St (((y.1.refs).getD (i) Ac).name)) rfl) ((Hr _ (((y.1.refs).getD (i) Ac).name) (by omega)).mono ?_))))
   rintro e el ⟨em,rfl,aq⟩
   refine⟨_,rfl,?_⟩
   have ir:=hE.size
   have iu:=f.size
   have hE:=hE.trans aq.ext
   have c:=eb aq.ext c
   have f:=f.trans aq.ext
   have ao:=Stab.own _ _ _ _ _ _ _ _ ao aq.ext
   have en:=aq.own;clear aq
   refine oS rfl (Yk.appendRB _ _ j.heap.size (.int .u8 0) El Hz rfl El (([(y.1.kind:UInt8)]:List UInt8)++(Lib.uvarint y.1.session.toNat:List UInt8)++Lib.uvarint ((y.1.refs).length)++(y.1.refs.take i).flatMap B4++ [(((y.1.refs).getD (i) Ac).kind:UInt8)]) (Bq (((y.1.refs).getD (i) Ac).name)) (own_of ao (vr bt rfl)) (RB.of (RB.ofOwn en) (vr em rfl)) (by simp only[List.length_append,List.length_cons,List.length_nil];omega) f.size fun bu ce bv ar=> ?_)
   have ar:Grew el ce bt bu:=ar
   have c2:OB bu g:=AP ar c0 (bl c)
   have hE:=AF hE ar ao t
   have c:=AG c ar c0
   have f:=AF f ar ao (Nat.le_refl _)
   clear ao
   refine oA rfl (oZ (tN (eh _ _ (wt (oM rfl (oS rfl (Yk.fieldAt H0 q (oS rfl (Yk.cell1 CJ rfl (vr (PQ g 2) rfl) (Ab c (show(msgC y)[2]? =some (y.2.refs:Value)from BF y)) (oM rfl ?_))))))))))
   have iv:(updC ((y.1.refs).getD (i) Ac)).length=66:=(RG.elem (hmr.keep hE) Ac (by omega))
   refine oS rfl (Yk.atRG CJ Di (by decide) Ac (RG.of (hmr.keep hE) (vr y.2.refs rfl)) T4 (by omega) fun eo c3=> ?_)
   have ep:(Lib.byteCells ((y.1.refs).getD (i) Ac).new.1).length=32:=by rw[Lib.byteCells_length,((y.1.refs).getD (i) Ac).new.2]
   refine oS rfl (Yk.fieldPR (n:=32) HV (PR.of c3 (vr eo rfl)) fun c4 bw=> ?_)
   have bw:PR (Lib.byteCells ((y.1.refs).getD (i) Ac).new.1) c4 ce:=(OA ((y.1.refs).getD (i) Ac))▸bw
   refine oS rfl (Yk.slicePR (l:=((y.1.refs).getD (i) Ac).new.1) NV Lt (PR.of bw (vr c4 rfl)) (A3 ep) (by decide) fun eq c5=>(oS rfl (Yk.appendRB _ _ j.heap.size (.int .u8 0) El Hz rfl El (([(y.1.kind:UInt8)]:List UInt8)++(Lib.uvarint y.1.session.toNat:List UInt8)++Lib.uvarint ((y.1.refs).length)++(y.1.refs.take i).flatMap B4++ [(((y.1.refs).getD (i) Ac).kind:UInt8)]++Bq (((y.1.refs).getD (i) Ac).name)) (((y.1.refs).getD (i) Ac).new.1) (own_of bv (vr bu rfl)) (RB.of c5 (vr eq rfl)) (by simp only[List.length_append,List.length_cons,List.length_nil];omega) f.size fun bx er es au=> ?_)))
   have au:Grew ce er bu bx:=au
   have et:OB bx g:=AP au c2 (bl c)
   have hE:=AF hE au bv t
   have c:=AG c au c2
   have f:=AF f au bv (Nat.le_refl _)
   clear bv
   clear c3
   clear bw
   clear c5
   refine oA rfl (oZ (bN (tN (d9 _ _ (wt (oM rfl (oS rfl (Yk.bin (xv:=NI i) (yv:=NI 1) T4 rfl rfl (Be _ _ _ (by omega)) (oA rfl (Bp [(0, .agg (msgC y).toArray),(1,PQ g 0),(2,(Value.slice none 0 0)),(3,bx),(4,NI ((i)+(1))),(14,B8 (y.1.kind))] ⟨z,q,T2,rfl,rfl,am,trivial⟩ fun eu ⟨z,q,T2,r,T4,am,_⟩=>(tN (And.intro ⟨i+1,bx,z,q,T2,am,T4,r,hE,c,f,Eb es (by rw[IV hlt];simp only[B4,List.append_assoc]),by omega,et,trivial⟩ ?_))))))))))))
   show y.1.refs.length-(intOf (eu 4)).toNat<y.1.refs.length-(intOf (d5 4)).toNat
   rw[T4,q4]
   simp only[intOf,Int.toNat_natCast];omega
  have hie:i=y.1.refs.length:=by omega
  refine Bm (Ax (Ax (AS (bN (tN (ag _ _ (sk fun iw ew=>(wt (oM rfl (oA rfl (oZ (tN (ew _ _ (Ao (An (fn:=Tryd.f54) _ rfl [vb1] (vb1) rfl ⟨r,trivial⟩ ?_)))))))))))))))
  have hen:([(y.1.kind:UInt8)]:List UInt8)++(Lib.uvarint y.1.session.toNat:List UInt8)++Lib.uvarint ((y.1.refs).length)++(y.1.refs.take i).flatMap B4=encB y.1:=by unfold encB Ba;rw[if_pos (Jb ae)];simp only[List.append_assoc,List.cons_append,List.nil_append,List.append_nil,hie,List.take_length]
  exact⟨_,rfl,hen▸(⟨AC ho_vb1 (by omega),hE.grown⟩:NewB _ w _ _ _)⟩
 refine sk fun ix ex=>(wt (oS rfl (Yk.eqI (a:=((y.1.kind).toNat:Nat)) (b:=(3:Nat)) rfl rfl (k_eql _ _ _ _) (oA rfl (oZ (tN (ex _ _ ?_)))))))
 refine AX (((y.1.kind).toNat:Nat)=(3)) (vr (.bool (decide (((y.1.kind).toNat:Nat)=(3)))) rfl) (fun ah=> ?_) (fun ah=> ?_)
 ·refine sk fun iy ey=>(wt (oM rfl (oS rfl (Yk.fieldAt H1 q (oS rfl (Yk.cell1 Bw rfl (vr (PQ g 3) rfl) (Ab c (show(msgC y)[3]? =some (y.2.wants:Value)from DE y)) (oS rfl (Yk.callA1 If (vr y.2.wants rfl) ((refIds_any _ y.2.wants y.1.wants (hmw.keep hE) (by omega)).mono ?_)))))))))
  rintro e ez ⟨e0,rfl,av⟩
  refine⟨_,rfl,?_⟩
  have iz:=hE.size
  have i0:=f.size
  have hE:=hE.trans av.ext
  have c:=eb av.ext c
  have f:=f.trans av.ext
  have o:=Stab.own _ _ _ _ _ _ _ _ o av.ext
  have e2:=av.own;clear av
  refine oS rfl (Yk.appendRB _ _ j.heap.size (.int .u8 0) El Hz rfl El (([(y.1.kind:UInt8)]:List UInt8)++(Lib.uvarint y.1.session.toNat:List UInt8)) (CK y.1.wants) (own_of o r) (RB.of (RB.ofOwn e2) (vr e0 rfl)) (by simp only[List.length_append,List.length_cons,List.length_nil];omega) f.size fun bz e3 aw ax=> ?_)
  have ax:Grew ez e3 ad bz:= .eqv r ax
  have e4:OB bz g:=AP ax ab (bl c)
  have hE:=AF hE ax o t
  have c:=AG c ax ab
  have f:=AF f ax o (Nat.le_refl _)
  clear o
  refine oA rfl (oZ (tN (ey _ _ (wt (oM rfl (oS rfl (Yk.fieldAt H2 q (oS rfl (Yk.cell1 Bw rfl (vr (PQ g 4) rfl) (Ab c (show(msgC y)[4]? =some (y.2.haves:Value)from DF y)) (oS rfl (Yk.callA1 If (vr y.2.haves rfl) ((refIds_any _ y.2.haves y.1.haves (hmh.keep hE) (by omega)).mono ?_))))))))))))
  rintro e e5 ⟨fa,rfl,ay⟩
  refine⟨_,rfl,?_⟩
  have i1:=hE.size
  have i2:=f.size
  have hE:=hE.trans ay.ext
  have c:=eb ay.ext c
  have f:=f.trans ay.ext
  have aw:=Stab.own _ _ _ _ _ _ _ _ aw ay.ext
  have fb:=ay.own;clear ay
  refine oS rfl (Yk.appendRB _ _ j.heap.size (.int .u8 0) El Hz rfl El (([(y.1.kind:UInt8)]:List UInt8)++(Lib.uvarint y.1.session.toNat:List UInt8)++CK y.1.wants) (CK y.1.haves) (own_of aw (vr bz rfl)) (RB.of (RB.ofOwn fb) (vr fa rfl)) (by simp only[List.length_append,List.length_cons,List.length_nil];omega) f.size fun cf fc fd bi=> ?_)
  have bi:Grew e5 fc bz cf:=bi
  have hE:=AF hE bi aw t
  have c:=AG c bi e4
  have f:=AF f bi aw (Nat.le_refl _)
  clear aw
  refine oA rfl (oZ (bN (tN (ag _ _ (sk fun i3 fe=>(wt (oM rfl (oA rfl (oZ (tN (fe _ _ (Ao (An (fn:=Tryd.f54) _ rfl [cf] (cf) rfl ⟨rfl,trivial⟩ ?_)))))))))))))
  have hen:([(y.1.kind:UInt8)]:List UInt8)++(Lib.uvarint y.1.session.toNat:List UInt8)++CK y.1.wants++CK y.1.haves=encB y.1:=by unfold encB Ba;rw[if_neg (CN ae),if_pos (Jb ah)];simp only[List.append_assoc,List.cons_append,List.nil_append,List.append_nil]
  exact⟨_,rfl,hen▸(⟨AC fd (by omega),hE.grown⟩:NewB _ w _ _ _)⟩
 refine sk fun i4 ff=>(wt (oS rfl (Yk.eqI (a:=((y.1.kind).toNat:Nat)) (b:=(4:Nat)) rfl rfl (k_eql _ _ _ _) (oA rfl (oZ (tN (ff _ _ ?_)))))))
 refine AX (((y.1.kind).toNat:Nat)=(4)) (vr (.bool (decide (((y.1.kind).toNat:Nat)=(4)))) rfl) (fun ai=> ?_) (fun ai=> ?_)
 ·refine sk fun i5 fg=>(wt (oM rfl (oS rfl (Yk.fieldAt H3 q (oS rfl (Yk.cell1 FI rfl (vr (PQ g 5) rfl) (Ab c (show(msgC y)[5]? =some (.int .i64 (y.1.size:Int):Value)from Dq y)) (oS rfl (Yk.callA1 C5 (vr (.int .i64 (y.1.size:Int)) rfl) ((DW _ y.1.size (by omega) (by omega)).mono ?_)))))))))
  rintro e fh ⟨fi,rfl,az⟩
  refine⟨_,rfl,?_⟩
  have i6:=hE.size
  have i7:=f.size
  have hE:=hE.trans az.ext
  have c:=eb az.ext c
  have f:=f.trans az.ext
  have o:=Stab.own _ _ _ _ _ _ _ _ o az.ext
  have fj:=az.own;clear az
  refine oS rfl (Yk.appendRB _ _ j.heap.size (.int .u8 0) El Hz rfl El (([(y.1.kind:UInt8)]:List UInt8)++(Lib.uvarint y.1.session.toNat:List UInt8)) (Lib.uvarint y.1.size.toNat) (own_of o r) (RB.of (RB.ofOwn fj) (vr fi rfl)) (by simp only[List.length_append,List.length_cons,List.length_nil];omega) f.size fun b0 c6 b1 a0=> ?_)
  have a0:Grew fh c6 ad b0:= .eqv r a0
  have fk:OB b0 g:=AP a0 ab (bl c)
  have hE:=AF hE a0 o t
  have c:=AG c a0 ab
  have f:=AF f a0 o (Nat.le_refl _)
  clear o
  refine oA rfl (oZ (tN (fg _ _ (wt (oM rfl (oS rfl (Yk.fieldAt LI q (oS rfl (Yk.slicePR (l:=y.1.id.1) NV Lt (PR.blk c (CM y) (CV y) (vr (PQ g 7) rfl)) y.1.id.2 (by decide) fun fl c7=>(oS rfl (Yk.appendRB _ _ j.heap.size (.int .u8 0) El Hz rfl El (([(y.1.kind:UInt8)]:List UInt8)++(Lib.uvarint y.1.session.toNat:List UInt8)++Lib.uvarint y.1.size.toNat) (y.1.id.1) (own_of b1 (vr b0 rfl)) (RB.of c7 (vr fl rfl)) (by simp only[List.length_append,List.length_cons,List.length_nil];omega) f.size fun cg fm fo bj=> ?_)))))))))))
  have bj:Grew c6 fm b0 cg:=bj
  have hE:=AF hE bj b1 t
  have c:=AG c bj fk
  have f:=AF f bj b1 (Nat.le_refl _)
  clear b1
  clear c7
  refine oA rfl (oZ (bN (tN (ag _ _ (sk fun i8 fp=>(wt (oM rfl (oA rfl (oZ (tN (fp _ _ (Ao (An (fn:=Tryd.f54) _ rfl [cg] (cg) rfl ⟨rfl,trivial⟩ ?_)))))))))))))
  have hen:([(y.1.kind:UInt8)]:List UInt8)++(Lib.uvarint y.1.session.toNat:List UInt8)++Lib.uvarint y.1.size.toNat++y.1.id.1=encB y.1:=by unfold encB Ba;rw[if_neg (CN ae),if_neg (CN ah),if_pos (Jb ai)];simp only[List.append_assoc,List.cons_append,List.nil_append,List.append_nil]
  exact⟨_,rfl,hen▸(⟨AC fo (by omega),hE.grown⟩:NewB _ w _ _ _)⟩
 refine sk fun i9 fq=>(wt (oS rfl (Yk.eqI (a:=((y.1.kind).toNat:Nat)) (b:=(5:Nat)) rfl rfl (k_eql _ _ _ _) (oA rfl (oZ (tN (fq _ _ ?_)))))))
 refine AX (((y.1.kind).toNat:Nat)=(5)) (vr (.bool (decide (((y.1.kind).toNat:Nat)=(5)))) rfl) (fun aj=> ?_) (fun aj=> ?_)
 ·refine wt (oM rfl (oS rfl (Yk.fieldAt H4 q (oS rfl (Yk.cell1 FI rfl (vr (PQ g 6) rfl) (Ab c (show(msgC y)[6]? =some (.int .i64 (y.1.at_:Int):Value)from Dr y)) (oS rfl (Yk.callA1 C5 (vr (.int .i64 (y.1.at_:Int)) rfl) ((DW _ y.1.at_ (by omega) (by omega)).mono ?_))))))))
  rintro e fr ⟨fs,rfl,a1⟩
  refine⟨_,rfl,?_⟩
  have ja:=hE.size
  have jb:=f.size
  have hE:=hE.trans a1.ext
  have c:=eb a1.ext c
  have f:=f.trans a1.ext
  have o:=Stab.own _ _ _ _ _ _ _ _ o a1.ext
  have ft:=a1.own;clear a1
  refine oS rfl (Yk.appendRB _ _ j.heap.size (.int .u8 0) El Hz rfl El (([(y.1.kind:UInt8)]:List UInt8)++(Lib.uvarint y.1.session.toNat:List UInt8)) (Lib.uvarint y.1.at_.toNat) (own_of o r) (RB.of (RB.ofOwn ft) (vr fs rfl)) (by simp only[List.length_append,List.length_cons,List.length_nil];omega) f.size fun ch fu fv bk=> ?_)
  have bk:Grew fr fu ad ch:= .eqv r bk
  have hE:=AF hE bk o t
  have c:=AG c bk ab
  have f:=AF f bk o (Nat.le_refl _)
  clear o
  refine oA rfl (oZ (bN (tN (ag _ _ (sk fun jc fw=>(wt (oM rfl (oA rfl (oZ (tN (fw _ _ (Ao (An (fn:=Tryd.f54) _ rfl [ch] (ch) rfl ⟨rfl,trivial⟩ ?_)))))))))))))
  have hen:([(y.1.kind:UInt8)]:List UInt8)++(Lib.uvarint y.1.session.toNat:List UInt8)++Lib.uvarint y.1.at_.toNat=encB y.1:=by unfold encB Ba;rw[if_neg (CN ae),if_neg (CN ah),if_neg (CN ai),if_pos (Jb aj)];simp only[List.append_assoc,List.cons_append,List.nil_append,List.append_nil]
  exact⟨_,rfl,hen▸(⟨AC fv (by omega),hE.grown⟩:NewB _ w _ _ _)⟩
 refine sk fun jd fx=>(wt (oS rfl (Yk.eqI (a:=((y.1.kind).toNat:Nat)) (b:=(6:Nat)) rfl rfl (k_eql _ _ _ _) (oA rfl (oZ (tN (fx _ _ ?_)))))))
 refine AX (((y.1.kind).toNat:Nat)=(6)) (vr (.bool (decide (((y.1.kind).toNat:Nat)=(6)))) rfl) (fun a2=> ?_) (fun a2=> ?_)
 ·refine sk fun je fy=>(wt (oM rfl (oS rfl (Yk.fieldAt H4 q (oS rfl (Yk.cell1 FI rfl (vr (PQ g 6) rfl) (Ab c (show(msgC y)[6]? =some (.int .i64 (y.1.at_:Int):Value)from Dr y)) (oS rfl (Yk.callA1 C5 (vr (.int .i64 (y.1.at_:Int)) rfl) ((DW _ y.1.at_ (by omega) (by omega)).mono ?_)))))))))
  rintro e fz ⟨f0,rfl,a3⟩
  refine⟨_,rfl,?_⟩
  have jf:=hE.size
  have jg:=f.size
  have hE:=hE.trans a3.ext
  have c:=eb a3.ext c
  have f:=f.trans a3.ext
  have o:=Stab.own _ _ _ _ _ _ _ _ o a3.ext
  have f1:=a3.own;clear a3
  refine oS rfl (Yk.appendRB _ _ j.heap.size (.int .u8 0) El Hz rfl El (([(y.1.kind:UInt8)]:List UInt8)++(Lib.uvarint y.1.session.toNat:List UInt8)) (Lib.uvarint y.1.at_.toNat) (own_of o r) (RB.of (RB.ofOwn f1) (vr f0 rfl)) (by simp only[List.length_append,List.length_cons,List.length_nil];omega) f.size fun b2 f2 a4 a5=> ?_)
  have a5:Grew fz f2 ad b2:= .eqv r a5
  have f3:OB b2 g:=AP a5 ab (bl c)
  have hE:=AF hE a5 o t
  have c:=AG c a5 ab
  have f:=AF f a5 o (Nat.le_refl _)
  clear o
  refine oA rfl (oZ (tN (fy _ _ (wt (oM rfl (oS rfl (Yk.fieldAt FT q (oS rfl (Yk.cell1 El rfl (vr (PQ g 39) rfl) (Ab c (show(msgC y)[39]? =some (y.2.bytes:Value)from Ds y)) (oS rfl (Yk.convRB El u5 CD (RB.of (hmb.keep hE) (vr y.2.bytes rfl)) (oS rfl (Yk.callA1 F3 (vr (St (y.1.bytes)) rfl) ((Hr _ y.1.bytes (by omega)).mono ?_))))))))))))))
  rintro e f4 ⟨f5,rfl,a6⟩
  refine⟨_,rfl,?_⟩
  have jh:=hE.size
  have ji:=f.size
  have hE:=hE.trans a6.ext
  have c:=eb a6.ext c
  have f:=f.trans a6.ext
  have a4:=Stab.own _ _ _ _ _ _ _ _ a4 a6.ext
  have f6:=a6.own;clear a6
  refine oS rfl (Yk.appendRB _ _ j.heap.size (.int .u8 0) El Hz rfl El (([(y.1.kind:UInt8)]:List UInt8)++(Lib.uvarint y.1.session.toNat:List UInt8)++Lib.uvarint y.1.at_.toNat) (Bq y.1.bytes) (own_of a4 (vr b2 rfl)) (RB.of (RB.ofOwn f6) (vr f5 rfl)) (by simp only[List.length_append,List.length_cons,List.length_nil];omega) f.size fun ci f7 f8 bm=> ?_)
  have bm:Grew f4 f7 b2 ci:=bm
  have hE:=AF hE bm a4 t
  have c:=AG c bm f3
  have f:=AF f bm a4 (Nat.le_refl _)
  clear a4
  refine oA rfl (oZ (bN (tN (ag _ _ (sk fun jj f9=>(wt (oM rfl (oA rfl (oZ (tN (f9 _ _ (Ao (An (fn:=Tryd.f54) _ rfl [ci] (ci) rfl ⟨rfl,trivial⟩ ?_)))))))))))))
  have hen:([(y.1.kind:UInt8)]:List UInt8)++(Lib.uvarint y.1.session.toNat:List UInt8)++Lib.uvarint y.1.at_.toNat++Bq y.1.bytes=encB y.1:=by unfold encB Ba;rw[if_neg (CN ae),if_neg (CN ah),if_neg (CN ai),if_neg (CN aj),if_pos (Jb a2)];simp only[List.append_assoc,List.cons_append,List.nil_append,List.append_nil]
  exact⟨_,rfl,hen▸(⟨AC f8 (by omega),hE.grown⟩:NewB _ w _ _ _)⟩
 refine sk fun jk ga=>(wt (oS rfl (Yk.eqI (a:=((y.1.kind).toNat:Nat)) (b:=(7:Nat)) rfl rfl (k_eql _ _ _ _) (oA rfl (oZ (tN (ga _ _ ?_)))))))
 refine AX (((y.1.kind).toNat:Nat)=(7)) (vr (.bool (decide (((y.1.kind).toNat:Nat)=(7)))) rfl) (fun bn=> ?_) (fun bn=> ?_)
 ·refine sk fun jl gb=>(wt (oM rfl (oS rfl (Yk.fieldAt H3 q (oS rfl (Yk.cell1 FI rfl (vr (PQ g 5) rfl) (Ab c (show(msgC y)[5]? =some (.int .i64 (y.1.size:Int):Value)from Dq y)) (oS rfl (Yk.callA1 C5 (vr (.int .i64 (y.1.size:Int)) rfl) ((DW _ y.1.size (by omega) (by omega)).mono ?_)))))))))
  rintro e gc ⟨gd,rfl,a7⟩
  refine⟨_,rfl,?_⟩
  have jm:=hE.size
  have jn:=f.size
  have hE:=hE.trans a7.ext
  have c:=eb a7.ext c
  have f:=f.trans a7.ext
  have o:=Stab.own _ _ _ _ _ _ _ _ o a7.ext
  have ge:=a7.own;clear a7
  refine oS rfl (Yk.appendRB _ _ j.heap.size (.int .u8 0) El Hz rfl El (([(y.1.kind:UInt8)]:List UInt8)++(Lib.uvarint y.1.session.toNat:List UInt8)) (Lib.uvarint y.1.size.toNat) (own_of o r) (RB.of (RB.ofOwn ge) (vr gd rfl)) (by simp only[List.length_append,List.length_cons,List.length_nil];omega) f.size fun b3 c8 b4 a8=> ?_)
  have a8:Grew gc c8 ad b3:= .eqv r a8
  have c9:OB b3 g:=AP a8 ab (bl c)
  have hE:=AF hE a8 o t
  have c:=AG c a8 ab
  have f:=AF f a8 o (Nat.le_refl _)
  clear o
  refine oA rfl (oZ (tN (gb _ _ (sk fun jo gf=>(wt (oM rfl (oS rfl (Yk.fieldAt LI q (oS rfl (Yk.slicePR (l:=y.1.id.1) NV Lt (PR.blk c (CM y) (CV y) (vr (PQ g 7) rfl)) y.1.id.2 (by decide) fun gg da=>(oS rfl (Yk.appendRB _ _ j.heap.size (.int .u8 0) El Hz rfl El (([(y.1.kind:UInt8)]:List UInt8)++(Lib.uvarint y.1.session.toNat:List UInt8)++Lib.uvarint y.1.size.toNat) (y.1.id.1) (own_of b4 (vr b3 rfl)) (RB.of da (vr gg rfl)) (by simp only[List.length_append,List.length_cons,List.length_nil];omega) f.size fun b5 gh a9 ba=> ?_))))))))))))
  have ba:Grew c8 gh b3 b5:=ba
  have db:OB b5 g:=AP ba c9 (bl c)
  have hE:=AF hE ba b4 t
  have c:=AG c ba c9
  have f:=AF f ba b4 (Nat.le_refl _)
  clear b4
  clear da
  refine oA rfl (oZ (tN (gf _ _ (sk fun jp gi=>(wt (oM rfl (oS rfl (Yk.fieldAt H7 q (oS rfl (Yk.cell1 CD rfl (vr (PQ g 40) rfl) (Ab c (show(msgC y)[40]? =some (St (y.1.name):Value)from Ee y)) (oS rfl (Yk.callA1 F3 (vr (St (y.1.name)) rfl) ((Hr _ y.1.name (by omega)).mono ?_)))))))))))))
  rintro e gj ⟨gk,rfl,bb⟩
  refine⟨_,rfl,?_⟩
  have jq:=hE.size
  have jr:=f.size
  have hE:=hE.trans bb.ext
  have c:=eb bb.ext c
  have f:=f.trans bb.ext
  have a9:=Stab.own _ _ _ _ _ _ _ _ a9 bb.ext
  have gl:=bb.own;clear bb
  refine oS rfl (Yk.appendRB _ _ j.heap.size (.int .u8 0) El Hz rfl El (([(y.1.kind:UInt8)]:List UInt8)++(Lib.uvarint y.1.session.toNat:List UInt8)++Lib.uvarint y.1.size.toNat++y.1.id.1) (Bq y.1.name) (own_of a9 (vr b5 rfl)) (RB.of (RB.ofOwn gl) (vr gk rfl)) (by simp only[List.length_append,List.length_cons,List.length_nil];omega) f.size fun b6 dc b7 bc=> ?_)
  have bc:Grew gj dc b5 b6:=bc
  have dd:OB b6 g:=AP bc db (bl c)
  have hE:=AF hE bc a9 t
  have c:=AG c bc db
  have f:=AF f bc a9 (Nat.le_refl _)
  clear a9
  refine oA rfl (oZ (tN (gi _ _ (sk fun js gm=>(wt (oM rfl (oS rfl (Yk.fieldAt KF q (oS rfl (Yk.slicePR (l:=y.1.old.1) NV Lt (PR.blk c (Dz y) (DP y) (vr (PQ g 41) rfl)) y.1.old.2 (by decide) fun gn de=>(oS rfl (Yk.appendRB _ _ j.heap.size (.int .u8 0) El Hz rfl El (([(y.1.kind:UInt8)]:List UInt8)++(Lib.uvarint y.1.session.toNat:List UInt8)++Lib.uvarint y.1.size.toNat++y.1.id.1++Bq y.1.name) (y.1.old.1) (own_of b7 (vr b6 rfl)) (RB.of de (vr gn rfl)) (by simp only[List.length_append,List.length_cons,List.length_nil];omega) f.size fun b8 df b9 bd=> ?_))))))))))))
  have bd:Grew dc df b6 b8:=bd
  have dg:OB b8 g:=AP bd dd (bl c)
  have hE:=AF hE bd b7 t
  have c:=AG c bd dd
  have f:=AF f bd b7 (Nat.le_refl _)
  clear b7
  clear de
  refine oA rfl (oZ (tN (gm _ _ (sk fun jt go=>(wt (oM rfl (oS rfl (Yk.fieldAt G8 q (oS rfl (Yk.slicePR (l:=y.1.new.1) NV Lt (PR.blk c (C1 y) (Dd y) (vr (PQ g 73) rfl)) y.1.new.2 (by decide) fun gp dh=>(oS rfl (Yk.appendRB _ _ j.heap.size (.int .u8 0) El Hz rfl El (([(y.1.kind:UInt8)]:List UInt8)++(Lib.uvarint y.1.session.toNat:List UInt8)++Lib.uvarint y.1.size.toNat++y.1.id.1++Bq y.1.name++y.1.old.1) (y.1.new.1) (own_of b9 (vr b8 rfl)) (RB.of dh (vr gp rfl)) (by simp only[List.length_append,List.length_cons,List.length_nil];omega) f.size fun bo gq aa be=> ?_))))))))))))
  have be:Grew df gq b8 bo:=be
  have di:OB bo g:=AP be dg (bl c)
  have hE:=AF hE be b9 t
  have c:=AG c be dg
  have f:=AF f be b9 (Nat.le_refl _)
  clear b9
  clear dh
  refine oA rfl (Bp [(0, .agg (msgC y).toArray),(1,PQ g 0),(2,(Value.slice none 0 0)),(3,bo),(14,B8 (y.1.kind))] ⟨z,q,T2,rfl,rfl,trivial⟩ fun ju ⟨z,q,T2,r,am,_⟩=>(tN (go _ _ (sk fun jv gr=>(wt (oA rfl (oZ (tN (gr _ _ (sk fun jw dj=>(sk fun jx gs=>(wt (oS rfl (Yk.fieldAt KG q (oS rfl (Yk.cell1 De rfl (vr (PQ g 105) rfl) (Ab c (show(msgC y)[105]? =some (.bool (y.1.force):Value)from ET y)) (oZ (tN (gs _ _ ?_)))))))))))))))))))
  refine Bz (y.1.force) (vr (.bool (y.1.force)) rfl) (fun cj=> ?_) (fun cj=> ?_)
  ·have hfc:=cj
   refine wt (oA rfl (oZ (tN (dj _ _ (wt (oM rfl (oM rfl (oS rfl (Yk.lit1 (b:=1) CA (vr (B8 (1)) rfl) fun gt gu bf=> ?_)))))))))
   have jy:=hE.size
   have jz:=f.size
   have hE:=hE.trans bf.ext
   have c:=eb bf.ext c
   have f:=f.trans bf.ext
   have aa:=Stab.own _ _ _ _ _ _ _ _ aa bf.ext
   have gv:=bf.own;clear bf
   refine oS rfl (Yk.appendRB _ _ j.heap.size (.int .u8 0) El Hz rfl El (([(y.1.kind:UInt8)]:List UInt8)++(Lib.uvarint y.1.session.toNat:List UInt8)++Lib.uvarint y.1.size.toNat++y.1.id.1++Bq y.1.name++y.1.old.1++y.1.new.1) ([(1:UInt8)]) (own_of aa r) (RB.of (RB.ofOwn gv) (vr gt rfl)) (by simp only[List.length_append,List.length_cons,List.length_nil];omega) f.size fun ck gw gx bp=> ?_)
   have bp:Grew gu gw bo ck:= .eqv r bp
   have hE:=AF hE bp aa t
   have c:=AG c bp di
   have f:=AF f bp aa (Nat.le_refl _)
   clear aa
   refine oA rfl (oZ (bN (tN (ag _ _ (sk fun j0 gy=>(wt (oM rfl (oA rfl (oZ (tN (gy _ _ (Ao (An (fn:=Tryd.f54) _ rfl [ck] (ck) rfl ⟨rfl,trivial⟩ ?_)))))))))))))
   have hen:([(y.1.kind:UInt8)]:List UInt8)++(Lib.uvarint y.1.session.toNat:List UInt8)++Lib.uvarint y.1.size.toNat++y.1.id.1++Bq y.1.name++y.1.old.1++y.1.new.1++ [(1:UInt8)]=encB y.1:=by unfold encB Ba;rw[if_neg (CN ae),if_neg (CN ah),if_neg (CN ai),if_neg (CN aj),if_neg (CN a2),if_pos (Jb bn)];simp only[List.append_assoc,List.cons_append,List.nil_append,List.append_nil,Ej,hfc,cond_true,cond_false]
   exact⟨_,rfl,hen▸(⟨AC gx (by omega),hE.grown⟩:NewB _ w _ _ _)⟩
  have hfc:=cj
  refine Ak (tN (dj _ _ (wt (oM rfl (oM rfl (oS rfl (Yk.lit1 (b:=0) CA (vr (B8 (0)) rfl) fun gz g0 bg=> ?_)))))))
  have j1:=hE.size
  have j2:=f.size
  have hE:=hE.trans bg.ext
  have c:=eb bg.ext c
  have f:=f.trans bg.ext
  have aa:=Stab.own _ _ _ _ _ _ _ _ aa bg.ext
  have g1:=bg.own;clear bg
  refine oS rfl (Yk.appendRB _ _ j.heap.size (.int .u8 0) El Hz rfl El (([(y.1.kind:UInt8)]:List UInt8)++(Lib.uvarint y.1.session.toNat:List UInt8)++Lib.uvarint y.1.size.toNat++y.1.id.1++Bq y.1.name++y.1.old.1++y.1.new.1) ([(0:UInt8)]) (own_of aa r) (RB.of (RB.ofOwn g1) (vr gz rfl)) (by simp only[List.length_append,List.length_cons,List.length_nil];omega) f.size fun cl g2 g3 bq=> ?_)
  have bq:Grew g0 g2 bo cl:= .eqv r bq
  have hE:=AF hE bq aa t
  have c:=AG c bq di
  have f:=AF f bq aa (Nat.le_refl _)
  clear aa
  refine oA rfl (oZ (bN (tN (ag _ _ (sk fun j3 g4=>(wt (oM rfl (oA rfl (oZ (tN (g4 _ _ (Ao (An (fn:=Tryd.f54) _ rfl [cl] (cl) rfl ⟨rfl,trivial⟩ ?_)))))))))))))
  have hen:([(y.1.kind:UInt8)]:List UInt8)++(Lib.uvarint y.1.session.toNat:List UInt8)++Lib.uvarint y.1.size.toNat++y.1.id.1++Bq y.1.name++y.1.old.1++y.1.new.1++ [(0:UInt8)]=encB y.1:=by unfold encB Ba;rw[if_neg (CN ae),if_neg (CN ah),if_neg (CN ai),if_neg (CN aj),if_neg (CN a2),if_pos (Jb bn)];simp only[List.append_assoc,List.cons_append,List.nil_append,List.append_nil,Ej,hfc,cond_true,cond_false]
  exact⟨_,rfl,hen▸(⟨AC g3 (by omega),hE.grown⟩:NewB _ w _ _ _)⟩
 refine sk fun j4 g5=>(wt (oS rfl (Yk.eqI (a:=((y.1.kind).toNat:Nat)) (b:=(8:Nat)) rfl rfl (k_eql _ _ _ _) (oA rfl (oZ (tN (g5 _ _ ?_)))))))
 refine AX (((y.1.kind).toNat:Nat)=(8)) (vr (.bool (decide (((y.1.kind).toNat:Nat)=(8)))) rfl) (fun cm=> ?_) (fun cm=> ?_)
 ·refine wt (oM rfl (oS rfl (Yk.fieldAt G9 q (oS rfl (Yk.cell1 J1 rfl (vr (PQ g 106) rfl) (Ab c (show(msgC y)[106]? =some (.int .i64 (y.1.code:Int):Value)from DQ y)) (oS rfl (Yk.callA1 C5 (vr (.int .i64 (y.1.code:Int)) rfl) ((DW _ y.1.code (by omega) (by omega)).mono ?_))))))))
  rintro e g6 ⟨g7,rfl,br⟩
  refine⟨_,rfl,?_⟩
  have j5:=hE.size
  have j6:=f.size
  have hE:=hE.trans br.ext
  have f:=f.trans br.ext
  have o:=Stab.own _ _ _ _ _ _ _ _ o br.ext
  have g8:=br.own;clear br
  refine oS rfl (Yk.appendRB _ _ j.heap.size (.int .u8 0) El Hz rfl El (([(y.1.kind:UInt8)]:List UInt8)++(Lib.uvarint y.1.session.toNat:List UInt8)) (Lib.uvarint y.1.code.toNat) (own_of o r) (RB.of (RB.ofOwn g8) (vr g7 rfl)) (by simp only[List.length_append,List.length_cons,List.length_nil];omega) f.size fun cn g9 ha co=> ?_)
  have co:Grew g6 g9 ad cn:= .eqv r co
  have hE:=AF hE co o t
  clear o
  refine oA rfl (oZ (bN (tN (ag _ _ (sk fun j7 hc=>(wt (oM rfl (oA rfl (oZ (tN (hc _ _ (Ao (An (fn:=Tryd.f54) _ rfl [cn] (cn) rfl ⟨rfl,trivial⟩ ?_)))))))))))))
  have hen:([(y.1.kind:UInt8)]:List UInt8)++(Lib.uvarint y.1.session.toNat:List UInt8)++Lib.uvarint y.1.code.toNat=encB y.1:=by unfold encB Ba;rw[if_neg (CN ae),if_neg (CN ah),if_neg (CN ai),if_neg (CN aj),if_neg (CN a2),if_neg (CN bn),if_pos (Jb cm)];simp only[List.append_assoc,List.cons_append,List.nil_append,List.append_nil]
  exact⟨_,rfl,hen▸(⟨AC ha (by omega),hE.grown⟩:NewB _ w _ _ _)⟩
 refine Ak (bN (tN (ag _ _ (sk fun j8 hd=>(wt (oM rfl (oA rfl (oZ (tN (hd _ _ (Ao (An (fn:=Tryd.f54) _ rfl [ad] (ad) rfl ⟨r,trivial⟩ ?_))))))))))))
 have hen:([(y.1.kind:UInt8)]:List UInt8)++(Lib.uvarint y.1.session.toNat:List UInt8)=encB y.1:=by unfold encB Ba;rw[if_neg (CN ae),if_neg (CN ah),if_neg (CN ai),if_neg (CN aj),if_neg (CN a2),if_neg (CN bn),if_neg (CN cm)];simp only[List.append_assoc,List.cons_append,List.nil_append,List.append_nil]
 exact⟨_,rfl,hen▸(⟨AC o (by omega),hE.grown⟩:NewB _ w _ _ _)⟩

theorem Gc(w:World)(x:Ah)(hm:MsgAt w x)(hL:B9 x.1):
  Calls Tryd.prog 18 #[.agg (msgC x).toArray] w fun e w' =>∃v,e = .returned (.tuple #[v,NI (if rightB x.1=true then 0 else 1)])∧RB w' v (if rightB x.1=true then encB x.1 else [])∧Ext w w' :=by
 have hmr:=hm.refs
 have hmw:=hm.wants
 have hmh:=hm.haves
 have hmb:=hm.bytes
 refine calls_of_wpF (args:= [.agg (msgC x).toArray]) Tryd.func18 rfl 9 rfl (Nat.le_of_ble_eq_true rfl) ?_
 intro k hb
 have l:k 0=(.agg (msgC x).toArray:Value):=hb.get 0
 clear hb
 have hE:=Ext.refl w
 refine sk fun u f=>(wt (oS rfl (Yk.box (cs:=(msgC x:List Value).toArray) l fun b m y g n z=> ?_)))
 have hE:=hE.trans n
 have a:=g;clear g
 have aa:b<m.heap.size:=by omega
 refine oA rfl (oA rfl (oZ ?_))
 cases hR:rightB x.1
 ·refine tN (f _ _ (sk fun ab ac=>(sk fun ad o=>(wt (oS rfl (Yk.loadAll (vr (PQ b 0) rfl) a (Nr).choose_spec rfl (Au (msg_len x) Mr) (oS rfl (Yk.callA1 Ft (vr (.agg (msgC x).toArray) rfl) ((C9 _ x (MsgAt.mk (hmr.keep hE) (hmw.keep hE) (hmh.keep hE) (hmb.keep hE)) hL hR).mono ?_)))))))))
  rintro e ae ⟨rfl,h⟩
  refine⟨_,rfl,?_⟩
  have hE:=hE.trans h
  have a:=eb h a
  refine oS rfl (Yk.notB (vr (.bool (false)) rfl) (oZ (tN (o _ _ (At (vr (.bool (true)) rfl) (sk fun af p=>(wt (oA rfl (oA rfl (oZ (tN (p _ _ (Ao (Ap (An (fn:=Tryd.f18) _ rfl [(Value.slice none 0 0),NI 1] (.tuple #[(Value.slice none 0 0),NI 1]) rfl ⟨rfl,rfl,trivial⟩ ?_)))))))))))))))
  exact⟨_,by rw[if_neg (by rw[hR];decide)],by rw[if_neg (by rw[hR];decide)];exact RB.nil _,hE⟩
 refine tN (f _ _ (sk fun ag q=>(sk fun ah r=>(wt (oS rfl (Yk.loadAll (vr (PQ b 0) rfl) a (Nr).choose_spec rfl (Au (msg_len x) Mr) (oS rfl (Yk.callA1 Ft (vr (.agg (msgC x).toArray) rfl) ((C9 _ x (MsgAt.mk (hmr.keep hE) (hmw.keep hE) (hmh.keep hE) (hmb.keep hE)) hL hR).mono ?_)))))))))
 rintro e ai ⟨rfl,i⟩
 refine⟨_,rfl,?_⟩
 have hE:=hE.trans i
 have a:=eb i a
 refine oS rfl (Yk.notB (vr (.bool (true)) rfl) (oZ (tN (r _ _ (Am (vr (.bool (false)) rfl) (Ak (tN (q _ _ (sk fun aj s=>(wt (oS rfl (Yk.loadAll (vr (PQ b 0) rfl) a (Nr).choose_spec rfl (Au (msg_len x) Mr) (oS rfl (Yk.callA1 M7 (vr (.agg (msgC x).toArray) rfl) ((GE _ x (MsgAt.mk (hmr.keep hE) (hmw.keep hE) (hmh.keep hE) (hmb.keep hE)) hR).mono ?_)))))))))))))))
 rintro e ak ⟨j,rfl,c⟩
 refine⟨_,rfl,?_⟩
 have al:=hE.size
 have hE:=hE.trans c.ext
 have t:=c.own;clear c
 refine oA rfl (oA rfl (oZ (tN (s _ _ (Ao (An (fn:=Tryd.f18) _ rfl [j,NI 0] (.tuple #[j,NI 0]) rfl ⟨rfl,rfl,trivial⟩ ?_))))))
 exact⟨_,by rw[if_pos hR],by rw[if_pos hR];exact RB.ofOwn t,hE⟩

theorem Jw(w:World)(x:Ah)(hm:MsgAt w x)(hL:B9 x.1)(hR:rightB x.1=true):
  Calls Tryd.prog 18 #[.agg (msgC x).toArray] w fun e w' =>∃v,e = .returned (.tuple #[v,NI 0])∧RB w' v (encB x.1)∧Ext w w' :=
 (Gc w x hm hL).mono fun e w' h=>by
  obtain⟨v,rfl,h1,h2⟩:=h
  rw[if_pos hR]at h1
  exact⟨v,by rw[if_pos hR],h1,h2⟩
theorem Ku(w:World)(x:Ah)(hm:MsgAt w x)(hL:B9 x.1)(hR:rightB x.1=false):
  Calls Tryd.prog 18 #[.agg (msgC x).toArray] w fun e w' =>∃v,e = .returned (.tuple #[v,NI 1])∧RB w' v []∧Ext w w' :=
 (Gc w x hm hL).mono fun e w' h=>by
  obtain⟨v,rfl,h1,h2⟩:=h
  rw[if_neg (by rw[hR];decide)]at h1
  exact⟨v,by rw[if_neg (by rw[hR];decide)],h1,h2⟩

theorem Ig(w:World)(x:Ah)(hm:MsgAt w x):
  Calls Tryd.prog 3 #[.agg (msgC x).toArray] w fun e w' =>e = .returned (.bool true)∧Ext w w' :=by
 have hmr:=hm.refs
 have hmw:=hm.wants
 have hmh:=hm.haves
 have hmb:=hm.bytes
 refine calls_of_wpF (args:= [.agg (msgC x).toArray]) Tryd.func3 rfl 42 rfl (Nat.le_of_ble_eq_true rfl) ?_
 intro a7 hb
 have p:a7 0=(.agg (msgC x).toArray:Value):=hb.get 0
 clear hb
 have hE:=Ext.refl w
 refine sk fun K1 a8=>(wt (oS rfl (Yk.box (cs:=(msgC x:List Value).toArray) p fun f w3 bx ay ba bz=> ?_)))
 have hE:=hE.trans ba
 have c:=ay;clear ay
 have b0:f<w3.heap.size:=by omega
 refine oA rfl (oZ (tN (a8 _ _ (sk fun b1 az=>(sk fun b2 bb=>(wt (oS rfl (Yk.loadAll (vr (PQ f 0) rfl) c (Nr).choose_spec rfl (Au (msg_len x) Mr) (oS rfl (Yk.callA1 M8 (vr (.agg (msgC x).toArray) rfl) ((MZ _ x (MsgAt.mk (hmr.keep hE) (hmw.keep hE) (hmh.keep hE) (hmb.keep hE))).mono ?_)))))))))))
 rintro e b3 ⟨rfl,a0⟩
 refine⟨_,rfl,?_⟩
 have hE:=hE.trans a0
 have c:=eb a0 c
 refine oS rfl (Yk.notB (vr (.bool (lightB x.1)) rfl) (oZ (tN (bb _ _ ?_))))
 refine Bz (!(lightB x.1)) (vr (.bool (!(lightB x.1))) rfl) (fun a1=> ?_) (fun a1=> ?_)
 ·refine sk fun b4 bc=>(wt (oA rfl (oZ (tN (bc _ _ (Ao (Ap (An (fn:=Tryd.f3) _ rfl [.bool (true)] (.bool (true)) rfl ⟨rfl,trivial⟩ ?_))))))))
  exact⟨rfl,hE⟩
 have hL:lightB x.1=true:=by simpa using a1
 have hLM:=LW hL
 cases hR:rightB x.1
 ·refine Ak (tN (az _ _ (sk fun b5 bd=>(wt (oS rfl (Yk.loadAll (vr (PQ f 0) rfl) c (Nr).choose_spec rfl (Au (msg_len x) Mr) (oS rfl (Yk.callA1 Fu (vr (.agg (msgC x).toArray) rfl) ((Fs _ x (MsgAt.mk (hmr.keep hE) (hmw.keep hE) (hmh.keep hE) (hmb.keep hE)) hLM).mono ?_)))))))))
  rintro e b6 ⟨X16,rfl,hXe16,hX16,a2⟩
  refine⟨_,rfl,?_⟩
  have hE:=hE.trans a2
  have c:=eb a2 c
  have hX16r:=hX16.refs
  have hX16w:=hX16.wants
  have hX16h:=hX16.haves
  have hX16b:=hX16.bytes
  refine oS rfl (Yk.callA1 I7 (vr (.agg (msgC X16).toArray) rfl) ((M0 _ X16 (MsgAt.mk hX16r hX16w hX16h hX16b) (by rw[hXe16];exact hLM.lt) (by rw[hXe16];exact hR)).mono ?_))
  rintro e b7 ⟨g,rfl,q,a3⟩
  refine⟨_,rfl,?_⟩
  have hE:=hE.trans a3
  have c:=eb a3 c
  refine oM rfl (oS rfl (Yk.extract (vs:= [g,NI 1]) (vr (.tuple #[g,NI 1]) rfl) (show _=some (g:Value)from rfl) (oS rfl (Yk.extract (vs:= [g,NI 1]) (vr (.tuple #[g,NI 1]) rfl) (show _=some (NI 1:Value)from rfl) (oA rfl (oA rfl (oZ (tN (bd _ _ (sk fun b8 be=>(wt (oS rfl (Yk.loadAll (vr (PQ f 0) rfl) c (Nr).choose_spec rfl (Au (msg_len x) Mr) (oS rfl (Yk.callA1 Jc (vr (.agg (msgC x).toArray) rfl) ((Ku _ x (MsgAt.mk (hmr.keep hE) (hmw.keep hE) (hmh.keep hE) (hmb.keep hE)) hLM.lt hR).mono ?_))))))))))))))))
  rintro e b9 ⟨i,rfl,bf,r⟩
  refine⟨_,rfl,?_⟩
  have hE:=hE.trans r
  have c:=eb r c
  have q:=q.keep r
  refine oM rfl (oS rfl (Yk.extract (vs:= [i,NI 1]) (vr (.tuple #[i,NI 1]) rfl) (show _=some (i:Value)from rfl) (oS rfl (Yk.extract (vs:= [i,NI 1]) (vr (.tuple #[i,NI 1]) rfl) (show _=some (NI 1:Value)from rfl) (oA rfl (oA rfl (oZ (tN (be _ _ (sk fun ca bg=> ?_))))))))))
  refine A2 [Is (g),Is (St (([]:List UInt8))),Is (i),Is (St (([]:List UInt8))),Is (.bool (true)),Is (.bool (true)),Is (NI 1),Is (NI 1),Is (.bool (true)),Is (.bool (true)),Is (.bool (true)),Is (.agg (msgC x).toArray),IsMsg x.1,Is (.bool (false)),Is (.agg (msgC x).toArray),Is (.bool (false)),Is (.bool (true)),Is (.bool (true)),Is (.bool (true)),Is (.bool (true)),Is (.bool (true)),Is (.bool (true))] (by kernel_rfl) [21,22,23,24,25,26,27,28,29,30,31,32,33,34,35,36,37,38,39,40,41,2] (by kernel_rfl) (by kernel_rfl) (B6 ⟨(IsMsg.stab _),(L7 trivial)⟩) ?bh ?hQ1005
  case bh=>
   refine⟨?_,?_,?_,?_,?_,?_,?_,?_,?_,?_,?_,?_,?_,?_,?_,?_,?_,?_,?_,?_,?_,?_,trivial⟩
   ·refine Aa rfl fun σ w1 hC h=> ?_
    have s:σ 3=g:=(Af (h 3 (by decide))).trans rfl
    exact Yk.move s ⟨Ext.refl _,rfl⟩
   ·refine Aa rfl fun σ w1 hC h=> ?_
    have t:=Af (h 21 (by decide))
    exact Yk.convRB El u5 CD (RB.of (q.keep hC) t) ⟨Ext.refl _,rfl⟩
   ·refine Aa rfl fun σ w1 hC h=> ?_
    have u:σ 5=i:=(Af (h 5 (by decide))).trans rfl
    exact Yk.move u ⟨Ext.refl _,rfl⟩
   ·refine Aa rfl fun σ w1 hC h=> ?_
    have v:=Af (h 23 (by decide))
    exact Yk.convRB El u5 CD (RB.of (bf.keep hC) v) ⟨Ext.refl _,rfl⟩
   ·refine Aa rfl fun σ w1 hC h=> ?_
    have y:=Af (h 22 (by decide))
    have z:=Af (h 24 (by decide))
    exact Yk.eqSt (l:=([]:List UInt8)) (m:=([]:List UInt8)) (.inl rfl) y z (decide (([]:List UInt8)=(([]:List UInt8):List UInt8))) rfl ⟨Ext.refl _,(congrArg Value.bool (decide_eq_true (rfl)))⟩
   ·refine Aa rfl fun σ w1 hC h=> ?_
    have aa:=Af (h 25 (by decide))
    exact Yk.move aa ⟨Ext.refl _,rfl⟩
   ·refine AD 5 true 26 rfl rfl (fun _ _ h=>h) fun σ w1 hC h=> ?_
    have e4:σ 4=NI 1:=(Af (h 4 (by decide))).trans rfl
    exact Yk.move e4 ⟨Ext.refl _,rfl⟩
   ·refine AD 5 true 26 rfl rfl (fun _ _ h=>h) fun σ w1 hC h=> ?_
    have e6:σ 6=NI 1:=(Af (h 6 (by decide))).trans rfl
    exact Yk.move e6 ⟨Ext.refl _,rfl⟩
   ·refine AD 5 true 26 rfl rfl (fun _ _ h=>h) fun σ w1 hC h=> ?_
    have ad:=Af (h 27 (by decide))
    have ae:=Af (h 28 (by decide))
    exact Yk.eqI (a:=(1:Nat)) (b:=(1:Nat)) ad ae (k_eql _ _ _ _) ⟨Ext.refl _,(congrArg Value.bool (decide_eq_true (rfl)))⟩
   ·refine Aa rfl fun σ w1 hC h=> ?_
    have af:=Af (h 26 (by decide))
    have ag:=Af (h 29 (by decide))
    exact Yk.pickT af ag ⟨Ext.refl _,rfl⟩
   ·refine Aa rfl fun σ w1 hC h=> ?_
    have ah:=Af (h 30 (by decide))
    exact Yk.move ah ⟨Ext.refl _,rfl⟩
   ·refine AD 10 true 31 rfl rfl (fun _ _ h=>h) fun σ w1 hC h=> ?_
    have n:σ 1=PQ f 0:=(Af (h 1 (by decide))).trans rfl
    exact Yk.loadAll n (eb hC c) (Nr).choose_spec rfl (Au (msg_len x) Mr) ⟨Ext.refl _,rfl⟩
   ·refine AD 10 true 31 rfl rfl (fun _ _ h=>h) fun σ w1 hC h=> ?_
    have ai:=Af (h 32 (by decide))
    refine Yk.callA1 Fu ai ((Fs _ x (MsgAt.mk (hmr.keep (hE.trans hC)) (hmw.keep (hE.trans hC)) (hmh.keep (hE.trans hC)) (hmb.keep (hE.trans hC))) hLM).mono ?_)
    rintro e o ⟨X,rfl,hX1,hXm,hx⟩
    exact⟨_,rfl,hx,X,rfl,hX1,hXm⟩
   ·refine AD 10 true 31 rfl rfl (fun _ _ h=>h) fun σ w1 hC h=> ?_
    have aj:(IsMsg x.1) (σ 33) w1:=h 33 (by decide)
    obtain⟨X,hXe,hX1,hXm⟩:=(show IsMsg x.1 (σ 33) w1 from aj)
    refine Yk.callA1 Nz hXe ((Ks (b:=false) _ X hXm (by rw[hX1];exact hLM.lt) (by rw[hX1];exact hR)).mono ?_)
    rintro e o ⟨rfl,hx⟩
    exact⟨_,rfl,hx,rfl⟩
   ·refine AD 10 true 31 rfl rfl (fun _ _ h=>h) fun σ w1 hC h=> ?_
    have n:σ 1=PQ f 0:=(Af (h 1 (by decide))).trans rfl
    exact Yk.loadAll n (eb hC c) (Nr).choose_spec rfl (Au (msg_len x) Mr) ⟨Ext.refl _,rfl⟩
   ·refine AD 10 true 31 rfl rfl (fun _ _ h=>h) fun σ w1 hC h=> ?_
    have ak:=Af (h 35 (by decide))
    refine Yk.callA1 Ft ak ((C9 _ x (MsgAt.mk (hmr.keep (hE.trans hC)) (hmw.keep (hE.trans hC)) (hmh.keep (hE.trans hC)) (hmb.keep (hE.trans hC))) hLM.lt hR).mono ?_)
    rintro e o ⟨rfl,hx⟩
    exact⟨_,rfl,hx,rfl⟩
   ·refine AD 10 true 31 rfl rfl (fun _ _ h=>h) fun σ w1 hC h=> ?_
    have al:=Af (h 34 (by decide))
    have am:=Af (h 36 (by decide))
    exact Yk.eqBool (a:=false) (b:=false) De al am ⟨Ext.refl _,(congrArg Value.bool (rfl))⟩
   ·refine Aa rfl fun σ w1 hC h=> ?_
    have an:=Af (h 31 (by decide))
    have ao:=Af (h 37 (by decide))
    exact Yk.pickT an ao ⟨Ext.refl _,rfl⟩
   ·refine Aa rfl fun σ w1 hC h=> ?_
    have ap:=Af (h 38 (by decide))
    exact Yk.move ap ⟨Ext.refl _,rfl⟩
   ·refine AD 18 true 39 rfl rfl (fun _ _ h=>h) fun σ w1 hC h=>(Yk.callA0 Jd ((GT _).mono ?_))
    rintro e o ⟨rfl,hx⟩
    exact⟨_,rfl,hx,rfl⟩
   ·refine Aa rfl fun σ w1 hC h=> ?_
    have aq:=Af (h 39 (by decide))
    have ar:=Af (h 40 (by decide))
    exact Yk.pickT aq ar ⟨Ext.refl _,rfl⟩
   ·refine Aa rfl fun σ w1 hC h=> ?_
    have au:=Af (h 41 (by decide))
    exact Yk.assign au ⟨Ext.refl _,rfl⟩
  intro bi cb a4 he hf
  obtain⟨-,-,-,-,-,-,-,-,-,-,-,-,-,-,-,-,-,-,-,-,-,k2,-⟩:=hf
  obtain⟨p,T1,T3,T4,T5,T6,-⟩:=he.hold [(0,_),(1,PQ f 0),(3,g),(4,NI 1),(5,i),(6,NI 1)] ⟨p,rfl,rfl,rfl,rfl,rfl,trivial⟩ rfl
  clear he
  have hE:=hE.trans a4
  have c:=eb a4 c
  have T2:bi 2 = .bool (true):=k2
  clear k2
  refine tN (bg _ _ (Ao (An (fn:=Tryd.f3) _ rfl [.bool (true)] (.bool (true)) rfl ⟨T2,trivial⟩ ?_)))
  exact⟨rfl,hE⟩
 refine Ak (tN (az _ _ (sk fun cc bp=>(wt (oS rfl (Yk.loadAll (vr (PQ f 0) rfl) c (Nr).choose_spec rfl (Au (msg_len x) Mr) (oS rfl (Yk.callA1 Fu (vr (.agg (msgC x).toArray) rfl) ((Fs _ x (MsgAt.mk (hmr.keep hE) (hmw.keep hE) (hmh.keep hE) (hmb.keep hE)) hLM).mono ?_)))))))))
 rintro e cd ⟨X32,rfl,hXe32,hX32,a5⟩
 refine⟨_,rfl,?_⟩
 have hE:=hE.trans a5
 have c:=eb a5 c
 have hX32r:=hX32.refs
 have hX32w:=hX32.wants
 have hX32h:=hX32.haves
 have hX32b:=hX32.bytes
 refine oS rfl (Yk.callA1 I7 (vr (.agg (msgC X32).toArray) rfl) ((L0 _ X32 (MsgAt.mk hX32r hX32w hX32h hX32b) (by rw[hXe32];exact hLM.lt) (by rw[hXe32];exact hR)).mono ?_))
 rintro e ce ⟨j,rfl,aw,a6⟩
 refine⟨_,rfl,?_⟩
 have hE:=hE.trans a6
 have c:=eb a6 c
 refine oM rfl (oS rfl (Yk.extract (vs:= [j,NI 0]) (vr (.tuple #[j,NI 0]) rfl) (show _=some (j:Value)from rfl) (oS rfl (Yk.extract (vs:= [j,NI 0]) (vr (.tuple #[j,NI 0]) rfl) (show _=some (NI 0:Value)from rfl) (oA rfl (oA rfl (oZ (tN (bp _ _ (sk fun cf bq=>(wt (oS rfl (Yk.loadAll (vr (PQ f 0) rfl) c (Nr).choose_spec rfl (Au (msg_len x) Mr) (oS rfl (Yk.callA1 Jc (vr (.agg (msgC x).toArray) rfl) ((Jw _ x (MsgAt.mk (hmr.keep hE) (hmw.keep hE) (hmh.keep hE) (hmb.keep hE)) hLM.lt hR).mono ?_))))))))))))))))
 rintro e cg ⟨k,rfl,br,ax⟩
 refine⟨_,rfl,?_⟩
 have hE:=hE.trans ax
 have c:=eb ax c
 have aw:=aw.keep ax
 refine oM rfl (oS rfl (Yk.extract (vs:= [k,NI 0]) (vr (.tuple #[k,NI 0]) rfl) (show _=some (k:Value)from rfl) (oS rfl (Yk.extract (vs:= [k,NI 0]) (vr (.tuple #[k,NI 0]) rfl) (show _=some (NI 0:Value)from rfl) (oA rfl (oA rfl (oZ (tN (bq _ _ (sk fun ch bs=> ?_))))))))))
 refine A2 [Is (j),Is (St (encB X32.1)),Is (k),Is (St (encB x.1)),Is (.bool (true)),Is (.bool (true)),Is (NI 0),Is (NI 0),Is (.bool (true)),Is (.bool (true)),Is (.bool (true)),Is (.agg (msgC x).toArray),IsMsg x.1,Is (.bool (true)),Is (.agg (msgC x).toArray),Is (.bool (true)),Is (.bool (true)),Is (.bool (true)),Is (.bool (true)),Is (.bool (true)),Is (.bool (true)),Is (.bool (true))] (by kernel_rfl) [21,22,23,24,25,26,27,28,29,30,31,32,33,34,35,36,37,38,39,40,41,2] (by kernel_rfl) (by kernel_rfl) (B6 ⟨(IsMsg.stab _),(L7 trivial)⟩) ?bt ?hQ2005
 case bt=>
  refine⟨?_,?_,?_,?_,?_,?_,?_,?_,?_,?_,?_,?_,?_,?_,?_,?_,?_,?_,?_,?_,?_,?_,trivial⟩
  ·refine Aa rfl fun σ w1 hC h=> ?_
   have s:σ 3=j:=(Af (h 3 (by decide))).trans rfl
   exact Yk.move s ⟨Ext.refl _,rfl⟩
  ·refine Aa rfl fun σ w1 hC h=> ?_
   have t:=Af (h 21 (by decide))
   exact Yk.convRB El u5 CD (RB.of (aw.keep hC) t) ⟨Ext.refl _,rfl⟩
  ·refine Aa rfl fun σ w1 hC h=> ?_
   have u:σ 5=k:=(Af (h 5 (by decide))).trans rfl
   exact Yk.move u ⟨Ext.refl _,rfl⟩
  ·refine Aa rfl fun σ w1 hC h=> ?_
   have v:=Af (h 23 (by decide))
   exact Yk.convRB El u5 CD (RB.of (br.keep hC) v) ⟨Ext.refl _,rfl⟩
  ·refine Aa rfl fun σ w1 hC h=> ?_
   have y:=Af (h 22 (by decide))
   have z:=Af (h 24 (by decide))
   exact Yk.eqSt (l:=encB X32.1) (m:=encB x.1) (.inl rfl) y z (decide ((encB X32.1:List UInt8)=(encB x.1:List UInt8))) rfl ⟨Ext.refl _,(congrArg Value.bool (decide_eq_true (by rw[hXe32])))⟩
  ·refine Aa rfl fun σ w1 hC h=> ?_
   have aa:=Af (h 25 (by decide))
   exact Yk.move aa ⟨Ext.refl _,rfl⟩
  ·refine AD 5 true 26 rfl rfl (fun _ _ h=>h) fun σ w1 hC h=> ?_
   have e4:σ 4=NI 0:=(Af (h 4 (by decide))).trans rfl
   exact Yk.move e4 ⟨Ext.refl _,rfl⟩
  ·refine AD 5 true 26 rfl rfl (fun _ _ h=>h) fun σ w1 hC h=> ?_
   have e6:σ 6=NI 0:=(Af (h 6 (by decide))).trans rfl
   exact Yk.move e6 ⟨Ext.refl _,rfl⟩
  ·refine AD 5 true 26 rfl rfl (fun _ _ h=>h) fun σ w1 hC h=> ?_
   have ad:=Af (h 27 (by decide))
   have ae:=Af (h 28 (by decide))
   exact Yk.eqI (a:=(0:Nat)) (b:=(0:Nat)) ad ae (k_eql _ _ _ _) ⟨Ext.refl _,(congrArg Value.bool (decide_eq_true (rfl)))⟩
  ·refine Aa rfl fun σ w1 hC h=> ?_
   have af:=Af (h 26 (by decide))
   have ag:=Af (h 29 (by decide))
   exact Yk.pickT af ag ⟨Ext.refl _,rfl⟩
  ·refine Aa rfl fun σ w1 hC h=> ?_
   have ah:=Af (h 30 (by decide))
   exact Yk.move ah ⟨Ext.refl _,rfl⟩
  ·refine AD 10 true 31 rfl rfl (fun _ _ h=>h) fun σ w1 hC h=> ?_
   have n:σ 1=PQ f 0:=(Af (h 1 (by decide))).trans rfl
   exact Yk.loadAll n (eb hC c) (Nr).choose_spec rfl (Au (msg_len x) Mr) ⟨Ext.refl _,rfl⟩
  ·refine AD 10 true 31 rfl rfl (fun _ _ h=>h) fun σ w1 hC h=> ?_
   have ai:=Af (h 32 (by decide))
   refine Yk.callA1 Fu ai ((Fs _ x (MsgAt.mk (hmr.keep (hE.trans hC)) (hmw.keep (hE.trans hC)) (hmh.keep (hE.trans hC)) (hmb.keep (hE.trans hC))) hLM).mono ?_)
   rintro e o ⟨X,rfl,hX1,hXm,hx⟩
   exact⟨_,rfl,hx,X,rfl,hX1,hXm⟩
  ·refine AD 10 true 31 rfl rfl (fun _ _ h=>h) fun σ w1 hC h=> ?_
   have aj:(IsMsg x.1) (σ 33) w1:=h 33 (by decide)
   obtain⟨X,hXe,hX1,hXm⟩:=(show IsMsg x.1 (σ 33) w1 from aj)
   refine Yk.callA1 Nz hXe ((Ks (b:=true) _ X hXm (by rw[hX1];exact hLM.lt) (by rw[hX1];exact hR)).mono ?_)
   rintro e o ⟨rfl,hx⟩
   exact⟨_,rfl,hx,rfl⟩
  ·refine AD 10 true 31 rfl rfl (fun _ _ h=>h) fun σ w1 hC h=> ?_
   have n:σ 1=PQ f 0:=(Af (h 1 (by decide))).trans rfl
   exact Yk.loadAll n (eb hC c) (Nr).choose_spec rfl (Au (msg_len x) Mr) ⟨Ext.refl _,rfl⟩
  ·refine AD 10 true 31 rfl rfl (fun _ _ h=>h) fun σ w1 hC h=> ?_
   have ak:=Af (h 35 (by decide))
   refine Yk.callA1 Ft ak ((C9 _ x (MsgAt.mk (hmr.keep (hE.trans hC)) (hmw.keep (hE.trans hC)) (hmh.keep (hE.trans hC)) (hmb.keep (hE.trans hC))) hLM.lt hR).mono ?_)
   rintro e o ⟨rfl,hx⟩
   exact⟨_,rfl,hx,rfl⟩
  ·refine AD 10 true 31 rfl rfl (fun _ _ h=>h) fun σ w1 hC h=> ?_
   have al:=Af (h 34 (by decide))
   have am:=Af (h 36 (by decide))
   exact Yk.eqBool (a:=true) (b:=true) De al am ⟨Ext.refl _,(congrArg Value.bool (rfl))⟩
  ·refine Aa rfl fun σ w1 hC h=> ?_
   have an:=Af (h 31 (by decide))
   have ao:=Af (h 37 (by decide))
   exact Yk.pickT an ao ⟨Ext.refl _,rfl⟩
  ·refine Aa rfl fun σ w1 hC h=> ?_
   have ap:=Af (h 38 (by decide))
   exact Yk.move ap ⟨Ext.refl _,rfl⟩
  ·refine AD 18 true 39 rfl rfl (fun _ _ h=>h) fun σ w1 hC h=>(Yk.callA0 Jd ((GT _).mono ?_))
   rintro e o ⟨rfl,hx⟩
   exact⟨_,rfl,hx,rfl⟩
  ·refine Aa rfl fun σ w1 hC h=> ?_
   have aq:=Af (h 39 (by decide))
   have ar:=Af (h 40 (by decide))
   exact Yk.pickT aq ar ⟨Ext.refl _,rfl⟩
  ·refine Aa rfl fun σ w1 hC h=> ?_
   have au:=Af (h 41 (by decide))
   exact Yk.assign au ⟨Ext.refl _,rfl⟩
 intro bu ci bv he hf
 obtain⟨-,-,-,-,-,-,-,-,-,-,-,-,-,-,-,-,-,-,-,-,-,k2,-⟩:=hf
 obtain⟨p,T1,T3,T4,T5,T6,-⟩:=he.hold [(0,_),(1,PQ f 0),(3,j),(4,NI 0),(5,k),(6,NI 0)] ⟨p,rfl,rfl,rfl,rfl,rfl,trivial⟩ rfl
 clear he
 have hE:=hE.trans bv
 have T2:bu 2 = .bool (true):=k2
 clear k2
 refine tN (bs _ _ (Ao (An (fn:=Tryd.f3) _ rfl [.bool (true)] (.bool (true)) rfl ⟨T2,trivial⟩ ?_)))
 exact⟨rfl,hE⟩
end Go.Proofs.YtmonlobfofkbdaaDoor
