/- Part 7 of what stands behind these statements: laws and walks of the functions that are reached. Conditions: those that each theorem names. -/
import Derived.Test.YtejpjjhkjdpeaaaGreatDoorZ6
set_option linter.unusedVariables false
set_option linter.unusedSimpArgs false
namespace Go.Proofs.YtejpjjhkjdpeaaaGreatDoor
open Go.RowKit
set_option maxRecDepth 100000
set_option linter.unusedVariables false
set_option linter.unusedSimpArgs false
theorem DY:zid32.length=32:=rfl
def C3(D:An)(a:Qa):An:=
 if Db a.kind=0 then(A2 D a.bytes).1
 else if Db a.kind=1 then D
 else if Db a.kind=2 then(BY D (Sha.sum a.bytes)).1
 else if Db a.kind=3 then(Af D (Ad (Sha.sum a.bytes)) a.other).1
 else if Db a.kind=4 then BS D a.fates
 else { D with arm:=a.n.toNat }
theorem FitD.actL{n:Nat}{D:An}(h:FitD n D){a:Qa}(hb:a.bytes.length≤300)(ho:a.other.length≤300)(hn:a.n≤9223372036854775807):FitD (n+3) (C3 D a):=by
 unfold Go.Proofs.YtejpjjhkjdpeaaaGreatDoor.C3
 split
 ·exact h.put hb
 split
 ·exact h.mono (by omega)
 split
 ·exact(h.dropL _).mono (by omega)
 split
 ·exact(h.append _ ho).mono (by omega)
 split
 ·exact(h.crash _).mono (by omega)
 ·exact(h.arm (by omega)).mono (by omega)
theorem LX(wb w:World)(g:Nat)(H:Dk)(D:An)(hD:DkG wb w g H D)(hG:Laid wb)(hL:Co D)(id:List UInt8)(hid:id.length=32){b:Bool}(hb:decide ((A8 D id).2=0)=b):
  Calls Tryz.prog 21 #[PQ g 0,AB id] w fun e w' =>e = .returned (.bool b)∧Ext w w' :=by
 subst hb
 exact LG wb w g H D hD hG hL id hid
theorem Ie:A3 Tryz.prog 37 0 0:=fun b o w=>by simp[go_sem]
theorem KS:Plain Tryz.prog 17:=fun _ _=>by kernel_rfl
theorem AU:GP Tryz.prog 31 rdkC:=⟨⟨_,(FH).choose_spec⟩,fun x=>AN (Ay x) E0⟩
theorem KT:Plain Tryz.prog 18:=fun _ _=>by kernel_rfl
theorem KU:Plain Tryz.prog 22:=fun _ _=>by kernel_rfl
theorem KV:Plain Tryz.prog 23:=fun _ _=>by kernel_rfl
theorem KW:Plain Tryz.prog 28:=fun _ _=>by kernel_rfl
theorem KX:Plain Tryz.prog 29:=fun _ _=>by kernel_rfl
theorem FM:A3 Tryz.prog 37 3 3:=fun b o w=>by simp[go_sem]
theorem KY:Plain Tryz.prog 30:=fun _ _=>by kernel_rfl
set_option maxHeartbeats 1600000
theorem Lr(w:World)(hG:Laid w)(q:Int)(x:BT)(hx:LacAt w x)(hbl:x.1.bytes.length≤300)(hol:x.1.other.length≤300)(hfs:x.1.fates.length≤100):
  Calls Tryz.prog 7 #[.pointer none, .agg (rdkC (AK q)).toArray, .agg (lacC x).toArray] w fun e w' =>e = .returned (.tuple #[.agg (rdkC (AK q)).toArray, .bool true])∧Ext w w' :=by
 have hxb:=hx.bytes
 have hxo:=hx.other
 have hxf:=hx.fates
 refine gG (args:= [.pointer none, .agg (rdkC (AK q)).toArray, .agg (lacC x).toArray]) Tryz.func7 rfl 163 rfl rfl ?_
 have hE:=Ext.refl w
 refine gS (Yk.box (cs:=(rdkC (AK q):List Value).toArray) (vr (.agg (rdkC (AK q)).toArray) rfl) fun n2 w3 em b3 c0 en=> ?_)
 have c:=b3;clear b3
 have eo:n2<w3.heap.size:=by omega
 refine gS (Yk.box (cs:=(lacC x:List Value).toArray) (vr (.agg (lacC x).toArray) rfl) fun b4 c1 c2 b5 b6 ep=> ?_)
 have hE:=hE.trans c0
 have eq:=hE.size
 have er:=AE (bl c) c2
 have g:=b5;clear b5
 have es:b4<c1.heap.size:=by omega
 refine gS (Yk.alloc (cs:=(rdkC ((⟨false,0,[],[],[],[],[],0,0,false⟩,⟨.slice none 0 0, .slice none 0 0, .slice none 0 0, .slice none 0 0, .slice none 0 0⟩):Au)).toArray) Ku fun p c3 b7 b8 bg et=> ?_)
 have hE:=hE.trans b6
 have al:=hE.size
 have c:=eb b6 c
 have eu:=AE (bl c) b7
 have ew:=AE (bl g) b7
 have f:=b8;clear b8
 have ex:p<c3.heap.size:=by omega
 have hE:=hE.trans bg
 have g:=eb bg g
 refine gS (Yk.fieldAt MH rfl (gS (Yk.cell1 S2 rfl rfl (cellAt g (EJ x)) (gS (Yk.callA1 P4 rfl ((Da _ x.2.bytes x.1.bytes (hxb.keep hE) (by omega)).mono ?_))))))
 rintro e ey ⟨rfl,a2⟩
 refine⟨_,rfl,?_⟩
 refine gS (Yk.alloc (cs:=(Lib.byteCells (List.replicate 32 0)).toArray) IX fun bh c4 bi b9 a3 ez=> ?_)
 have hE:=hE.trans a2
 have c5:=hE.size
 have c:=eb (bg.trans a2) c
 have e0:=AE (bl c) bi
 have g:=eb a2 g
 have e1:=AE (bl g) bi
 have f:=eb a2 f
 have e2:=AE (bl f) bi
 have h:=b9;clear b9
 have e3:bh<c4.heap.size:=by omega
 refine gS (Yk.storeAll (vr (PQ bh 0) rfl) (vr (AB (Sha.sum x.1.bytes)) rfl) h (by exact Bg (Sha.sum_length _) List.length_replicate) (by exact Ae (Sha.sum_length _)) (Ah _) fun ca cb a4 e4=> ?_)
 have hE:=hE.trans a3
 have hE:=Aa hE a4 (Nat.le_trans c5 (by omega))
 have c:=eb a3 c
 have c:=kb a4 c (by omega)
 have g:=eb a3 g
 have g:=kb a4 g (by omega)
 have f:=eb a3 f
 have f:=kb a4 f (by omega)
 clear h
 have h:=cb;clear cb
 have e5:=bl h
 have hbd:=EB x.1.kind 5
 refine gS (Yk.fieldAt Ie rfl (gS (Yk.cell1 Pb rfl rfl (cellAt g (N5 x)) (gS (Yk.bin (xv:= .int .i64 (x.1.kind)) (yv:=NI 6) rfl rfl rfl (Gd _ (x.1.kind) _ (by decide)) (gS (Yk.bin (xv:= .int .i64 ((Int.tmod (x.1.kind) ((5+1:Nat):Int)))) (yv:= .int .i64 (((6:Nat):Int))) rfl rfl rfl (Gc _ ((Int.tmod (x.1.kind) ((5+1:Nat):Int))) (((6:Nat):Int)) (by omega)) (gS (Yk.bin (xv:= .int .i64 ((((Int.tmod (x.1.kind) ((5+1:Nat):Int)))+(((6:Nat):Int))))) (yv:=NI 6) rfl rfl rfl (It _ (x.1.kind) 5 _ (by omega)) (gS (Yk.eqI (a:=((Db x.1.kind):Nat)) (b:=(0:Nat)) rfl rfl (AY _ _ _ _) ?_)))))))))))
 refine cD rfl (fun c6=> ?_) fun c6=> ?_
 ·refine gS (Yk.fieldAt MH rfl (gS (Yk.cell1 S2 rfl rfl (cellAt g (EJ x)) (gS (Yk.callA1 KS rfl ((JP _ x.2.bytes (x.1.bytes) (hxb.keep hE) (by omega)).mono ?_))))))
  rintro e e6 ⟨aq,rfl,a5⟩
  refine⟨_,rfl,?_⟩
  have e7:=hE.size
  have c7:OB aq p:=Ao a5.own (bl f)
  have i:=a5.own
  have hE:=hE.trans a5.ext
  refine gS (Yk.callA2 P2 rfl rfl ((RT _ (hG.keep hE) aq x.1.bytes (RB.ofOwn (CJ (l' :=x.1.bytes) i (by first | rfl | exact List.nil_append _))) hbl).mono ?_))
  rintro e cc ⟨rfl,bj⟩
  refine⟨_,rfl,?_⟩
  have c8:RB cc (.slice none 0 0) []:=RB.nil _
  refine gS (Yk.extract (vs:= [AB zid32, .slice none 0 0,NI 1]) rfl rfl (gS (Yk.extract (vs:= [AB zid32, .slice none 0 0,NI 1]) rfl rfl (gS (Yk.extract (vs:= [AB zid32, .slice none 0 0,NI 1]) rfl rfl (gS (Yk.alloc (cs:=(Lib.byteCells (List.replicate 32 0)).toArray) IX fun bk c9 a6 cd ah e8=> ?_)))))))
  have o:=Ext.refl cc
  have hE:=hE.trans bj
  have da:=hE.size
  have hZ1:=a5.ext.trans bj
  have c:=eb hZ1 c
  have e9:=AE (bl c) a6
  have g:=eb hZ1 g
  have fa:=AE (bl g) a6
  have f:=eb hZ1 f
  have fb:=AE (bl f) a6
  have h:=eb hZ1 h
  have fc:=AE (bl h) a6
  have i:=Stab.own _ _ _ _ _ _ _ _ i bj
  have db:OB aq bk:=By i (by omega)
  have j:=cd;clear cd
  have fd:bk<c9.heap.size:=by omega
  refine gS (Yk.storeAll (vr (PQ bk 0) rfl) (vr (AB zid32) rfl) j (by exact Bg DY List.length_replicate) (by exact Ae DY) (Ah _) fun fe ce ai ff=> ?_)
  have hE:=hE.trans ah
  have hE:=Aa hE ai (Nat.le_trans da (by omega))
  have c:=eb ah c
  have c:=kb ai c (by omega)
  have g:=eb ah g
  have g:=kb ai g (by omega)
  have f:=eb ah f
  have f:=kb ai f (by omega)
  have h:=eb ah h
  have h:=kb ai h (by omega)
  have i:=Stab.own _ _ _ _ _ _ _ _ i ah
  have i:=A5 i ai db
  have o:=o.trans ah
  have o:=Aa o ai (Nat.le_trans (Nat.le_refl _) (by omega))
  clear j
  have j:=ce;clear ce
  have fg:=bl j
  refine gS (Yk.loadSt AU rfl c (gS (Yk.fieldAt MH rfl (gS (Yk.cell1 S2 rfl rfl (cellAt g (EJ x)) (gS (Yk.callA2 KT rfl rfl ((RR _ q x.2.bytes x.1.bytes (hxb.keep hE) hbl).mono ?_))))))))
  rintro e cf ⟨rfl,ae⟩
  refine⟨_,rfl,?_⟩
  have dc:RB cf (.slice none 0 0) []:=RB.nil _
  refine gS (Yk.extract (vs:= [.agg (rdkC (AK q)).toArray,AB zid32, .slice none 0 0,NI 1]) rfl rfl (gS (Yk.extract (vs:= [.agg (rdkC (AK q)).toArray,AB zid32, .slice none 0 0,NI 1]) rfl rfl (gS (Yk.extract (vs:= [.agg (rdkC (AK q)).toArray,AB zid32, .slice none 0 0,NI 1]) rfl rfl (gS (Yk.extract (vs:= [.agg (rdkC (AK q)).toArray,AB zid32, .slice none 0 0,NI 1]) rfl rfl (gS (Yk.alloc (cs:=(rdkC ((⟨false,0,[],[],[],[],[],0,0,false⟩,⟨.slice none 0 0, .slice none 0 0, .slice none 0 0, .slice none 0 0, .slice none 0 0⟩):Au)).toArray) Ku fun a7 dd ar cg ac fh=> ?_)))))))))
  have s:=Ext.refl cf
  have hE:=hE.trans ae
  have de:=hE.size
  have o:=o.trans ae
  have df:=o.size
  have c:=eb ae c
  have fi:=AE (bl c) ar
  have g:=eb ae g
  have fj:=AE (bl g) ar
  have f:=eb ae f
  have fk:=AE (bl f) ar
  have h:=eb ae h
  have fl:=AE (bl h) ar
  have j:=eb ae j
  have fm:=AE (bl j) ar
  have i:=Stab.own _ _ _ _ _ _ _ _ i ae
  have dh:OB aq a7:=By i (by omega)
  have r:=cg;clear cg
  have fn:a7<dd.heap.size:=by omega
  refine gS (Yk.alloc (cs:=(Lib.byteCells (List.replicate 32 0)).toArray) IX fun bm di am ch z fo=> ?_)
  have hE:=hE.trans ac
  have dj:=hE.size
  have o:=o.trans ac
  have dk:=o.size
  have s:=s.trans ac
  have dl:=s.size
  have c:=eb ac c
  have fp:=AE (bl c) am
  have g:=eb ac g
  have fq:=AE (bl g) am
  have f:=eb ac f
  have fr:=AE (bl f) am
  have h:=eb ac h
  have fs:=AE (bl h) am
  have j:=eb ac j
  have ft:=AE (bl j) am
  have fu:=AE (bl r) am
  have i:=Stab.own _ _ _ _ _ _ _ _ i ac
  have dm:OB aq bm:=By i (by omega)
  have t:=ch;clear ch
  have fv:bm<di.heap.size:=by omega
  have r:=eb z r
  refine gS (Yk.storeSt AU (vr (PQ a7 0) rfl) (vr (.agg (rdkC (AK q)).toArray) rfl) r (AA (x:=(AK q)) rfl rfl rfl rfl rfl) fun dn ci aa fw=> ?_)
  have hE:=hE.trans z
  have hE:=Aa hE aa (Nat.le_trans de (by omega))
  have c:=eb z c
  have c:=kb aa c (by omega)
  have g:=eb z g
  have g:=kb aa g (by omega)
  have f:=eb z f
  have f:=kb aa f (by omega)
  have h:=eb z h
  have h:=kb aa h (by omega)
  have i:=Stab.own _ _ _ _ _ _ _ _ i z
  have i:=A5 i aa dh
  have o:=o.trans z
  have o:=Aa o aa (Nat.le_trans df (by omega))
  have j:=eb z j
  have j:=kb aa j (by omega)
  have s:=s.trans z
  have s:=Aa s aa (Nat.le_trans (Nat.le_refl _) (by omega))
  have t:=kb aa t (by omega)
  clear r
  have r:dn.heap[a7]? =some (.cells (rdkC (AK q)).toArray 31 (0,0)):=ci;clear ci
  have fx:=bl r
  refine gS (Yk.storeAll (vr (PQ bm 0) rfl) (vr (AB zid32) rfl) t (by exact Bg DY List.length_replicate) (by exact Ae DY) (Ah _) fun fy cj ab fz=> ?_)
  have hE:=Aa hE ab (Nat.le_trans dj (by omega))
  have c:=kb ab c (by omega)
  have g:=kb ab g (by omega)
  have f:=kb ab f (by omega)
  have h:=kb ab h (by omega)
  have i:=A5 i ab dm
  have o:=Aa o ab (Nat.le_trans dk (by omega))
  have j:=kb ab j (by omega)
  have s:=Aa s ab (Nat.le_trans dl (by omega))
  have r:=kb ab r (by omega)
  clear t
  have t:=cj;clear cj
  have f0:=bl t
  refine B5 [0,1,2,3,4,5,6,7,8,9,10,11,12,13,14,15,16,17] [16] [14,15] fun f1 v=> ?_
  have f:=eb v f
  have o:=o.trans v
  have j:=eb v j
  have s:=s.trans v
  have r:=eb v r
  have t:=eb v t
  refine ys (Yk.loadSt AU rfl r zz) (ys (Yk.loadAll rfl j IU rfl (by exact Ae DY) zz) (ys (Yk.loadAll rfl t IU rfl (by exact Ae DY) zz) (ys (Yk.eqArr (l1:=zid32) (l2:=zid32) IU Ds Fy PJ rfl rfl (DY) (DY) zz) (kT (rfl) (ys (Yk.convRB S2 Ds Io (RB.of (c8.keep o) rfl) zz) (ys (Yk.convRB S2 Ds Io (RB.of (dc.keep s) rfl) zz) (ys (Yk.eqSt (l:=([]:List UInt8)) (m:=([]:List UInt8)) (.inl rfl) rfl rfl (decide (([]:List UInt8)=(([]:List UInt8):List UInt8))) rfl zz) (kT (rfl) (ys (Yk.pickT rfl rfl zz) (yp (Yk.eqI (a:=(1:Nat)) (b:=(1:Nat)) rfl rfl (AY _ _ _ _) zz) (kT (rfl) (yp (Yk.pickT rfl rfl zz) (yC (Yk.storeSt AU (vr (PQ p 0) rfl) (vr (.agg (rdkC (AK q)).toArray) rfl) f (AA (x:=(AK q)) rfl rfl rfl rfl rfl) fun dp ck af f2=> ?_))))))))))))))
  have hE:=hE.trans v
  have hE:=Aa hE af (Nat.le_trans al (by omega))
  have c:=eb v c
  have c:=kb af c (by omega)
  have g:=eb v g
  have g:=kb af g (by omega)
  have h:=eb v h
  have h:=kb af h (by omega)
  have i:=Stab.own _ _ _ _ _ _ _ _ i v
  have i:=A5 i af c7
  clear o
  have j:=kb af j (by omega)
  clear s
  have r:=kb af r (by omega)
  have t:=kb af t (by omega)
  clear f
  have f:dp.heap[p]? =some (.cells (rdkC (AK q)).toArray 31 (0,0)):=ck;clear ck
  have f3:=bl f
  refine B2 rfl (ResF.row rfl f (FH).choose_spec rfl (AN (Ay _) E0)) (vr (.bool (true)) rfl) ?_
  exact⟨rfl,hE⟩
 refine gS (Yk.eqI (a:=((Db x.1.kind):Nat)) (b:=(1:Nat)) rfl rfl (AY _ _ _ _) ?_)
 refine cD rfl (fun dq=> ?_) fun dq=> ?_
 ·refine gS (Yk.loadAll rfl h IU rfl (by exact Ae (Sha.sum_length _)) (gS (Yk.callA2 PK rfl rfl ((LW _ (Sha.sum x.1.bytes) (Sha.sum_length _)).mono ?_))))
  rintro e dr ⟨rfl,bn⟩
  refine⟨_,rfl,?_⟩
  have a8:RB dr (.slice none 0 0) []:=RB.nil _
  have c:=eb bn c
  have h:=eb bn h
  refine gS (Yk.extract (vs:= [(.slice none 0 0),NI 1]) rfl rfl (gS (Yk.extract (vs:= [(.slice none 0 0),NI 1]) rfl rfl (gS (Yk.loadSt AU rfl c (gS (Yk.loadAll rfl h IU rfl (by exact Ae (Sha.sum_length _)) (gS (Yk.callA2 Hs rfl rfl ((RS _ q (Sha.sum x.1.bytes) (Sha.sum_length _)).mono ?_))))))))))
  rintro e ds ⟨rfl,cl⟩
  refine⟨_,rfl,?_⟩
  have a9:RB ds (.slice none 0 0) []:=RB.nil _
  refine gS (Yk.extract (vs:= [(.slice none 0 0),NI 1]) rfl rfl (gS (Yk.extract (vs:= [(.slice none 0 0),NI 1]) rfl rfl (BV [0,1,2,3,4,5,6,7,8,9,10,11,12,13,15,16,14,17,18,19,20] [14,19] [16,17,18] [0] fun dt bo=> ?_))))
  have ba:=Ext.refl dt
  have hZ2:=cl.trans bo
  have c:=eb hZ2 c
  have h:=eb hZ2 h
  have a8:=a8.keep hZ2
  have a9:=a9.keep bo
  refine BM ba ?_
  refine yf (fun _ ⟨hZ,_⟩=>Yk.loadSt AU rfl (eb hZ c) zz) (ys (Yk.convRB S2 Ds Io (RB.of a8 rfl) zz) (ys (Yk.convRB S2 Ds Io (RB.of a9 rfl) zz) (ys (Yk.eqSt (l:=([]:List UInt8)) (m:=([]:List UInt8)) (.inl rfl) rfl rfl (decide (([]:List UInt8)=(([]:List UInt8):List UInt8))) rfl zz) (kT (rfl) (ys (Yk.eqI (a:=(1:Nat)) (b:=(1:Nat)) rfl rfl (AY _ _ _ _) zz) (kT (rfl) (ys (Yk.pickT rfl rfl zz) (ys (Yk.loadAll rfl h IU rfl (by exact Ae (Sha.sum_length _)) zz) (yp (Yk.eqI (a:=(1:Nat)) (b:=(0:Nat)) rfl rfl (AY _ _ _ _) zz) (kF (by decide) (yE (Yk.callA2 PV rfl rfl ((QF _ (Sha.sum x.1.bytes) (Sha.sum_length _)).mono ?_)))))))))))))
  rintro e f4 ⟨rfl,bb⟩
  refine⟨_,rfl,?_⟩
  have hZ3:=((bn.trans cl).trans bo).trans bb
  have f:=eb hZ3 f
  have ba:=ba.trans bb
  refine⟨ba,?_⟩
  refine yp (Yk.eqBool (a:=false) (b:=false) Q3 rfl rfl zz) (kB (rfl) (yp (Yk.pickT rfl rfl zz) (yD rfl (Yk.storeSt AU (vr (PQ p 0) rfl) (vr (.agg (rdkC (AK q)).toArray) rfl) f (AA (x:=(AK q)) rfl rfl rfl rfl rfl) fun du cm bc f5=> ?_))))
  have hE:=hE.trans hZ3
  have hE:=Aa hE bc (Nat.le_trans al (by omega))
  have c:=eb bb c
  have c:=kb bc c (by omega)
  have g:=eb hZ3 g
  have g:=kb bc g (by omega)
  have h:=eb bb h
  have h:=kb bc h (by omega)
  clear a8
  clear a9
  clear f
  have f:du.heap[p]? =some (.cells (rdkC (AK q)).toArray 31 (0,0)):=cm;clear cm
  have f6:=bl f
  refine B2 rfl (ResF.row rfl f (FH).choose_spec rfl (AN (Ay _) E0)) (vr (.bool (true)) rfl) ?_
  exact⟨rfl,hE⟩
 refine gS (Yk.eqI (a:=((Db x.1.kind):Nat)) (b:=(2:Nat)) rfl rfl (AY _ _ _ _) ?_)
 refine cD rfl (fun dv=> ?_) fun dv=> ?_
 ·refine gS (Yk.loadAll rfl h IU rfl (by exact Ae (Sha.sum_length _)) (gS (Yk.callA2 KU rfl rfl ((OM _ (Sha.sum x.1.bytes) (Sha.sum_length _)).mono ?_))))
  rintro e f7 ⟨rfl,bp⟩
  refine⟨_,rfl,?_⟩
  have c:=eb bp c
  have h:=eb bp h
  refine gS (Yk.loadSt AU rfl c (gS (Yk.loadAll rfl h IU rfl (by exact Ae (Sha.sum_length _)) (gS (Yk.callA2 KV rfl rfl ((OJ _ q (Sha.sum x.1.bytes) (Sha.sum_length _)).mono ?_))))))
  rintro e f8 ⟨rfl,bq⟩
  refine⟨_,rfl,?_⟩
  refine gS (Yk.extract (vs:= [.agg (rdkC (AK q)).toArray,NI 1]) rfl rfl (gS (Yk.extract (vs:= [.agg (rdkC (AK q)).toArray,NI 1]) rfl rfl (gS (Yk.alloc (cs:=(rdkC ((⟨false,0,[],[],[],[],[],0,0,false⟩,⟨.slice none 0 0, .slice none 0 0, .slice none 0 0, .slice none 0 0, .slice none 0 0⟩):Au)).toArray) Ku fun br dw bd cn au f9=> ?_)))))
  have hZ4:=bp.trans bq
  have hE:=hE.trans hZ4
  have dx:=hE.size
  have c:=eb bq c
  have ga:=AE (bl c) bd
  have g:=eb hZ4 g
  have gb:=AE (bl g) bd
  have f:=eb hZ4 f
  have gc:=AE (bl f) bd
  have h:=eb bq h
  have gd:=AE (bl h) bd
  have aj:=cn;clear cn
  have ge:br<dw.heap.size:=by omega
  refine gS (Yk.storeSt AU (vr (PQ br 0) rfl) (vr (.agg (rdkC (AK q)).toArray) rfl) aj (AA (x:=(AK q)) rfl rfl rfl rfl rfl) fun dy co av gf=> ?_)
  have hE:=hE.trans au
  have hE:=Aa hE av (Nat.le_trans dx (by omega))
  have c:=eb au c
  have c:=kb av c (by omega)
  have g:=eb au g
  have g:=kb av g (by omega)
  have f:=eb au f
  have f:=kb av f (by omega)
  have h:=eb au h
  have h:=kb av h (by omega)
  clear aj
  have aj:dy.heap[br]? =some (.cells (rdkC (AK q)).toArray 31 (0,0)):=co;clear co
  have gg:=bl aj
  refine gS (Yk.loadSt AU rfl aj (gS (Yk.eqI (a:=(1:Nat)) (b:=(1:Nat)) rfl rfl (AY _ _ _ _) (kT (rfl) (gS (Yk.storeSt AU (vr (PQ p 0) rfl) (vr (.agg (rdkC (AK q)).toArray) rfl) f (AA (x:=(AK q)) rfl rfl rfl rfl rfl) fun dz cp aw gh=> ?_))))))
  have hE:=Aa hE aw (Nat.le_trans al (by omega))
  have c:=kb aw c (by omega)
  have g:=kb aw g (by omega)
  have h:=kb aw h (by omega)
  have aj:=kb aw aj (by omega)
  clear f
  have f:dz.heap[p]? =some (.cells (rdkC (AK q)).toArray 31 (0,0)):=cp;clear cp
  have gi:=bl f
  refine B2 rfl (ResF.row rfl f (FH).choose_spec rfl (AN (Ay _) E0)) (vr (.bool (true)) rfl) ?_
  exact⟨rfl,hE⟩
 refine gS (Yk.eqI (a:=((Db x.1.kind):Nat)) (b:=(3:Nat)) rfl rfl (AY _ _ _ _) ?_)
 refine cD rfl (fun d0=> ?_) fun d0=> ?_
 ·refine BV [0,1,4,5,2,3,6,7] [2,6] [4] [5] fun d1 bs=> ?_
  have be:=Ext.refl d1
  have g:=eb bs g
  have h:=eb bs h
  refine BM be ?_
  refine ys (Yk.loadAll rfl h IU rfl (by exact Ae (Sha.sum_length _)) zz) (yp (Yk.fieldAt MJ rfl zz) (yf (fun _ ⟨hZ,_⟩=>Yk.cell1 S2 rfl rfl (cellAt (eb hZ g) (Gr x)) zz) (yE (Yk.callA1 QC rfl ((FK _ (Sha.sum x.1.bytes) (Sha.sum_length _)).mono ?_)))))
  rintro e gj ⟨rfl,bt⟩
  refine⟨_,rfl,?_⟩
  have hZ5:=bs.trans bt
  have hE:=hE.trans hZ5
  have be:=be.trans bt
  refine⟨be,?_⟩
  refine ys (Yk.catSt (l:=([111,45]:List UInt8)) (m:=hexOf (Sha.sum x.1.bytes)) rfl rfl (by rw[B4,Sha.sum_length];simp) zz) (yD rfl (Yk.callA3 PD rfl rfl rfl ((Mo _ ([111,45]++hexOf (Sha.sum x.1.bytes)) x.2.other x.1.other (hxo.keep hE)).mono ?_)))
  rintro e gk ⟨rfl,bu⟩
  refine⟨_,rfl,?_⟩
  refine QQ 9 [0,1,3,4,2,5,6,7,8] [10,11] [2,5,10] [3,8] [0,4] (cells:=(rdkC ((⟨false,0,[],[],[],[],[],0,0,false⟩,⟨.slice none 0 0, .slice none 0 0, .slice none 0 0, .slice none 0 0, .slice none 0 0⟩):Au)).toArray) Ku fun gl bv=> ?_
  have hE:=hE.trans (bu.trans bv)
  have d2:=hE.size
  have hZ6:=(hZ5.trans bu).trans bv
  have c:=eb hZ6 c
  have gm:=(bl c)
  have hZ7:=(bt.trans bu).trans bv
  have g:=eb hZ7 g
  have gn:=(bl g)
  have f:=eb hZ6 f
  have go:=(bl f)
  have h:=eb hZ7 h
  have gp:=(bl h)
  refine aF rfl rfl (fun _ hZ=>Yk.loadSt AU rfl (eb hZ c) zz) (aF rfl rfl (fun _ hZ=>Yk.loadAll rfl (eb hZ h) IU rfl (by exact Ae (Sha.sum_length _)) zz) (aP rfl rfl (fun _ _=>Yk.fieldAt MJ rfl zz) (aF rfl rfl (fun _ hZ=>Yk.cell1 S2 rfl rfl (cellAt (eb hZ g) (Gr x)) zz) (aC rfl rfl fun d3 d4=> ?_))))
  have bw:=Ext.refl d3
  refine id (Yk.callA1 Cw (vr (AB (Sha.sum x.1.bytes)) rfl) ((B3 _ (Sha.sum x.1.bytes) (Sha.sum_length _)).mono ?_))
  rintro e gq ⟨rfl,cq⟩
  refine⟨_,rfl,?_⟩
  have bw:=bw.trans cq
  refine⟨bw,?_⟩
  refine aC rfl rfl fun d5 d6=> ?_
  have bx:=Ext.refl d5
  refine id (Yk.callA3 KP (vr (.agg (rdkC (AK q)).toArray) rfl) (vr (St ((Ad (Sha.sum x.1.bytes)))) rfl) (vr x.2.other rfl) ((MT _ q (Ad (Sha.sum x.1.bytes)) x.2.other).mono ?_))
  rintro e gr ⟨rfl,cr⟩
  refine⟨_,rfl,?_⟩
  have bx:=bx.trans cr
  refine⟨bx,?_⟩
  refine aM rfl rfl (aP rfl rfl (fun _ _=>Yk.extract (vs:= [.agg (rdkC (AK q)).toArray,NI 1]) rfl rfl zz) (aP rfl rfl (fun _ _=>Yk.extract (vs:= [.agg (rdkC (AK q)).toArray,NI 1]) rfl rfl zz) (aE fun ct gs d7 ⟨⟨gt,gu⟩,gv⟩ gw ak=>(yD rfl (Yk.storeSt AU (vr (PQ ct 0) rfl) (vr (.agg (rdkC (AK q)).toArray) rfl) ak (AA (x:=(AK q)) rfl rfl rfl rfl rfl) fun d8 cu ax gx=> ?_)))))
  have hZ8:=(((d4.trans cq).trans d6).trans cr).trans d7
  have hE:=hE.trans hZ8
  have hE:=Aa hE ax (Nat.le_trans d2 (by omega))
  have c:=eb hZ8 c
  have c:=kb ax c (by omega)
  have g:=eb hZ8 g
  have g:=kb ax g (by omega)
  have f:=eb hZ8 f
  have f:=kb ax f (by omega)
  have h:=eb hZ8 h
  have h:=kb ax h (by omega)
  clear ak
  have ak:d8.heap[ct]? =some (.cells (rdkC (AK q)).toArray 31 (0,0)):=cu;clear cu
  have gy:=bl ak
  refine gS (Yk.loadSt AU rfl ak (gS (Yk.eqI (a:=(1:Nat)) (b:=(1:Nat)) rfl rfl (AY _ _ _ _) (kT (rfl) (gS (Yk.storeSt AU (vr (PQ p 0) rfl) (vr (.agg (rdkC (AK q)).toArray) rfl) f (AA (x:=(AK q)) rfl rfl rfl rfl rfl) fun d9 cv ay gz=> ?_))))))
  have hE:=Aa hE ay (Nat.le_trans al (by omega))
  have c:=kb ay c (by omega)
  have g:=kb ay g (by omega)
  have h:=kb ay h (by omega)
  have ak:=kb ay ak (by omega)
  clear f
  have f:d9.heap[p]? =some (.cells (rdkC (AK q)).toArray 31 (0,0)):=cv;clear cv
  have g0:=bl f
  refine B2 rfl (ResF.row rfl f (FH).choose_spec rfl (AN (Ay _) E0)) (vr (.bool (true)) rfl) ?_
  exact⟨rfl,hE⟩
 refine gS (Yk.eqI (a:=((Db x.1.kind):Nat)) (b:=(4:Nat)) rfl rfl (AY _ _ _ _) ?_)
 refine cD rfl (fun ea=> ?_) fun ea=> ?_
 ·have an:=Ext.refl ca
  have ec:=hE.size
  refine gS (Yk.lit0G (k:=1) (enc:=DG) Om fun ao ed ag ap=> ?_)
  have ee:OB ao n2:=Ao ag.2 (bl c)
  have ef:OB ao b4:=Ao ag.2 (bl g)
  have cw:OB ao p:=Ao ag.2 (bl f)
  have eg:OB ao bh:=Ao ag.2 (bl h)
  have hE:=hE.trans ap
  have g:=eb ap g
  have an:=an.trans ap
  refine gS (Yk.fieldAt ML rfl (gS (Yk.cell1 Du rfl rfl (cellAt g (Gs x)) (gS (Yk.appendRG _ _ ca.heap.size _ 8 Du rd3_ig3.choose_spec.1 rd3_ig3.choose_spec.2 Du ([]) (x.1.fates) (OG.of ag (vr ao rfl)) (RG.of (hxf.keep hE) (vr x.2.fates rfl)) (fun y hy u hu=>by rw[List.mem_singleton.1 hu];rfl) (by simp only[List.length_nil];omega) (by simp only[List.length_nil];omega) an.size fun bz eh az ad=> ?_)))))
  have ad:Grew ed eh ao bz:=ad
  have f:=eb ap f
  have ei:OB bz p:=Ax ad cw (bl f)
  have hE:=Ag hE ad ag.2 ec
  have c:=eb ap c
  have c:=Am c ad ee
  have g:=Am g ad ef
  have f:=Am f ad cw
  have h:=eb ap h
  have h:=Am h ad eg
  have an:=Ag an ad ag.2 (Nat.le_refl _)
  clear ag
  refine gS (Yk.callA2 KW rfl rfl ((Ny _ bz x.1.fates (HI (RG.ofOwn az) (List.nil_append _))).mono ?_))
  rintro e g1 ⟨rfl,b0⟩
  refine⟨_,rfl,?_⟩
  have c:=eb b0 c
  have g:=eb b0 g
  refine gS (Yk.loadSt AU rfl c (gS (Yk.fieldAt ML rfl (gS (Yk.cell1 Du rfl rfl (cellAt g (Gs x)) (gS (Yk.callA2 KX rfl rfl ((Ow _ q x.2.fates).mono ?_))))))))
  rintro e g2 ⟨rfl,b1⟩
  refine⟨_,rfl,?_⟩
  have hZ9:=b0.trans b1
  have f:=eb hZ9 f
  refine gS (Yk.storeSt AU (vr (PQ p 0) rfl) (vr (.agg (rdkC (AK q)).toArray) rfl) f (AA (x:=(AK q)) rfl rfl rfl rfl rfl) fun ej cx a0 g3=> ?_)
  have hE:=hE.trans hZ9
  have hE:=Aa hE a0 (Nat.le_trans al (by omega))
  have c:=eb b1 c
  have c:=kb a0 c (by omega)
  have g:=eb b1 g
  have g:=kb a0 g (by omega)
  have h:=eb hZ9 h
  have h:=kb a0 h (by omega)
  clear an
  have az:=az.keep hZ9
  have az:=OG.kept az a0 ei
  clear f
  have f:ej.heap[p]? =some (.cells (rdkC (AK q)).toArray 31 (0,0)):=cx;clear cx
  have g4:=bl f
  refine B2 rfl (ResF.row rfl f (FH).choose_spec rfl (AN (Ay _) E0)) (vr (.bool (true)) rfl) ?_
  exact⟨rfl,hE⟩
 refine gS (Yk.fieldAt FM rfl (gS (Yk.cell1 Pb rfl rfl (cellAt g (Kl x)) (gS (Yk.callA2 KY rfl rfl ((Ri _ x.1.n).mono ?_))))))
 rintro e g5 ⟨rfl,a1⟩
 refine⟨_,rfl,?_⟩
 have c:=eb a1 c
 have f:=eb a1 f
 refine gS (Yk.fieldAt Dc rfl (gS (Yk.cell1 Q3 rfl rfl (cellAt c (Dy (AK q))) (cF rfl (gS (Yk.loadSt AU rfl c (gS (Yk.storeSt AU (vr (PQ p 0) rfl) (vr (.agg (rdkC (AK q)).toArray) rfl) f (AA (x:=(AK q)) rfl rfl rfl rfl rfl) fun el cy bf g6=> ?_))))))))
 have hE:=hE.trans a1
 have hE:=Aa hE bf (Nat.le_trans al (by omega))
 have c:=kb bf c (by omega)
 have g:=eb a1 g
 have g:=kb bf g (by omega)
 have h:=eb a1 h
 have h:=kb bf h (by omega)
 clear f
 have f:el.heap[p]? =some (.cells (rdkC (AK q)).toArray 31 (0,0)):=cy;clear cy
 have g7:=bl f
 refine B2 rfl (ResF.row rfl f (FH).choose_spec rfl (AN (Ay _) E0)) (vr (.bool (true)) rfl) ?_
 exact⟨rfl,hE⟩

theorem M0(wb w:World)(g:Nat)(H:Dk)(D:An)(hD:DkG wb w g H D)(hG:Laid wb)(V:Cn)(Q:Nat→Prop)(hQ:∀i,Q i→i<w.heap.size)(hR:RdAt (BE H D.files.length Q) w D V)(x:BT)(hx:LacAt wb x)(hbl:x.1.bytes.length≤300)(hol:x.1.other.length≤300)(hfs:x.1.fates.length≤100)(n:Nat)(hfit:FitD n D)(hn:n≤98000):
  Calls Tryz.prog 7 #[PQ g 0, .agg (rdkC (Ac D,V)).toArray, .agg (lacC x).toArray] w fun e w' =>∃H' V',e = .returned (.tuple #[.agg (rdkC (Ac (C3 D x.1),V')).toArray, .bool true])∧DkW wb w g H D w' H' (C3 D x.1)∧RdAt (BE H' (C3 D x.1).files.length Q) w' (C3 D x.1) V' :=by
 have h:=hD.ext
 have hxb:=hx.bytes
 have hxo:=hx.other
 have hxf:=hx.fates
 have hD0:=hD
 have hR0:=hR
 obtain⟨vsq,-,hfq⟩:=hR.files
 have hfiles:=hfq.1
 have hsynced:=hR.synced.1
 have hnow:=hR.now.1
 have hkept:=hR.kept.1
 have hacts:=hR.acts.1
 refine gG (args:= [PQ g 0, .agg (rdkC (Ac D,V)).toArray, .agg (lacC x).toArray]) Tryz.func7 rfl 163 rfl rfl ?_
 have hE:=Ext.refl w
 refine gS (Yk.box (cs:=(rdkC (Ac D,V):List Value).toArray) (vr (.agg (rdkC (Ac D,V)).toArray) rfl) fun z w3 f6 dr b0 f7=> ?_)
 have t:=Ext.refl w
 have f8:=hE.size
 have e8:=h.size
 have hD:DkG wb w3 g H (D):=(hD.keep b0)
 have hR:RdAt (BE H D.files.length Q) w3 D V:=(hR.keep b0)
 have f:=dr;clear dr
 have f9:z<w3.heap.size:=by omega
 refine gS (Yk.box (cs:=(lacC x:List Value).toArray) (vr (.agg (lacC x).toArray) rfl) fun a7 c5 e9 ds bq ga=> ?_)
 have hE:=hE.trans b0
 have gb:=hE.size
 have h:=h.trans b0
 have gc:=h.size
 have t:=t.trans b0
 have gd:=t.size
 have ge:=AE (bl f) e9
 have hD:DkG wb c5 g H (D):=(hD.keep bq)
 have hR:RdAt (BE H D.files.length Q) c5 D V:=(hR.keep bq)
 have o:=ds;clear ds
 have gf:a7<c5.heap.size:=by omega
 refine gS (Yk.alloc (cs:=(rdkC ((⟨false,0,[],[],[],[],[],0,0,false⟩,⟨.slice none 0 0, .slice none 0 0, .slice none 0 0, .slice none 0 0, .slice none 0 0⟩):Au)).toArray) Ku fun s b1 dt du a8 gg=> ?_)
 have hE:=hE.trans bq
 have gh:=hE.size
 have h:=h.trans bq
 have a9:=h.size
 have t:=t.trans bq
 have ce:=t.size
 have f:=eb bq f
 have gi:=AE (bl f) dt
 have gj:=AE (bl o) dt
 have hD:DkG wb b1 g H (D):=(hD.keep a8)
 have hR:RdAt (BE H D.files.length Q) b1 D V:=(hR.keep a8)
 have c:=du;clear du
 have gk:s<b1.heap.size:=by omega
 have hE:=hE.trans a8
 have hR:=RdAt.addQ hR0 hE (a:=z) (b:=s) (by omega) (by omega)
 have hD:=hD0.keep hE
 have h:=h.trans a8
 have hwz:=h.size
 have hbq:wb.heap.size≤z∧wb.heap.size≤s:=by omega
 have hC:Chg (A1 H D.files.length) w b1:=Chg.ofExt hE
 have hFt:∀i,A1 H D.files.length i→A1 H D.files.length i∨w.heap.size≤i:=fun _ q=> .inl q
 have p:=Ext.refl b1
 have gl:=hE.size
 have gm:=h.size
 have t:=t.trans a8
 have gn:=t.size
 have o:=eb a8 o
 refine gS (Yk.fieldAt MH rfl (gS (Yk.cell1 S2 rfl rfl (cellAt o (EJ x)) (gS (Yk.callA1 P4 rfl ((Da _ x.2.bytes x.1.bytes (hxb.keep h) (by omega)).mono ?_))))))
 rintro e fa ⟨rfl,au⟩
 refine⟨_,rfl,?_⟩
 have hC:Chg (A1 H D.files.length) w fa:=(hC.keep au)
 refine gS (Yk.alloc (cs:=(Lib.byteCells (List.replicate 32 0)).toArray) IX fun av dv c6 dw aw go=> ?_)
 have hE:=hE.trans au
 have gp:=hE.size
 have h:=h.trans au
 have fb:=h.size
 have t:=t.trans au
 have dx:=t.size
 have p:=p.trans au
 have fc:=p.size
 have f:=eb (a8.trans au) f
 have gq:=AE (bl f) c6
 have o:=eb au o
 have gr:=AE (bl o) c6
 have c:=eb au c
 have gs:=AE (bl c) c6
 have hC:Chg (A1 H D.files.length) w dv:=(hC.keep aw)
 have j:=dw;clear dw
 have gt:av<dv.heap.size:=by omega
 refine gS (Yk.storeAll (vr (PQ av 0) rfl) (vr (AB (Sha.sum x.1.bytes)) rfl) j (by exact Bg (Sha.sum_length _) List.length_replicate) (by exact Ae (Sha.sum_length _)) (Ah _) fun ba dy ax gu=> ?_)
 have hE:=hE.trans aw
 have hE:=Aa hE ax (Nat.le_trans dx (by omega))
 have h:=h.trans aw
 have h:=Aa h ax (Nat.le_trans fb (by omega))
 have t:=t.trans aw
 have t:=Aa t ax (Nat.le_trans dx (by omega))
 have f:=eb aw f
 have f:=kb ax f (by omega)
 have o:=eb aw o
 have o:=kb ax o (by omega)
 have c:=eb aw c
 have c:=kb ax c (by omega)
 have hC:Chg (A1 H D.files.length) w ba:=Chg.set hC ax (.inr (by omega))
 have p:=p.trans aw
 have p:=Aa p ax (Nat.le_trans fc (by omega))
 clear j
 have j:=dy;clear dy
 have gv:=bl j
 have hbd:=EB x.1.kind 5
 refine gS (Yk.fieldAt Ie rfl (gS (Yk.cell1 Pb rfl rfl (cellAt o (N5 x)) (gS (Yk.bin (xv:= .int .i64 (x.1.kind)) (yv:=NI 6) rfl rfl rfl (Gd _ (x.1.kind) _ (by decide)) (gS (Yk.bin (xv:= .int .i64 ((Int.tmod (x.1.kind) ((5+1:Nat):Int)))) (yv:= .int .i64 (((6:Nat):Int))) rfl rfl rfl (Gc _ ((Int.tmod (x.1.kind) ((5+1:Nat):Int))) (((6:Nat):Int)) (by omega)) (gS (Yk.bin (xv:= .int .i64 ((((Int.tmod (x.1.kind) ((5+1:Nat):Int)))+(((6:Nat):Int))))) (yv:=NI 6) rfl rfl rfl (It _ (x.1.kind) 5 _ (by omega)) (gS (Yk.eqI (a:=((Db x.1.kind):Nat)) (b:=(0:Nat)) rfl rfl (AY _ _ _ _) ?_)))))))))))
 refine cD rfl (fun bb=> ?_) fun bb=> ?_
 ·have hV:C3 D x.1=(A2 D x.1.bytes).1:=by unfold C3;rw[if_pos bb]
  have hDb:=(hD.keep p)
  refine gS (Yk.fieldAt MH rfl (gS (Yk.cell1 S2 rfl rfl (cellAt o (EJ x)) (gS (Yk.callA1 KS rfl ((JP _ x.2.bytes (x.1.bytes) (hxb.keep h) (by omega)).mono ?_))))))
  rintro e dz ⟨fd,rfl,ay⟩
  refine⟨_,rfl,?_⟩
  have gw:=hE.size
  have gx:=h.size
  have gy:=t.size
  have gz:=p.size
  have hC:Chg (A1 H D.files.length) w dz:=(hC.keep ay.ext)
  have c7:=ay.own
  have hrb_:=RB.ofOwn (CJ (l' :=x.1.bytes) c7 (by first | rfl | exact List.nil_append _))
  have hbz:ba.heap.size≤ba.heap.size:=Nat.le_refl _
  have p:=p.trans ay.ext
  have hD:=hD.keep p
  have hDc:=hD
  have hR:=hR.keep p
  have hRc:=hR
  refine gS (Yk.callA2 P2 rfl rfl ((NL wb _ g _ _ hDc hG fd x.1.bytes hrb_ (.inr (fun i hi q=>by have h1:=(hDb.st.foot q).2.1;have h2:=(c7.lt i hi).1;have h3:=hbz;omega)) hbl n hfit.bd (by omega)).mono ?_))
  rintro e bc ⟨H122,c8,rfl,fe,hW123⟩
  refine⟨_,rfl,?_⟩
  have hcs:w.heap.size≤dz.heap.size:=hC.size
  have h:=h.trans ay.ext
  have h:Ext wb bc:=hW123.g.ext
  have f:=eb ay.ext f
  have f:bc.heap[z]? =some (.cells (rdkC (Ac D,V)).toArray 31 (0,0)):=DkG.box hDc hW123.chg f (by decide) (by decide) (by decide) (by decide)
  have o:=eb ay.ext o
  have o:bc.heap[a7]? =some (.cells (lacC x).toArray 37 (0,0)):=DkG.box hDc hW123.chg o (by decide) (by decide) (by decide) (by decide)
  have c:=eb ay.ext c
  have c:bc.heap[s]? =some (.cells (rdkC ((⟨false,0,[],[],[],[],[],0,0,false⟩,⟨.slice none 0 0, .slice none 0 0, .slice none 0 0, .slice none 0 0, .slice none 0 0⟩):Au)).toArray 31 (0,0)):=DkG.box hDc hW123.chg c (by decide) (by decide) (by decide) (by decide)
  have hC:Chg (A1 H D.files.length) w bc:=hC.trans hW123.chg hFt
  have j:=eb ay.ext j
  have j:bc.heap[av]? =some (.cells (Lib.byteCells (Sha.sum x.1.bytes)).toArray 54 (0,0)):=DkG.box hDc hW123.chg j (by decide) (by decide) (by decide) (by decide)
  clear hE
  clear t
  clear p
  clear c7
  have hD:=hW123.g
  have hR:=hRc.stepQ hW123
  have hr121_:=fe
  have aa:=Ext.refl bc
  have ff:=h.size
  refine gS (Yk.extract (vs:= [AB ((A2 D x.1.bytes).2.1),c8,NI ((A2 D x.1.bytes).2.2.2)]) rfl rfl (gS (Yk.extract (vs:= [AB ((A2 D x.1.bytes).2.1),c8,NI ((A2 D x.1.bytes).2.2.2)]) rfl rfl (gS (Yk.extract (vs:= [AB ((A2 D x.1.bytes).2.1),c8,NI ((A2 D x.1.bytes).2.2.2)]) rfl rfl (gS (Yk.alloc (cs:=(Lib.byteCells (List.replicate 32 0)).toArray) IX fun d0 d1 cf d2 be g0=> ?_)))))))
  have g1:=AE (bl f) cf
  have g2:=AE (bl o) cf
  have g3:=AE (bl c) cf
  have g4:=AE (bl j) cf
  have hC:Chg (A1 H D.files.length) w d1:=(hC.keep be)
  have ab:=d2;clear d2
  have g5:d0<d1.heap.size:=by omega
  refine gS (Yk.storeAll (vr (PQ d0 0) rfl) (vr (AB ((A2 D x.1.bytes).2.1)) rfl) ab (by exact Bg (Cu rfl) List.length_replicate) (by exact Ae (Cu rfl)) (Ah _) fun d3 d4 bf g6=> ?_)
  have h:=h.trans be
  have h:=Aa h bf (Nat.le_trans ff (by omega))
  have f:=eb be f
  have f:=kb bf f (by omega)
  have o:=eb be o
  have o:=kb bf o (by omega)
  have c:=eb be c
  have c:=kb bf c (by omega)
  have hC:Chg (A1 H D.files.length) w d3:=Chg.set hC bf (.inr (by omega))
  have j:=eb be j
  have j:=kb bf j (by omega)
  have aa:=aa.trans be
  have aa:=Aa aa bf (Nat.le_trans (Nat.le_refl _) (by omega))
  clear ab
  have ab:=d4;clear d4
  have g7:=bl ab
  refine gS (Yk.loadSt AU rfl f (gS (Yk.fieldAt MH rfl (gS (Yk.cell1 S2 rfl rfl (cellAt o (EJ x)) ?_)))))
  have hD:=hD.keep aa
  have hDc:=hD
  have hR:=hR.keep aa
  have hRc:=hR
  have hz_n2:=(bl f)
  have hz_n31:=(bl c)
  have hcl:=(hC).size
  have hQ3:∀i,(fun i=>Q i∨i=z∨i=s) i→i<d3.heap.size:=fun i q=>by rcases q with q | q | q;have:=hQ i q;omega;omega;omega
  refine gS (Yk.callA2 KT rfl rfl ((QE _ D V hRc (hDc.offq hQ3) n hfit hn x.2.bytes x.1.bytes (hxb.keep h) hbl).mono ?_))
  rintro e c9 ⟨V148,cg,rfl,fg,hR149,ao⟩
  refine⟨_,rfl,?_⟩
  have hC:Chg (A1 H D.files.length) w c9:=(hC.keep ao)
  have hD:DkG wb c9 g H122 ((A2 D x.1.bytes).1):=(hD.keep ao)
  have hR:=hR149
  have hr147_:=fg
  have ac:=Ext.refl c9
  have h:=h.trans ao
  have fh:=h.size
  have aa:=aa.trans ao
  have fi:=aa.size
  refine gS (Yk.extract (vs:= [.agg (rdkC (Ac (A2 D x.1.bytes).1,V148)).toArray,AB ((A2 D x.1.bytes).2.1),cg,NI ((A2 D x.1.bytes).2.2.2)]) rfl rfl (gS (Yk.extract (vs:= [.agg (rdkC (Ac (A2 D x.1.bytes).1,V148)).toArray,AB ((A2 D x.1.bytes).2.1),cg,NI ((A2 D x.1.bytes).2.2.2)]) rfl rfl (gS (Yk.extract (vs:= [.agg (rdkC (Ac (A2 D x.1.bytes).1,V148)).toArray,AB ((A2 D x.1.bytes).2.1),cg,NI ((A2 D x.1.bytes).2.2.2)]) rfl rfl (gS (Yk.extract (vs:= [.agg (rdkC (Ac (A2 D x.1.bytes).1,V148)).toArray,AB ((A2 D x.1.bytes).2.1),cg,NI ((A2 D x.1.bytes).2.2.2)]) rfl rfl (gS (Yk.alloc (cs:=(rdkC ((⟨false,0,[],[],[],[],[],0,0,false⟩,⟨.slice none 0 0, .slice none 0 0, .slice none 0 0, .slice none 0 0, .slice none 0 0⟩):Au)).toArray) Ku fun da d5 b2 d6 ap g8=> ?_)))))))))
  have f:=eb ao f
  have g9:=AE (bl f) b2
  have o:=eb ao o
  have ha:=AE (bl o) b2
  have c:=eb ao c
  have hb:=AE (bl c) b2
  have j:=eb ao j
  have hc:=AE (bl j) b2
  have ab:=eb ao ab
  have hd:=AE (bl ab) b2
  have hC:Chg (A1 H D.files.length) w d5:=(hC.keep ap)
  have ad:=d6;clear d6
  have he:da<d5.heap.size:=by omega
  refine gS (Yk.alloc (cs:=(Lib.byteCells (List.replicate 32 0)).toArray) IX fun d7 d8 br d9 aj hf=> ?_)
  have h:=h.trans ap
  have fj:=h.size
  have aa:=aa.trans ap
  have fk:=aa.size
  have ac:=ac.trans ap
  have fl:=ac.size
  have f:=eb ap f
  have hh:=AE (bl f) br
  have o:=eb ap o
  have hj:=AE (bl o) br
  have c:=eb ap c
  have hk:=AE (bl c) br
  have j:=eb ap j
  have hl:=AE (bl j) br
  have ab:=eb ap ab
  have hm:=AE (bl ab) br
  have ho:=AE (bl ad) br
  have hC:Chg (A1 H D.files.length) w d8:=(hC.keep aj)
  have ah:=d9;clear d9
  have hp:d7<d8.heap.size:=by omega
  have ac:=ac.trans aj
  have hq191:=((hR.keep ac)).files.choose_spec.2.1
  have hq192:=((hR.keep ac)).synced.1
  have hq193:=((hR.keep ac)).now.1
  have hq194:=((hR.keep ac)).kept.1
  have hq195:=((hR.keep ac)).acts.1
  have ad:=eb aj ad
  refine gS (Yk.storeSt AU (vr (PQ da 0) rfl) (vr (.agg (rdkC (Ac (A2 D x.1.bytes).1,V148)).toArray) rfl) ad (AA (x:=(Ac (A2 D x.1.bytes).1,V148)) (RG.one hq191).2 (RG.one hq192).2 (RG.one hq193).2 (RG.one hq194).2 (RG.one hq195).2) fun ea ec ak hq=> ?_)
  have h:=h.trans aj
  have h:=Aa h ak (Nat.le_trans fh (by omega))
  have f:=eb aj f
  have f:=kb ak f (by omega)
  have o:=eb aj o
  have o:=kb ak o (by omega)
  have c:=eb aj c
  have c:=kb ak c (by omega)
  have hC:Chg (A1 H D.files.length) w ea:=Chg.set hC ak (.inr (by omega))
  have j:=eb aj j
  have j:=kb ak j (by omega)
  have aa:=aa.trans aj
  have aa:=Aa aa ak (Nat.le_trans fi (by omega))
  have ab:=eb aj ab
  have ab:=kb ak ab (by omega)
  have ac:=Aa ac ak (Nat.le_trans (Nat.le_refl _) (by omega))
  have ah:=kb ak ah (by omega)
  clear hq191
  clear hq192
  clear hq193
  clear hq194
  clear hq195
  clear ad
  have ad:ea.heap[da]? =some (.cells (rdkC (Ac (A2 D x.1.bytes).1,V148)).toArray 31 (0,0)):=ec;clear ec
  have hr:=bl ad
  refine gS (Yk.storeAll (vr (PQ d7 0) rfl) (vr (AB ((A2 D x.1.bytes).2.1)) rfl) ah (by exact Bg (Cu rfl) List.length_replicate) (by exact Ae (Cu rfl)) (Ah _) fun fm ed al hs=> ?_)
  have h:=Aa h al (Nat.le_trans fj (by omega))
  have f:=kb al f (by omega)
  have o:=kb al o (by omega)
  have c:=kb al c (by omega)
  have hC:Chg (A1 H D.files.length) w fm:=Chg.set hC al (.inr (by omega))
  have j:=kb al j (by omega)
  have aa:=Aa aa al (Nat.le_trans fk (by omega))
  have ab:=kb al ab (by omega)
  have ac:=Aa ac al (Nat.le_trans fl (by omega))
  have ad:=kb al ad (by omega)
  clear ah
  have ah:=ed;clear ed
  have ht:=bl ah
  refine B5 [0,1,2,3,4,5,6,7,8,9,10,11,12,13,14,15,16,17] [16] [14,15] fun fn ai=> ?_
  have hC:Chg (A1 H D.files.length) w fn:=(hC.keep ai)
  have aa:=aa.trans ai
  have ab:=eb ai ab
  have ac:=ac.trans ai
  have ad:=eb ai ad
  have ah:=eb ai ah
  refine ys (Yk.loadSt AU rfl ad zz) (ys (Yk.loadAll rfl ab IU rfl (by exact Ae (Cu rfl)) zz) (ys (Yk.loadAll rfl ah IU rfl (by exact Ae (Cu rfl)) zz) (ys (Yk.eqArr (l1:=(A2 D x.1.bytes).2.1) (l2:=(A2 D x.1.bytes).2.1) IU Ds Fy PJ rfl rfl ((Cu rfl)) ((Cu rfl)) zz) (kT (rfl) (ys (Yk.convRB S2 Ds Io (RB.of (hr121_.keep aa) rfl) zz) (ys (Yk.convRB S2 Ds Io (RB.of (hr147_.keep ac) rfl) zz) (ys (Yk.eqSt (l:=(A2 D x.1.bytes).2.2.1) (m:=(A2 D x.1.bytes).2.2.1) (.inl rfl) rfl rfl (decide ((A2 D x.1.bytes).2.2.1=((A2 D x.1.bytes).2.2.1:List UInt8))) rfl zz) (kT (rfl) (ys (Yk.pickT rfl rfl zz) (yp (Yk.eqI (a:=((A2 D x.1.bytes).2.2.2:Nat)) (b:=((A2 D x.1.bytes).2.2.2:Nat)) rfl rfl (AY _ _ _ _) zz) (kT (rfl) (yp (Yk.pickT rfl rfl zz) ?_))))))))))))
  have hR:=hR.keep ac
  have hq209:=(hR).files.choose_spec.2.1
  have hq210:=(hR).synced.1
  have hq211:=(hR).now.1
  have hq212:=(hR).kept.1
  have hq213:=(hR).acts.1
  have c:=eb ai c
  refine yC (Yk.storeSt AU (vr (PQ s 0) rfl) (vr (.agg (rdkC (Ac (A2 D x.1.bytes).1,V148)).toArray) rfl) c (AA (x:=(Ac (A2 D x.1.bytes).1,V148)) (RG.one hq209).2 (RG.one hq210).2 (RG.one hq211).2 (RG.one hq212).2 (RG.one hq213).2) fun ch ee am hv=> ?_)
  have h:=h.trans ai
  have h:=Aa h am (Nat.le_trans a9 (by omega))
  have f:=eb ai f
  have f:=kb am f (by omega)
  have o:=eb ai o
  have o:=kb am o (by omega)
  have hC:Chg (A1 H D.files.length) w ch:=Chg.set hC am (.inr (by omega))
  have j:=eb ai j
  have j:=kb am j (by omega)
  have hD:=hD.keep ac
  have hD:DkG wb ch g H122 ((A2 D x.1.bytes).1):=DkG.setT hD am c hbq.2 (by decide) (by decide) (by decide) (by decide) (by decide) (by decide)
  clear aa
  have ab:=kb am ab (by omega)
  have hR:RdAt (BE H122 ((A2 D x.1.bytes).1).files.length ((fun i=>Q i∨i=z∨i=s))) ch ((A2 D x.1.bytes).1) V148:=RdAt.setQ hR am (.inr (.inr rfl))
  clear ac
  have ad:=kb am ad (by omega)
  have ah:=kb am ah (by omega)
  clear hq209
  clear hq210
  clear hq211
  clear hq212
  clear hq213
  clear c
  have c:ch.heap[s]? =some (.cells (rdkC (Ac (A2 D x.1.bytes).1,V148)).toArray 31 (0,0)):=ee;clear ee
  have hw:=bl c
  refine B2 rfl (ResF.row rfl c (FH).choose_spec rfl (AN (Ay _) E0)) (vr (.bool (true)) rfl) ?_
  rw[hV]
  exact⟨H122,V148,rfl,⟨hD,hC,fun i q=>(hW123.foot i q).imp id fun r=>Nat.le_trans hcs r⟩,RdAt.subQ hR (fun i q=> .inl q)⟩
 refine gS (Yk.eqI (a:=((Db x.1.kind):Nat)) (b:=(1:Nat)) rfl rfl (AY _ _ _ _) ?_)
 refine cD rfl (fun bs=> ?_) fun bs=> ?_
 ·have hV:C3 D x.1=D:=by unfold C3;rw[if_neg bb,if_pos bs]
  by_cases hg:(A8 D (Sha.sum x.1.bytes)).2=0
  ·refine gS (Yk.loadAll rfl j IU rfl (by exact Ae (Sha.sum_length _)) ?_)
   have hDc:=(hD.keep p)
   refine gS (Yk.callA2 PK rfl rfl ((HU wb _ g _ _ hDc hG hfit.lt (Sha.sum x.1.bytes) (Sha.sum_length _)).mono ?_))
   rintro e fo ⟨ef,rfl,ci,b3⟩
   refine⟨_,rfl,?_⟩
   have hC:Chg (A1 H D.files.length) w fo:=(hC.keep b3)
   have f:=eb b3 f
   have p:=p.trans b3
   have j:=eb b3 j
   refine gS (Yk.extract (vs:= [ef,NI ((A8 D (Sha.sum x.1.bytes)).2)]) rfl rfl (gS (Yk.extract (vs:= [ef,NI ((A8 D (Sha.sum x.1.bytes)).2)]) rfl rfl (gS (Yk.loadSt AU rfl f (gS (Yk.loadAll rfl j IU rfl (by exact Ae (Sha.sum_length _)) (gS (Yk.callA2 Hs rfl rfl ((ES _ D V (hR.keep p) n hfit hn (Sha.sum x.1.bytes) (Sha.sum_length _)).mono ?_))))))))))
   rintro e fp ⟨eg,rfl,cj,db⟩
   refine⟨_,rfl,?_⟩
   have hC:Chg (A1 H D.files.length) w fp:=(hC.keep db)
   refine gS (Yk.extract (vs:= [eg,NI ((A8 D (Sha.sum x.1.bytes)).2)]) rfl rfl (gS (Yk.extract (vs:= [eg,NI ((A8 D (Sha.sum x.1.bytes)).2)]) rfl rfl (BV [0,1,2,3,4,5,6,7,8,9,10,11,12,13,15,16,14,17,18,19,20] [14,19] [16,17,18] [0] fun eh ck=> ?_))))
   have hC:Chg (A1 H D.files.length) w eh:=(hC.keep ck)
   have cl:=Ext.refl eh
   have hZ1:=db.trans ck
   have f:=eb hZ1 f
   have p:=p.trans hZ1
   have j:=eb hZ1 j
   have ci:=ci.keep hZ1
   have cj:=cj.keep ck
   refine BM cl ?_
   refine yf (fun _ ⟨hZ,_⟩=>Yk.loadSt AU rfl (eb hZ f) zz) (ys (Yk.convRB S2 Ds Io (RB.of ci rfl) zz) (ys (Yk.convRB S2 Ds Io (RB.of cj rfl) zz) (ys (Yk.eqSt (l:=(A8 D (Sha.sum x.1.bytes)).1) (m:=(A8 D (Sha.sum x.1.bytes)).1) (.inl rfl) rfl rfl (decide ((A8 D (Sha.sum x.1.bytes)).1=((A8 D (Sha.sum x.1.bytes)).1:List UInt8))) rfl zz) (kT (rfl) (ys (Yk.eqI (a:=((A8 D (Sha.sum x.1.bytes)).2:Nat)) (b:=((A8 D (Sha.sum x.1.bytes)).2:Nat)) rfl rfl (AY _ _ _ _) zz) (kT (rfl) (ys (Yk.pickT rfl rfl zz) (ys (Yk.loadAll rfl j IU rfl (by exact Ae (Sha.sum_length _)) zz) (yp (Yk.eqI (a:=((A8 D (Sha.sum x.1.bytes)).2:Nat)) (b:=(0:Nat)) rfl rfl (AY _ _ _ _) zz) (kT (hg) (yE (Yk.callA2 PV rfl rfl ((LX _ _ _ _ _ (hD.keep p) hG hfit.lt (Sha.sum x.1.bytes) (Sha.sum_length _) (decide_eq_true hg)).mono ?_)))))))))))))
   rintro e fq ⟨rfl,bt⟩
   refine⟨_,rfl,?_⟩
   have hC:Chg (A1 H D.files.length) w fq:=(hC.keep bt)
   have cl:=cl.trans bt
   refine⟨cl,?_⟩
   refine yp (Yk.eqBool (a:=true) (b:=true) Q3 rfl rfl zz) (kB (rfl) (yp (Yk.pickT rfl rfl zz) ?_))
   have p:=p.trans bt
   have hR:=hR.keep p
   have hq237:=(hR).files.choose_spec.2.1
   have hq238:=(hR).synced.1
   have hq239:=(hR).now.1
   have hq240:=(hR).kept.1
   have hq241:=(hR).acts.1
   have hZ2:=((b3.trans db).trans ck).trans bt
   have c:=eb hZ2 c
   refine yD rfl (Yk.storeSt AU (vr (PQ s 0) rfl) (vr (.agg (rdkC (Ac D,V)).toArray) rfl) c (AA (x:=(Ac D,V)) (RG.one hq237).2 (RG.one hq238).2 (RG.one hq239).2 (RG.one hq240).2 (RG.one hq241).2) fun cm ei aq hz=> ?_)
   have hD:=hD.keep p
   have hD:DkG wb cm g H (D):=DkG.setT hD aq c hbq.2 (by decide) (by decide) (by decide) (by decide) (by decide) (by decide)
   have hR:RdAt (BE H (D).files.length ((fun i=>Q i∨i=z∨i=s))) cm (D) V:=RdAt.setQ hR aq (.inr (.inr rfl))
   have hE:=hE.trans hZ2
   have hE:=Aa hE aq (Nat.le_trans ce (by omega))
   have h:=h.trans hZ2
   have h:=Aa h aq (Nat.le_trans a9 (by omega))
   have t:=t.trans hZ2
   have t:=Aa t aq (Nat.le_trans ce (by omega))
   have f:=eb bt f
   have f:=kb aq f (by omega)
   have o:=eb hZ2 o
   have o:=kb aq o (by omega)
   have hC:Chg (A1 H D.files.length) w cm:=Chg.set hC aq (.inr (by omega))
   have j:=eb bt j
   have j:=kb aq j (by omega)
   clear ci
   clear cj
   clear hq237
   clear hq238
   clear hq239
   clear hq240
   clear hq241
   clear c
   have c:cm.heap[s]? =some (.cells (rdkC (Ac D,V)).toArray 31 (0,0)):=ei;clear ei
   have h0:=bl c
   refine B2 rfl (ResF.row rfl c (FH).choose_spec rfl (AN (Ay _) E0)) (vr (.bool (true)) rfl) ?_
   rw[hV]
   exact⟨H,V,rfl,⟨hD,hC,fun i q=> .inl q⟩,RdAt.subQ hR (fun i q=> .inl q)⟩
  refine gS (Yk.loadAll rfl j IU rfl (by exact Ae (Sha.sum_length _)) ?_)
  have hDc:=(hD.keep p)
  refine gS (Yk.callA2 PK rfl rfl ((HU wb _ g _ _ hDc hG hfit.lt (Sha.sum x.1.bytes) (Sha.sum_length _)).mono ?_))
  rintro e fr ⟨ej,rfl,cn,b4⟩
  refine⟨_,rfl,?_⟩
  have hC:Chg (A1 H D.files.length) w fr:=(hC.keep b4)
  have f:=eb b4 f
  have p:=p.trans b4
  have j:=eb b4 j
  refine gS (Yk.extract (vs:= [ej,NI ((A8 D (Sha.sum x.1.bytes)).2)]) rfl rfl (gS (Yk.extract (vs:= [ej,NI ((A8 D (Sha.sum x.1.bytes)).2)]) rfl rfl (gS (Yk.loadSt AU rfl f (gS (Yk.loadAll rfl j IU rfl (by exact Ae (Sha.sum_length _)) (gS (Yk.callA2 Hs rfl rfl ((ES _ D V (hR.keep p) n hfit hn (Sha.sum x.1.bytes) (Sha.sum_length _)).mono ?_))))))))))
  rintro e fs ⟨el,rfl,co,dc⟩
  refine⟨_,rfl,?_⟩
  have hC:Chg (A1 H D.files.length) w fs:=(hC.keep dc)
  refine gS (Yk.extract (vs:= [el,NI ((A8 D (Sha.sum x.1.bytes)).2)]) rfl rfl (gS (Yk.extract (vs:= [el,NI ((A8 D (Sha.sum x.1.bytes)).2)]) rfl rfl (BV [0,1,2,3,4,5,6,7,8,9,10,11,12,13,15,16,14,17,18,19,20] [14,19] [16,17,18] [0] fun em cp=> ?_))))
  have hC:Chg (A1 H D.files.length) w em:=(hC.keep cp)
  have cq:=Ext.refl em
  have hZ3:=dc.trans cp
  have f:=eb hZ3 f
  have p:=p.trans hZ3
  have j:=eb hZ3 j
  have cn:=cn.keep hZ3
  have co:=co.keep cp
  refine BM cq ?_
  refine yf (fun _ ⟨hZ,_⟩=>Yk.loadSt AU rfl (eb hZ f) zz) (ys (Yk.convRB S2 Ds Io (RB.of cn rfl) zz) (ys (Yk.convRB S2 Ds Io (RB.of co rfl) zz) (ys (Yk.eqSt (l:=(A8 D (Sha.sum x.1.bytes)).1) (m:=(A8 D (Sha.sum x.1.bytes)).1) (.inl rfl) rfl rfl (decide ((A8 D (Sha.sum x.1.bytes)).1=((A8 D (Sha.sum x.1.bytes)).1:List UInt8))) rfl zz) (kT (rfl) (ys (Yk.eqI (a:=((A8 D (Sha.sum x.1.bytes)).2:Nat)) (b:=((A8 D (Sha.sum x.1.bytes)).2:Nat)) rfl rfl (AY _ _ _ _) zz) (kT (rfl) (ys (Yk.pickT rfl rfl zz) (ys (Yk.loadAll rfl j IU rfl (by exact Ae (Sha.sum_length _)) zz) (yp (Yk.eqI (a:=((A8 D (Sha.sum x.1.bytes)).2:Nat)) (b:=(0:Nat)) rfl rfl (AY _ _ _ _) zz) (kF (hg) (yE (Yk.callA2 PV rfl rfl ((LX _ _ _ _ _ (hD.keep p) hG hfit.lt (Sha.sum x.1.bytes) (Sha.sum_length _) (decide_eq_false hg)).mono ?_)))))))))))))
  rintro e ft ⟨rfl,bu⟩
  refine⟨_,rfl,?_⟩
  have hC:Chg (A1 H D.files.length) w ft:=(hC.keep bu)
  have cq:=cq.trans bu
  refine⟨cq,?_⟩
  refine yp (Yk.eqBool (a:=false) (b:=false) Q3 rfl rfl zz) (kB (rfl) (yp (Yk.pickT rfl rfl zz) ?_))
  have p:=p.trans bu
  have hR:=hR.keep p
  have hq264:=(hR).files.choose_spec.2.1
  have hq265:=(hR).synced.1
  have hq266:=(hR).now.1
  have hq267:=(hR).kept.1
  have hq268:=(hR).acts.1
  have hZ4:=((b4.trans dc).trans cp).trans bu
  have c:=eb hZ4 c
  refine yD rfl (Yk.storeSt AU (vr (PQ s 0) rfl) (vr (.agg (rdkC (Ac D,V)).toArray) rfl) c (AA (x:=(Ac D,V)) (RG.one hq264).2 (RG.one hq265).2 (RG.one hq266).2 (RG.one hq267).2 (RG.one hq268).2) fun cr en ar h4=> ?_)
  have hD:=hD.keep p
  have hD:DkG wb cr g H (D):=DkG.setT hD ar c hbq.2 (by decide) (by decide) (by decide) (by decide) (by decide) (by decide)
  have hR:RdAt (BE H (D).files.length ((fun i=>Q i∨i=z∨i=s))) cr (D) V:=RdAt.setQ hR ar (.inr (.inr rfl))
  have hE:=hE.trans hZ4
  have hE:=Aa hE ar (Nat.le_trans ce (by omega))
  have h:=h.trans hZ4
  have h:=Aa h ar (Nat.le_trans a9 (by omega))
  have t:=t.trans hZ4
  have t:=Aa t ar (Nat.le_trans ce (by omega))
  have f:=eb bu f
  have f:=kb ar f (by omega)
  have o:=eb hZ4 o
  have o:=kb ar o (by omega)
  have hC:Chg (A1 H D.files.length) w cr:=Chg.set hC ar (.inr (by omega))
  have j:=eb bu j
  have j:=kb ar j (by omega)
  clear cn
  clear co
  clear hq264
  clear hq265
  clear hq266
  clear hq267
  clear hq268
  clear c
  have c:cr.heap[s]? =some (.cells (rdkC (Ac D,V)).toArray 31 (0,0)):=en;clear en
  have h5:=bl c
  refine B2 rfl (ResF.row rfl c (FH).choose_spec rfl (AN (Ay _) E0)) (vr (.bool (true)) rfl) ?_
  rw[hV]
  exact⟨H,V,rfl,⟨hD,hC,fun i q=> .inl q⟩,RdAt.subQ hR (fun i q=> .inl q)⟩
 refine gS (Yk.eqI (a:=((Db x.1.kind):Nat)) (b:=(2:Nat)) rfl rfl (AY _ _ _ _) ?_)
 refine cD rfl (fun b5=> ?_) fun b5=> ?_
 ·have hV:C3 D x.1=(BY D (Sha.sum x.1.bytes)).1:=by unfold C3;rw[if_neg bb,if_neg bs,if_pos b5]
  refine gS (Yk.loadAll rfl j IU rfl (by exact Ae (Sha.sum_length _)) ?_)
  have hD:=hD.keep p
  have hDc:=hD
  have hR:=hR.keep p
  have hRc:=hR
  refine gS (Yk.callA2 KU rfl rfl ((PM wb _ g _ _ hDc hfit.lt (Sha.sum x.1.bytes) (Sha.sum_length _)).mono ?_))
  rintro e az ⟨H276,rfl,hW277⟩
  refine⟨_,rfl,?_⟩
  have hcs:w.heap.size≤ba.heap.size:=hC.size
  have h:Ext wb az:=hW277.g.ext
  have f:az.heap[z]? =some (.cells (rdkC (Ac D,V)).toArray 31 (0,0)):=DkG.box hDc hW277.chg f (by decide) (by decide) (by decide) (by decide)
  have o:az.heap[a7]? =some (.cells (lacC x).toArray 37 (0,0)):=DkG.box hDc hW277.chg o (by decide) (by decide) (by decide) (by decide)
  have c:az.heap[s]? =some (.cells (rdkC ((⟨false,0,[],[],[],[],[],0,0,false⟩,⟨.slice none 0 0, .slice none 0 0, .slice none 0 0, .slice none 0 0, .slice none 0 0⟩):Au)).toArray 31 (0,0)):=DkG.box hDc hW277.chg c (by decide) (by decide) (by decide) (by decide)
  have hC:Chg (A1 H D.files.length) w az:=hC.trans hW277.chg hFt
  have j:az.heap[av]? =some (.cells (Lib.byteCells (Sha.sum x.1.bytes)).toArray 54 (0,0)):=DkG.box hDc hW277.chg j (by decide) (by decide) (by decide) (by decide)
  clear hE
  clear t
  clear p
  have hD:=hW277.g
  have hR:=hRc.stepQ hW277
  have b6:=Ext.refl az
  have h6:=h.size
  refine gS (Yk.loadSt AU rfl f (gS (Yk.loadAll rfl j IU rfl (by exact Ae (Sha.sum_length _)) ?_)))
  have hD:=hD.keep b6
  have hDc:=hD
  have hR:=hR.keep b6
  have hRc:=hR
  have hz_n2:=(bl f)
  have hz_n31:=(bl c)
  have hcl:=(hC).size
  have hQ3:∀i,(fun i=>Q i∨i=z∨i=s) i→i<az.heap.size:=fun i q=>by rcases q with q | q | q;have:=hQ i q;omega;omega;omega
  refine gS (Yk.callA2 KV rfl rfl ((MY _ D V hRc (hDc.offq hQ3) n hfit hn (Sha.sum x.1.bytes) (Sha.sum_length _)).mono ?_))
  rintro e dd ⟨V283,rfl,hR284,a0⟩
  refine⟨_,rfl,?_⟩
  have hC:Chg (A1 H D.files.length) w dd:=(hC.keep a0)
  have hD:DkG wb dd g H276 ((BY D (Sha.sum x.1.bytes)).1):=(hD.keep a0)
  have hR:=hR284
  have ae:=Ext.refl dd
  have h:=h.trans a0
  have fu:=h.size
  have b6:=b6.trans a0
  have h7:=b6.size
  refine gS (Yk.extract (vs:= [.agg (rdkC (Ac (BY D (Sha.sum x.1.bytes)).1,V283)).toArray,NI ((BY D (Sha.sum x.1.bytes)).2)]) rfl rfl (gS (Yk.extract (vs:= [.agg (rdkC (Ac (BY D (Sha.sum x.1.bytes)).1,V283)).toArray,NI ((BY D (Sha.sum x.1.bytes)).2)]) rfl rfl (gS (Yk.alloc (cs:=(rdkC ((⟨false,0,[],[],[],[],[],0,0,false⟩,⟨.slice none 0 0, .slice none 0 0, .slice none 0 0, .slice none 0 0, .slice none 0 0⟩):Au)).toArray) Ku fun de eo ct ep bg h9=> ?_)))))
  have f:=eb a0 f
  have ia:=AE (bl f) ct
  have o:=eb a0 o
  have ib:=AE (bl o) ct
  have c:=eb a0 c
  have ic:=AE (bl c) ct
  have j:=eb a0 j
  have ie:=AE (bl j) ct
  have hC:Chg (A1 H D.files.length) w eo:=(hC.keep bg)
  have bh:=ep;clear ep
  have ig:de<eo.heap.size:=by omega
  have ae:=ae.trans bg
  have hq304:=((hR.keep ae)).files.choose_spec.2.1
  have hq305:=((hR.keep ae)).synced.1
  have hq306:=((hR.keep ae)).now.1
  have hq307:=((hR.keep ae)).kept.1
  have hq308:=((hR.keep ae)).acts.1
  refine gS (Yk.storeSt AU (vr (PQ de 0) rfl) (vr (.agg (rdkC (Ac (BY D (Sha.sum x.1.bytes)).1,V283)).toArray) rfl) bh (AA (x:=(Ac (BY D (Sha.sum x.1.bytes)).1,V283)) (RG.one hq304).2 (RG.one hq305).2 (RG.one hq306).2 (RG.one hq307).2 (RG.one hq308).2) fun eq er bi ih=> ?_)
  have h:=h.trans bg
  have h:=Aa h bi (Nat.le_trans fu (by omega))
  have f:=eb bg f
  have f:=kb bi f (by omega)
  have o:=eb bg o
  have o:=kb bi o (by omega)
  have c:=eb bg c
  have c:=kb bi c (by omega)
  have hC:Chg (A1 H D.files.length) w eq:=Chg.set hC bi (.inr (by omega))
  have j:=eb bg j
  have j:=kb bi j (by omega)
  have ae:=Aa ae bi (Nat.le_trans (Nat.le_refl _) (by omega))
  clear hq304
  clear hq305
  clear hq306
  clear hq307
  clear hq308
  clear bh
  have bh:eq.heap[de]? =some (.cells (rdkC (Ac (BY D (Sha.sum x.1.bytes)).1,V283)).toArray 31 (0,0)):=er;clear er
  have ii:=bl bh
  refine gS (Yk.loadSt AU rfl bh (gS (Yk.eqI (a:=((BY D (Sha.sum x.1.bytes)).2:Nat)) (b:=((BY D (Sha.sum x.1.bytes)).2:Nat)) rfl rfl (AY _ _ _ _) (kT (rfl) ?_))))
  have hR:=hR.keep ae
  have hq315:=(hR).files.choose_spec.2.1
  have hq316:=(hR).synced.1
  have hq317:=(hR).now.1
  have hq318:=(hR).kept.1
  have hq319:=(hR).acts.1
  refine gS (Yk.storeSt AU (vr (PQ s 0) rfl) (vr (.agg (rdkC (Ac (BY D (Sha.sum x.1.bytes)).1,V283)).toArray) rfl) c (AA (x:=(Ac (BY D (Sha.sum x.1.bytes)).1,V283)) (RG.one hq315).2 (RG.one hq316).2 (RG.one hq317).2 (RG.one hq318).2 (RG.one hq319).2) fun cu es a1 ij=> ?_)
  have h:=Aa h a1 (Nat.le_trans a9 (by omega))
  have f:=kb a1 f (by omega)
  have o:=kb a1 o (by omega)
  have hC:Chg (A1 H D.files.length) w cu:=Chg.set hC a1 (.inr (by omega))
  have j:=kb a1 j (by omega)
  have hD:=hD.keep ae
  have hD:DkG wb cu g H276 ((BY D (Sha.sum x.1.bytes)).1):=DkG.setT hD a1 c hbq.2 (by decide) (by decide) (by decide) (by decide) (by decide) (by decide)
  have hR:RdAt (BE H276 ((BY D (Sha.sum x.1.bytes)).1).files.length ((fun i=>Q i∨i=z∨i=s))) cu ((BY D (Sha.sum x.1.bytes)).1) V283:=RdAt.setQ hR a1 (.inr (.inr rfl))
  clear ae
  have bh:=kb a1 bh (by omega)
  clear hq315
  clear hq316
  clear hq317
  clear hq318
  clear hq319
  clear c
  have c:cu.heap[s]? =some (.cells (rdkC (Ac (BY D (Sha.sum x.1.bytes)).1,V283)).toArray 31 (0,0)):=es;clear es
  have ik:=bl c
  refine B2 rfl (ResF.row rfl c (FH).choose_spec rfl (AN (Ay _) E0)) (vr (.bool (true)) rfl) ?_
  rw[hV]
  exact⟨H276,V283,rfl,⟨hD,hC,fun i q=>(hW277.foot i q).imp id fun r=>Nat.le_trans hcs r⟩,RdAt.subQ hR (fun i q=> .inl q)⟩
 refine gS (Yk.eqI (a:=((Db x.1.kind):Nat)) (b:=(3:Nat)) rfl rfl (AY _ _ _ _) ?_)
 refine cD rfl (fun cv=> ?_) fun cv=> ?_
 ·have hV:C3 D x.1=(Af D (Ad (Sha.sum x.1.bytes)) x.1.other).1:=by unfold C3;rw[if_neg bb,if_neg bs,if_neg b5,if_pos cv]
  refine BV [0,1,4,5,2,3,6,7] [2,6] [4] [5] fun et cw=> ?_
  have hC:Chg (A1 H D.files.length) w et:=(hC.keep cw)
  have cx:=Ext.refl et
  have o:=eb cw o
  have j:=eb cw j
  refine BM cx ?_
  refine ys (Yk.loadAll rfl j IU rfl (by exact Ae (Sha.sum_length _)) zz) (yp (Yk.fieldAt MJ rfl zz) (yf (fun _ ⟨hZ,_⟩=>Yk.cell1 S2 rfl rfl (cellAt (eb hZ o) (Gr x)) zz) (yE (Yk.callA1 QC rfl ((FK _ (Sha.sum x.1.bytes) (Sha.sum_length _)).mono ?_)))))
  rintro e eu ⟨rfl,b7⟩
  refine⟨_,rfl,?_⟩
  have hC:Chg (A1 H D.files.length) w eu:=(hC.keep b7)
  have cx:=cx.trans b7
  refine⟨cx,?_⟩
  refine ys (Yk.catSt (l:=([111,45]:List UInt8)) (m:=hexOf (Sha.sum x.1.bytes)) rfl rfl (by rw[B4,Sha.sum_length];simp) zz) ?_
  have hZ5:=cw.trans b7
  have p:=p.trans hZ5
  have hD:=hD.keep p
  have hDc:=hD
  have hR:=hR.keep p
  have hRc:=hR
  have h:=h.trans hZ5
  refine yD rfl (Yk.callA3 PD rfl rfl rfl ((hDc.appendW ([111,45]++hexOf (Sha.sum x.1.bytes)) x.2.other x.1.other (hxo.keep h) (hDc.off hx.other) (by omega) hfit.lt).mono ?_))
  rintro e bj ⟨H333,rfl,hW334⟩
  refine⟨_,rfl,?_⟩
  have hcs:w.heap.size≤eu.heap.size:=hC.size
  have h:Ext wb bj:=hW334.g.ext
  have f:=eb hZ5 f
  have f:bj.heap[z]? =some (.cells (rdkC (Ac D,V)).toArray 31 (0,0)):=DkG.box hDc hW334.chg f (by decide) (by decide) (by decide) (by decide)
  have o:=eb b7 o
  have o:bj.heap[a7]? =some (.cells (lacC x).toArray 37 (0,0)):=DkG.box hDc hW334.chg o (by decide) (by decide) (by decide) (by decide)
  have c:=eb hZ5 c
  have c:bj.heap[s]? =some (.cells (rdkC ((⟨false,0,[],[],[],[],[],0,0,false⟩,⟨.slice none 0 0, .slice none 0 0, .slice none 0 0, .slice none 0 0, .slice none 0 0⟩):Au)).toArray 31 (0,0)):=DkG.box hDc hW334.chg c (by decide) (by decide) (by decide) (by decide)
  have hC:Chg (A1 H D.files.length) w bj:=hC.trans hW334.chg hFt
  have j:=eb b7 j
  have j:bj.heap[av]? =some (.cells (Lib.byteCells (Sha.sum x.1.bytes)).toArray 54 (0,0)):=DkG.box hDc hW334.chg j (by decide) (by decide) (by decide) (by decide)
  clear hE
  clear t
  clear p
  have hD:=hW334.g
  have hR:=hRc.stepQ hW334
  have b8:=Ext.refl bj
  have il:=h.size
  refine QQ 9 [0,1,3,4,2,5,6,7,8] [10,11] [2,5,10] [3,8] [0,4] (cells:=(rdkC ((⟨false,0,[],[],[],[],[],0,0,false⟩,⟨.slice none 0 0, .slice none 0 0, .slice none 0 0, .slice none 0 0, .slice none 0 0⟩):Au)).toArray) Ku fun df bk=> ?_
  have hC:Chg (A1 H D.files.length) w df:=(hC.keep bk)
  have b9:=Ext.refl df
  have h:=h.trans bk
  have fv:=h.size
  have b8:=b8.trans bk
  have im:=b8.size
  have hR:=hR.keep b8
  have hRA:=hR
  have hwA:=(h).size
  have hwA2:=(hC).size
  have f:=eb bk f
  have io:=(bl f)
  have o:=eb bk o
  have ip:=(bl o)
  have c:=eb bk c
  have iq:=(bl c)
  have j:=eb bk j
  have ir:=(bl j)
  refine aF rfl rfl (fun _ hZ=>Yk.loadSt AU rfl (eb hZ f) zz) (aF rfl rfl (fun _ hZ=>Yk.loadAll rfl (eb hZ j) IU rfl (by exact Ae (Sha.sum_length _)) zz) (aP rfl rfl (fun _ _=>Yk.fieldAt MJ rfl zz) (aF rfl rfl (fun _ hZ=>Yk.cell1 S2 rfl rfl (cellAt (eb hZ o) (Gr x)) zz) (aC rfl rfl fun ew ex=> ?_))))
  have hC:Chg (A1 H D.files.length) w ew:=(hC.keep ex)
  have dh:=Ext.refl ew
  refine id (Yk.callA1 Cw (vr (AB (Sha.sum x.1.bytes)) rfl) ((B3 _ (Sha.sum x.1.bytes) (Sha.sum_length _)).mono ?_))
  rintro e fw ⟨rfl,di⟩
  refine⟨_,rfl,?_⟩
  have hC:Chg (A1 H D.files.length) w fw:=(hC.keep di)
  have dh:=dh.trans di
  refine⟨dh,?_⟩
  refine aC rfl rfl fun ca ey=> ?_
  have hC:Chg (A1 H D.files.length) w ca:=(hC.keep ey)
  have hZ6:=(ex.trans di).trans ey
  have b9:=b9.trans hZ6
  have hD:=hD.keep (b8.trans b9)
  have hDc:=hD
  have hR:=hR.keep b9
  have hRc:=hR
  have f:=eb hZ6 f
  have hz_n2:=(bl f)
  have c:=eb hZ6 c
  have hz_n31:=(bl c)
  have hcl:=(hC).size
  have hQ3:∀i,(fun i=>Q i∨i=z∨i=s) i→i<ca.heap.size:=fun i q=>by rcases q with q | q | q;have:=hQ i q;omega;omega;omega
  have hRc:=RdAt.gapQ hRA b9
  have hQ3:∀i,(fun i=>(fun i=>Q i∨i=z∨i=s) i∨(df.heap.size≤i∧i<ca.heap.size)) i→i<ca.heap.size:=fun i q=>q.elim (hQ3 i) fun q=>q.2
  have cy:=Ext.refl ca
  have h:=h.trans hZ6
  refine id (Yk.callA3 KP (vr (.agg (rdkC (Ac D,V)).toArray) rfl) (vr (St ((Ad (Sha.sum x.1.bytes)))) rfl) (vr x.2.other rfl) ((hRc.append (hDc.offq hQ3) hfit (by omega) (Ad (Sha.sum x.1.bytes)) x.2.other x.1.other (hxo.keep h) hol).mono ?_))
  rintro e dj ⟨V364,rfl,hR365,bv⟩
  refine⟨_,rfl,?_⟩
  have hC:Chg (A1 H D.files.length) w dj:=(hC.keep bv)
  have hD:DkG wb dj g H333 ((Af D (Ad (Sha.sum x.1.bytes)) x.1.other).1):=(hD.keep bv)
  have hR:=hR365
  have cz:=Ext.refl dj
  have h:=h.trans bv
  have iu:=h.size
  have cy:=cy.trans bv
  have iv:=cy.size
  refine⟨cy,?_⟩
  refine aM rfl rfl (aP rfl rfl (fun _ _=>Yk.extract (vs:= [.agg (rdkC (Ac (Af D (Ad (Sha.sum x.1.bytes)) x.1.other).1,V364)).toArray,NI ((Af D (Ad (Sha.sum x.1.bytes)) x.1.other).2)]) rfl rfl zz) (aP rfl rfl (fun _ _=>Yk.extract (vs:= [.agg (rdkC (Ac (Af D (Ad (Sha.sum x.1.bytes)) x.1.other).1,V364)).toArray,NI ((Af D (Ad (Sha.sum x.1.bytes)) x.1.other).2)]) rfl rfl zz) (aE fun cb fx cc ⟨⟨ez,iw⟩,fy⟩ ix a2=> ?_)))
  have hC:Chg (A1 H D.files.length) w fx:=(hC.keep cc)
  have cz:=cz.trans cc
  have hR:=(RdAt.gapM hR cz ez fy).subQ (Q' :=(fun i=>Q i∨i=z∨i=s∨i=cb)) (fun i q=>by rcases q with q | q | q | q;exact .inl (.inl q);exact .inl (.inr (.inl q));exact .inl (.inr (.inr q));exact .inr q)
  have fz:=Nat.le_trans hwA ez
  have hq383:=(hR).files.choose_spec.2.1
  have hq384:=(hR).synced.1
  have hq385:=(hR).now.1
  have hq386:=(hR).kept.1
  have hq387:=(hR).acts.1
  refine yD rfl (Yk.storeSt AU (vr (PQ cb 0) rfl) (vr (.agg (rdkC (Ac (Af D (Ad (Sha.sum x.1.bytes)) x.1.other).1,V364)).toArray) rfl) a2 (AA (x:=(Ac (Af D (Ad (Sha.sum x.1.bytes)) x.1.other).1,V364)) (RG.one hq383).2 (RG.one hq384).2 (RG.one hq385).2 (RG.one hq386).2 (RG.one hq387).2) fun c0 e0 a3 iy=> ?_)
  have h:=h.trans cc
  have h:=Aa h a3 (Nat.le_trans fv (by omega))
  have hZ7:=bv.trans cc
  have f:=eb hZ7 f
  have f:=kb a3 f (by omega)
  have hZ8:=(hZ6.trans bv).trans cc
  have o:=eb hZ8 o
  have o:=kb a3 o (by omega)
  have c:=eb hZ7 c
  have c:=kb a3 c (by omega)
  have hC:Chg (A1 H D.files.length) w c0:=Chg.set hC a3 (.inr (by omega))
  have j:=eb hZ8 j
  have j:=kb a3 j (by omega)
  have hD:=hD.keep cz
  have hD:DkG wb c0 g H333 ((Af D (Ad (Sha.sum x.1.bytes)) x.1.other).1):=DkG.setT hD a3 a2 fz (by decide) (by decide) (by decide) (by decide) (by decide) (by decide)
  have hR:RdAt (BE H333 ((Af D (Ad (Sha.sum x.1.bytes)) x.1.other).1).files.length ((fun i=>Q i∨i=z∨i=s∨i=cb))) c0 ((Af D (Ad (Sha.sum x.1.bytes)) x.1.other).1) V364:=RdAt.setQ hR a3 (.inr (.inr (.inr rfl)))
  clear hq383
  clear hq384
  clear hq385
  clear hq386
  clear hq387
  clear a2
  have a2:c0.heap[cb]? =some (.cells (rdkC (Ac (Af D (Ad (Sha.sum x.1.bytes)) x.1.other).1,V364)).toArray 31 (0,0)):=e0;clear e0
  have iz:=bl a2
  refine gS (Yk.loadSt AU rfl a2 (gS (Yk.eqI (a:=((Af D ([111,45]++hexOf (Sha.sum x.1.bytes)) x.1.other).2:Nat)) (b:=((Af D (Ad (Sha.sum x.1.bytes)) x.1.other).2:Nat)) rfl rfl (AY _ _ _ _) (kT (rfl) ?_))))
  have hq394:=(hR).files.choose_spec.2.1
  have hq395:=(hR).synced.1
  have hq396:=(hR).now.1
  have hq397:=(hR).kept.1
  have hq398:=(hR).acts.1
  refine gS (Yk.storeSt AU (vr (PQ s 0) rfl) (vr (.agg (rdkC (Ac (Af D (Ad (Sha.sum x.1.bytes)) x.1.other).1,V364)).toArray) rfl) c (AA (x:=(Ac (Af D (Ad (Sha.sum x.1.bytes)) x.1.other).1,V364)) (RG.one hq394).2 (RG.one hq395).2 (RG.one hq396).2 (RG.one hq397).2 (RG.one hq398).2) fun c1 e1 a4 i0=> ?_)
  have h:=Aa h a4 (Nat.le_trans a9 (by omega))
  have f:=kb a4 f (by omega)
  have o:=kb a4 o (by omega)
  have hC:Chg (A1 H D.files.length) w c1:=Chg.set hC a4 (.inr (by omega))
  have j:=kb a4 j (by omega)
  have hD:DkG wb c1 g H333 ((Af D (Ad (Sha.sum x.1.bytes)) x.1.other).1):=DkG.setT hD a4 c hbq.2 (by decide) (by decide) (by decide) (by decide) (by decide) (by decide)
  have hR:RdAt (BE H333 ((Af D (Ad (Sha.sum x.1.bytes)) x.1.other).1).files.length ((fun i=>Q i∨i=z∨i=s∨i=cb))) c1 ((Af D (Ad (Sha.sum x.1.bytes)) x.1.other).1) V364:=RdAt.setQ hR a4 (.inr (.inr (.inl rfl)))
  have a2:=kb a4 a2 (by omega)
  clear hq394
  clear hq395
  clear hq396
  clear hq397
  clear hq398
  clear c
  have c:c1.heap[s]? =some (.cells (rdkC (Ac (Af D (Ad (Sha.sum x.1.bytes)) x.1.other).1,V364)).toArray 31 (0,0)):=e1;clear e1
  have i1:=bl c
  refine B2 rfl (ResF.row rfl c (FH).choose_spec rfl (AN (Ay _) E0)) (vr (.bool (true)) rfl) ?_
  rw[hV]
  exact⟨H333,V364,rfl,⟨hD,hC,fun i q=>(hW334.foot i q).imp id fun r=>Nat.le_trans hcs r⟩,RdAt.subQ hR (fun i q=> .inl q)⟩
 refine gS (Yk.eqI (a:=((Db x.1.kind):Nat)) (b:=(4:Nat)) rfl rfl (AY _ _ _ _) ?_)
 refine cD rfl (fun dk=> ?_) fun dk=> ?_
 ·have hV:C3 D x.1=(BS D x.1.fates):=by unfold C3;rw[if_neg bb,if_neg bs,if_neg b5,if_neg cv,if_pos dk]
  have hDb:=(hD.keep p)
  have bw:=Ext.refl ba
  have i2:=hE.size
  have f0:=h.size
  have e2:=t.size
  have f1:=p.size
  refine gS (Yk.lit0G (k:=1) (enc:=DG) Om fun bx e3 af an=> ?_)
  have f2:OB bx z:=Ao af.2 (bl f)
  have f3:OB bx a7:=Ao af.2 (bl o)
  have f4:OB bx s:=Ao af.2 (bl c)
  have f5:OB bx av:=Ao af.2 (bl j)
  have hC:Chg (A1 H D.files.length) w e3:=(hC.keep an)
  have h:=h.trans an
  have o:=eb an o
  have bw:=bw.trans an
  refine gS (Yk.fieldAt ML rfl (gS (Yk.cell1 Du rfl rfl (cellAt o (Gs x)) (gS (Yk.appendRG _ _ ba.heap.size _ 8 Du rd3_ig3.choose_spec.1 rd3_ig3.choose_spec.2 Du ([]) (x.1.fates) (OG.of af (vr bx rfl)) (RG.of (hxf.keep h) (vr x.2.fates rfl)) (fun y hy u hu=>by rw[List.mem_singleton.1 hu];rfl) (by simp only[List.length_nil];omega) (by simp only[List.length_nil];omega) bw.size fun dl dm e4 ag=> ?_)))))
  have ag:Grew e3 dm bx dl:=ag
  have hE:=hE.trans an
  have hE:=Ag hE ag af.2 e2
  have h:=Ag h ag af.2 f0
  have t:=t.trans an
  have t:=Ag t ag af.2 e2
  have f:=eb an f
  have f:=Am f ag f2
  have o:=Am o ag f3
  have c:=eb an c
  have c:=Am c ag f4
  have hC:Chg (A1 H D.files.length) w dm:=Chg.grew hC ag (fun i e=> .inr (by have h8:=(af.2.lt i e).1;omega))
  have p:=p.trans an
  have p:=Ag p ag af.2 f1
  have j:=eb an j
  have j:=Am j ag f5
  have bw:=Ag bw ag af.2 (Nat.le_refl _)
  clear af
  have hrf_:RG 1 DG _ dl x.1.fates:=HI (RG.ofOwn e4) (List.nil_append _)
  have hD:=hD.keep p
  have hDc:=hD
  have hR:=hR.keep p
  have hRc:=hR
  refine gS (Yk.callA2 KW rfl rfl ((hDc.crashW dl x.1.fates hrf_ hfit.lt).mono ?_))
  rintro e a5 ⟨H437,rfl,hW438⟩
  refine⟨_,rfl,?_⟩
  have hcs:w.heap.size≤dm.heap.size:=hC.size
  have h:Ext wb a5:=hW438.g.ext
  have f:a5.heap[z]? =some (.cells (rdkC (Ac D,V)).toArray 31 (0,0)):=DkG.box hDc hW438.chg f (by decide) (by decide) (by decide) (by decide)
  have o:a5.heap[a7]? =some (.cells (lacC x).toArray 37 (0,0)):=DkG.box hDc hW438.chg o (by decide) (by decide) (by decide) (by decide)
  have c:a5.heap[s]? =some (.cells (rdkC ((⟨false,0,[],[],[],[],[],0,0,false⟩,⟨.slice none 0 0, .slice none 0 0, .slice none 0 0, .slice none 0 0, .slice none 0 0⟩):Au)).toArray 31 (0,0)):=DkG.box hDc hW438.chg c (by decide) (by decide) (by decide) (by decide)
  have hC:Chg (A1 H D.files.length) w a5:=hC.trans hW438.chg hFt
  have j:a5.heap[av]? =some (.cells (Lib.byteCells (Sha.sum x.1.bytes)).toArray 54 (0,0)):=DkG.box hDc hW438.chg j (by decide) (by decide) (by decide) (by decide)
  clear hE
  clear t
  clear p
  clear bw
  clear e4
  have hD:=hW438.g
  have hR:=hRc.stepQ hW438
  have cd:=Ext.refl a5
  have i3:=h.size
  refine gS (Yk.loadSt AU rfl f (gS (Yk.fieldAt ML rfl (gS (Yk.cell1 Du rfl rfl (cellAt o (Gs x)) ?_)))))
  have hD:=hD.keep cd
  have hDc:=hD
  have hR:=hR.keep cd
  have hRc:=hR
  have hz_n2:=(bl f)
  have hz_n31:=(bl c)
  have hcl:=(hC).size
  have hQ3:∀i,(fun i=>Q i∨i=z∨i=s) i→i<a5.heap.size:=fun i q=>by rcases q with q | q | q;have:=hQ i q;omega;omega;omega
  refine gS (Yk.callA2 KX rfl rfl ((hRc.fates (hDc.offq hQ3) hfit (by omega) x.2.fates x.1.fates (hxf.keep h) (by omega)).mono ?_))
  rintro e dn ⟨V444,rfl,hR445,a6⟩
  refine⟨_,rfl,?_⟩
  have hC:Chg (A1 H D.files.length) w dn:=(hC.keep a6)
  have hD:DkG wb dn g H437 ((BS D x.1.fates)):=(hD.keep a6)
  have hR:=hR445
  have dp:=Ext.refl dn
  have h:=h.trans a6
  have i4:=h.size
  have cd:=cd.trans a6
  have i5:=cd.size
  have hR:=hR.keep dp
  have hq453:=(hR).files.choose_spec.2.1
  have hq454:=(hR).synced.1
  have hq455:=(hR).now.1
  have hq456:=(hR).kept.1
  have hq457:=(hR).acts.1
  have c:=eb a6 c
  refine gS (Yk.storeSt AU (vr (PQ s 0) rfl) (vr (.agg (rdkC (Ac (BS D x.1.fates),V444)).toArray) rfl) c (AA (x:=(Ac (BS D x.1.fates),V444)) (RG.one hq453).2 (RG.one hq454).2 (RG.one hq455).2 (RG.one hq456).2 (RG.one hq457).2) fun c2 e5 bm i6=> ?_)
  have h:=Aa h bm (Nat.le_trans a9 (by omega))
  have f:=eb a6 f
  have f:=kb bm f (by omega)
  have o:=eb a6 o
  have o:=kb bm o (by omega)
  have hC:Chg (A1 H D.files.length) w c2:=Chg.set hC bm (.inr (by omega))
  have j:=eb a6 j
  have j:=kb bm j (by omega)
  have hD:=hD.keep dp
  have hD:DkG wb c2 g H437 ((BS D x.1.fates)):=DkG.setT hD bm c hbq.2 (by decide) (by decide) (by decide) (by decide) (by decide) (by decide)
  have hR:RdAt (BE H437 ((BS D x.1.fates)).files.length ((fun i=>Q i∨i=z∨i=s))) c2 ((BS D x.1.fates)) V444:=RdAt.setQ hR bm (.inr (.inr rfl))
  clear dp
  clear hq453
  clear hq454
  clear hq455
  clear hq456
  clear hq457
  clear c
  have c:c2.heap[s]? =some (.cells (rdkC (Ac (BS D x.1.fates),V444)).toArray 31 (0,0)):=e5;clear e5
  have i7:=bl c
  refine B2 rfl (ResF.row rfl c (FH).choose_spec rfl (AN (Ay _) E0)) (vr (.bool (true)) rfl) ?_
  rw[hV]
  exact⟨H437,V444,rfl,⟨hD,hC,fun i q=>(hW438.foot i q).imp id fun r=>Nat.le_trans hcs r⟩,RdAt.subQ hR (fun i q=> .inl q)⟩
 have hV:C3 D x.1 = { D with arm:=x.1.n.toNat } :=by unfold C3;rw[if_neg bb,if_neg bs,if_neg b5,if_neg cv,if_neg dk]
 refine gS (Yk.fieldAt FM rfl (gS (Yk.cell1 Pb rfl rfl (cellAt o (Kl x)) ?_)))
 have hD:=hD.keep p
 have hDc:=hD
 have hR:=hR.keep p
 have hRc:=hR
 refine gS (Yk.callA2 KY rfl rfl ((hDc.armW x.1.n).mono ?_))
 rintro e bn ⟨H464,rfl,hW465⟩
 refine⟨_,rfl,?_⟩
 have hcs:w.heap.size≤ba.heap.size:=hC.size
 have h:Ext wb bn:=hW465.g.ext
 have f:bn.heap[z]? =some (.cells (rdkC (Ac D,V)).toArray 31 (0,0)):=DkG.box hDc hW465.chg f (by decide) (by decide) (by decide) (by decide)
 have o:bn.heap[a7]? =some (.cells (lacC x).toArray 37 (0,0)):=DkG.box hDc hW465.chg o (by decide) (by decide) (by decide) (by decide)
 have c:bn.heap[s]? =some (.cells (rdkC ((⟨false,0,[],[],[],[],[],0,0,false⟩,⟨.slice none 0 0, .slice none 0 0, .slice none 0 0, .slice none 0 0, .slice none 0 0⟩):Au)).toArray 31 (0,0)):=DkG.box hDc hW465.chg c (by decide) (by decide) (by decide) (by decide)
 have hC:Chg (A1 H D.files.length) w bn:=hC.trans hW465.chg hFt
 have j:bn.heap[av]? =some (.cells (Lib.byteCells (Sha.sum x.1.bytes)).toArray 54 (0,0)):=DkG.box hDc hW465.chg j (by decide) (by decide) (by decide) (by decide)
 clear hE
 clear t
 clear p
 have hD:=hW465.g
 have hR:=hRc.stepQ hW465
 have dq:=Ext.refl bn
 have i8:=h.size
 refine gS (Yk.fieldAt Dc rfl (gS (Yk.cell1 Q3 rfl rfl (cellAt f (Dy (Ac D,V))) (cT rfl (gS (Yk.fieldAt FM rfl (gS (Yk.cell1 Pb rfl rfl (cellAt o (Kl x)) (gS (Yk.max0 rfl rfl (gS (Yk.fieldAt Ed rfl (gS (Yk.storeC (i:=8) (v:=NI x.1.n.toNat) rfl rfl f (by rw[Ay];decide) Ph rfl rfl fun bz e6 bo i9=> ?_))))))))))))))
 have h:=Aa h bo (Nat.le_trans e8 (by omega))
 have o:=kb bo o (by omega)
 have c:=kb bo c (by omega)
 have hC:Chg (A1 H D.files.length) w bz:=Chg.set hC bo (.inr (by omega))
 have j:=kb bo j (by omega)
 have hD:=hD.keep dq
 have hD:DkG wb bz g H464 ({ D with arm:=x.1.n.toNat }):=DkG.setT hD bo f hbq.1 (by decide) (by decide) (by decide) (by decide) (by decide) (by decide)
 have hR:=hR.keep dq
 have hR:RdAt (BE H464 ({ D with arm:=x.1.n.toNat }).files.length ((fun i=>Q i∨i=z∨i=s))) bz (D) V:=RdAt.setQ hR bo (.inr (.inl rfl))
 clear dq
 clear f
 have f:bz.heap[z]? =some (.cells (rdkC ((⟨true,((D.quota:Nat):Int),(D.files.map Prod.fst),(D.files.map fun x=>((x.2:Nat):Int)),D.now,D.kept,D.acts,D.refused,x.1.n.toNat,D.down⟩,⟨V.files,V.synced,V.now,V.kept,V.acts⟩):Au)).toArray 31 (0,0)):=AF e6 (Od (Ac D,V) x.1.n.toNat);clear e6
 have ja:=bl f
 have f:bz.heap[z]? =some (.cells (rdkC (Ac ({ D with arm:=x.1.n.toNat }),V)).toArray 31 (0,0)):=f
 have hR:RdAt (BE H464 ({ D with arm:=x.1.n.toNat }).files.length (fun i=>Q i∨i=z∨i=s)) bz ({ D with arm:=x.1.n.toNat }) V:=⟨hR.files,hR.synced,hR.now,hR.kept,hR.acts⟩
 refine gS (Yk.loadSt AU rfl f ?_)
 have hq478:=(hR).files.choose_spec.2.1
 have hq479:=(hR).synced.1
 have hq480:=(hR).now.1
 have hq481:=(hR).kept.1
 have hq482:=(hR).acts.1
 refine gS (Yk.storeSt AU (vr (PQ s 0) rfl) (vr (.agg (rdkC (Ac ({ D with arm:=x.1.n.toNat }),V)).toArray) rfl) c (AA (x:=(Ac ({ D with arm:=x.1.n.toNat }),V)) (RG.one hq478).2 (RG.one hq479).2 (RG.one hq480).2 (RG.one hq481).2 (RG.one hq482).2) fun c3 e7 bp jb=> ?_)
 have h:=Aa h bp (Nat.le_trans a9 (by omega))
 have o:=kb bp o (by omega)
 have hC:Chg (A1 H D.files.length) w c3:=Chg.set hC bp (.inr (by omega))
 have j:=kb bp j (by omega)
 have hD:DkG wb c3 g H464 ({ D with arm:=x.1.n.toNat }):=DkG.setT hD bp c hbq.2 (by decide) (by decide) (by decide) (by decide) (by decide) (by decide)
 have hR:RdAt (BE H464 ({ D with arm:=x.1.n.toNat }).files.length ((fun i=>Q i∨i=z∨i=s))) c3 ({ D with arm:=x.1.n.toNat }) V:=RdAt.setQ hR bp (.inr (.inr rfl))
 have f:=kb bp f (by omega)
 clear hq478
 clear hq479
 clear hq480
 clear hq481
 clear hq482
 clear c
 have c:c3.heap[s]? =some (.cells (rdkC (Ac ({ D with arm:=x.1.n.toNat }),V)).toArray 31 (0,0)):=e7;clear e7
 have jc:=bl c
 refine B2 rfl (ResF.row rfl c (FH).choose_spec rfl (AN (Ay _) E0)) (vr (.bool (true)) rfl) ?_
 rw[hV]
 exact⟨H464,V,rfl,⟨hD,hC,fun i q=>(hW465.foot i q).imp id fun r=>Nat.le_trans hcs r⟩,RdAt.subQ hR (fun i q=> .inl q)⟩
open Go.RowKit
set_option maxRecDepth 100000
set_option linter.unusedVariables false
set_option linter.unusedSimpArgs false
theorem QG(P:Nat→Prop)(w:World)(q:Nat):RdAt P w (AT q) V0:=
 ⟨⟨[],⟨rfl,fun i hi=>absurd hi (Nat.not_lt_zero _)⟩,RG.nil _ _ _, .inl rfl⟩,⟨RG.nil _ _ _, .inl rfl⟩,⟨RG.nil _ _ _, .inl rfl⟩,⟨RG.nil _ _ _, .inl rfl⟩,⟨RG.nil _ _ _, .inl rfl⟩⟩
def A7(D:An)(l:List BT)(n:Nat):An:=(l.take n).foldl (fun d x=>C3 d x.1) D
theorem If{D:An}{l:List BT}{n:Nat}(h:n<l.length):A7 D l (n+1)=C3 (A7 D l n) (l.getD n Bm).1:=by
 unfold A7
 rw[List.take_succ_eq_append_getElem h,List.foldl_append,List.getD_eq_getElem?_getD,List.getElem?_eq_getElem h]
 rfl
theorem RU{o:List (List UInt8)}(h:∀x,x∈o↔x∈([]:List (List UInt8))):o.length≤0:=by
 cases o with
 | nil=>exact Nat.le_refl 0
 | cons a r=>cases(h a).1 (by simp)
theorem M1(wb w:World)(g:Nat)(H:Dk)(D:An)(hD:DkG wb w g H D)(hG:Laid wb)(V:Cn)(Q:Nat→Prop)(hQ:∀i,Q i→i<w.heap.size)(hR:RdAt (BE H D.files.length Q) w D V)(x:BT)(hx:LacAt wb x)(hbl:x.1.bytes.length≤300)(hol:x.1.other.length≤300)(hfs:x.1.fates.length≤100)(n:Nat)(hfit:FitD n D)(hn:n≤98000){D2:An}(h2:D2=C3 D x.1):
  Calls Tryz.prog 7 #[PQ g 0, .agg (rdkC (Ac D,V)).toArray, .agg (lacC x).toArray] w fun e w' =>∃H' V',e = .returned (.tuple #[.agg (rdkC (Ac D2,V')).toArray, .bool true])∧DkW wb w g H D w' H' D2∧RdAt (BE H' D2.files.length Q) w' D2 V' :=by
 subst h2
 exact M0 wb w g H D hD hG V Q hQ hR x hx hbl hol hfs n hfit hn
theorem Ig(w:World)(v a:Value)(l:List (List UInt8))(hl:RG 1 (B1) w v l)(hm:RG 1 (B1) w a l)(hll:l.length<1099511627776):
  Calls Tryz.prog 8 #[v,a] w fun e w' =>e = .returned (.bool true)∧Ext w w' :=
 (Oh w v a l l hl hm hll).mono fun e w' ⟨he,hx⟩=>⟨by rw[he,decide_eq_true rfl],hx⟩
theorem LY(w:World)(v u_:Value)(l m:List (List UInt8))(hr:RG 32 Lib.byteCells w v l)(hs:RG 32 Lib.byteCells w u_ m)(hll:l.length<9223372036854775807)(h:l=m):
  Calls Tryz.prog 11 #[v,u_] w fun e w' =>e = .returned (.bool true)∧Ext w w' :=
 (Lp w v u_ l m hr hs hll).mono fun e w' ⟨he,hx⟩=>⟨by rw[he,decide_eq_true h],hx⟩
theorem LZ:Plain Tryz.prog 4:=fun _ _=>by kernel_rfl
theorem L0:Plain Tryz.prog 6:=fun _ _=>by kernel_rfl
theorem Cg:GP Tryz.prog 31 rdkC:=⟨⟨_,(FH).choose_spec⟩,fun x=>AN (Ay x) E0⟩
theorem KZ:∃fs,Tryz.prog.underlying 37=some (.struct fs):=Es (by kernel_rfl)
theorem Jl:(Tryz.prog.info? 37).map (·.size)=some 5:=by kernel_rfl
theorem L1:Plain Tryz.prog 7:=fun _ _=>by kernel_rfl
theorem L2:Plain Tryz.prog 8:=fun _ _=>by kernel_rfl
theorem K0:Plain Tryz.prog 13:=fun _ _=>by kernel_rfl
theorem K1:Plain Tryz.prog 11:=fun _ _=>by kernel_rfl
theorem K2:Plain Tryz.prog 14:=fun _ _=>by kernel_rfl
set_option maxHeartbeats 1600000
theorem OO(w:World)(hG:Laid w)(q:Int)(hq:q<0∨1073741824<q)(v:Value)(l:List BT)(hl:RG 5 lacC w v l)(hk:∀x∈l,LacAt w x):
  Calls Tryz.prog 3 #[.int .i64 q,v] w fun e w' =>e = .returned (.bool true)∧Ext w w' :=by
 refine gG (args:= [.int .i64 (q:Int),v]) Tryz.func3 rfl 53 rfl rfl ?_
 have hE:=Ext.refl w
 refine gS (Yk.callA2 LZ rfl rfl ((HX _ v l (hl.keep hE) (fun x hx=>(hk x hx).keep hE) 40 (by decide)).mono ?_))
 rintro e w5 ⟨rfl,ak⟩
 refine⟨_,rfl,?_⟩
 refine gS (Yk.notB rfl ?_)
 refine cB (!((CS l 40))) rfl (fun al=> ?_) fun al=> ?_
 ·refine AX rfl (vr (.bool (true)) rfl) ?_
  have hE:=hE.trans ak
  exact⟨rfl,hE⟩
 have hL:CS l 40=true:=by simpa using al
 have hln:=(Ea hL).1
 refine gS (Yk.callA1 RE rfl ((Rk _ q hq).mono ?_))
 rintro e w9 ⟨rfl,a0⟩
 refine⟨_,rfl,?_⟩
 refine gS (Yk.callA1 L0 rfl ((Qk _ q hq).mono ?_))
 rintro e am ⟨rfl,a1⟩
 refine⟨_,rfl,?_⟩
 refine gS (Yk.alloc (cs:=(rdkC ((⟨false,0,[],[],[],[],[],0,0,false⟩,⟨.slice none 0 0, .slice none 0 0, .slice none 0 0, .slice none 0 0, .slice none 0 0⟩):Au)).toArray) Ku fun j a2 bo an ao bp=> ?_)
 have f:=Ext.refl am
 have hE:=hE.trans ((ak.trans a0).trans a1)
 have ap:=hE.size
 have c:=an;clear an
 have bq:j<a2.heap.size:=by omega
 refine gS (Yk.storeSt Cg (vr (PQ j 0) rfl) (vr (.agg (rdkC (AK q)).toArray) rfl) c (AA (x:=(AK q)) rfl rfl rfl rfl rfl) fun a3 aq ar br=> ?_)
 have hE:=hE.trans ao
 have hE:=Aa hE ar (Nat.le_trans ap (by omega))
 have f:=f.trans ao
 have f:=Aa f ar (Nat.le_trans (Nat.le_refl _) (by omega))
 clear c
 have c:a3.heap[j]? =some (.cells (rdkC (AK q)).toArray 31 (0,0)):=aq;clear aq
 have bs:=bl c
 refine gL (fun(ρ:Ai) (wz:World)=>∃i:Nat,ρ 0=(.int .i64 (q:Int):Value)∧ρ 1=(v:Value)∧ρ 5=(.pointer none:Value)∧ρ 6=(PQ j 0:Value)∧ρ 7=(NI i:Value)∧Ext w wz∧Ext am wz∧wz.heap[j]? =some (.cells (rdkC (AK q)).toArray 31 (0,0))∧(i≤l.length)∧True) (fun ρ _=>l.length-(intOf (ρ 7)).toNat) ⟨0,rfl,rfl,rfl,rfl,rfl,hE,f,c,Nat.zero_le _,trivial⟩ ?_
 clear hE f c
 rintro a4 bt ⟨i,T0,r,m,k,n,hE,f,c,hi,-⟩
 have q7:=n
 refine gS (Yk.lenRG EK (RG.of (hl.keep hE) r) (gS (Yk.eqI (a:=(i:Nat)) (b:=(l.length:Nat)) n rfl (AO _ _ _ _) ?_)))
 refine cD rfl (fun au=> ?_) fun au=> ?_
 ·have hlt:i<l.length:=au
  have hmem:=BD (d:=Bm) hlt
  have hx:=hk _ hmem
  have hxb:=hx.bytes
  have hxo:=hx.other
  have hxf:=hx.fates
  obtain⟨hbl,hol,hfl⟩:=(Ea hL).2 _ hmem
  refine QQ 10 [0,1,2,3,4,5,6,7,8,9] [11,12] [6,11] [9] [] (cells:=(rdkC ((⟨false,0,[],[],[],[],[],0,0,false⟩,⟨.slice none 0 0, .slice none 0 0, .slice none 0 0, .slice none 0 0, .slice none 0 0⟩):Au)).toArray) Ku fun bu s=> ?_
  have hE:=hE.trans s
  have a6:=hE.size
  have f:=f.trans s
  have a7:=f.size
  have c:=eb s c
  have bv:=(bl c)
  refine aM rfl rfl (aF rfl rfl (fun _ hZ=>Yk.loadSt Cg k (eb hZ c) zz) (aM rfl rfl (aM rfl rfl ?_)))
  have bw:(lacC (l.getD (i) Bm)).length=5:=(RG.elem (hl.keep hE) Bm (by omega))
  refine aA rfl rfl (Yk.atRG EK Gt (by decide) Bm (RG.of (hl.keep hE) r) n (by omega) fun bx g=>(aF rfl rfl (fun _ hZ=>Yk.loadPR (PR.of (PR.keep g hZ) rfl) (KZ).choose_spec rfl (by rw[IB];exact Jl) zz) (aC rfl rfl fun a8 t=> ?_)))
  have g:=PR.keep g t
  have u:=Ext.refl a8
  have hE:=hE.trans t
  refine id (Yk.callA3 L1 m (vr (.agg (rdkC (AK q)).toArray) rfl) (vr (.agg (lacC (l.getD (i) Bm)).toArray) rfl) ((Lr _ (hG.keep hE) q (l.getD (i) Bm) (hx.keep hE) (by omega) (by omega) (by omega)).mono ?_))
  rintro e bz ⟨rfl,o⟩
  refine⟨_,rfl,?_⟩
  have g:=PR.keep g o
  have u:=u.trans o
  refine⟨u,?_⟩
  refine aM rfl rfl (aP rfl rfl (fun _ _=>Yk.extract (vs:= [.agg (rdkC (AK q)).toArray, .bool (true)]) rfl rfl zz) (aP rfl rfl (fun _ _=>Yk.extract (vs:= [.agg (rdkC (AK q)).toArray, .bool (true)]) rfl rfl zz) (aE fun av b0 y ⟨b1,b2⟩ b3 h=> ?_)))
  have g:=PR.keep g y
  refine yD rfl (Yk.storeSt Cg (vr (PQ av 0) rfl) (vr (.agg (rdkC (AK q)).toArray) rfl) h (AA (x:=(AK q)) rfl rfl rfl rfl rfl) fun a9 aw z b4=> ?_)
  have hE:=hE.trans (o.trans y)
  have hE:=Aa hE z (Nat.le_trans a6 (by omega))
  have hZ1:=(t.trans o).trans y
  have f:=f.trans hZ1
  have f:=Aa f z (Nat.le_trans a7 (by omega))
  have c:=eb hZ1 c
  have c:=kb z c (by omega)
  clear g
  clear h
  have h:a9.heap[av]? =some (.cells (rdkC (AK q)).toArray 31 (0,0)):=aw;clear aw
  have b5:=bl h
  refine gS (Yk.loadSt Cg rfl h (gS (Yk.storeSt Cg k (vr (.agg (rdkC (AK q)).toArray) rfl) c (AA (x:=(AK q)) rfl rfl rfl rfl rfl) fun ba ax aa b6=> ?_)))
  have hE:=Aa hE aa (Nat.le_trans ap (by omega))
  have f:=Aa f aa (Nat.le_trans (Nat.le_refl _) (by omega))
  have h:=kb aa h (by omega)
  clear c
  have c:ba.heap[j]? =some (.cells (rdkC (AK q)).toArray 31 (0,0)):=ax;clear ax
  have b7:=bl c
  refine BV [0,1,2,3,5,4,6,7,8,9,10,11,13,12,14,15,16,17] [4,6,7,12,14,15] [] [5,13] fun bb ay=> ?_
  have p:=Ext.refl bb
  have c:=eb ay c
  refine BM p ?_
  refine ys (Yk.notB rfl zz) (yf (fun _ ⟨hZ,_⟩=>Yk.loadSt Cg k (eb hZ c) zz) (yE (Yk.callA1 RA m ((J9 _).mono ?_))))
  rintro e bc ⟨rfl,ab⟩
  refine⟨_,rfl,?_⟩
  have p:=p.trans ab
  refine⟨p,?_⟩
  have ac:=Ext.refl bc
  refine yE (Yk.callA1 KQ rfl ((Ky _ q).mono ?_))
  rintro e bd ⟨rfl,ad⟩
  refine⟨_,rfl,?_⟩
  have ac:=ac.trans ad
  refine⟨ac,?_⟩
  have ae:=Ext.refl bd
  refine yE (Yk.callA2 L2 rfl rfl ((Ig _ _ _ [] (RG.nil _ _ _) (RG.nil _ _ _) (by decide)).mono ?_))
  rintro e be ⟨rfl,af⟩
  refine⟨_,rfl,?_⟩
  have ae:=ae.trans af
  refine⟨ae,?_⟩
  have ag:=Ext.refl be
  have c:=eb ((ab.trans ad).trans af) c
  refine ys (Yk.notB rfl zz) (ys (Yk.pickF rfl rfl zz) (yf (fun _ ⟨hZ,_⟩=>Yk.loadSt Cg k (eb hZ c) zz) (yE (Yk.callA1 P3 m ((ON _).mono ?_)))))
  rintro e b8 ⟨b9,o1,rfl,bf,bg,hM1,ah⟩
  refine⟨_,rfl,?_⟩
  have ai:=RG.ofOwn bf
  have ca:=RU hM1
  have ag:=ag.trans ah
  refine⟨ag,?_⟩
  refine yD rfl (Yk.callA1 K0 rfl ((OL _ q).mono ?_))
  rintro e cb ⟨cc,o2,rfl,bh,bi,hD2,hM2,aj⟩
  refine⟨_,rfl,?_⟩
  have bj:=RG.ofOwn bh
  have hoo:=LU bg bi hD2 hM1 hM2
  have ai:=ai.keep aj
  refine yD rfl (Yk.callA2 K1 rfl rfl ((LY _ _ _ o1 o2 (RG.of ai rfl) (RG.of bj rfl) (by omega) hoo).mono ?_))
  rintro e cd ⟨rfl,az⟩
  refine⟨_,rfl,?_⟩
  have hZ2:=(((((ay.trans ab).trans ad).trans af).trans ah).trans aj).trans az
  have hE:=hE.trans hZ2
  have f:=f.trans hZ2
  have c:=eb ((ah.trans aj).trans az) c
  refine ys (Yk.notB rfl zz) (ys (Yk.pickF rfl rfl zz) (cF rfl (gS (Yk.bin (xv:=NI i) (yv:=NI 1) n rfl rfl (Ap _ _ _ (by omega)) (gK (And.intro ⟨i+1,T0,r,m,k,rfl,hE,f,c,by omega,trivial⟩ ?_))))))
  show l.length-(intOf (NI ((i)+(1)))).toNat<l.length-(intOf (a4 7)).toNat
  rw[q7]
  simp only[intOf,Int.toNat_natCast];omega
 refine gS (Yk.callA0 K2 ((LN _ (hG.keep hE)).mono ?_))
 rintro e ce ⟨rfl,bk⟩
 refine⟨_,rfl,?_⟩
 refine AX rfl (vr (.bool (true)) rfl) ?_
 have hE:=hE.trans bk
 exact⟨rfl,hE⟩

theorem OP(w:World)(hG:Laid w)(q:Nat)(hq:q≤1073741824)(v:Value)(l:List BT)(hl:RG 5 lacC w v l)(hk:∀x∈l,LacAt w x):
  Calls Tryz.prog 3 #[NI q,v] w fun e w' =>e = .returned (.bool true)∧Ext w w' :=by
 refine gG (args:= [NI q,v]) Tryz.func3 rfl 53 rfl rfl ?_
 have hE:=Ext.refl w
 refine gS (Yk.callA2 LZ rfl rfl ((HX _ v l (hl.keep hE) (fun x hx=>(hk x hx).keep hE) 40 (by decide)).mono ?_))
 rintro e w5 ⟨rfl,a2⟩
 refine⟨_,rfl,?_⟩
 refine gS (Yk.notB rfl ?_)
 refine cB (!((CS l 40))) rfl (fun a3=> ?_) fun a3=> ?_
 ·refine AX rfl (vr (.bool (true)) rfl) ?_
  have hE:=hE.trans a2
  exact⟨rfl,hE⟩
 have hL:CS l 40=true:=by simpa using a3
 have hln:=(Ea hL).1
 have hE:=hE.trans a2
 refine gS (Yk.callA1 RE rfl ((QP w _ hE q hq).mono ?_))
 rintro e b2 ⟨g1,H8,rfl,hD1,bj⟩
 refine⟨_,rfl,?_⟩
 have hD:=hD1
 refine gS (Yk.callA1 L0 rfl ((Qj _ q hq).mono ?_))
 rintro e bk ⟨rfl,a4⟩
 refine⟨_,rfl,?_⟩
 have hD:DkG w bk g1 H8 (AT q):=(hD.keep a4)
 refine gS (Yk.alloc (cs:=(rdkC ((⟨false,0,[],[],[],[],[],0,0,false⟩,⟨.slice none 0 0, .slice none 0 0, .slice none 0 0, .slice none 0 0, .slice none 0 0⟩):Au)).toArray) Ku fun c a5 b3 a6 a7 b4=> ?_)
 have hE:=hE.trans (bj.trans a4)
 have a8:=hE.size
 have hD:DkG w a5 g1 H8 (AT q):=(hD.keep a7)
 have j:=a6;clear a6
 have b5:c<a5.heap.size:=by omega
 refine gS (Yk.storeSt Cg (vr (PQ c 0) rfl) (vr (.agg (rdkC (Ac (AT q),V0)).toArray) rfl) j (AA (x:=(Ac (AT q),V0)) rfl rfl rfl rfl rfl) fun ak a9 ba b6=> ?_)
 have hE:=hE.trans a7
 have hE:=Aa hE ba (Nat.le_trans a8 (by omega))
 have hD:DkG w ak g1 H8 (AT q):=DkG.setT hD ba j (by omega) (by decide) (by decide) (by decide) (by decide) (by decide) (by decide)
 clear j
 have j:ak.heap[c]? =some (.cells (rdkC (Ac (AT q),V0)).toArray 31 (0,0)):=a9;clear a9
 have b7:=bl j
 have hR:RdAt (BE H8 (AT q).files.length (fun i=>i=c)) ak (AT q) V0:=QG _ _ _
 refine gL (fun(ρ:Ai) (wz:World)=>∃i:Nat,∃Hi:Dk,∃V:Cn,ρ 0=(NI q:Value)∧ρ 1=(v:Value)∧ρ 5=(PQ g1 0:Value)∧ρ 6=(PQ c 0:Value)∧ρ 7=(NI i:Value)∧Ext w wz∧wz.heap[c]? =some (.cells (rdkC (Ac (A7 (AT q) l i),V)).toArray 31 (0,0))∧DkG w wz g1 Hi (A7 (AT q) l i)∧RdAt (BE Hi (A7 (AT q) l i).files.length (fun i=>i=c)) wz (A7 (AT q) l i) V∧(i≤l.length)∧(FitD (3*i) (A7 (AT q) l i))∧True) (fun ρ _=>l.length-(intOf (ρ 7)).toNat) ⟨0,H8,V0,rfl,rfl,rfl,rfl,rfl,hE,j,hD,hR,Nat.zero_le _,FitD.new hq,trivial⟩ ?_
 clear hD
 clear j
 clear hR
 clear hE
 rintro bm b8 ⟨i,Hi,V,T0,T1,u,o,y,hE,hbk,hD,hR,hi,hfit,-⟩
 have q7:=y
 refine gS (Yk.lenRG EK (RG.of (hl.keep hE) T1) (gS (Yk.eqI (a:=(i:Nat)) (b:=(l.length:Nat)) y rfl (AO _ _ _ _) ?_)))
 refine cD rfl (fun bb=> ?_) fun bb=> ?_
 ·have hlt:i<l.length:=bb
  have hmem:=BD (d:=Bm) hlt
  have hx:=hk _ hmem
  have hxb:=hx.bytes
  have hxo:=hx.other
  have hxf:=hx.fates
  obtain⟨hbl,hol,hfl⟩:=(Ea hL).2 _ hmem
  have hfj:FitD (3*i+3) (A7 (AT q) l (i+1)):=by rw[If hlt];exact hfit.actL (by omega) (by omega) hx.n
  refine QQ 10 [0,1,2,3,4,5,6,7,8,9] [11,12] [6,11] [9] [] (cells:=(rdkC ((⟨false,0,[],[],[],[],[],0,0,false⟩,⟨.slice none 0 0, .slice none 0 0, .slice none 0 0, .slice none 0 0, .slice none 0 0⟩):Au)).toArray) Ku fun z aa=> ?_
  have hD:DkG w z g1 Hi ((A7 (AT q) l i)):=(hD.keep aa)
  have hR:RdAt (BE Hi ((A7 (AT q) l i)).files.length (fun i=>i=c)) z ((A7 (AT q) l i)) V:=(hR.keep aa)
  have ab:=Ext.refl z
  have hE:=hE.trans aa
  have bo:=hE.size
  have hRA:=hR
  have hwA:=(hE).size
  have hbk:=eb aa hbk
  have b9:=(bl hbk)
  refine aM rfl rfl (aF rfl rfl (fun _ hZ=>Yk.loadSt Cg o (eb hZ hbk) zz) (aM rfl rfl (aM rfl rfl ?_)))
  have ca:(lacC (l.getD (i) Bm)).length=5:=(RG.elem (hl.keep hE) Bm (by omega))
  refine aA rfl rfl (Yk.atRG EK Gt (by decide) Bm (RG.of (hl.keep hE) T1) y (by omega) fun cb ac=>(aF rfl rfl (fun _ hZ=>Yk.loadPR (PR.of (PR.keep ac hZ) rfl) (KZ).choose_spec rfl (by rw[IB];exact Jl) zz) (aD rfl rfl fun ad k=> ?_)))
  have hD:DkG w ad g1 Hi ((A7 (AT q) l i)):=(hD.keep k)
  have hR:RdAt (BE Hi ((A7 (AT q) l i)).files.length (fun i=>i=c)) ad ((A7 (AT q) l i)) V:=(hR.keep k)
  have ac:=PR.keep ac k
  have hDc:=hD
  have ab:=ab.trans k
  have hRc:=RdAt.gapQ hRA ab
  have hbk:=eb k hbk
  have h6l:=(bl hbk)
  have hQ3:∀i,(fun i=>(fun i=>i=c) i∨(z.heap.size≤i∧i<ad.heap.size)) i→i<ad.heap.size:=fun i q=>q.elim (fun q=>by have q:i=c:=q;omega) fun q=>q.2
  refine id (Yk.callA3 L1 u (vr (.agg (rdkC (Ac (A7 (AT q) l i),V)).toArray) rfl) (vr (.agg (lacC (l.getD (i) Bm)).toArray) rfl) ((M1 w _ g1 _ _ hDc hG _ _ hQ3 hRc (l.getD (i) Bm) hx (by omega) (by omega) (by omega) (3*i) hfit (by omega) (If hlt)).mono ?_))
  rintro e am ⟨H54,V55,rfl,hW56,hR57⟩
  refine⟨_,rfl,?_⟩
  have hE:=hE.trans k
  have hE:Ext w am:=hW56.g.ext
  have hbk:am.heap[c]? =some (.cells (rdkC (Ac (A7 (AT q) l i),V)).toArray 31 (0,0)):=DkG.box hDc hW56.chg hbk (by decide) (by decide) (by decide) (by decide)
  clear hD
  clear hR
  clear ab
  clear ac
  have hD:=hW56.g
  have hR:=hR57
  have an:=Ext.refl am
  have cc:=hE.size
  refine⟨⟨hW56.chg.size,fun m_ hb_=>DkG.box hDc hW56.chg hb_ (by decide) (by decide) (by decide) (by decide)⟩,?_⟩
  refine aM rfl rfl (aP rfl rfl (fun _ _=>Yk.extract (vs:= [.agg (rdkC (Ac (A7 (AT q) l (i+1)),V55)).toArray, .bool (true)]) rfl rfl zz) (aP rfl rfl (fun _ _=>Yk.extract (vs:= [.agg (rdkC (Ac (A7 (AT q) l (i+1)),V55)).toArray, .bool (true)]) rfl rfl zz) (aE fun f bp ae ⟨bc,bq⟩ cd h=> ?_)))
  have hD:DkG w bp g1 H54 ((A7 (AT q) l (i+1))):=(hD.keep ae)
  have an:=an.trans ae
  have hR:=RdAt.gapM hR an bc bq
  have hb8_:=Nat.le_trans hwA bc
  have hq70:=(hR).files.choose_spec.2.1
  have hq71:=(hR).synced.1
  have hq72:=(hR).now.1
  have hq73:=(hR).kept.1
  have hq74:=(hR).acts.1
  refine yD rfl (Yk.storeSt Cg (vr (PQ f 0) rfl) (vr (.agg (rdkC (Ac (A7 (AT q) l (i+1)),V55)).toArray) rfl) h (AA (x:=(Ac (A7 (AT q) l (i+1)),V55)) (RG.one hq70).2 (RG.one hq71).2 (RG.one hq72).2 (RG.one hq73).2 (RG.one hq74).2) fun ao bd af ce=> ?_)
  have hE:=hE.trans ae
  have hE:=Aa hE af (Nat.le_trans bo (by omega))
  have hbk:=eb ae hbk
  have hbk:=kb af hbk (by omega)
  have hD:DkG w ao g1 H54 ((A7 (AT q) l (i+1))):=DkG.setT hD af h hb8_ (by decide) (by decide) (by decide) (by decide) (by decide) (by decide)
  have hR:RdAt (BE H54 ((A7 (AT q) l (i+1))).files.length (fun i=>(fun i=>i=c) i∨i=f)) ao ((A7 (AT q) l (i+1))) V55:=RdAt.setQ hR af (.inr rfl)
  clear hq70
  clear hq71
  clear hq72
  clear hq73
  clear hq74
  clear h
  have h:ao.heap[f]? =some (.cells (rdkC (Ac (A7 (AT q) l (i+1)),V55)).toArray 31 (0,0)):=bd;clear bd
  have cf:=bl h
  refine gS (Yk.loadSt Cg rfl h ?_)
  have hq81:=(hR).files.choose_spec.2.1
  have hq82:=(hR).synced.1
  have hq83:=(hR).now.1
  have hq84:=(hR).kept.1
  have hq85:=(hR).acts.1
  refine gS (Yk.storeSt Cg o (vr (.agg (rdkC (Ac (A7 (AT q) l (i+1)),V55)).toArray) rfl) hbk (AA (x:=(Ac (A7 (AT q) l (i+1)),V55)) (RG.one hq81).2 (RG.one hq82).2 (RG.one hq83).2 (RG.one hq84).2 (RG.one hq85).2) fun ap be ag cg=> ?_)
  have hE:=Aa hE ag (Nat.le_trans a8 (by omega))
  have hD:DkG w ap g1 H54 ((A7 (AT q) l (i+1))):=DkG.setT hD ag hbk (by omega) (by decide) (by decide) (by decide) (by decide) (by decide) (by decide)
  have hR:RdAt (BE H54 ((A7 (AT q) l (i+1))).files.length (fun i=>(fun i=>i=c) i∨i=f)) ap ((A7 (AT q) l (i+1))) V55:=RdAt.setQ hR ag (.inl rfl)
  have h:=kb ag h (by omega)
  clear hq81
  clear hq82
  clear hq83
  clear hq84
  clear hq85
  clear hbk
  have hbk:ap.heap[c]? =some (.cells (rdkC (Ac (A7 (AT q) l (i+1)),V55)).toArray 31 (0,0)):=be;clear be
  have ch:=bl hbk
  refine BV [0,1,2,3,5,4,6,7,8,9,10,11,13,12,14,15,16,17] [4,6,7,12,14,15] [] [5,13] fun aq ah=> ?_
  have hD:DkG w aq g1 H54 ((A7 (AT q) l (i+1))):=(hD.keep ah)
  have hR:RdAt (BE H54 ((A7 (AT q) l (i+1))).files.length (fun i=>(fun i=>i=c) i∨i=f)) aq ((A7 (AT q) l (i+1))) V55:=(hR.keep ah)
  have ai:=Ext.refl aq
  have hbk:=eb ah hbk
  refine BM ai ?_
  refine ys (Yk.notB rfl zz) (yf (fun _ ⟨hZ,_⟩=>Yk.loadSt Cg o (eb hZ hbk) zz) (yE (Yk.callA1 RA u ((hD.list (hfj.lt (by omega))).mono ?_))))
  rintro e ar ⟨ci,rfl,br,p⟩
  refine⟨_,rfl,?_⟩
  have hD:DkG w ar g1 H54 ((A7 (AT q) l (i+1))):=(hD.keep p)
  have hR:RdAt (BE H54 ((A7 (AT q) l (i+1))).files.length (fun i=>(fun i=>i=c) i∨i=f)) ar ((A7 (AT q) l (i+1))) V55:=(hR.keep p)
  have au:=RG.ofOwn br
  have ai:=ai.trans p
  refine⟨ai,?_⟩
  have av:=Ext.refl ar
  refine yE (Yk.callA1 KQ rfl ((Jc _ (A7 (AT q) l (i+1)) V55 hR (hfj.lt (by omega))).mono ?_))
  rintro e aw ⟨cj,rfl,bs,m⟩
  refine⟨_,rfl,?_⟩
  have hD:DkG w aw g1 H54 ((A7 (AT q) l (i+1))):=(hD.keep m)
  have hR:RdAt (BE H54 ((A7 (AT q) l (i+1))).files.length (fun i=>(fun i=>i=c) i∨i=f)) aw ((A7 (AT q) l (i+1))) V55:=(hR.keep m)
  have bt:=RG.ofOwn bs
  have av:=av.trans m
  refine⟨av,?_⟩
  have ax:=Ext.refl aw
  have au:=au.keep m
  refine yE (Yk.callA2 L2 rfl rfl ((Ig _ _ _ _ (RG.of au rfl) (RG.of bt rfl) (Nat.lt_of_le_of_lt (ER hfj (by omega)) (by decide))).mono ?_))
  rintro e ay ⟨rfl,r⟩
  refine⟨_,rfl,?_⟩
  have hD:DkG w ay g1 H54 ((A7 (AT q) l (i+1))):=(hD.keep r)
  have hR:RdAt (BE H54 ((A7 (AT q) l (i+1))).files.length (fun i=>(fun i=>i=c) i∨i=f)) ay ((A7 (AT q) l (i+1))) V55:=(hR.keep r)
  have ax:=ax.trans r
  refine⟨ax,?_⟩
  have az:=Ext.refl ay
  have hbk:=eb ((p.trans m).trans r) hbk
  refine ys (Yk.notB rfl zz) (ys (Yk.pickF rfl rfl zz) (yf (fun _ ⟨hZ,_⟩=>Yk.loadSt Cg o (eb hZ hbk) zz) (yE (Yk.callA1 P3 u ((Kj w _ g1 _ _ hD hG (hfj.lt (by omega)) (ER hfj (by omega))).mono ?_)))))
  rintro e bf ⟨ck,o1,rfl,bu,bv,hM1,bw,s⟩
  refine⟨_,rfl,?_⟩
  have hD:DkG w bf g1 H54 ((A7 (AT q) l (i+1))):=(hD.keep s)
  have hR:RdAt (BE H54 ((A7 (AT q) l (i+1))).files.length (fun i=>(fun i=>i=c) i∨i=f)) bf ((A7 (AT q) l (i+1))) V55:=(hR.keep s)
  have a0:=RG.ofOwn bu
  have az:=az.trans s
  refine⟨az,?_⟩
  refine yD rfl (Yk.callA1 K0 rfl ((MZ _ (A7 (AT q) l (i+1)) V55 hR (3*i+3) hfj (by omega)).mono ?_))
  rintro e bg ⟨cl,o2,rfl,bx,bz,hD2,hM2,t⟩
  refine⟨_,rfl,?_⟩
  have hD:DkG w bg g1 H54 ((A7 (AT q) l (i+1))):=(hD.keep t)
  have hR:RdAt (BE H54 ((A7 (AT q) l (i+1))).files.length (fun i=>(fun i=>i=c) i∨i=f)) bg ((A7 (AT q) l (i+1))) V55:=(hR.keep t)
  have b0:=RG.ofOwn bx
  have hoo:=LU bv bz hD2 hM1 hM2
  have hol1:=Nat.le_trans bw (IA (ER hfj (by omega)))
  have a0:=a0.keep t
  refine yD rfl (Yk.callA2 K1 rfl rfl ((LY _ _ _ o1 o2 (RG.of a0 rfl) (RG.of b0 rfl) (by omega) hoo).mono ?_))
  rintro e bh ⟨rfl,aj⟩
  refine⟨_,rfl,?_⟩
  have hD:DkG w bh g1 H54 ((A7 (AT q) l (i+1))):=(hD.keep aj)
  have hR:RdAt (BE H54 ((A7 (AT q) l (i+1))).files.length (fun i=>(fun i=>i=c) i∨i=f)) bh ((A7 (AT q) l (i+1))) V55:=(hR.keep aj)
  have hZ1:=(((((ah.trans p).trans m).trans r).trans s).trans t).trans aj
  have hE:=hE.trans hZ1
  have hbk:=eb ((s.trans t).trans aj) hbk
  refine ys (Yk.notB rfl zz) (ys (Yk.pickF rfl rfl zz) (cF rfl (gS (Yk.bin (xv:=NI i) (yv:=NI 1) y rfl rfl (Ap _ _ _ (by omega)) (gK (And.intro ⟨i+1,H54,V55,T0,T1,u,o,rfl,hE,hbk,hD,RdAt.subQ hR (fun i q=> .inl q),by omega,hfj,trivial⟩ ?_))))))
  show l.length-(intOf (NI ((i)+(1)))).toNat<l.length-(intOf (bm 7)).toNat
  rw[q7]
  simp only[intOf,Int.toNat_natCast];omega
 refine gS (Yk.callA0 K2 ((LN _ (hG.keep hE)).mono ?_))
 rintro e bi ⟨rfl,a1⟩
 refine⟨_,rfl,?_⟩
 have hD:DkG w bi g1 Hi ((A7 (AT q) l i)):=(hD.keep a1)
 have hR:RdAt (BE Hi ((A7 (AT q) l i)).files.length (fun i=>i=c)) bi ((A7 (AT q) l i)) V:=(hR.keep a1)
 refine AX rfl (vr (.bool (true)) rfl) ?_
 have hE:=hE.trans a1
 exact⟨rfl,hE⟩

theorem Ih(w:World)(hG:Laid w)(q:Int)(v:Value)(l:List BT)(hl:RG 5 lacC w v l)(hk:∀x∈l,LacAt w x):
  Calls Tryz.prog 3 #[.int .i64 q,v] w fun e w' =>e = .returned (.bool true)∧Ext w w' :=by
 by_cases h:0≤q∧q≤1073741824
 ·obtain⟨n,rfl⟩:∃n:Nat,q=((n:Nat):Int):=⟨q.toNat,by omega⟩
  exact OP w hG n (by omega) v l hl hk
 ·exact OO w hG q (by omega) v l hl hk
end Go.Proofs.YtejpjjhkjdpeaaaGreatDoor
