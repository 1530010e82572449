/- Part 6 of what stands behind these statements: laws and walks of the functions that are reached. Conditions: those that each theorem names. -/
import Derived.Test.YtejpjjhkjdpeaaaGreatDoorZ5
set_option linter.unusedVariables false
set_option linter.unusedSimpArgs false
namespace Go.Proofs.YtejpjjhkjdpeaaaGreatDoor
open Go.RowKit
set_option maxRecDepth 100000
set_option linter.unusedVariables false
set_option linter.unusedSimpArgs false
theorem KJ(L:Ba){n:Nat}(h:n≤L.length):(Cv L n).length=n:=by
 unfold Cv Dp
 rw[List.length_mapIdx,List.length_take]
 omega
theorem Qt{D:An}{l:List Int}{L:Ba}{n:Nat}(h:n<L.length):(BO D l L (n+1)).map Prod.fst=(BO D l L n).map Prod.fst++ [(CM D l n (L.getD n ([],0)).2).1]:=by
 rw[Ge h,List.map_append];rfl
theorem Qu{D:An}{l:List Int}{L:Ba}{n:Nat}(h:n<L.length):(BO D l L (n+1)).map (fun x=>((x.2:Nat):Int))=(BO D l L n).map (fun x=>((x.2:Nat):Int))++ [(((CM D l n (L.getD n ([],0)).2).2:Nat):Int)]:=by
 rw[Ge h,List.map_append];rfl
theorem KK:Plain Tryz.prog 67:=fun _ _=>by kernel_rfl
theorem MU:∀w' :World,(sizeOf 114).run Tryz.prog w' = .ok 3 w' :=fun _=>by kernel_rfl
theorem Ic(z0:Bool)(z1:Int)(z7:Int)(w:World):(Instr.build 31 #[(0, .bool z0),(1, .int .i64 z1),(7, .int .i64 z7)]).run Tryz.prog w = .ok (.agg #[.bool z0, .int .i64 z1, .slice none 0 0, .slice none 0 0, .slice none 0 0, .slice none 0 0, .slice none 0 0, .int .i64 z7, .int .i64 0, .bool false]) w:=by kernel_rfl
theorem ID(z0:Bool)(z1:Int)(z7:Nat)(w:World):(Instr.build 31 #[(0, .bool z0),(1, .int .i64 z1),(7,NI z7)]).run Tryz.prog w = .ok (.agg (.bool (z0) :: (.int .i64 (z1) :: ((Value.slice none 0 0) :: ((Value.slice none 0 0) :: ((Value.slice none 0 0) :: ((Value.slice none 0 0) :: ((Value.slice none 0 0) :: (NI (z7) :: (NI (0) :: (.bool (false) :: ([]))))))))))).toArray) w:=by
 exact Ic _ _ _ w
theorem EP:GP Tryz.prog 31 rdkC:=⟨⟨_,(FH).choose_spec⟩,fun x=>AN (Ay x) E0⟩
theorem KM(z0:List UInt8)(z1:Nat)(w:World):(Instr.build 83 #[(0,St z0),(1,NI z1)]).run Tryz.prog w = .ok (.agg (St (z0) :: (NI (z1) :: ([]))).toArray) w:=by
 exact Jw _ _ w
theorem Qv:∀(cs:Array Value),cs.size=2→∀w:World,(Instr.buildSlice 28 1 #[(0, .agg cs)]).run Tryz.prog w = .ok (.slice (some ⟨w.heap.size,0,none⟩) 1 1) (w.alloc (.cells cs 83))
 | ⟨[c0,c1]⟩,_,w=>Qe c0 c1 w
set_option maxHeartbeats 1600000
theorem MV{P:Nat→Prop}(w:World)(D:An)(V:Cn)(hR:RdAt P w D V)(hP:∀b,w.heap.size≤b→P b)(hok:DOk D)(hL:Co D)(hfn:D.files.length<1099511627776)(vf:Value)(fs:List Int)(hf:RG 1 (DG) w vf fs)(hfl:fs.length<1099511627776):
  Calls Tryz.prog 29 #[.agg (rdkC (Ac D,V)).toArray,vf] w fun e w' =>∃V',e = .returned (.agg (rdkC (Ac (BS D fs),V')).toArray)∧RdAt P w' (BS D fs) V' ∧Ext w w' :=by
 obtain⟨vs,hvs,hfiles0⟩:=hR.files
 have hfiles:=hfiles0.1
 have hsynced:=hR.synced.1
 have hnow:=hR.now.1
 have hkept:=hR.kept.1
 have hacts:=hR.acts.1
 refine gG (args:= [.agg (rdkC (Ac D,V)).toArray,vf]) Tryz.func29 rfl 113 rfl rfl ?_
 have hE:=Ext.refl w
 refine gS (Yk.box (cs:=(rdkC (Ac D,V):List Value).toArray) (vr (.agg (rdkC (Ac D,V)).toArray) rfl) fun n2 w3 fp cp d4 fq=> ?_)
 have c:=cp;clear cp
 have fr:n2<w3.heap.size:=by omega
 refine gS (Yk.alloc (cs:=(rdkC ((⟨false,0,[],[],[],[],[],0,0,false⟩,⟨.slice none 0 0, .slice none 0 0, .slice none 0 0, .slice none 0 0, .slice none 0 0⟩):Au)).toArray) Ku fun ac ce d5 cq cf ft=> ?_)
 have l:=Ext.refl w3
 have hE:=hE.trans d4
 have d6:=hE.size
 have fu:=AE (bl c) d5
 have g:=cq;clear cq
 have fv:ac<ce.heap.size:=by omega
 have c:=eb cf c
 refine gS (Yk.fieldAt Dc rfl (gS (Yk.cell1 Q3 rfl rfl (cellAt c (Dy (Ac D,V))) (gS (Yk.notB rfl ?_)))))
 have hnl:=hL.now
 have hkl:=hL.kept
 have hal:=hL.acts
 refine cF rfl ?_
 have bc:=Ext.refl ce
 have hE:=hE.trans cf
 have cr:=hE.size
 have l:=l.trans cf
 have d7:=l.size
 refine gS (Yk.lit0G (k:=2) (enc:=renC) Jd fun bz d8 a9 bm=> ?_)
 have ct:OB bz n2:=Ao a9.2 (bl c)
 have cu:OB bz ac:=Ao a9.2 (bl g)
 have hE:=hE.trans bm
 have c:=eb bm c
 have bc:=bc.trans bm
 refine gS (Yk.fieldAt H7 rfl (gS (Yk.cell1 Bn rfl rfl (cellAt c (Ob (Ac D,V))) (gS (Yk.appendRG _ _ ce.heap.size _ 24 Bn rd1_ig83.choose_spec.1 rd1_ig83.choose_spec.2 Bn ([]) (D.kept) (OG.of a9 (vr bz rfl)) (RG.of (hkept.keep hE) (vr V.kept rfl)) (fun _ _=>CG) (by first | omega | (simp only[List.length_append,List.length_singleton,List.length_map,List.length_nil];omega)) (by first | omega | (simp only[List.length_append,List.length_singleton,List.length_map,List.length_nil];omega)) bc.size fun b0 d9 bd az=> ?_)))))
 have az:Grew d8 d9 bz b0:=az
 have ea:OB b0 n2:=Ax az ct (bl c)
 have g:=eb bm g
 have ec:OB b0 ac:=Ax az cu (bl g)
 have hE:=Ag hE az a9.2 cr
 have c:=Am c az ct
 have l:=l.trans bm
 have l:=Ag l az a9.2 d7
 have g:=Am g az cu
 have bc:=Ag bc az a9.2 (Nat.le_refl _)
 clear a9
 refine gS (Yk.fieldAt H9 rfl (gS (Yk.cell1 Hj rfl rfl (cellAt c (Gx (Ac D,V))) (gS (Yk.lenRG Hj (RG.of (hacts.keep hE) rfl) (gS (Yk.bin (xv:=NI ((D.acts).length)) (yv:=NI 1) rfl rfl rfl (Ap _ _ _ (by omega)) ?_)))))))
 have hft4:=EF fs 0 (n:=((D.acts).length)+1) (by omega)
 refine gS (Yk.callA3 KK rfl rfl rfl ((Kx _ vf fs (hf.keep hE) 0 ((D.acts).length) (by omega) hfl).mono ?_))
 rintro e fw ⟨rfl,bn⟩
 refine⟨_,rfl,?_⟩
 have bd:=bd.keep bn
 have bd:=OG.low bd cr
 have hE:=hE.trans bn
 have c:=eb bn c
 have l:=l.trans bn
 have g:=eb bn g
 refine gL (fun(ρ:Ai) (wz:World)=>∃i:Nat,∃r:Value,ρ 0=(.agg (rdkC (Ac D,V)).toArray:Value)∧ρ 1=(vf:Value)∧ρ 2=(PQ n2 0:Value)∧ρ 4=(PQ ac 0:Value)∧ρ 6=(NI (Bd fs 0 (((D.acts).length)+1)):Value)∧ρ 15=(.bool (false):Value)∧ρ 7=(NI i:Value)∧ρ 5=(r:Value)∧Ext w wz∧wz.heap[n2]? =some (.cells (rdkC (Ac D,V)).toArray 31 (0,0))∧Ext w3 wz∧wz.heap[ac]? =some (.cells (rdkC ((⟨false,0,[],[],[],[],[],0,0,false⟩,⟨.slice none 0 0, .slice none 0 0, .slice none 0 0, .slice none 0 0, .slice none 0 0⟩):Au)).toArray 31 (0,0))∧OG w.heap.size 83 2 (renC) wz r (D7 D i)∧(i≤Bd fs 0 (D.acts.length+1))∧(OB r n2)∧(OB r ac)∧True) (fun ρ _=>Bd fs 0 (D.acts.length+1)-(intOf (ρ 7)).toNat) ⟨0,b0,rfl,rfl,rfl,rfl,rfl,rfl,rfl,rfl,hE,c,l,g,Bk bd (rfl),Nat.zero_le _,ea,ec,trivial⟩ ?_
 clear bc
 clear bd
 clear hE c l g
 rintro ed p ⟨i,r,T0,T1,T2,T4,T6,b2,T7,T5,hE,c,l,g,hr_r,hi,hap_r_n2,hap_r_n10,-⟩
 have q7:=T7
 refine gS (Yk.eqI (a:=(i:Nat)) (b:=(Bd fs 0 (((D.acts).length)+1):Nat)) T7 T6 (AO _ _ _ _) ?_)
 refine cD rfl (fun cg=> ?_) fun cg=> ?_
 ·have hlt:i<D.acts.length:=by have h:=cg;omega
  have hfl0:(D7 D i).length<1099511627776:=by have h:=Hc (D.acts.take i) D.kept;rw[List.length_take]at h;have h2:(D7 D i).length≤D.kept.length+min i D.acts.length:=h;omega
  refine gS (Yk.fieldAt H9 T2 (gS (Yk.cell1 Hj rfl rfl (cellAt c (Gx (Ac D,V))) ?_)))
  have fx:(racC ((D.acts).getD (i) (⟨[],[],0⟩:AM))).length=3:=(RG.elem (hacts.keep hE) (⟨[],[],0⟩:AM) (by omega))
  refine gS (Yk.atRG Hj MU (by decide) (⟨[],[],0⟩:AM) (RG.of (hacts.keep hE) rfl) T7 (by omega) fun fy cv=>(gS (Yk.loadPR (PR.of cv rfl) (Ot).choose_spec rfl (by rw[Fh];exact MS) ?_)))
  have ee:=hE.size
  have fz:=l.size
  refine gS (Yk.callA2 KH T5 rfl ((FG _ r (D7 D i) ((D.acts).getD (i) (⟨[],[],0⟩:AM)) (RG.ofOwn hr_r) hfl0).mono ?_))
  rintro e f0 ⟨ch,rfl,bq,b3⟩
  refine⟨_,rfl,?_⟩
  have ef:OB ch n2:=Ao bq.2 (bl c)
  have eg:OB ch ac:=Ao bq.2 (bl g)
  clear cv
  have bq:=OG.low bq ee
  have hE:=hE.trans b3
  have c:=eb b3 c
  have l:=l.trans b3
  have g:=eb b3 g
  refine gS (Yk.bin (xv:=NI i) (yv:=NI 1) T7 rfl rfl (Ap _ _ _ (by omega)) (gK (And.intro ⟨i+1,ch,T0,T1,T2,T4,T6,b2,rfl,rfl,hE,c,l,g,Bk bq ((HN hlt).symm),by omega,ef,eg,trivial⟩ ?_)))
  show Bd fs 0 (D.acts.length+1)-(intOf (NI ((i)+(1)))).toNat<Bd fs 0 (D.acts.length+1)-(intOf (ed 7)).toNat
  rw[q7]
  simp only[intOf,Int.toNat_natCast];omega
 have hie:i=Bd fs 0 (D.acts.length+1):=by have h:=cg;omega
 rw[hie,FB]at hr_r
 have hleft:=RG.ofOwn hr_r
 have hll:(Aj D fs).length<1099511627776:=by have h:=FC D fs;omega
 have hlok:=Ka hok (Bd fs 0 (D.acts.length+1))
 rw[FB]at hlok
 have hvl:vs.length=D.files.length:=by rw[hvs.len,List.length_map]
 have o:=Ext.refl p
 have a3:=hE.size
 have a4:=l.size
 refine gS (Yk.fieldAt MR T2 (gS (Yk.cell1 Pb rfl rfl (cellAt c (Oa (Ac D,V))) (gS (Yk.fieldAt Ia T2 (gS (Yk.cell1 Pb rfl rfl (cellAt c (Oc (Ac D,V))) (gS (Yk.build3 (vr (.bool (true)) rfl) (vr (NI D.quota) rfl) (vr (NI D.refused) rfl) (fun w=>ID true ((D.quota:Nat):Int) D.refused w) (gS (Yk.alloc (cs:=(rdkC ((⟨false,0,[],[],[],[],[],0,0,false⟩,⟨.slice none 0 0, .slice none 0 0, .slice none 0 0, .slice none 0 0, .slice none 0 0⟩):Au)).toArray) Ku fun t eh cw cx br f1=> ?_)))))))))))
 have f2:=AE (bl c) cw
 have f3:=AE (bl g) cw
 have bf:=cx;clear cx
 have f4:t<eh.heap.size:=by omega
 refine gS (Yk.storeSt EP (vr (PQ t 0) rfl) (vr (.agg (rdkC ((⟨true,((D.quota:Nat):Int),[],[],[],[],[],D.refused,0,false⟩,⟨(Value.slice none 0 0),(Value.slice none 0 0),(Value.slice none 0 0),(Value.slice none 0 0),(Value.slice none 0 0)⟩):Au)).toArray) rfl) bf (AA (x:=((⟨true,((D.quota:Nat):Int),[],[],[],[],[],D.refused,0,false⟩,⟨(Value.slice none 0 0),(Value.slice none 0 0),(Value.slice none 0 0),(Value.slice none 0 0),(Value.slice none 0 0)⟩):Au)) rfl rfl rfl rfl rfl) fun ei cy bs f5=> ?_)
 have hE:=hE.trans br
 have hE:=Aa hE bs (Nat.le_trans a3 (by omega))
 have c:=eb br c
 have c:=kb bs c (by omega)
 have l:=l.trans br
 have l:=Aa l bs (Nat.le_trans a4 (by omega))
 have g:=eb br g
 have g:=kb bs g (by omega)
 have o:=o.trans br
 have o:=Aa o bs (Nat.le_trans (Nat.le_refl _) (by omega))
 clear bf
 have bf:ei.heap[t]? =some (.cells (rdkC ((⟨true,((D.quota:Nat):Int),[],[],[],[],[],D.refused,0,false⟩,⟨(Value.slice none 0 0),(Value.slice none 0 0),(Value.slice none 0 0),(Value.slice none 0 0),(Value.slice none 0 0)⟩):Au)).toArray 31 (0,0)):=cy;clear cy
 have f6:=bl bf
 refine gL (fun(ρ:Ai) (wz:World)=>∃j:Nat,∃rf:Value,∃rs:Value,∃rn:Value,∃us:List Value,ρ 0=(.agg (rdkC (Ac D,V)).toArray:Value)∧ρ 1=(vf:Value)∧ρ 2=(PQ n2 0:Value)∧ρ 4=(PQ ac 0:Value)∧ρ 5=(r:Value)∧ρ 6=(NI (Bd fs 0 (((D.acts).length)+1)):Value)∧ρ 7=(NI i:Value)∧ρ 8=(PQ t 0:Value)∧ρ 15=(.bool (false):Value)∧ρ 9=(NI j:Value)∧Ext w wz∧wz.heap[n2]? =some (.cells (rdkC (Ac D,V)).toArray 31 (0,0))∧Ext w3 wz∧wz.heap[ac]? =some (.cells (rdkC ((⟨false,0,[],[],[],[],[],0,0,false⟩,⟨.slice none 0 0, .slice none 0 0, .slice none 0 0, .slice none 0 0, .slice none 0 0⟩):Au)).toArray 31 (0,0))∧Ext p wz∧wz.heap[t]? =some (.cells (rdkC ((⟨true,((D.quota:Nat):Int),[],[],[],[],[],D.refused,0,false⟩,⟨rf,rs,rn,(Value.slice none 0 0),(Value.slice none 0 0)⟩):Au)).toArray 31 (0,0))∧OG p.heap.size 35 1 (DF) wz rf us∧OG p.heap.size 3 1 (DG) wz rs ((BO D fs (Aj D fs) j).map fun x=>((x.2:Nat):Int))∧OG p.heap.size 83 2 (renC) wz rn (Cv (Aj D fs) j)∧RowsO p.heap.size wz us ((BO D fs (Aj D fs) j).map Prod.fst)∧(j≤(Aj D fs).length)∧True) (fun ρ _=>(Aj D fs).length-(intOf (ρ 9)).toNat) ⟨0,(Value.slice none 0 0),(Value.slice none 0 0),(Value.slice none 0 0),[],T0,T1,T2,T4,T5,T6,T7,rfl,b2,rfl,hE,c,l,g,o,bf,OG.nil _ _ _ _ _,OG.nil _ _ _ _ _,OG.nil _ _ _ _ _,RowsO.nil _ _,Nat.zero_le _,trivial⟩ ?_
 clear bf
 clear hE c l g o
 rintro ej cz ⟨j,rf,rs,rn,us,T0,T1,T2,T4,T5,T6,T7,T8,b2,T9,hE,c,l,g,o,hbk,hrf,hrs,hrn,hFs,hj,-⟩
 have q9:=T9
 have hlen1:=Hb D fs (Aj D fs) hj
 have hul:us.length=j:=by rw[hFs.len,List.length_map];exact hlen1
 have hnum:(Cv (Aj D fs) j).length=j:=KJ _ hj
 have c0:Ak rf rs:=AW hrf.2 hrs.2 (by decide)
 have c1:Ak rf rn:=AW hrf.2 hrn.2 (by decide)
 have el:OB rf n2:=Cf hrf.2 c (by decide)
 have c2:OB rf ac:=Cf hrf.2 g (by decide)
 have ci:OB rf t:=Cf hrf.2 hbk (by decide)
 have c3:Ak rs rn:=AW hrs.2 hrn.2 (by decide)
 have em:OB rs n2:=Cf hrs.2 c (by decide)
 have c4:OB rs ac:=Cf hrs.2 g (by decide)
 have b4:OB rs t:=Cf hrs.2 hbk (by decide)
 have en:OB rn n2:=Cf hrn.2 c (by decide)
 have c5:OB rn ac:=Cf hrn.2 g (by decide)
 have bt:OB rn t:=Cf hrn.2 hbk (by decide)
 refine gS (Yk.lenRG Bn (RG.of (hleft.keep o) T5) (gS (Yk.eqI (a:=(j:Nat)) (b:=(((Aj D fs)).length:Nat)) T9 rfl (AO _ _ _ _) ?_)))
 refine cD rfl (fun cj=> ?_) fun cj=> ?_
 ·have hlt:j<(Aj D fs).length:=cj
  have hkn:=hlok.num _ (BD (d:=([],0)) hlt)
  have hfk:=(hvs.at_ ((Aj D fs).getD (j) (([],0):List UInt8 × Nat)).2 (by rw[List.length_map];exact hkn)).1
  rw[C5 (d:=(([],0):List UInt8 × Nat)) rfl]at hfk
  have hfb:=hL.files _ (BD (d:=([],0)) hkn)
  have hsy:=hok.sync_le ((Aj D fs).getD (j) (([],0):List UInt8 × Nat)).2
  have hlf:(D.files.getD ((Aj D fs).getD (j) (([],0):List UInt8 × Nat)).2 ([],0)).1.length=(AJ D ((Aj D fs).getD (j) (([],0):List UInt8 × Nat)).2).1.length:=rfl
  have hsl:(D.files.map fun x=>((x.2:Nat):Int)).length=D.files.length:=List.length_map _
  refine B5 [0,1,2,3,4,5,6,7,8,9,10,11,12,13,14,15,16,17,18,19] [] [] fun ck bu=> ?_
  have hFs:RowsO p.heap.size ck us ((BO D fs (Aj D fs) j).map Prod.fst):=(hFs.keep bu)
  have c:=eb bu c
  refine ys (Yk.fieldAt H5 T2 zz) (ys (Yk.cell1 IY rfl rfl (cellAt c (C2 (Ac D,V))) zz) ?_)
  have o:=o.trans bu
  have f7:(renC (((Aj D fs)).getD (j) (([],0):List UInt8 × Nat))).length=2:=(RG.elem (hleft.keep o) (([],0):List UInt8 × Nat) (by omega))
  refine yA (Yk.atRG Bn CT (by decide) (([],0):List UInt8 × Nat) (RG.of (hleft.keep o) T5) T9 (by omega) fun f8 c6=>(yF (m:=1) MN (PR.of c6 rfl) fun eo b5=> ?_))
  have b5:PCell (NI ((((Aj D fs)).getD (j) (([],0):List UInt8 × Nat)).2)) eo ck:=PR.pcell ((HY (((Aj D fs)).getD (j) (([],0):List UInt8 × Nat)))▸b5)
  refine ys (Yk.loadC Pb rfl (PCell.of b5 rfl) zz) ?_
  have hE:=hE.trans bu
  have f9:(DF (vs.getD ((((Aj D fs)).getD (j) (([],0):List UInt8 × Nat)).2) undef)).length=1:=(RG.elem (hfiles.keep hE) undef (by omega))
  refine yA (Yk.atRG IY NG (by decide) undef (RG.of (hfiles.keep hE) rfl) rfl (by omega) fun ga c7=>(ys (Yk.loadC S2 rfl (PR.cell (PR.of c7 rfl) rfl) zz) (ys (Yk.fieldAt H6 T2 zz) (ys (Yk.cell1 Du rfl rfl (cellAt c (Gw (Ac D,V))) zz) ?_))))
  have gb:(renC (((Aj D fs)).getD (j) (([],0):List UInt8 × Nat))).length=2:=(RG.elem (hleft.keep o) (([],0):List UInt8 × Nat) (by omega))
  refine yA (Yk.atRG Bn CT (by decide) (([],0):List UInt8 × Nat) (RG.of (hleft.keep o) T5) T9 (by omega) fun gc c8=>(yF (m:=1) MN (PR.of c8 rfl) fun ep b6=> ?_))
  have b6:PCell (NI ((((Aj D fs)).getD (j) (([],0):List UInt8 × Nat)).2)) ep ck:=PR.pcell ((HY (((Aj D fs)).getD (j) (([],0):List UInt8 × Nat)))▸b6)
  refine ys (Yk.loadC Pb rfl (PCell.of b6 rfl) zz) ?_
  have gd:(DG (((D.files.map fun x=>((x.2:Nat):Int))).getD ((((Aj D fs)).getD (j) (([],0):List UInt8 × Nat)).2) (0:Int))).length=1:=(RG.elem (hsynced.keep hE) (0:Int) (by rw[hsl];exact hkn))
  refine yA (Yk.atRG Du Pt (by decide) (0:Int) (RG.of (hsynced.keep hE) rfl) rfl (by rw[hsl];exact hkn) fun ge c9=>(ys (Yk.loadC Pb rfl (PR.cell (PR.of c9 rfl) rfl) zz) ?_))
  clear c6
  clear b5
  clear c7
  clear c8
  clear b6
  clear c9
  refine gS (Yk.bin (xv:=NI j) (yv:=NI 1) T9 rfl rfl (Ap _ _ _ (by omega)) (gS (Yk.lenRB S2 (RB.of (hfk.keep hE) rfl) (gS (Yk.bin (xv:=NI (((D.files.getD ((Aj D fs).getD (j) (([],0):List UInt8 × Nat)).2 ([],0)).1:List UInt8).length)) (yv:=NI ((AJ D ((Aj D fs).getD (j) (([],0):List UInt8 × Nat)).2).2)) rfl (vr (NI ((AJ D ((Aj D fs).getD (j) (([],0):List UInt8 × Nat)).2).2)) ((show _=(.int .i64 (((D.files.map fun x=>((x.2:Nat):Int))).getD ((((Aj D fs)).getD (j) (([],0):List UInt8 × Nat)).2) (0:Int):Int):Value)from rfl).trans (congrArg (Value.int .i64) (C5 (f:=fun x:List UInt8 × Nat=>((x.2:Nat):Int)) (d:=([],0)) rfl)))) rfl (BL _ _ _ (by omega) (by rw[hlf];omega)) (gS (Yk.bin (xv:=NI ((((D.files.getD ((Aj D fs).getD (j) (([],0):List UInt8 × Nat)).2 ([],0)).1:List UInt8).length)-((AJ D ((Aj D fs).getD (j) (([],0):List UInt8 × Nat)).2).2))) (yv:=NI 1) rfl rfl rfl (Ap _ _ _ (by omega)) ?_)))))))
  have hft14:=EF fs ((j)+(1)) (n:=((((D.files.getD ((Aj D fs).getD (j) (([],0):List UInt8 × Nat)).2 ([],0)).1:List UInt8).length)-((AJ D ((Aj D fs).getD (j) (([],0):List UInt8 × Nat)).2).2))+1) (by omega)
  refine gS (Yk.callA3 KK T1 rfl rfl ((Kx _ vf fs (hf.keep hE) ((j)+(1)) ((((D.files.getD ((Aj D fs).getD (j) (([],0):List UInt8 × Nat)).2 ([],0)).1:List UInt8).length)-((AJ D ((Aj D fs).getD (j) (([],0):List UInt8 × Nat)).2).2)) (by omega) hfl).mono ?_))
  rintro e b7 ⟨rfl,bv⟩
  refine⟨_,rfl,?_⟩
  have hFs:RowsO p.heap.size b7 us ((BO D fs (Aj D fs) j).map Prod.fst):=(hFs.keep bv)
  refine gS (Yk.bin (xv:=NI ((AJ D ((Aj D fs).getD (j) (([],0):List UInt8 × Nat)).2).2)) (yv:=NI (Bd fs ((j)+(1)) (((((D.files.getD ((Aj D fs).getD (j) (([],0):List UInt8 × Nat)).2 ([],0)).1:List UInt8).length)-((AJ D ((Aj D fs).getD (j) (([],0):List UInt8 × Nat)).2).2))+1))) (vr (NI ((AJ D ((Aj D fs).getD (j) (([],0):List UInt8 × Nat)).2).2)) ((show _=(.int .i64 (((D.files.map fun x=>((x.2:Nat):Int))).getD ((((Aj D fs)).getD (j) (([],0):List UInt8 × Nat)).2) (0:Int):Int):Value)from rfl).trans (congrArg (Value.int .i64) (C5 (f:=fun x:List UInt8 × Nat=>((x.2:Nat):Int)) (d:=([],0)) rfl)))) rfl rfl (Ap _ _ _ (by omega)) ?_)
  have hcut:CM D fs j ((Aj D fs).getD (j) (([],0):List UInt8 × Nat)).2=((AJ D ((Aj D fs).getD (j) (([],0):List UInt8 × Nat)).2).1.take ((AJ D ((Aj D fs).getD (j) (([],0):List UInt8 × Nat)).2).2+(Bd fs (j+1) (((((D.files.getD ((Aj D fs).getD (j) (([],0):List UInt8 × Nat)).2 ([],0)).1:List UInt8).length)-((AJ D ((Aj D fs).getD (j) (([],0):List UInt8 × Nat)).2).2))+1))),(AJ D ((Aj D fs).getD (j) (([],0):List UInt8 × Nat)).2).2+(Bd fs (j+1) (((((D.files.getD ((Aj D fs).getD (j) (([],0):List UInt8 × Nat)).2 ([],0)).1:List UInt8).length)-((AJ D ((Aj D fs).getD (j) (([],0):List UInt8 × Nat)).2).2))+1))):=rfl
  obtain⟨nn,hnn⟩:∃n,n=(AJ D ((Aj D fs).getD (j) (([],0):List UInt8 × Nat)).2).2+(Bd fs (j+1) (((((D.files.getD ((Aj D fs).getD (j) (([],0):List UInt8 × Nat)).2 ([],0)).1:List UInt8).length)-((AJ D ((Aj D fs).getD (j) (([],0):List UInt8 × Nat)).2).2))+1)):=⟨_,rfl⟩
  have hnl2:nn≤(D.files.getD ((Aj D fs).getD (j) (([],0):List UInt8 × Nat)).2 ([],0)).1.length:=by rw[hnn];have h9:=hft14;omega
  obtain⟨ao,cc,hrun,hRd⟩:=MP S2 Fy hfk .i64 hnl2
  rw[←hnn]at hcut
  have au:=Ext.refl b7
  have hE:=hE.trans bv
  have gf:=hE.size
  have hZ1:=bu.trans bv
  have l:=l.trans hZ1
  have gg:=l.size
  have o:=o.trans bv
  have gh:=o.size
  have hFs0:=hFs
  have gi:=o.size
  refine BV [0,1,3,4,5,2,6,7,8,9,10] [2,6,7,8,10] [0,5] [1] fun b8 bg=> ?_
  have hZ2:=hZ1.trans bg
  have hbk:=eb hZ2 hbk
  refine HE hbk ?_
  refine yp (Yk.fieldAt H5 T8 zz) (yf (fun _ ⟨hbk,_⟩=>Yk.cell1 IY rfl rfl (cellAt hbk (C2 ((⟨true,((D.quota:Nat):Int),[],[],[],[],[],D.refused,0,false⟩,⟨rf,rs,rn,(Value.slice none 0 0),(Value.slice none 0 0)⟩):Au))) zz) (yp (Yk.sliceHiR rfl (vr (NI nn) ((show _=(NI (((AJ D ((Aj D fs).getD (j) (([],0):List UInt8 × Nat)).2).2)+(Bd fs ((j)+(1)) (((((D.files.getD ((Aj D fs).getD (j) (([],0):List UInt8 × Nat)).2 ([],0)).1:List UInt8).length)-((AJ D ((Aj D fs).getD (j) (([],0):List UInt8 × Nat)).2).2))+1))):Value)from rfl).trans (congrArg NI hnn.symm))) hrun zz) (yI (Yk.lit0 Ns fun a6 er z=> ?_))))
  have bh:=Ext.refl b8
  have hE:=hE.trans bg
  have es:=hE.size
  have l:=l.trans bg
  have et:=l.size
  have o:=o.trans bg
  have da:=o.size
  have au:=au.trans bg
  have db:=au.size
  have c:=eb (bv.trans bg) c
  have eu:OB a6 n2:=Ao z.own (bl c)
  have g:=eb hZ2 g
  have ew:OB a6 ac:=Ao z.own (bl g)
  have dc:OB a6 t:=Ao z.own (bl hbk)
  have hrf:=hrf.keep hZ2
  have dd:Ak a6 rf:=Be hrf.2 z.own
  have hrs:=hrs.keep hZ2
  have de:Ak a6 rs:=Be hrs.2 z.own
  have hrn:=hrn.keep hZ2
  have df:Ak a6 rn:=Be hrn.2 z.own
  have bb:=z.own
  have hbk:=eb z.ext hbk
  refine⟨⟨hbk,trivial⟩,?_⟩
  have hsz15:b7.heap.size≤b8.heap.size:=db
  have hE:=hE.trans z.ext
  have bh:=bh.trans z.ext
  refine yI (Yk.appendRB _ _ b8.heap.size (.int .u8 0) S2 SH rfl S2 (([]:List UInt8)) ((List.take nn (D.files.getD ((Aj D fs).getD (j) (([],0):List UInt8 × Nat)).2 ([],0)).1)) (CI bb (vr a6 rfl)) (RB.of (hRd.keep hE) (vr (.slice ao nn cc) rfl)) (by simp only[List.length_nil,List.length_take];omega) bh.size fun s ex q aa=> ?_)
  have aa:Grew er ex a6 s:=aa
  have cl:OB s t:=Ax aa dc (bl hbk)
  have hrf:=hrf.keep z.ext
  have ey:Ak s rf:=AH aa dd hrf.2
  have ez:Ak rf s:=fun k h1 h2=>ey k h2 h1
  have hrs:=hrs.keep z.ext
  have e0:Ak s rs:=AH aa de hrs.2
  have e1:Ak rs s:=fun k h1 h2=>e0 k h2 h1
  have hrn:=hrn.keep z.ext
  have e2:Ak s rn:=AH aa df hrn.2
  have e3:Ak rn s:=fun k h1 h2=>e2 k h2 h1
  have hE:=Ag hE aa bb es
  have c:=eb z.ext c
  have c:=Am c aa eu
  have l:=l.trans z.ext
  have l:=Ag l aa bb et
  have g:=eb z.ext g
  have g:=Am g aa ew
  have o:=o.trans z.ext
  have o:=Ag o aa bb da
  have hbk:=Am hbk aa dc
  have hrf:=Av hrf aa dd
  have hrs:=Av hrs aa de
  have hrn:=Av hrn aa df
  have au:=au.trans z.ext
  have au:=Ag au aa bb db
  have bh:=Ag bh aa bb (Nat.le_refl _)
  clear bb
  refine⟨⟨hbk,trivial⟩,?_⟩
  have hve:=RB.slice (RB.ofOwn q)
  have hve1:=(CN q).2
  have hpart:∀i,i<((BO D fs (Aj D fs) j).map Prod.fst).length→∀x,(us.getD i undef).ownBlock=some x→OB s x:=fun i hi x hx e=>by have h1:=((hFs0.own i hi).lt x hx).2;have h2:=(q.lt x e).1;have h3:b7.heap.size≤b8.heap.size:=hsz15;omega
  refine yI (Yk.lit1S (a:=(s)) (enc:=DF) (vr s rfl) rfl (fun w=>by obtain⟨_,_,_,rfl⟩:=hve;exact Ql _ _ _ w) fun e4 e5 dh ak=> ?_)
  have hbk:=eb ak hbk
  refine⟨⟨hbk,trivial⟩,?_⟩
  have au:=au.trans ak
  have o:=o.trans ak
  have hrf:=hrf.keep ak
  refine yD rfl (Yk.appendRG _ _ p.heap.size _ 24 IY rd3_ig35.choose_spec.1 rd3_ig35.choose_spec.2 IY (us) ([(s)]) (OG.of hrf (vr rf rfl)) (RG.of dh (vr e4 rfl)) (fun y hy u hu=>by rw[List.mem_singleton.1 hu,List.mem_singleton.1 hy];exact hve1) (by first | omega | (simp only[List.length_append,List.length_singleton,List.length_map,List.length_nil];omega)) (by first | omega | (simp only[List.length_append,List.length_singleton,List.length_map,List.length_nil];omega)) o.size fun ad di ab ae=> ?_)
  have ae:Grew e5 di rf ad:=ae
  have hrs:=hrs.keep ak
  have e6:Ak ad rs:=AH ae c0 hrs.2
  have e7:Ak rs ad:=fun k h1 h2=>e6 k h2 h1
  have hrn:=hrn.keep ak
  have e8:Ak ad rn:=AH ae c1 hrn.2
  have e9:Ak rn ad:=fun k h1 h2=>e8 k h2 h1
  have cm:OB ad t:=Ax ae ci (bl hbk)
  have hE:=hE.trans ak
  have hE:=Ag hE ae hrf.2 a3
  have c:=eb ak c
  have c:=Am c ae el
  have l:=l.trans ak
  have l:=Ag l ae hrf.2 a4
  have g:=eb ak g
  have g:=Am g ae c2
  have o:=Ag o ae hrf.2 (Nat.le_refl _)
  have hbk:=Am hbk ae ci
  have hrs:=Av hrs ae c0
  have hrn:=Av hrn ae c1
  have hFs:=hFs.keep au
  have hFs:RowsO p.heap.size di us ((BO D fs (Aj D fs) j).map Prod.fst):=RowsO.grew hFs ae hrf.2 (by decide)
  clear bh
  have q:=Stab.own _ _ _ _ _ _ _ _ q ak
  have q:=Cl q ae ez
  clear dh
  clear hrf
  refine ys (Yk.fieldAt H5 T8 zz) (yD rfl (Yk.storeC (i:=2) (v:=ad) rfl rfl hbk (by rw[Ay];decide) Ok (RG.one (RG.ofOwn ab)).1 (RG.one (RG.ofOwn ab)).2 fun dj dk av gj=> ?_))
  have hE:=Aa hE av (Nat.le_trans a3 (by omega))
  have c:=kb av c (by omega)
  have l:=Aa l av (Nat.le_trans a4 (by omega))
  have g:=kb av g (by omega)
  have o:=Aa o av (Nat.le_trans (Nat.le_refl _) (by omega))
  have hrs:=OG.kept hrs av b4
  have hrn:=OG.kept hrn av bt
  have hFs:RowsO p.heap.size dj us ((BO D fs (Aj D fs) j).map Prod.fst):=RowsO.set hFs av hbk (by decide)
  have q:=A5 q av cl
  have ab:=OG.kept ab av cm
  clear hbk
  have hbk:dj.heap[t]? =some (.cells (rdkC ((⟨true,((D.quota:Nat):Int),[],[],[],[],[],D.refused,0,false⟩,⟨ad,rs,rn,(Value.slice none 0 0),(Value.slice none 0 0)⟩):Au)).toArray 31 (0,0)):=AF dk (Km ((⟨true,((D.quota:Nat):Int),[],[],[],[],[],D.refused,0,false⟩,⟨rf,rs,rn,(Value.slice none 0 0),(Value.slice none 0 0)⟩):Au) ad ([]));clear dk
  have gk:=bl hbk
  have hFs:=RowsO.snoc hFs (CJ (l' :=(CM D fs j ((Aj D fs).getD (j) (([],0):List UInt8 × Nat)).2).1) (BZ q da) (by rw[hcut];exact List.nil_append _)) hpart
  refine gS (Yk.fieldAt H6 T8 (gS (Yk.cell1 Du rfl rfl (cellAt hbk (Gw ((⟨true,((D.quota:Nat):Int),[],[],[],[],[],D.refused,0,false⟩,⟨ad,rs,rn,(Value.slice none 0 0),(Value.slice none 0 0)⟩):Au))) (gS (Yk.lit1S (a:=((nn:Nat):Int)) (enc:=DG) (vr (NI nn) ((show _=(NI (((AJ D ((Aj D fs).getD (j) (([],0):List UInt8 × Nat)).2).2)+(Bd fs ((j)+(1)) (((((D.files.getD ((Aj D fs).getD (j) (([],0):List UInt8 × Nat)).2 ([],0)).1:List UInt8).length)-((AJ D ((Aj D fs).getD (j) (([],0):List UInt8 × Nat)).2).2))+1))):Value)from rfl).trans (congrArg NI hnn.symm))) rfl (fun w=>Qp _ w) fun fa dl dm al=> ?_)))))
  have hFs:RowsO p.heap.size dl (us++ [s]) (((BO D fs (Aj D fs) j).map Prod.fst)++ [(CM D fs j ((Aj D fs).getD (j) (([],0):List UInt8 × Nat)).2).1]):=(hFs.keep al)
  have o:=o.trans al
  have hrs:=hrs.keep al
  refine gS (Yk.appendRG _ _ p.heap.size _ 8 Du rd3_ig3.choose_spec.1 rd3_ig3.choose_spec.2 Du (((BO D fs (Aj D fs) j).map fun x=>((x.2:Nat):Int))) ([((nn:Nat):Int)]) (OG.of hrs (vr rs rfl)) (RG.of dm (vr fa rfl)) (fun y hy u hu=>by rw[List.mem_singleton.1 hu];rfl) (by first | omega | (simp only[List.length_append,List.length_singleton,List.length_map,List.length_nil];omega)) (by first | omega | (simp only[List.length_append,List.length_singleton,List.length_map,List.length_nil];omega)) o.size fun am dn an ah=> ?_)
  have ah:Grew dl dn rs am:=ah
  have hrn:=hrn.keep al
  have fb:Ak am rn:=AH ah c3 hrn.2
  have fc:Ak rn am:=fun k h1 h2=>fb k h2 h1
  have hbk:=eb al hbk
  have dp:OB am t:=Ax ah b4 (bl hbk)
  have hE:=hE.trans al
  have hE:=Ag hE ah hrs.2 a3
  have c:=eb al c
  have c:=Am c ah em
  have l:=l.trans al
  have l:=Ag l ah hrs.2 a4
  have g:=eb al g
  have g:=Am g ah c4
  have o:=Ag o ah hrs.2 (Nat.le_refl _)
  have hrn:=Av hrn ah c3
  have hFs:RowsO p.heap.size dn (us++ [s]) (((BO D fs (Aj D fs) j).map Prod.fst)++ [(CM D fs j ((Aj D fs).getD (j) (([],0):List UInt8 × Nat)).2).1]):=RowsO.grew hFs ah hrs.2 (by decide)
  have q:=Stab.own _ _ _ _ _ _ _ _ q al
  have q:=Cl q ah e1
  have ab:=ab.keep al
  have ab:=Av ab ah e7
  have hbk:=Am hbk ah b4
  clear dm
  clear hrs
  refine gS (Yk.fieldAt H6 T8 (gS (Yk.storeC (i:=3) (v:=am) rfl rfl hbk (by rw[Ay];decide) Nt (RG.one (RG.ofOwn an)).1 (RG.one (RG.ofOwn an)).2 fun dq dr aw gl=> ?_)))
  have hE:=Aa hE aw (Nat.le_trans a3 (by omega))
  have c:=kb aw c (by omega)
  have l:=Aa l aw (Nat.le_trans a4 (by omega))
  have g:=kb aw g (by omega)
  have o:=Aa o aw (Nat.le_trans (Nat.le_refl _) (by omega))
  have hrn:=OG.kept hrn aw bt
  have hFs:RowsO p.heap.size dq (us++ [s]) (((BO D fs (Aj D fs) j).map Prod.fst)++ [(CM D fs j ((Aj D fs).getD (j) (([],0):List UInt8 × Nat)).2).1]):=RowsO.set hFs aw hbk (by decide)
  have q:=A5 q aw cl
  have ab:=OG.kept ab aw cm
  have an:=OG.kept an aw dp
  clear hbk
  have hbk:dq.heap[t]? =some (.cells (rdkC ((⟨true,((D.quota:Nat):Int),[],[],[],[],[],D.refused,0,false⟩,⟨ad,am,rn,(Value.slice none 0 0),(Value.slice none 0 0)⟩):Au)).toArray 31 (0,0)):=AF dr (Kn ((⟨true,((D.quota:Nat):Int),[],[],[],[],[],D.refused,0,false⟩,⟨ad,rs,rn,(Value.slice none 0 0),(Value.slice none 0 0)⟩):Au) am ([]));clear dr
  have gm:=bl hbk
  refine BV [0,1,2,3,4,5,6,7,8,9,10,11,12] [9,10,12] [0] [1] fun cn b9=> ?_
  have hFs:RowsO p.heap.size cn (us++ [s]) (((BO D fs (Aj D fs) j).map Prod.fst)++ [(CM D fs j ((Aj D fs).getD (j) (([],0):List UInt8 × Nat)).2).1]):=(hFs.keep b9)
  have ca:=Ext.refl cn
  have hbk:=eb b9 hbk
  refine BM ca ?_
  refine yp (Yk.fieldAt Ct T8 zz) (yf (fun _ ⟨hZ,_⟩=>Yk.cell1 Bn rfl rfl (cellAt (eb hZ hbk) (BU ((⟨true,((D.quota:Nat):Int),[],[],[],[],[],D.refused,0,false⟩,⟨ad,am,rn,(Value.slice none 0 0),(Value.slice none 0 0)⟩):Au))) zz) ?_)
  have o:=o.trans b9
  have gn:(renC (((Aj D fs)).getD (j) (([],0):List UInt8 × Nat))).length=2:=(RG.elem (hleft.keep o) (([],0):List UInt8 × Nat) (by omega))
  refine yA (Yk.atRG Bn CT (by decide) (([],0):List UInt8 × Nat) (RG.of (hleft.keep o) T5) T9 (by omega) fun go cb=>(yF (m:=1) FF (PR.of cb rfl) fun fd cd=> ?_))
  have cd:PCell (St ((((Aj D fs)).getD (j) (([],0):List UInt8 × Nat)).1)) fd cn:=PR.pcell ((Gu (((Aj D fs)).getD (j) (([],0):List UInt8 × Nat)))▸cd)
  refine ys (Yk.loadC Io rfl (PCell.of cd rfl) zz) (ys (Yk.build2 (vr (St ((((Aj D fs)).getD (j) (([],0):List UInt8 × Nat)).1)) rfl) T9 (fun w=>KM ((((Aj D fs)).getD (j) (([],0):List UInt8 × Nat)).1) j w) zz) (yE (Yk.lit1G (a:=(⟨((((Aj D fs)).getD (j) (([],0):List UInt8 × Nat)).1),j⟩:List UInt8 × Nat)) (enc:=renC) (vr (.agg (renC (⟨((((Aj D fs)).getD (j) (([],0):List UInt8 × Nat)).1),j⟩:List UInt8 × Nat)).toArray) rfl) (Fg _) Qv fun fe ds dt bi=> ?_)))
  have hFs:RowsO p.heap.size ds (us++ [s]) (((BO D fs (Aj D fs) j).map Prod.fst)++ [(CM D fs j ((Aj D fs).getD (j) (([],0):List UInt8 × Nat)).2).1]):=(hFs.keep bi)
  have cb:=PR.keep cb bi
  have hZ3:=b9.trans bi
  have hrn:=hrn.keep hZ3
  have o:=o.trans bi
  have ca:=ca.trans bi
  refine⟨ca,?_⟩
  refine yD rfl (Yk.appendRG _ _ p.heap.size _ 24 Bn rd1_ig83.choose_spec.1 rd1_ig83.choose_spec.2 Bn ((Cv (Aj D fs) j)) ([(⟨((((Aj D fs)).getD (j) (([],0):List UInt8 × Nat)).1),j⟩:List UInt8 × Nat)]) (OG.of hrn (vr rn rfl)) (RG.of dt (vr fe rfl)) (fun _ _=>CG) (by first | omega | (simp only[List.length_append,List.length_singleton,List.length_map,List.length_nil];omega)) (by first | omega | (simp only[List.length_append,List.length_singleton,List.length_map,List.length_nil];omega)) o.size fun bj du bw ai=> ?_)
  have ai:Grew ds du rn bj:=ai
  have hbk:=eb bi hbk
  have ff:OB bj t:=Ax ai bt (bl hbk)
  have hE:=hE.trans hZ3
  have hE:=Ag hE ai hrn.2 a3
  have c:=eb hZ3 c
  have c:=Am c ai en
  have l:=l.trans hZ3
  have l:=Ag l ai hrn.2 a4
  have g:=eb hZ3 g
  have g:=Am g ai c5
  have o:=Ag o ai hrn.2 (Nat.le_refl _)
  have hFs:RowsO p.heap.size du (us++ [s]) (((BO D fs (Aj D fs) j).map Prod.fst)++ [(CM D fs j ((Aj D fs).getD (j) (([],0):List UInt8 × Nat)).2).1]):=RowsO.grew hFs ai hrn.2 (by decide)
  have q:=Stab.own _ _ _ _ _ _ _ _ q hZ3
  have q:=Cl q ai e3
  have ab:=ab.keep hZ3
  have ab:=Av ab ai e9
  have an:=an.keep hZ3
  have an:=Av an ai fc
  have hbk:=Am hbk ai bt
  clear cb
  clear cd
  clear dt
  clear hrn
  refine ys (Yk.fieldAt Ct T8 zz) (yD rfl (Yk.storeC (i:=4) (v:=bj) rfl rfl hbk (by rw[Ay];decide) Je (RG.one (RG.ofOwn bw)).1 (RG.one (RG.ofOwn bw)).2 fun dv dw ax gp=> ?_))
  have hE:=Aa hE ax (Nat.le_trans a3 (by omega))
  have c:=kb ax c (by omega)
  have l:=Aa l ax (Nat.le_trans a4 (by omega))
  have g:=kb ax g (by omega)
  have o:=Aa o ax (Nat.le_trans (Nat.le_refl _) (by omega))
  have hFs:RowsO p.heap.size dv (us++ [s]) (((BO D fs (Aj D fs) j).map Prod.fst)++ [(CM D fs j ((Aj D fs).getD (j) (([],0):List UInt8 × Nat)).2).1]):=RowsO.set hFs ax hbk (by decide)
  have q:=A5 q ax cl
  have ab:=OG.kept ab ax cm
  have an:=OG.kept an ax dp
  have bw:=OG.kept bw ax ff
  clear hbk
  have hbk:dv.heap[t]? =some (.cells (rdkC ((⟨true,((D.quota:Nat):Int),[],[],[],[],[],D.refused,0,false⟩,⟨ad,am,bj,(Value.slice none 0 0),(Value.slice none 0 0)⟩):Au)).toArray 31 (0,0)):=AF dw (HZ ((⟨true,((D.quota:Nat):Int),[],[],[],[],[],D.refused,0,false⟩,⟨ad,am,rn,(Value.slice none 0 0),(Value.slice none 0 0)⟩):Au) bj ([]));clear dw
  have gq:=bl hbk
  refine gS (Yk.bin (xv:=NI j) (yv:=NI 1) T9 rfl rfl (Ap _ _ _ (by omega)) (gK (And.intro ⟨j+1,ad,am,bj,us++ [s],T0,T1,T2,T4,T5,T6,T7,T8,b2,rfl,hE,c,l,g,o,hbk,Bk ab rfl,Bk an (by rw[Qu hlt,hcut]),Bk bw (numN_succ hlt).symm,RowsO.eq hFs rfl (Qt hlt).symm,by omega,trivial⟩ ?_)))
  show(Aj D fs).length-(intOf (NI ((j)+(1)))).toNat<(Aj D fs).length-(intOf (ej 9)).toNat
  rw[q9]
  simp only[intOf,Int.toNat_natCast];omega
 have hnum:(Cv (Aj D fs) j).length=j:=KJ _ hj
 have hje:j=(Aj D fs).length:=by have h:=cj;omega
 have bk:=Ext.refl cz
 have fg:=hE.size
 have fh:=l.size
 have fi:=o.size
 refine gS (Yk.lit0G (k:=2) (enc:=renC) Jd fun a7 dx aj ap=> ?_)
 have fj:OB a7 n2:=Ao aj.2 (bl c)
 have dy:OB a7 ac:=Ao aj.2 (bl g)
 have dz:OB a7 t:=Ao aj.2 (bl hbk)
 have fk:Ak a7 rf:=Be hrf.2 aj.2
 have fl:Ak a7 rs:=Be hrs.2 aj.2
 have fm:Ak a7 rn:=Be hrn.2 aj.2
 have hFs:RowsO p.heap.size dx us ((BO D fs (Aj D fs) j).map Prod.fst):=(hFs.keep ap)
 have hbk:=eb ap hbk
 have hrn:=hrn.keep ap
 have bk:=bk.trans ap
 refine gS (Yk.fieldAt Ct T8 (gS (Yk.cell1 Bn rfl rfl (cellAt hbk (BU ((⟨true,((D.quota:Nat):Int),[],[],[],[],[],D.refused,0,false⟩,⟨rf,rs,rn,(Value.slice none 0 0),(Value.slice none 0 0)⟩):Au))) (gS (Yk.appendRG _ _ cz.heap.size _ 24 Bn rd1_ig83.choose_spec.1 rd1_ig83.choose_spec.2 Bn ([]) ((Cv (Aj D fs) j)) (OG.of aj (vr a7 rfl)) (RG.of (RG.ofOwn hrn) (vr rn rfl)) (fun _ _=>CG) (by first | omega | (simp only[List.length_append,List.length_singleton,List.length_map,List.length_nil];omega)) (by first | omega | (simp only[List.length_append,List.length_singleton,List.length_map,List.length_nil];omega)) bk.size fun aq d0 a8 af=> ?_)))))
 have af:Grew dx d0 a7 aq:=af
 have g:=eb ap g
 have fn:OB aq ac:=Ax af dy (bl g)
 have fo:OB aq t:=Ax af dz (bl hbk)
 have hE:=hE.trans ap
 have hE:=Ag hE af aj.2 fg
 have c:=eb ap c
 have c:=Am c af fj
 have l:=l.trans ap
 have l:=Ag l af aj.2 fh
 have g:=Am g af dy
 have o:=o.trans ap
 have o:=Ag o af aj.2 fi
 have hbk:=Am hbk af dz
 have hrf:=hrf.keep ap
 have hrf:=Av hrf af fk
 have hrs:=hrs.keep ap
 have hrs:=Av hrs af fl
 have hrn:=Av hrn af fm
 have hFs:RowsO p.heap.size d0 us ((BO D fs (Aj D fs) j).map Prod.fst):=RowsO.grew hFs af aj.2 (by decide)
 have bk:=Ag bk af aj.2 (Nat.le_refl _)
 clear aj
 refine gS (Yk.fieldAt H7 T8 (gS (Yk.storeC (i:=5) (v:=aq) rfl rfl hbk (by rw[Ay];decide) Je (RG.one (RG.ofOwn a8)).1 (RG.one (RG.ofOwn a8)).2 fun d1 d2 ay gr=> ?_)))
 have hE:=Aa hE ay (Nat.le_trans a3 (by omega))
 have c:=kb ay c (by omega)
 have l:=Aa l ay (Nat.le_trans a4 (by omega))
 have g:=kb ay g (by omega)
 have o:=Aa o ay (Nat.le_trans (Nat.le_refl _) (by omega))
 have hrf:=OG.kept hrf ay ci
 have hrs:=OG.kept hrs ay b4
 have hrn:=OG.kept hrn ay bt
 have hFs:RowsO p.heap.size d1 us ((BO D fs (Aj D fs) j).map Prod.fst):=RowsO.set hFs ay hbk (by decide)
 clear bk
 have a8:=OG.kept a8 ay fo
 clear hbk
 have hbk:d1.heap[t]? =some (.cells (rdkC ((⟨true,((D.quota:Nat):Int),[],[],[],[],[],D.refused,0,false⟩,⟨rf,rs,rn,aq,(Value.slice none 0 0)⟩):Au)).toArray 31 (0,0)):=AF d2 (Ko ((⟨true,((D.quota:Nat):Int),[],[],[],[],[],D.refused,0,false⟩,⟨rf,rs,rn,(Value.slice none 0 0),(Value.slice none 0 0)⟩):Au) aq ([]));clear d2
 have gs:=bl hbk
 refine gS (Yk.loadSt EP T8 hbk (gS (Yk.storeSt EP T4 (vr (.agg (rdkC ((⟨true,((D.quota:Nat):Int),[],[],[],[],[],D.refused,0,false⟩,⟨rf,rs,rn,aq,(Value.slice none 0 0)⟩):Au)).toArray) rfl) g (AA (x:=((⟨true,((D.quota:Nat):Int),[],[],[],[],[],D.refused,0,false⟩,⟨rf,rs,rn,aq,(Value.slice none 0 0)⟩):Au)) (RG.one (RG.ofOwn hrf)).2 (RG.one (RG.ofOwn hrs)).2 (RG.one (RG.ofOwn hrn)).2 (RG.one (RG.ofOwn a8)).2 rfl) fun co d3 a1 gt=> ?_)))
 have hE:=Aa hE a1 (Nat.le_trans d6 (by omega))
 have c:=kb a1 c (by omega)
 have l:=Aa l a1 (Nat.le_trans (Nat.le_refl _) (by omega))
 clear o
 have hrf:=OG.kept hrf a1 c2
 have hrs:=OG.kept hrs a1 c4
 have hrn:=OG.kept hrn a1 c5
 have hFs:RowsO p.heap.size co us ((BO D fs (Aj D fs) j).map Prod.fst):=RowsO.set hFs a1 g (by decide)
 have a8:=OG.kept a8 a1 fn
 have hbk:=kb a1 hbk (by omega)
 clear g
 have g:co.heap[ac]? =some (.cells (rdkC ((⟨true,((D.quota:Nat):Int),[],[],[],[],[],D.refused,0,false⟩,⟨rf,rs,rn,aq,(Value.slice none 0 0)⟩):Au)).toArray 31 (0,0)):=d3;clear d3
 have gu:=bl g
 refine F6 rfl (ResF.row T4 g (FH).choose_spec rfl (AN (Ay _) E0)) ?_
 have hOe:RdO w.heap.size co (BS D fs) ⟨rf,rs,rn,aq,(Value.slice none 0 0)⟩:=by rw[DS,←hje];exact⟨⟨us,hFs.low (by omega),(OG.low hrf (by omega))⟩,(OG.low hrs (by omega)),(OG.low hrn (by omega)),(OG.low a8 (by omega)),OG.nil _ _ _ _ _⟩
 exact⟨⟨rf,rs,rn,aq,(Value.slice none 0 0)⟩,rfl,hOe.at_ hP,hE⟩

theorem Ow(w:World)(q:Int)(vf:Value):
  Calls Tryz.prog 29 #[.agg (rdkC (AK q)).toArray,vf] w fun e w' =>e = .returned (.agg (rdkC (AK q)).toArray)∧Ext w w' :=by
 refine gG (args:= [.agg (rdkC (AK q)).toArray,vf]) Tryz.func29 rfl 113 rfl rfl ?_
 have hE:=Ext.refl w
 refine gS (Yk.box (cs:=(rdkC (AK q):List Value).toArray) (vr (.agg (rdkC (AK q)).toArray) rfl) fun k l s f m t=> ?_)
 have a:=f;clear f
 have u:k<l.heap.size:=by omega
 refine gS (Yk.alloc (cs:=(rdkC ((⟨false,0,[],[],[],[],[],0,0,false⟩,⟨.slice none 0 0, .slice none 0 0, .slice none 0 0, .slice none 0 0, .slice none 0 0⟩):Au)).toArray) Ku fun c n o g h v=> ?_)
 have hE:=hE.trans m
 have p:=hE.size
 have y:=AE (bl a) o
 have b:=g;clear g
 have z:c<n.heap.size:=by omega
 have a:=eb h a
 refine gS (Yk.fieldAt Dc rfl (gS (Yk.cell1 Q3 rfl rfl (cellAt a (Dy (AK q))) (gS (Yk.notB rfl (cT rfl (gS (Yk.loadSt EP rfl a (gS (Yk.storeSt EP (vr (PQ c 0) rfl) (vr (.agg (rdkC (AK q)).toArray) rfl) b (AA (x:=(AK q)) rfl rfl rfl rfl rfl) fun r i j aa=> ?_))))))))))
 have hE:=hE.trans h
 have hE:=Aa hE j (Nat.le_trans p (by omega))
 have a:=kb j a (by omega)
 clear b
 have b:r.heap[c]? =some (.cells (rdkC (AK q)).toArray 31 (0,0)):=i;clear i
 have ab:=bl b
 refine F6 rfl (ResF.row rfl b (FH).choose_spec rfl (AN (Ay _) E0)) ?_
 exact⟨rfl,hE⟩
open Go.RowKit
set_option linter.unusedVariables false
structure FitD (n : Nat) (D : An) : Prop where
  bd:DBd n D
  ok:DOk D
  fl:D.files.length≤n
section
variable {n m : Nat} {D : An} {s b : List UInt8}
theorem FitD.lt(h:FitD n D)(hn:n≤99000:=by omega):Co D:=h.bd.lt (by omega)
theorem FitD.fn(h:FitD n D)(hn:n≤99000:=by omega):D.files.length<1099511627776:=by have:=h.fl;omega
theorem FitD.f1(h:FitD n D)(hn:n≤99000:=by omega):D.files.length+1<1099511627776:=by have:=h.fl;omega
theorem FitD.n1(h:FitD n D)(hn:n≤99000:=by omega):D.now.length+1<1099511627776:=by have:=h.bd.now;omega
theorem FitD.a1(h:FitD n D)(hn:n≤99000:=by omega):D.acts.length+1<1099511627776:=by have:=h.bd.acts;omega
theorem FitD.mono(h:FitD n D)(hn:n≤m):FitD m D:=⟨h.bd.mono hn,h.ok,Nat.le_trans h.fl hn⟩
theorem FitD.new{q:Nat}(hq:q≤1073741824):FitD 0 (AT q):=⟨DBd.new hq,LD q,Nat.le_refl 0⟩
theorem MW(D:An)(s b:List UInt8):(BN D s b).files.length≤D.files.length+1:=by
  unfold BN
  split
  · show(D.files.set _ _).length≤_;rw[List.length_set];omega
  · show(D.files++ [_]).length≤_;rw[List.length_append];exact Nat.le_refl _
theorem Jh{D:An}{f:An→An}(hf:∀E:An,E.files=D.files→(f E).files.length≤D.files.length+1):(CR D f).1.files.length≤D.files.length+1:=by
  have h:=(Dd D).1
  unfold CR
  split
  · show(Bh D).1.files.length≤_;rw[h];omega
  · exact hf _ h
theorem DOk.did(h:DOk D){f:An→An}(hf:DOk (Bh D).1→DOk (f (Bh D).1)):DOk (CR D f).1:=by
  unfold CR
  split
  · exact h.arm
  · exact hf h.arm
theorem SC{t:List UInt8}{k:Nat}(he:C8 D s t = .ok k):A6 D s t=0∧AD D.now s=some k:=by
  unfold C8 at he
  split at he
  · cases he
  · rename_i q
    split at he
    · rename_i j hj
      cases he
      exact⟨Classical.byContradiction q,hj⟩
    · cases he
theorem FitD.append(h:FitD n D)(s:List UInt8){b:List UInt8}(hb:b.length≤300):FitD (n+1) (Af D s b).1:=by
  refine⟨h.bd.append s hb,?_,?_⟩
  · unfold Af
    split
    · exact h.ok
    · rename_i q
      split
      · exact⟨h.ok.now,h.ok.kept,h.ok.acts,h.ok.syn⟩
      · exact h.ok.did (f:=fun d=>BN d s b) fun hE=>hE.add b (Gz (Classical.byContradiction q))
  · refine Nat.le_trans ?_ (Nat.succ_le_succ h.fl)
    unfold Af
    split
    · exact Nat.le_succ _
    split
    · exact Nat.le_succ _
    · have h1:=(Dd D).1
      split
      · show(Bh D).1.files.length≤_;rw[h1];omega
      · have h2:=MW (Bh D).1 s b
        rw[h1]at h2
        exact h2
theorem FitD.sync(h:FitD n D)(s:List UInt8):FitD (n+1) (Aw D s).1:=by
  refine⟨h.bd.sync s,?_,?_⟩
  · unfold Aw
    split
    · exact h.ok
    · rename_i k _
      exact h.ok.did fun hE=>hE.synced k
  · refine Nat.le_trans ?_ (Nat.succ_le_succ h.fl)
    unfold Aw
    split
    · exact Nat.le_succ _
    · exact Jh fun E he=>by show(E.files.set _ _).length≤_;rw[List.length_set,he];omega
theorem FitD.drop(h:FitD n D)(s:List UInt8):FitD (n+1) (Ar D s).1:=by
  refine⟨h.bd.drop s,?_,?_⟩
  · unfold Ar
    split
    · exact h.ok
    · rename_i k hk
      obtain⟨hr,hl⟩:=SC hk
      refine h.ok.did fun hE=> ?_
      have a:AD (Bh D).1.now s=some k:=by rw[(Dd D).2.1];exact hl
      exact hE.turned ⟨(hE.now.look a).1,fun q=>absurd rfl q,(B0 (Gz hr)).2⟩
  · refine Nat.le_trans ?_ (Nat.succ_le_succ h.fl)
    unfold Ar
    split
    · exact Nat.le_succ _
    · exact Jh fun E he=>by show E.files.length≤_;rw[he];omega
theorem FitD.crash(h:FitD n D)(l:List Int):FitD n (BS D l):=by
  refine⟨h.bd.crash l,h.ok.crash l,?_⟩
  have h1:=FC D l
  have h2:=h.bd.acts
  have h3:(BS D l).files.length=(Aj D l).length:=by
    rw[DS]
    exact Hb D l (Aj D l) (Nat.le_refl _)
  omega
theorem FitD.arm(h:FitD n D){a:Nat}(ha:a≤9223372036854775807):FitD n { D with arm:=a } :=
  ⟨⟨h.bd.quota,h.bd.refused,ha,h.bd.acts,h.bd.now,h.bd.files⟩,⟨h.ok.now,h.ok.kept,h.ok.acts,h.ok.syn⟩,h.fl⟩
end
section
variable {P : Nat → Prop} {w : World} {D : An} {V : Cn} {n : Nat}
theorem RdAt.append(hR:RdAt P w D V)(hP:∀b,w.heap.size≤b→P b)(hF:FitD n D)(hn:n≤99000)(s:List UInt8)(vb:Value)(b:List UInt8)(hb:RB w vb b)(hbl:b.length≤300):
    Calls Tryz.prog 26 #[.agg (rdkC (Ac D,V)).toArray,St s,vb] w fun e w' =>∃V',e = .returned (.tuple #[.agg (rdkC (Ac (Af D s b).1,V')).toArray,NI (Af D s b).2])∧RdAt P w' (Af D s b).1 V' ∧Ext w w' :=
  Lo w D V hR hP hF.ok hF.lt hF.fn s vb b hb (by omega) hF.n1 hF.a1 hF.f1
theorem RdAt.sync(hR:RdAt P w D V)(hP:∀b,w.heap.size≤b→P b)(hF:FitD n D)(hn:n≤99000)(s:List UInt8):
    Calls Tryz.prog 52 #[.agg (rdkC (Ac D,V)).toArray,St s] w fun e w' =>∃V',e = .returned (.tuple #[.agg (rdkC (Ac (Aw D s).1,V')).toArray,NI (Aw D s).2])∧RdAt P w' (Aw D s).1 V' ∧Ext w w' :=
  Ou w D V hR hP hF.ok hF.lt hF.fn s hF.n1 hF.a1
theorem RdAt.drop(hR:RdAt P w D V)(hP:∀b,w.heap.size≤b→P b)(hF:FitD n D)(hn:n≤99000)(s:List UInt8):
    Calls Tryz.prog 51 #[.agg (rdkC (Ac D,V)).toArray,St s,St ([]:List UInt8), .bool true] w fun e w' =>∃V',e = .returned (.tuple #[.agg (rdkC (Ac (Ar D s).1,V')).toArray,NI (Ar D s).2])∧RdAt P w' (Ar D s).1 V' ∧Ext w w' :=
  Ov w D V hR hP hF.ok hF.lt hF.fn s hF.n1 hF.a1
theorem RdAt.read(hR:RdAt P w D V)(hF:FitD n D)(hn:n≤99000)(s:List UInt8):
    Calls Tryz.prog 50 #[.agg (rdkC (Ac D,V)).toArray,St s] w fun e w' =>∃v',e = .returned (.tuple #[v',NI (Az D s).2])∧w'.ownsRow w.heap.size 5 1 v' (Az D s).1.length (Lib.byteCells (Az D s).1)∧Ext w w' :=
  Oi w D V hR hF.ok hF.lt s
theorem RdAt.fates(hR:RdAt P w D V)(hP:∀b,w.heap.size≤b→P b)(hF:FitD n D)(hn:n≤99000)(vf:Value)(fs:List Int)(hf:RG 1 DG w vf fs)(hfl:fs.length<1099511627776):
    Calls Tryz.prog 29 #[.agg (rdkC (Ac D,V)).toArray,vf] w fun e w' =>∃V',e = .returned (.agg (rdkC (Ac (BS D fs),V')).toArray)∧RdAt P w' (BS D fs) V' ∧Ext w w' :=
  MV w D V hR hP hF.ok hF.lt hF.fn vf fs hf hfl
end
def Bi(P:Nat→Prop)(a c b:Nat):Prop:=P b∧(b<a∨c≤b)
section
variable {P : Nat → Prop} {w w' : World} {D : An} {V : Cn} {a c : Nat}
theorem RdAt.mono'{P' :Nat→Prop}(h:RdAt P w D V)(hP:∀b,b<w.heap.size→P b→P' b):RdAt P' w D V:=h.chg (Chg.refl (fun _=>False) w) fun b hb hp=>⟨id,hP b hb hp⟩
theorem RdAt.out(c:Nat)(h:RdAt P w D V)(k:Ext w w'):RdAt (Bi P w.heap.size c) w' D V:=(h.mono' fun i hi hp=>⟨hp, .inl hi⟩).keep k
theorem RdAt.setO(h:RdAt (Bi P a c) w D V){n:Nat}(hg:w.grownBy w' (some n))(ha:a≤n)(hc:n<c):RdAt (Bi P a c) w' D V:=
  h.chg (B:=fun i=>i=n) (Chg.ofGrown hg fun i e=> .inl (Option.some.inj e).symm) fun i hi hp=>⟨fun e=>by have h2:=hp.2;omega,hp⟩
theorem RdAt.inO(h:RdAt (Bi P a c) w D V):RdAt P w D V:=h.mono' fun _ _ hp=>hp.1
end
theorem Qw{D:An}{s:List UInt8}(h:(Az D s).2≠0):(Az D s).1= []:=by
  unfold Az at h ⊢
  split
  · rfl
  · rename_i k hk
    rw[hk]at h
    exact absurd rfl h
open Go.RowKit
set_option linter.unusedVariables false
section
variable {n : Nat} {D : An} {s b id : List UInt8} {a : Stp} {r : List Stp}
theorem Ek(h:(Ce D s a).2≠0):Cm (AS D s (a :: r)) id=((Ce D s a).1,zid32,[],(Ce D s a).2):=by
  rw[DC,if_pos h]
  exact if_pos h
theorem DL(h:¬(Ce D s a).2≠0):Cm (AS D s (a :: r)) id=Cm (AS (Ce D s a).1 s r) id:=by rw[DC,if_neg h]
theorem IE:Cm (AS D s []) id=(D,id,[],0):=if_neg fun q=>q rfl
theorem FitD.stepL(h:FitD n D)(s:List UInt8):∀(a:Stp),(∀b,a = .add b→b.length≤300)→FitD (n+1) (Ce D s a).1
  | .add b,hb=>h.append s (hb b rfl)
  | .sync,_=>h.sync s
  | .rem,_=>h.drop s
theorem FitD.steps(s:List UInt8):∀(acs:List Stp) {n:Nat} {D:An},FitD n D→(∀b,Stp.add b∈acs→b.length≤300)→FitD (n+acs.length) (AS D s acs).1
  | [],n,D,h,_=>h
  | a :: r,n,D,h,hb=>by
    have h1:=h.stepL s a fun b e=>hb b (e▸List.mem_cons_self)
    rw[DC]
    split
    · exact h1.mono (by rw[List.length_cons];omega)
    · have:=FitD.steps s r h1 fun b hm=>hb b (List.mem_cons_of_mem _ hm)
      rw[List.length_cons,show n+(r.length+1)=n+1+r.length by omega]
      exact this
theorem FitD.fin{r:An × Nat}(h:FitD n r.1)(id:List UInt8):FitD n (Cm r id).1:=by
  unfold Cm
  split <;> exact h
theorem FitD.put(h:FitD n D){b:List UInt8}(hb:b.length≤300):FitD (n+3) (A2 D b).1:=by
  have hs:∀acs:List Stp,acs.length≤3→(∀x,Stp.add x∈acs→x=b)→FitD (n+3) (Cm (AS D (Ad (Sha.sum b)) acs) (Sha.sum b)).1:=fun acs hl hx=>((FitD.steps _ acs h fun x hm=>by rw[hx x hm];exact hb).mono (by omega)).fin _
  unfold A2
  split
  · exact hs _ (by simp) (by simp)
  split
  · exact h.mono (by omega)
  split
  · exact hs _ (by simp) (by simp)
  split
  · exact h.mono (by omega)
  · exact hs _ (by simp) (by simp)
theorem FitD.dropL(h:FitD n D)(id:List UInt8):FitD (n+1) (BY D id).1:=by
  unfold Go.Proofs.YtejpjjhkjdpeaaaGreatDoor.BY
  split <;> exact h.drop _
theorem EQ(D:An)(s:List UInt8):BK D s=if s.length=66∧s.take 2= [111,45]∧(AQ (s.drop 2)).2=true∧(A8 D (AQ (s.drop 2)).1).2=0 then some (AQ (s.drop 2)).1 else none:=by
  unfold BK AP
  by_cases hp:([111,45]:List UInt8).length≤s.length∧s.take ([111,45]:List UInt8).length= [111,45]
  · rw[if_pos hp]
    show(if true=true∧(AQ (s.drop 2)).2=true∧(A8 D (AQ (s.drop 2)).1).2=0 then some (AQ (s.drop 2)).1 else none)=_
    by_cases hu:(AQ (s.drop 2)).2=true
    · have h64:(s.drop 2).length=64:=Classical.byContradiction fun q=>by rw[DT (fun z=>q z.1)]at hu;cases hu
      have h66:s.length=66:=by have h2:=hp.1;simp only[List.length_drop,List.length_cons,List.length_nil]at h64 h2;omega
      have a:s.take 2= [111,45]:=hp.2
      by_cases hg:(A8 D (AQ (s.drop 2)).1).2=0
      · rw[if_pos ⟨rfl,hu,hg⟩,if_pos ⟨h66,a,hu,hg⟩]
      · rw[if_neg (fun q=>hg q.2.2),if_neg (fun q=>hg q.2.2.2)]
    · rw[if_neg (fun q=>hu q.2.1),if_neg (fun q=>hu q.2.2.1)]
  · rw[if_neg hp,if_neg (fun q=>by cases q.1),if_neg (fun q=>hp ⟨by rw[q.1];decide,q.2.1⟩)]
theorem Qx(h:¬s.length=66):BK D s=none:=by rw[EQ,if_neg fun q=>h q.1]
theorem Qy(h:¬s.take 2= [111,45]):BK D s=none:=by rw[EQ,if_neg fun q=>h q.2.1]
theorem Qz(h:(AQ (s.drop 2)).2=false):BK D s=none:=by rw[EQ,if_neg fun q=>by rw[h]at q;cases q.2.2.1]
theorem Ox(h:¬(A8 D (AQ (s.drop 2)).1).2=0):BK D s=none:=by rw[EQ,if_neg fun q=>h q.2.2.2]
theorem RM(h:s.length=66)(h1:s.take 2= [111,45])(h2:(AQ (s.drop 2)).2=true)(h3:(A8 D (AQ (s.drop 2)).1).2=0):BK D s=some (AQ (s.drop 2)).1:=by rw[EQ,if_pos ⟨h,h1,h2,h3⟩]
end
theorem LU{a b m:List (List UInt8)}(ha:Ew a)(hb:Cb b)(hn:b.Nodup)(h1:∀x,x∈a↔x∈m)(h2:∀x,x∈b↔x∈m):a=b:=
  G7 (ha.imp fun h=>Int.le_of_lt h) hb ((List.perm_ext_iff_of_nodup (ha.imp fun hab e=>by rw[e,G5]at hab;omega) hn).2 fun x=>(h1 x).trans (h2 x).symm)
open Go.RowKit
set_option maxRecDepth 100000
theorem QA(a b:Nat)(ha:a<16)(hb:b<16):(digs.drop a).take (a+1-a)++(digs.drop b).take (b+1-b)= [digs.getD a 0,digs.getD b 0]:=by
 have h:∀n:Fin 16,(digs.drop n.val).take 1= [digs.getD n.val 0]:=by decide
 rw[show a+1-a=1 by omega,show b+1-b=1 by omega,h ⟨a,ha⟩,h ⟨b,hb⟩]
 rfl
theorem FK(w:World)(id:List UInt8)(hid:id.length=32):
  Calls Tryz.prog 25 #[AB id] w fun e w' =>e = .returned (St (hexOf id))∧Ext w w' :=by
 refine gG (args:= [AB id]) Tryz.func25 rfl 36 rfl rfl ?_
 have hE:=Ext.refl w
 refine gS (Yk.box (cs:=(Lib.byteCells id:List Value).toArray) (vr (AB id) rfl) fun g r z k s aa=> ?_)
 have c:=k;clear k
 have ab:g<r.heap.size:=by omega
 have hE:=hE.trans s
 refine gL (fun(ρ:Ai) (wz:World)=>∃i:Nat,ρ 0=(AB id:Value)∧ρ 1=(PQ g 0:Value)∧ρ 2=(St (([]:List UInt8)):Value)∧ρ 3=(St (([48,49,50,51,52,53,54,55,56,57,97,98,99,100,101,102]:List UInt8)):Value)∧ρ 5=(NI i:Value)∧ρ 4=(St (hexOf (id.take i)):Value)∧Ext w wz∧wz.heap[g]? =some (.cells (Lib.byteCells id).toArray 54 (0,0))∧(i≤32)∧True) (fun ρ _=>32-(intOf (ρ 5)).toNat) ⟨0,rfl,rfl,rfl,rfl,rfl,rfl,hE,c,Nat.zero_le _,trivial⟩ ?_
 clear hE c
 rintro t ac ⟨i,u,h,v,j,f,o,hE,c,hi,-⟩
 have q5:=f
 have hlt:=(id.getD i 0).toNat_lt
 refine gS (Yk.eqI (a:=(i:Nat)) (b:=(32:Nat)) f rfl (AO _ _ _ _) ?_)
 refine cD rfl (fun x=> ?_) fun x=> ?_
 ·refine B5 [0,1,2,3,4,5,6,7,8,9,10,11] [] [] fun ad p=> ?_
  have c:=eb p c
  refine ys (Yk.atArr0 (i:=i) IU Fy h f (by omega) zz) (ys (Yk.cell1 Ds rfl rfl (cellAt c (CF (i:=i) (by omega))) zz) (ys (Yk.convI Ds Pb rfl (HB .i64 ((id).getD (i) 0) (fun n hn=>CK n (by omega))) zz) (ys (Yk.bin (xv:=NI (((id).getD (i) 0).toNat)) (yv:=NI 16) rfl rfl rfl (Ij _ _ _ (by omega) (by omega)) zz) (ys (Yk.atArr0 (i:=i) IU Fy h f (by omega) zz) (ys (Yk.cell1 Ds rfl rfl (cellAt c (CF (i:=i) (by omega))) zz) (ys (Yk.convI Ds Pb rfl (HB .i64 ((id).getD (i) 0) (fun n hn=>CK n (by omega))) zz) (ys (Yk.bin (xv:=NI (((id).getD (i) 0).toNat)) (yv:=NI 16) rfl rfl rfl (Ik _ _ _ (by omega)) zz) (B5 [0,1,2,3,4,5,6,7,8,9,10,11,12,13] [13] [] fun ae q=> ?_))))))))
  have hE:=hE.trans (p.trans q)
  have c:=eb q c
  refine ys (Yk.bin (xv:=NI ((((id).getD (i) 0).toNat)/(16))) (yv:=NI 1) rfl rfl rfl (Ap _ _ _ (by omega)) zz) (ys (Yk.sliceSt (l:=([48,49,50,51,52,53,54,55,56,57,97,98,99,100,101,102]:List UInt8)) Io ((((id).getD (i) 0).toNat)/(16)) (((((id).getD (i) 0).toNat)/(16))+(1)) j (.inr ⟨.i64,congrArg some rfl⟩) (.inr ⟨.i64,congrArg some rfl⟩) (by omega) (by show _≤16;omega) zz) (ys (Yk.bin (xv:=NI ((((id).getD (i) 0).toNat)%(16))) (yv:=NI 1) rfl rfl rfl (Ap _ _ _ (by omega)) zz) (ys (Yk.sliceSt (l:=([48,49,50,51,52,53,54,55,56,57,97,98,99,100,101,102]:List UInt8)) Io ((((id).getD (i) 0).toNat)%(16)) (((((id).getD (i) 0).toNat)%(16))+(1)) j (.inr ⟨.i64,congrArg some rfl⟩) (.inr ⟨.i64,congrArg some rfl⟩) (by omega) (by show _≤16;omega) zz) (ys (Yk.catSt (l:=((([48,49,50,51,52,53,54,55,56,57,97,98,99,100,101,102]:List UInt8):List UInt8).drop ((((id).getD (i) 0).toNat)/(16))).take ((((((id).getD (i) 0).toNat)/(16))+(1))-((((id).getD (i) 0).toNat)/(16)))) (m:=((([48,49,50,51,52,53,54,55,56,57,97,98,99,100,101,102]:List UInt8):List UInt8).drop ((((id).getD (i) 0).toNat)%(16))).take ((((((id).getD (i) 0).toNat)%(16))+(1))-((((id).getD (i) 0).toNat)%(16)))) rfl rfl (by simp;omega) zz) (ys (Yk.catSt (l:=hexOf (id.take i)) (m:=(((([48,49,50,51,52,53,54,55,56,57,97,98,99,100,101,102]:List UInt8):List UInt8).drop ((((id).getD (i) 0).toNat)/(16))).take ((((((id).getD (i) 0).toNat)/(16))+(1))-((((id).getD (i) 0).toNat)/(16))):List UInt8)++(((([48,49,50,51,52,53,54,55,56,57,97,98,99,100,101,102]:List UInt8):List UInt8).drop ((((id).getD (i) 0).toNat)%(16))).take ((((((id).getD (i) 0).toNat)%(16))+(1))-((((id).getD (i) 0).toNat)%(16))):List UInt8)) o rfl (by have:=B4 (id.take i);simp at this ⊢;omega) zz) ?_)))))
  refine yC (Yk.assign rfl (gS (Yk.bin (xv:=NI i) (yv:=NI 1) f rfl rfl (Ap _ _ _ (by omega)) (gK (And.intro ⟨i+1,u,h,v,j,rfl,(rfl.trans (congrArg St (by rw[HQ id i (by omega)];exact congrArg (hexOf (id.take i) ++ ·) (QA _ _ (by omega) (by omega))))),hE,c,by omega,trivial⟩ ?_)))))
  show 32-(intOf (NI ((i)+(1)))).toNat<32-(intOf (t 5)).toNat
  rw[q5]
  simp only[intOf,Int.toNat_natCast];omega
 have y:id.take i=id:=List.take_of_length_le (by omega)
 refine AX rfl o ?_
 exact⟨by rw[y],hE⟩
open Go.RowKit
theorem RN{α:Type}{l:List α}{i:Nat}{a d:α}(h:i<l.length)(h1:a∉l.take i)(h2:l.getD i d≠a):a∉l.take (i+1):=by
  rw[List.take_succ_eq_append_getElem h]
  rw[List.getD_eq_getElem?_getD,List.getElem?_eq_getElem h]at h2
  simp only[List.mem_append,List.mem_singleton,not_or]
  exact⟨h1,fun e=>h2 e.symm⟩
theorem MX{α:Type}(l m:List α)(d:α){i:Nat}(h:i<l.length):(l++m).getD i d=l.getD i d:=by
  rw[List.getD_eq_getElem?_getD,List.getD_eq_getElem?_getD,List.getElem?_append_left h]
def BQ(o:List Bs)(j:Nat)(y:Bs):List Bs:=o.take j++y :: o.drop j
theorem Oy(o:List Bs)(j:Nat)(y:Bs):(BQ o j y).length=o.length+1:=by
  unfold BQ
  rw[List.length_append,List.length_cons,List.length_take,List.length_drop]
  omega
theorem Oz(o:List Bs)(x:Bs):o++ [x]=BQ o o.length x:=by unfold BQ;simp
section
variable {o : List Bs} {j : Nat} {x y : Bs}
theorem RO(h:0<j)(hj:j≤o.length):(BQ o j y).getD (j-1) []=o.getD (j-1) []:=by
  unfold BQ
  rw[MX _ _ _ (by rw[List.length_take];omega),List.getD_eq_getElem?_getD,List.getElem?_take,if_pos (by omega),←List.getD_eq_getElem?_getD]
theorem IF(hj:j≤o.length):(BQ o j y).set j x=BQ o j x:=by
  unfold BQ
  have hl:(o.take j).length=j:=by rw[List.length_take];omega
  rw[List.set_append_right _ _ (by omega),hl,Nat.sub_self,List.set_cons_zero]
theorem OA(h:0<j)(hj:j≤o.length):BQ o j (o.getD (j-1) [])=BQ o (j-1) (o.getD (j-1) []):=by
  unfold BQ
  obtain⟨i,rfl⟩:∃i,j=i+1:=⟨j-1,by omega⟩
  have dc:o.drop i=o.getD i [] :: o.drop (i+1):=by
    rw[List.drop_eq_getElem_cons (show i<o.length by omega),List.getD_eq_getElem?_getD,List.getElem?_eq_getElem (show i<o.length by omega)];rfl
  rw[Nat.add_sub_cancel,dc,List.take_succ_eq_append_getElem (by omega),List.getD_eq_getElem?_getD,List.getElem?_eq_getElem (show i<o.length by omega),List.append_assoc]
  rfl
theorem KN:(BQ o j x).Perm (x :: o):=by
  unfold BQ
  have:=List.perm_middle (a:=x) (l₁:=o.take j) (l₂:=o.drop j)
  rwa [List.take_append_drop]at this
theorem LV(ho:Cb o)(hj:j≤o.length)(h1:∀k,j≤k→k<o.length→0<Lib.compareBytes (o.getD k []) x)(h2:j=0∨¬0<Lib.compareBytes (o.getD (j-1) []) x):Cb (BQ o j x):=by
  unfold BQ Cb at *
  have hg:∀k (hk:k<o.length),o.getD k []=o[k]:=fun k hk=>by rw[List.getD_eq_getElem?_getD,List.getElem?_eq_getElem hk];rfl
  have hsplit:=ho
  rw[←List.take_append_drop j o,List.pairwise_append]at hsplit
  obtain⟨ha,hb,hc⟩:=hsplit
  have hx:∀z∈o.drop j,Lib.compareBytes x z≤0:=fun z hz=>by
    obtain⟨k,hk,rfl⟩:=List.getElem_of_mem hz
    rw[List.length_drop]at hk
    have:=h1 (j+k) (by omega) (by omega)
    rw[hg _ (by omega)]at this
    rw[List.getElem_drop]
    have:=EA x (o[j+k]'(by omega))
    omega
  have hy:∀z∈o.take j,Lib.compareBytes z x≤0:=fun z hz=>by
    obtain⟨k,hk,rfl⟩:=List.getElem_of_mem hz
    rw[List.length_take]at hk
    rcases h2 with h2 | h2
    · omega
    · rw[hg _ (by omega)]at h2
      rw[List.getElem_take]
      by_cases e:k=j-1
      · subst e;omega
      · exact Eu (List.pairwise_iff_getElem.1 ho k (j-1) (by omega) (by omega) (by omega)) (by omega)
  rw[List.pairwise_append]
  refine⟨ha,List.pairwise_cons.2 ⟨hx,hb⟩,fun a ha' b hb' => ?_⟩
  rcases List.mem_cons.1 hb' with rfl | hb'
  · exact hy a ha'
  · exact hc a ha' b hb'
end
open Go.RowKit
theorem Ji{α:Type}{l:List α}{i:Nat}(d:α)(h:i<l.length):l.drop i=l.getD i d :: l.drop (i+1):=by
  rw[List.drop_eq_getElem_cons h,List.getD_eq_getElem?_getD,List.getElem?_eq_getElem h];rfl
section
variable {x y : Bs} {i : Nat}
theorem SD(hx:i<x.length)(hy:i<y.length):Lib.compareBytes (x.drop i) (y.drop i)=if(x.getD i 0).toNat<(y.getD i 0).toNat then -1 else if(y.getD i 0).toNat<(x.getD i 0).toNat then 1 else Lib.compareBytes (x.drop (i+1)) (y.drop (i+1)):=by
  rw[Ji 0 hx,Ji 0 hy]
  rfl
end
theorem OC{α:Type}{l m:List α}{i:Nat}{d:α}(h:i<l.length)(hm:i<m.length)(h1:l.take i=m.take i)(h2:l.getD i d=m.getD i d):l.take (i+1)=m.take (i+1):=by
  rw[List.take_succ_eq_append_getElem h,List.take_succ_eq_append_getElem hm,h1]
  rw[List.getD_eq_getElem?_getD,List.getElem?_eq_getElem h,List.getD_eq_getElem?_getD,List.getElem?_eq_getElem hm]at h2
  rw[show l[i]=m[i]from h2]
theorem RP{α:Type}{l m:List α}{i:Nat}{d:α}(h2:l.getD i d≠m.getD i d):l≠m:=fun e=>h2 (by rw[e])
open Go.RowKit
set_option maxRecDepth 100000
set_option linter.unusedVariables false
set_option linter.unusedSimpArgs false
section
variable {l o : List Bs} {i : Nat}
theorem OD{x:Bs}(h:o.Nodup)(hx:x∉o):(o++ [x]).Nodup:=by
 rw[List.nodup_append]
 exact⟨h,by simp,fun a ha b hb=>by rw[List.mem_singleton.1 hb];intro e;exact hx (e▸ha)⟩
theorem KO(hi:i<l.length)(h:∀x,x∈o↔x∈l.take i):∀x,x∈o++ [l.getD i []]↔x∈l.take (i+1):=fun x=>by
 rw[EZ hi,List.mem_append,h x,List.mem_singleton]
theorem set_memF(hi:i<l.length)(h:∀x,x∈o↔x∈l.take i)(hin:l.getD i []∈o):∀x,x∈o↔x∈l.take (i+1):=fun x=>by
 rw[EZ hi,←h x]
 exact⟨.inl,fun h=>h.elim id fun e=>e▸hin⟩
end
theorem Jj:∀(cs:Array Value),cs.size=32→∀w:World,(Instr.buildSlice 43 1 #[(0, .agg cs)]).run Tryz.prog w = .ok (.slice (some ⟨w.heap.size,0,none⟩) 1 1) (w.alloc (.cells cs 54))
 | ⟨[c0,c1,c2,c3,c4,c5,c6,c7,c8,c9,c10,c11,c12,c13,c14,c15,c16,c17,c18,c19,c20,c21,c22,c23,c24,c25,c26,c27,c28,c29,c30,c31]⟩,_,w=>PO c0 c1 c2 c3 c4 c5 c6 c7 c8 c9 c10 c11 c12 c13 c14 c15 c16 c17 c18 c19 c20 c21 c22 c23 c24 c25 c26 c27 c28 c29 c30 c31 w
theorem Jk:Plain Tryz.prog 97:=fun _ _=>by kernel_rfl
theorem OE:Plain Tryz.prog 77:=fun _ _=>by kernel_rfl
theorem OF:Plain Tryz.prog 78:=fun _ _=>by kernel_rfl
set_option maxHeartbeats 1600000
theorem Fk(w:World)(x y:Bs)(hx:x.length=32)(hy:y.length=32):
  Calls Tryz.prog 97 #[AB x,AB y] w fun e w' =>e = .returned (.int .i64 (Lib.compareBytes x y))∧Ext w w' :=by
 refine gG (args:= [AB x,AB y]) Tryz.func97 rfl 24 rfl rfl ?_
 have hE:=Ext.refl w
 refine gS (Yk.box (cs:=(Lib.byteCells x:List Value).toArray) (vr (AB x) rfl) fun l m af u z ag=> ?_)
 have c:=u;clear u
 have ah:l<m.heap.size:=by omega
 refine gS (Yk.box (cs:=(Lib.byteCells y:List Value).toArray) (vr (AB y) rfl) fun n aa ab v o ai=> ?_)
 have h:=Ext.refl m
 have hE:=hE.trans z
 have aj:=hE.size
 have ak:=AE (bl c) ab
 have f:=v;clear v
 have al:n<aa.heap.size:=by omega
 have hE:=hE.trans o
 have c:=eb o c
 have h:=h.trans o
 refine gL (fun(ρ:Ai) (wz:World)=>∃i:Nat,ρ 0=(AB x:Value)∧ρ 1=(AB y:Value)∧ρ 2=(PQ l 0:Value)∧ρ 3=(PQ n 0:Value)∧ρ 5=(NI i:Value)∧Ext w wz∧wz.heap[l]? =some (.cells (Lib.byteCells x).toArray 54 (0,0))∧Ext m wz∧wz.heap[n]? =some (.cells (Lib.byteCells y).toArray 54 (0,0))∧(i≤32)∧(Lib.compareBytes x y=Lib.compareBytes (x.drop i) (y.drop i))∧True) (fun ρ _=>32-(intOf (ρ 5)).toNat) ⟨0,rfl,rfl,rfl,rfl,rfl,hE,c,h,f,Nat.zero_le _,rfl,trivial⟩ ?_
 clear hE c h f
 rintro ac am ⟨i,T0,T1,j,k,g,hE,c,h,f,hi,hc,-⟩
 have q5:=g
 by_cases hlt:i<32
 ·have hca:=SD (x:=x) (y:=y) (i:=i) (by omega) (by omega)
  by_cases q1:(x.getD i 0).toNat<(y.getD i 0).toNat
  ·rw[if_pos q1]at hca
   refine gS (Yk.eqI (a:=(i:Nat)) (b:=(32:Nat)) g rfl (AO _ _ _ _) (kT (hlt) (cT rfl (B5 [0,1,2,3,4,5,6] [] [] fun an p=> ?_))))
   have hE:=hE.trans p
   have c:=eb p c
   have f:=eb p f
   refine ys (Yk.atArr0 (i:=i) IU Fy j g (by omega) zz) (ys (Yk.cell1 Ds rfl rfl (cellAt c (CF (i:=i) (by omega))) zz) (ys (Yk.atArr0 (i:=i) IU Fy k g (by omega) zz) (ys (Yk.cell1 Ds rfl rfl (cellAt f (CF (i:=i) (by omega))) zz) (ys (Yk.eqI (a:=(((x).getD (i) 0).toNat:Nat)) (b:=(((y).getD (i) 0).toNat:Nat)) rfl rfl (AO _ _ _ _) zz) (kT (q1) (cT rfl (AX rfl (vr (.int .i64 (-1:Int)) rfl) ?_)))))))
   refine⟨?_,hE⟩
   rw[hc,hca]
  rw[if_neg q1]at hca
  by_cases q2:(y.getD i 0).toNat<(x.getD i 0).toNat
  ·rw[if_pos q2]at hca
   refine gS (Yk.eqI (a:=(i:Nat)) (b:=(32:Nat)) g rfl (AO _ _ _ _) (kT (hlt) (cT rfl (B5 [0,1,2,3,4,5,6] [] [] fun ao q=> ?_))))
   have c:=eb q c
   have f:=eb q f
   refine ys (Yk.atArr0 (i:=i) IU Fy j g (by omega) zz) (ys (Yk.cell1 Ds rfl rfl (cellAt c (CF (i:=i) (by omega))) zz) (ys (Yk.atArr0 (i:=i) IU Fy k g (by omega) zz) (ys (Yk.cell1 Ds rfl rfl (cellAt f (CF (i:=i) (by omega))) zz) (ys (Yk.eqI (a:=(((x).getD (i) 0).toNat:Nat)) (b:=(((y).getD (i) 0).toNat:Nat)) rfl rfl (AO _ _ _ _) zz) (kF (q1) (cF rfl (B5 [0,1,2,3,4,5,6] [] [] fun ap r=> ?_)))))))
   have hZ1:=q.trans r
   have hE:=hE.trans hZ1
   have c:=eb r c
   have f:=eb r f
   refine ys (Yk.atArr0 (i:=i) IU Fy j g (by omega) zz) (ys (Yk.cell1 Ds rfl rfl (cellAt c (CF (i:=i) (by omega))) zz) (ys (Yk.atArr0 (i:=i) IU Fy k g (by omega) zz) (ys (Yk.cell1 Ds rfl rfl (cellAt f (CF (i:=i) (by omega))) zz) (ys (Yk.eqI (a:=(((x).getD (i) 0).toNat:Nat)) (b:=(((y).getD (i) 0).toNat:Nat)) rfl rfl (Ca _ _ _ _) zz) (kT (q2) (cT rfl (AX rfl (vr (NI 1) rfl) ?_)))))))
   refine⟨?_,hE⟩
   rw[hc,hca];rfl
  rw[if_neg q2]at hca
  refine gS (Yk.eqI (a:=(i:Nat)) (b:=(32:Nat)) g rfl (AO _ _ _ _) (kT (hlt) (cT rfl (B5 [0,1,2,3,4,5,6] [] [] fun aq s=> ?_))))
  have c:=eb s c
  have f:=eb s f
  refine ys (Yk.atArr0 (i:=i) IU Fy j g (by omega) zz) (ys (Yk.cell1 Ds rfl rfl (cellAt c (CF (i:=i) (by omega))) zz) (ys (Yk.atArr0 (i:=i) IU Fy k g (by omega) zz) (ys (Yk.cell1 Ds rfl rfl (cellAt f (CF (i:=i) (by omega))) zz) (ys (Yk.eqI (a:=(((x).getD (i) 0).toNat:Nat)) (b:=(((y).getD (i) 0).toNat:Nat)) rfl rfl (AO _ _ _ _) zz) (kF (q1) (cF rfl (B5 [0,1,2,3,4,5,6] [] [] fun ar t=> ?_)))))))
  have hZ2:=s.trans t
  have hE:=hE.trans hZ2
  have h:=h.trans hZ2
  have c:=eb t c
  have f:=eb t f
  refine ys (Yk.atArr0 (i:=i) IU Fy j g (by omega) zz) (ys (Yk.cell1 Ds rfl rfl (cellAt c (CF (i:=i) (by omega))) zz) (ys (Yk.atArr0 (i:=i) IU Fy k g (by omega) zz) (ys (Yk.cell1 Ds rfl rfl (cellAt f (CF (i:=i) (by omega))) zz) (ys (Yk.eqI (a:=(((x).getD (i) 0).toNat:Nat)) (b:=(((y).getD (i) 0).toNat:Nat)) rfl rfl (Ca _ _ _ _) zz) (kF (q2) (cF rfl (gS (Yk.bin (xv:=NI i) (yv:=NI 1) g rfl rfl (Ap _ _ _ (by omega)) (gK (And.intro ⟨i+1,T0,T1,j,k,rfl,hE,c,h,f,by omega,hc.trans hca,trivial⟩ ?_))))))))))
  show 32-(intOf (NI ((i)+(1)))).toNat<32-(intOf (ac 5)).toNat
  rw[q5]
  simp only[intOf,Int.toNat_natCast];omega
 refine gS (Yk.eqI (a:=(i:Nat)) (b:=(32:Nat)) g rfl (AO _ _ _ _) (kF (hlt) (cF rfl (AX rfl (vr (NI 0) rfl) ?_))))
 refine⟨?_,hE⟩
 rw[hc,List.drop_of_length_le (by omega),List.drop_of_length_le (by omega)];rfl

theorem Lp(w:World)(v u_:Value)(l m:List Bs)(hr:RG 32 Lib.byteCells w v l)(hs:RG 32 Lib.byteCells w u_ m)(hll:l.length<9223372036854775807):
  Calls Tryz.prog 11 #[v,u_] w fun e w' =>e = .returned (.bool (decide (l=m)))∧Ext w w' :=by
 refine gG (args:= [v,u_]) Tryz.func11 rfl 26 rfl rfl ?_
 have hE:=Ext.refl w
 by_cases hq:l.length=m.length
 ·refine gS (Yk.lenRG Bc (RG.of hr rfl) (gS (Yk.lenRG Bc (RG.of hs rfl) (gS (Yk.eqI (a:=(l.length:Nat)) (b:=(m.length:Nat)) rfl rfl (AZ _ _ _ _) (kF (fun h=>h hq) (cF rfl (gL (fun(ρ:Ai) (wz:World)=>∃i:Nat,ρ 0=(v:Value)∧ρ 1=(u_:Value)∧ρ 10=(.bool (false):Value)∧ρ 5=(NI i:Value)∧RG 32 Lib.byteCells wz v l∧RG 32 Lib.byteCells wz u_ m∧Ext w wz∧(i≤l.length)∧(l.take i=m.take i)∧True) (fun ρ _=>l.length-(intOf (ρ 5)).toNat) ⟨0,rfl,rfl,rfl,rfl,hr,hs,hE,Nat.zero_le _,(by simp),trivial⟩ ?_))))))))
  clear hr hs hE
  rintro r z ⟨i,f,g,s,c,hr,hs,hE,hi,hn,-⟩
  have q5:=c
  by_cases hlt:i<l.length
  ·have hel:(l.getD i []).length=32:=Bf (RG.elem hr [] hlt)
   have hem:(m.getD i []).length=32:=Bf (RG.elem hs [] (by omega))
   by_cases q1:l.getD i []=m.getD i []
   ·refine gS (Yk.lenRG Bc (RG.of hr f) (gS (Yk.eqI (a:=(i:Nat)) (b:=(l.length:Nat)) c rfl (AO _ _ _ _) (kT (hlt) (cT rfl (B5 [0,1,2,3,4,5,6,7,8] [] [] fun aa j=> ?_))))))
    have hr:=hr.keep j
    have t:(Lib.byteCells (l.getD (i) ([]:List UInt8))).length=32:=(RG.elem hr ([]:List UInt8) (by omega))
    refine yA (Yk.atRG Bc C4 (by decide) ([]:List UInt8) (RG.of hr f) c (by omega) fun ab n=>(ys (Yk.loadPR (PR.of n rfl) IU rfl (by rw[t];exact R5) zz) ?_))
    have hs:=hs.keep j
    have u:(Lib.byteCells (m.getD (i) ([]:List UInt8))).length=32:=(RG.elem hs ([]:List UInt8) (by omega))
    refine yA (Yk.atRG Bc C4 (by decide) ([]:List UInt8) (RG.of hs g) c (by omega) fun ac o=>(ys (Yk.loadPR (PR.of o rfl) IU rfl (by rw[u];exact R5) zz) (ys (Yk.neArr (l1:=(l.getD (i) ([]:List UInt8))) (l2:=(m.getD (i) ([]:List UInt8))) IU Ds Fy PJ rfl rfl (hel) (hem) zz) (kF (fun h=>h q1) ?_))))
    clear n
    clear o
    have hE:=hE.trans j
    refine cF rfl (gS (Yk.bin (xv:=NI i) (yv:=NI 1) c rfl rfl (Ap _ _ _ (by omega)) (gK (And.intro ⟨i+1,f,g,s,rfl,hr,hs,hE,by omega,OC hlt (by omega) hn q1,trivial⟩ ?_))))
    show l.length-(intOf (NI ((i)+(1)))).toNat<l.length-(intOf (r 5)).toNat
    rw[q5]
    simp only[intOf,Int.toNat_natCast];omega
   refine gS (Yk.lenRG Bc (RG.of hr f) (gS (Yk.eqI (a:=(i:Nat)) (b:=(l.length:Nat)) c rfl (AO _ _ _ _) (kT (hlt) (cT rfl (B5 [0,1,2,3,4,5,6,7,8] [] [] fun ad k=> ?_))))))
   have hr:=hr.keep k
   have x:(Lib.byteCells (l.getD (i) ([]:List UInt8))).length=32:=(RG.elem hr ([]:List UInt8) (by omega))
   refine yA (Yk.atRG Bc C4 (by decide) ([]:List UInt8) (RG.of hr f) c (by omega) fun ae p=>(ys (Yk.loadPR (PR.of p rfl) IU rfl (by rw[x];exact R5) zz) ?_))
   have hs:=hs.keep k
   have y:(Lib.byteCells (m.getD (i) ([]:List UInt8))).length=32:=(RG.elem hs ([]:List UInt8) (by omega))
   refine yA (Yk.atRG Bc C4 (by decide) ([]:List UInt8) (RG.of hs g) c (by omega) fun af q=>(ys (Yk.loadPR (PR.of q rfl) IU rfl (by rw[y];exact R5) zz) (ys (Yk.neArr (l1:=(l.getD (i) ([]:List UInt8))) (l2:=(m.getD (i) ([]:List UInt8))) IU Ds Fy PJ rfl rfl (hel) (hem) zz) (kT (q1) ?_))))
   clear p
   clear q
   refine cT rfl (AX rfl (vr (.bool (false)) rfl) ?_)
   have hE:=hE.trans k
   exact⟨by rw[decide_eq_false (RP q1)],hE⟩
  refine gS (Yk.lenRG Bc (RG.of hr f) (gS (Yk.eqI (a:=(i:Nat)) (b:=(l.length:Nat)) c rfl (AO _ _ _ _) (kF (hlt) (cF rfl (AX rfl (vr (.bool (true)) rfl) ?_))))))
  rw[show i=l.length by omega,List.take_length,show l.length=m.length by omega,List.take_length]at hn
  exact⟨by rw[decide_eq_true hn],hE⟩
 refine gS (Yk.lenRG Bc (RG.of hr rfl) (gS (Yk.lenRG Bc (RG.of hs rfl) (gS (Yk.eqI (a:=(l.length:Nat)) (b:=(m.length:Nat)) rfl rfl (AZ _ _ _ _) (kT (hq) (cT rfl (AX rfl (vr (.bool (false)) rfl) ?_))))))))
 exact⟨by rw[decide_eq_false (fun e=>hq (by rw[e]))],hE⟩

theorem OH(w:World)(v:Value)(l:List Bs)(hr:RG 32 Lib.byteCells w v l)(hll:l.length<9223372036854775807)(id:Bs)(hid:id.length=32):
  Calls Tryz.prog 77 #[v,AB id] w fun e w' =>e = .returned (.bool (decide (id∈l)))∧Ext w w' :=by
 refine gG (args:= [v,AB id]) Tryz.func77 rfl 18 rfl rfl ?_
 have hE:=Ext.refl w
 refine gS (Yk.box (cs:=(Lib.byteCells id:List Value).toArray) (vr (AB id) rfl) fun h q y k r z=> ?_)
 have c:=k;clear k
 have aa:h<q.heap.size:=by omega
 have hE:=hE.trans r
 refine gL (fun(ρ:Ai) (wz:World)=>∃i:Nat,ρ 0=(v:Value)∧ρ 1=(AB id:Value)∧ρ 3=(PQ h 0:Value)∧ρ 5=(NI i:Value)∧Ext w wz∧wz.heap[h]? =some (.cells (Lib.byteCells id).toArray 54 (0,0))∧(i≤l.length)∧(id∉l.take i)∧True) (fun ρ _=>l.length-(intOf (ρ 5)).toNat) ⟨0,rfl,rfl,rfl,rfl,hE,c,Nat.zero_le _,(by simp),trivial⟩ ?_
 clear hE c
 rintro s ab ⟨i,g,t,j,f,hE,c,hi,hn,-⟩
 have q5:=f
 by_cases hlt:i<l.length
 ·have hel:(l.getD i []).length=32:=Bf (RG.elem hr [] hlt)
  by_cases q1:l.getD i []=id
  ·refine gS (Yk.lenRG Bc (RG.of (hr.keep hE) g) (gS (Yk.eqI (a:=(i:Nat)) (b:=(l.length:Nat)) f rfl (AO _ _ _ _) (kT (hlt) (cT rfl (B5 [0,1,2,3,4,5] [] [] fun ac m=> ?_))))))
   have hE:=hE.trans m
   have u:(Lib.byteCells (l.getD (i) ([]:List UInt8))).length=32:=(RG.elem (hr.keep hE) ([]:List UInt8) (by omega))
   have c:=eb m c
   refine yA (Yk.atRG Bc C4 (by decide) ([]:List UInt8) (RG.of (hr.keep hE) g) f (by omega) fun ad n=>(ys (Yk.loadPR (PR.of n rfl) IU rfl (by rw[u];exact R5) zz) (ys (Yk.loadAll j c IU rfl (by exact Ae hid) zz) (ys (Yk.eqArr (l1:=(l.getD (i) ([]:List UInt8))) (l2:=id) IU Ds Fy PJ rfl rfl (hel) (hid) zz) (kT (q1) ?_)))))
   clear n
   refine cT rfl (AX rfl (vr (.bool (true)) rfl) ?_)
   exact⟨by rw[decide_eq_true (show id∈l from q1▸DR [] hlt)],hE⟩
  refine gS (Yk.lenRG Bc (RG.of (hr.keep hE) g) (gS (Yk.eqI (a:=(i:Nat)) (b:=(l.length:Nat)) f rfl (AO _ _ _ _) (kT (hlt) (cT rfl (B5 [0,1,2,3,4,5] [] [] fun ae o=> ?_))))))
  have hE:=hE.trans o
  have x:(Lib.byteCells (l.getD (i) ([]:List UInt8))).length=32:=(RG.elem (hr.keep hE) ([]:List UInt8) (by omega))
  have c:=eb o c
  refine yA (Yk.atRG Bc C4 (by decide) ([]:List UInt8) (RG.of (hr.keep hE) g) f (by omega) fun af p=>(ys (Yk.loadPR (PR.of p rfl) IU rfl (by rw[x];exact R5) zz) (ys (Yk.loadAll j c IU rfl (by exact Ae hid) zz) (ys (Yk.eqArr (l1:=(l.getD (i) ([]:List UInt8))) (l2:=id) IU Ds Fy PJ rfl rfl (hel) (hid) zz) (kF (q1) ?_)))))
  clear p
  refine cF rfl (gS (Yk.bin (xv:=NI i) (yv:=NI 1) f rfl rfl (Ap _ _ _ (by omega)) (gK (And.intro ⟨i+1,g,t,j,rfl,hE,c,by omega,RN hlt hn q1,trivial⟩ ?_))))
  show l.length-(intOf (NI ((i)+(1)))).toNat<l.length-(intOf (s 5)).toNat
  rw[q5]
  simp only[intOf,Int.toNat_natCast];omega
 refine gS (Yk.lenRG Bc (RG.of (hr.keep hE) g) (gS (Yk.eqI (a:=(i:Nat)) (b:=(l.length:Nat)) f rfl (AO _ _ _ _) (kF (hlt) (cF rfl (AX rfl (vr (.bool (false)) rfl) ?_))))))
 rw[show i=l.length by omega,List.take_length]at hn
 exact⟨by rw[decide_eq_false hn],hE⟩

theorem Lq(w:World)(v:Value)(l:List Bs)(hr:RG 32 Lib.byteCells w v l)(hll:l.length≤1099511627776):
  Calls Tryz.prog 78 #[v] w fun e w' =>∃v',e = .returned v' ∧OG w.heap.size 54 32 Lib.byteCells w' v' (EX l)∧Ext w w' :=by
 refine gG (args:= [v]) Tryz.func78 rfl 54 rfl rfl ?_
 have hE:=Ext.refl w
 have hrow0:OG w.heap.size 54 32 Lib.byteCells w (Value.slice none 0 0) ([]:List Bs):=OG.nil _ _ _ _ _
 refine gL (fun(ρ:Ai) (wz:World)=>∃i:Nat,∃o:List Bs,∃vo:Value,ρ 0=(v:Value)∧ρ 2=((Value.slice none 0 0):Value)∧ρ 4=(NI i:Value)∧ρ 3=(vo:Value)∧Ext w wz∧OG w.heap.size 54 32 (Lib.byteCells) wz vo (o)∧(i≤l.length)∧(Cb o)∧(o.Perm (l.take i))∧True) (fun ρ _=>l.length-(intOf (ρ 4)).toNat) ⟨0,[],(Value.slice none 0 0),rfl,rfl,rfl,rfl,hE,Bk hrow0 (rfl),Nat.zero_le _,List.Pairwise.nil,(by simp),trivial⟩ ?_
 clear hrow0
 clear hE
 rintro af w6 ⟨i,o,vo,h,n,f,c,hE,hr_vo,hi,ha,hp,-⟩
 have q4:=f
 by_cases hlt:i<l.length
 ·obtain⟨x,hx⟩:∃x,x=l.getD i []:=⟨_,rfl⟩
  have xlen:x.length=32:=by rw[hx];exact Bf (RG.elem hr [] hlt)
  have hol:o.length=i:=by rw[hp.length_eq,List.length_take];omega
  refine gS (Yk.lenRG Bc (RG.of (hr.keep hE) h) (gS (Yk.eqI (a:=(i:Nat)) (b:=(l.length:Nat)) f rfl (AO _ _ _ _) (kT (hlt) (cT rfl (gS (Yk.lenRG Bc (RG.of (RG.ofOwn hr_vo) c) ?_)))))))
  have ag:(Lib.byteCells (l.getD (i) ([]:List UInt8))).length=32:=(RG.elem (hr.keep hE) ([]:List UInt8) (by omega))
  refine gS (Yk.atRG Bc C4 (by decide) ([]:List UInt8) (RG.of (hr.keep hE) h) f (by omega) fun a8 p=>(gS (Yk.loadPR (PR.of p rfl) IU rfl (by rw[ag];exact R5) (gS (Yk.lit1G (a:=(l.getD (i) ([]:List UInt8))) (enc:=Lib.byteCells) (vr (AB (l.getD (i) ([]:List UInt8))) rfl) (by rw[Lib.byteCells_length];exact(Bf (ag))) Jj fun aq ar ah aa=> ?_)))))
  have p:=PR.keep p aa
  have hE:=hE.trans aa
  have hr_vo:=hr_vo.keep aa
  refine gS (Yk.appendRG _ _ w.heap.size _ 32 Bc pk6_ig54.choose_spec.1 pk6_ig54.choose_spec.2 Bc (o) ([(l.getD (i) ([]:List UInt8))]) (OG.of hr_vo c) (RG.of ah (vr aq rfl)) (fun _ _=>Ah _) (by simp only[List.length_cons,List.length_nil];omega) (by simp only[List.length_cons,List.length_nil];omega) hE.size fun ai au aj ab=> ?_)
  have ab:Grew ar au vo ai:= .eqv c ab
  have hE:=Ag hE ab hr_vo.2 (Nat.le_refl _)
  clear p
  clear ah
  clear hr_vo
  refine gL (fun(ρ:Ai) (wz:World)=>∃j:Nat,∃y:Bs,∃vp:Value,ρ 0=(v:Value)∧ρ 2=((Value.slice none 0 0):Value)∧ρ 4=(NI i:Value)∧ρ 9=(.bool (true):Value)∧ρ 5=(NI j:Value)∧ρ 3=(vp:Value)∧Ext w wz∧OG w.heap.size 54 32 (Lib.byteCells) wz vp (BQ o j y)∧(j≤o.length)∧(∀k,j≤k→k<o.length→0<Lib.compareBytes (o.getD k []) x)∧True) (fun ρ _=>(intOf (ρ 5)).toNat) ⟨o.length,x,ai,h,n,f,rfl,rfl,rfl,hE,Bk aj ((by rw[←hx];exact Oz o x)),Nat.le_refl _,(fun k h1 h2=>by omega),trivial⟩ ?_
  clear aj
  clear hE
  rintro av a9 ⟨j,y,vp,h,n,f,T9,m,c,hE,hr_vp,hj,hgt,-⟩
  have q5:=m
  have hil:=Oy o j y
  obtain⟨g,hg⟩:=OG.block hr_vp (i:=0) (by omega)
  by_cases hj0:j=0
  ·have hstop:j=0∨¬0<Lib.compareBytes (o.getD (j-1) []) x:= .inl hj0
   refine B5 [0,1,2,3,4,5,6,7,8,9,10,11,12,13,14] [12] [] fun ba ak=>(ys (Yk.eqI (a:=(j:Nat)) (b:=(0:Nat)) m rfl (Ca _ _ _ _) zz) (kF (by omega) (ys (Yk.pickF rfl rfl zz) (cF rfl ?_))))
   have hE:=hE.trans ak
   have ax:(Lib.byteCells (l.getD (i) ([]:List UInt8))).length=32:=(RG.elem (hr.keep hE) ([]:List UInt8) (by omega))
   have hr_vp:=hr_vp.keep ak
   refine gS (Yk.atRG Bc C4 (by decide) ([]:List UInt8) (RG.of (hr.keep hE) h) f (by omega) fun bb al=>(gS (Yk.loadPR (PR.of al rfl) IU rfl (by rw[ax];exact R5) (gS (Yk.atOwnK (k:=32) (i:=j) Bc C4 c hr_vp.2 hg m (by omega) (gS (Yk.storeOG (i:=j) (a:=(l.getD (i) ([]:List UInt8))) ([]:List UInt8) rfl rfl hr_vp hg (by omega) (by rw[Lib.byteCells_length,←hx];exact xlen) (Ah _) R5 fun bc ac ay=> ?_)))))))
   have hE:=Ag hE ay hr_vp.2 (Nat.le_refl _)
   clear al
   clear hr_vp
   have ac:=Bk (l' :=BQ o j x) ac (by rw[←hx];exact IF hj)
   refine gS (Yk.bin (xv:=NI i) (yv:=NI 1) f rfl rfl (Ap _ _ _ (by omega)) ?_)
   refine gK (And.intro ⟨i+1,BQ o j x,vp,h,n,rfl,c,hE,Bk ac (rfl),by omega,LV ha hj hgt hstop,(by rw[List.take_succ_eq_append_getElem hlt];have h1:=KN (o:=o) (j:=j) (x:=x);rw[hx,List.getD_eq_getElem?_getD,List.getElem?_eq_getElem hlt]at h1 ⊢;exact(h1.trans (hp.cons _)).trans (List.perm_append_comm (l₁:= [_]))),trivial⟩ ?_)
   show l.length-(intOf (NI ((i)+(1)))).toNat<l.length-(intOf (af 4)).toNat
   rw[q4]
   simp only[intOf,Int.toNat_natCast];omega
  have hjp:0<j:=by omega
  have hge:=RO (y:=y) hjp hj
  have ylen:(o.getD (j-1) []).length=32:=by rw[←hge];exact Bf (hr_vp.1 _ (DR [] (by omega)))
  by_cases hq:0<Lib.compareBytes (o.getD (j-1) []) x
  ·refine B5 [0,1,2,3,4,5,6,7,8,9,10,11,12,13,14] [12] [] fun bd am=>(ys (Yk.eqI (a:=(j:Nat)) (b:=(0:Nat)) m rfl (Ca _ _ _ _) zz) (kT (hjp) (ys (Yk.bin (xv:=NI j) (yv:=NI 1) m rfl rfl (BL _ _ _ (by omega) (by omega)) zz) ?_)))
   have hr_vp:=hr_vp.keep am
   have az:(Lib.byteCells ((BQ o j y).getD ((j)-(1)) ([]:List UInt8))).length=32:=(RG.elem (RG.ofOwn hr_vp) ([]:List UInt8) (by omega))
   refine yA (Yk.atRG Bc C4 (by decide) ([]:List UInt8) (RG.of (RG.ofOwn hr_vp) c) rfl (by omega) fun be q=>(ys (Yk.loadPR (PR.of q rfl) IU rfl (by rw[az];exact R5) zz) ?_))
   have hE:=hE.trans am
   have a0:(Lib.byteCells (l.getD (i) ([]:List UInt8))).length=32:=(RG.elem (hr.keep hE) ([]:List UInt8) (by omega))
   refine yA (Yk.atRG Bc C4 (by decide) ([]:List UInt8) (RG.of (hr.keep hE) h) f (by omega) fun bf r=>(ys (Yk.loadPR (PR.of r rfl) IU rfl (by rw[a0];exact R5) zz) (yC (Yk.callA2 Jk rfl rfl ((Fk _ (((BQ o j y).getD ((j)-(1)) ([]:List UInt8))) ((l.getD (i) ([]:List UInt8))) (by rw[hge];exact ylen) (by rw[←hx];exact xlen)).mono ?_)))))
   rintro e bg ⟨rfl,s⟩
   refine⟨_,rfl,?_⟩
   have q:=PR.keep q s
   have r:=PR.keep r s
   refine ys (Yk.eqI rfl rfl (GE _ .i64 (Lib.compareBytes (((BQ o j y).getD ((j)-(1)) ([]:List UInt8))) ((l.getD (i) ([]:List UInt8))):Int) ((0:Nat):Int)) zz) (kT (by rw[hge,←hx];exact hq) (ys (Yk.pickT rfl rfl zz) ?_))
   clear q
   clear r
   refine cT rfl (gS (Yk.bin (xv:=NI j) (yv:=NI 1) m rfl rfl (BL _ _ _ (by omega) (by omega)) ?_))
   have hr_vp:=hr_vp.keep s
   have a1:(Lib.byteCells ((BQ o j y).getD ((j)-(1)) ([]:List UInt8))).length=32:=(RG.elem (RG.ofOwn hr_vp) ([]:List UInt8) (by omega))
   refine gS (Yk.atRG Bc C4 (by decide) ([]:List UInt8) (RG.of (RG.ofOwn hr_vp) c) rfl (by omega) fun bh an=>(gS (Yk.loadPR (PR.of an rfl) IU rfl (by rw[a1];exact R5) (gS (Yk.atOwnK (k:=32) (i:=j) Bc C4 c hr_vp.2 hg m (by omega) (gS (Yk.storeOG (i:=j) (a:=((BQ o j y).getD ((j)-(1)) ([]:List UInt8))) ([]:List UInt8) rfl rfl hr_vp hg (by omega) (by rw[Lib.byteCells_length,hge];exact ylen) (Ah _) R5 fun bi ad a2=> ?_)))))))
   have hE:=hE.trans s
   have hE:=Ag hE a2 hr_vp.2 (Nat.le_refl _)
   clear an
   clear hr_vp
   have ad:=Bk (l' :=BQ o (j-1) (o.getD (j-1) [])) ad (by rw[hge,IF hj];exact OA hjp hj)
   refine gS (Yk.bin (xv:=NI j) (yv:=NI 1) m rfl rfl (BL _ _ _ (by omega) (by omega)) (gK (And.intro ⟨j-1,o.getD (j-1) [],vp,h,n,f,T9,rfl,c,hE,Bk ad (rfl),by omega,(fun k h1 h2=>by by_cases e:k=j-1;rw[e];exact hq;exact hgt k (by omega) h2),trivial⟩ ?_)))
   show(intOf (NI ((j)-(1)))).toNat<(intOf (av 5)).toNat
   rw[q5]
   simp only[intOf,Int.toNat_natCast];omega
  have hstop:j=0∨¬0<Lib.compareBytes (o.getD (j-1) []) x:= .inr hq
  refine B5 [0,1,2,3,4,5,6,7,8,9,10,11,12,13,14] [12] [] fun bj ao=>(ys (Yk.eqI (a:=(j:Nat)) (b:=(0:Nat)) m rfl (Ca _ _ _ _) zz) (kT (hjp) (ys (Yk.bin (xv:=NI j) (yv:=NI 1) m rfl rfl (BL _ _ _ (by omega) (by omega)) zz) ?_)))
  have hr_vp:=hr_vp.keep ao
  have a3:(Lib.byteCells ((BQ o j y).getD ((j)-(1)) ([]:List UInt8))).length=32:=(RG.elem (RG.ofOwn hr_vp) ([]:List UInt8) (by omega))
  refine yA (Yk.atRG Bc C4 (by decide) ([]:List UInt8) (RG.of (RG.ofOwn hr_vp) c) rfl (by omega) fun bk t=>(ys (Yk.loadPR (PR.of t rfl) IU rfl (by rw[a3];exact R5) zz) ?_))
  have hE:=hE.trans ao
  have a4:(Lib.byteCells (l.getD (i) ([]:List UInt8))).length=32:=(RG.elem (hr.keep hE) ([]:List UInt8) (by omega))
  refine yA (Yk.atRG Bc C4 (by decide) ([]:List UInt8) (RG.of (hr.keep hE) h) f (by omega) fun bm u=>(ys (Yk.loadPR (PR.of u rfl) IU rfl (by rw[a4];exact R5) zz) (yC (Yk.callA2 Jk rfl rfl ((Fk _ (((BQ o j y).getD ((j)-(1)) ([]:List UInt8))) ((l.getD (i) ([]:List UInt8))) (by rw[hge];exact ylen) (by rw[←hx];exact xlen)).mono ?_)))))
  rintro e bn ⟨rfl,z⟩
  refine⟨_,rfl,?_⟩
  have t:=PR.keep t z
  have u:=PR.keep u z
  refine ys (Yk.eqI rfl rfl (GE _ .i64 (Lib.compareBytes (((BQ o j y).getD ((j)-(1)) ([]:List UInt8))) ((l.getD (i) ([]:List UInt8))):Int) ((0:Nat):Int)) zz) (kF (by rw[hge,←hx];exact hq) (ys (Yk.pickT rfl rfl zz) ?_))
  clear t
  clear u
  refine cF rfl ?_
  have hE:=hE.trans z
  have a5:(Lib.byteCells (l.getD (i) ([]:List UInt8))).length=32:=(RG.elem (hr.keep hE) ([]:List UInt8) (by omega))
  have hr_vp:=hr_vp.keep z
  refine gS (Yk.atRG Bc C4 (by decide) ([]:List UInt8) (RG.of (hr.keep hE) h) f (by omega) fun bo ap=>(gS (Yk.loadPR (PR.of ap rfl) IU rfl (by rw[a5];exact R5) (gS (Yk.atOwnK (k:=32) (i:=j) Bc C4 c hr_vp.2 hg m (by omega) (gS (Yk.storeOG (i:=j) (a:=(l.getD (i) ([]:List UInt8))) ([]:List UInt8) rfl rfl hr_vp hg (by omega) (by rw[Lib.byteCells_length,←hx];exact xlen) (Ah _) R5 fun bp ae a6=> ?_)))))))
  have hE:=Ag hE a6 hr_vp.2 (Nat.le_refl _)
  clear ap
  clear hr_vp
  have ae:=Bk (l' :=BQ o j x) ae (by rw[←hx];exact IF hj)
  refine gS (Yk.bin (xv:=NI i) (yv:=NI 1) f rfl rfl (Ap _ _ _ (by omega)) ?_)
  refine gK (And.intro ⟨i+1,BQ o j x,vp,h,n,rfl,c,hE,Bk ae (rfl),by omega,LV ha hj hgt hstop,(by rw[List.take_succ_eq_append_getElem hlt];have h1:=KN (o:=o) (j:=j) (x:=x);rw[hx,List.getD_eq_getElem?_getD,List.getElem?_eq_getElem hlt]at h1 ⊢;exact(h1.trans (hp.cons _)).trans (List.perm_append_comm (l₁:= [_]))),trivial⟩ ?_)
  show l.length-(intOf (NI ((i)+(1)))).toNat<l.length-(intOf (af 4)).toNat
  rw[q4]
  simp only[intOf,Int.toNat_natCast];omega
 refine gS (Yk.lenRG Bc (RG.of (hr.keep hE) h) (gS (Yk.eqI (a:=(i:Nat)) (b:=(l.length:Nat)) f rfl (AO _ _ _ _) (kF (hlt) (cF rfl (AX rfl c ?_))))))
 rw[show i=l.length by omega,List.take_length]at hp
 exact⟨_,rfl,Bk hr_vo (IO ha hp),hE⟩

theorem Id(w:World)(v:Value)(l:List Bs)(hr:RG 32 Lib.byteCells w v l)(hll:l.length≤1000000):
  Calls Tryz.prog 39 #[v] w fun e w' =>∃v' o,e = .returned v' ∧OG w.heap.size 54 32 Lib.byteCells w' v' o∧Cb o∧o.Nodup∧(∀x,x∈o↔x∈l)∧Ext w w' :=by
 refine gG (args:= [v]) Tryz.func39 rfl 27 rfl rfl ?_
 have hE:=Ext.refl w
 have hrow0:OG w.heap.size 54 32 Lib.byteCells w (Value.slice none 0 0) ([]:List Bs):=OG.nil _ _ _ _ _
 refine gL (fun(ρ:Ai) (wz:World)=>∃i:Nat,∃o:List Bs,∃vo:Value,ρ 0=(v:Value)∧ρ 2=((Value.slice none 0 0):Value)∧ρ 4=(NI i:Value)∧ρ 3=(vo:Value)∧Ext w wz∧OG w.heap.size 54 32 (Lib.byteCells) wz vo (o)∧(i≤l.length)∧(o.Nodup)∧(∀x,x∈o↔x∈l.take i)∧(o.length≤i)∧True) (fun ρ _=>l.length-(intOf (ρ 4)).toNat) ⟨0,[],(Value.slice none 0 0),rfl,rfl,rfl,rfl,hE,Bk hrow0 (rfl),Nat.zero_le _,List.nodup_nil,(by simp),Nat.le_refl _,trivial⟩ ?_
 clear hrow0
 clear hE
 rintro r w6 ⟨i,o,vo,f,s,c,g,hE,hr_vo,hi,hnd,hmm,hol,-⟩
 have q4:=c
 refine gS (Yk.lenRG Bc (RG.of (hr.keep hE) f) (gS (Yk.eqI (a:=(i:Nat)) (b:=(l.length:Nat)) c rfl (AO _ _ _ _) ?_)))
 refine cD rfl (fun t=> ?_) fun t=> ?_
 ·have hlt:i<l.length:=t
  have hxl:(l.getD i []).length=32:=Bf ((hr.keep hE).1 _ (DR [] hlt))
  have u:(Lib.byteCells (l.getD (i) ([]:List UInt8))).length=32:=(RG.elem (hr.keep hE) ([]:List UInt8) (hlt))
  refine gS (Yk.atRG Bc C4 (by decide) ([]:List UInt8) (RG.of (hr.keep hE) f) c (hlt) fun ai j=>(gS (Yk.loadPR (PR.of j rfl) IU rfl (by rw[u];exact R5) (gS (Yk.callA2 OE g rfl ((OH _ vo (o) (RG.ofOwn hr_vo) (by omega) (l.getD (i) ([]:List UInt8)) ((Bf (u)))).mono ?_))))))
  rintro e aj ⟨rfl,h⟩
  refine⟨_,rfl,?_⟩
  have j:=PR.keep j h
  refine gS (Yk.notB rfl ?_)
  clear j
  refine cB (!(decide ((l.getD (i) ([]:List UInt8))∈(o)))) rfl (fun m=> ?_) fun m=> ?_
  ·have hni:l.getD i []∉o:=by simpa using m
   have hE:=hE.trans h
   have y:(Lib.byteCells (l.getD (i) ([]:List UInt8))).length=32:=(RG.elem (hr.keep hE) ([]:List UInt8) (hlt))
   refine gS (Yk.atRG Bc C4 (by decide) ([]:List UInt8) (RG.of (hr.keep hE) f) c (hlt) fun ak k=>(gS (Yk.loadPR (PR.of k rfl) IU rfl (by rw[y];exact R5) (gS (Yk.lit1G (a:=(l.getD (i) ([]:List UInt8))) (enc:=Lib.byteCells) (vr (AB (l.getD (i) ([]:List UInt8))) rfl) (by rw[Lib.byteCells_length];exact(Bf (y))) Jj fun ab ac z n=> ?_)))))
   have k:=PR.keep k n
   have hr_vo:=hr_vo.keep (h.trans n)
   have hE:=hE.trans n
   refine gS (Yk.appendRG _ _ w.heap.size _ 32 Bc pk6_ig54.choose_spec.1 pk6_ig54.choose_spec.2 Bc (o) ([(l.getD (i) ([]:List UInt8))]) (OG.of hr_vo g) (RG.of z (vr ab rfl)) (fun _ _=>Ah _) (by simp only[List.length_cons,List.length_nil];omega) (by simp only[List.length_cons,List.length_nil];omega) hE.size fun aa ad ae p=> ?_)
   have p:Grew ac ad vo aa:= .eqv g p
   have hE:=Ag hE p hr_vo.2 (Nat.le_refl _)
   clear k
   clear z
   clear hr_vo
   refine gS (Yk.bin (xv:=NI i) (yv:=NI 1) c rfl rfl (Ap _ _ _ (by omega)) (gK (And.intro ⟨i+1,o++ [l.getD i []],aa,f,s,rfl,rfl,hE,Bk ae (rfl),by omega,(by first | exact OD hnd hni | exact hnd),(by first | exact KO hlt hmm | exact set_memF hlt hmm hin),(by first | (rw[List.length_append,List.length_singleton];omega) | omega),trivial⟩ ?_)))
   show l.length-(intOf (NI ((i)+(1)))).toNat<l.length-(intOf (r 4)).toNat
   rw[q4]
   simp only[intOf,Int.toNat_natCast];omega
  have hin:l.getD i []∈o:=by simpa using m
  have hE:=hE.trans h
  have hr_vo:=hr_vo.keep h
  refine gS (Yk.bin (xv:=NI i) (yv:=NI 1) c rfl rfl (Ap _ _ _ (by omega)) (gK (And.intro ⟨i+1,o,vo,f,s,rfl,g,hE,Bk hr_vo (rfl),by omega,(by first | exact OD hnd hni | exact hnd),(by first | exact KO hlt hmm | exact set_memF hlt hmm hin),(by first | (rw[List.length_append,List.length_singleton];omega) | omega),trivial⟩ ?_)))
  show l.length-(intOf (NI ((i)+(1)))).toNat<l.length-(intOf (r 4)).toNat
  rw[q4]
  simp only[intOf,Int.toNat_natCast];omega
 have hz_:=hE.size
 refine gS (Yk.callA1 OF g ((Lq _ vo o (RG.ofOwn hr_vo) (by omega)).mono ?_))
 rintro e al ⟨af,rfl,q,ag⟩
 refine⟨_,rfl,?_⟩
 have q:=OG.low q hz_
 refine AX rfl (vr af rfl) ?_
 rw[show i=l.length by omega,List.take_length]at hmm
 have hE:=hE.trans ag
 exact⟨_,_,rfl,q,EY o,(DB o).nodup_iff.2 hnd,fun x=>(DB o).mem_iff.trans (hmm x),hE⟩
open Go.RowKit
set_option maxRecDepth 100000
set_option linter.unusedVariables false
set_option linter.unusedSimpArgs false
theorem GA(w:World)(s:List UInt8)(hs:s.length≤9223372036854775807){u:List UInt8 × Bool}(hu:AQ s=u):
  Calls Tryz.prog 38 #[St s] w fun e w' =>e = .returned (.tuple #[AB u.1, .bool u.2])∧Ext w w' :=by
 subst hu
 exact Kg w s hs
theorem OI{s:List UInt8}{u:List UInt8 × Bool}(h:AQ ((s.drop 2).take (s.length-2))=u):AQ (s.drop 2)=u:=by
 rw[←h,List.take_of_length_le (by rw[List.length_drop];exact Nat.le_refl _)]
theorem RQ{D:An}{s a:List UInt8}(h:s.length=66)(h1:s.take 2= [111,45])(h2:AQ (s.drop 2)=(a,true))(h3:(A8 D a).2=0):BK D s=some a:=
 (RM h h1 (by rw[h2]) (by rw[h2];exact h3)).trans (by rw[h2])
theorem QB{D:An}{s a:List UInt8}{b:Bool}(h2:AQ (s.drop 2)=(a,b))(h3:¬(A8 D a).2=0):BK D s=none:=Ox (by rw[h2];exact h3)
theorem ER{n:Nat}{D:An}(h:FitD n D)(hn:n≤98000:=by assumption):(As D).length≤100000:=by
 have:=h.bd.now
 unfold As
 split
 ·exact Nat.zero_le _
 ·rw[List.length_map]
  omega
theorem QC:Plain Tryz.prog 25:=fun _ _=>by kernel_rfl
theorem AG:GP Tryz.prog 31 rdkC:=⟨⟨_,(FH).choose_spec⟩,fun x=>AN (Ay x) E0⟩
theorem Cw:Plain Tryz.prog 27:=fun _ _=>by kernel_rfl
theorem FL:Plain Tryz.prog 50:=fun _ _=>by kernel_rfl
theorem KP:Plain Tryz.prog 26:=fun _ _=>by kernel_rfl
theorem Hp:Plain Tryz.prog 52:=fun _ _=>by kernel_rfl
theorem Hq:Plain Tryz.prog 51:=fun _ _=>by kernel_rfl
theorem KQ:Plain Tryz.prog 10:=fun _ _=>by kernel_rfl
theorem Hr:Plain Tryz.prog 38:=fun _ _=>by kernel_rfl
theorem Hs:Plain Tryz.prog 20:=fun _ _=>by kernel_rfl
theorem QD:∀(cs:Array Value),cs.size=32→∀w:World,(Instr.buildSlice 43 1 #[(0, .agg cs)]).run Tryz.prog w = .ok (.slice (some ⟨w.heap.size,0,none⟩) 1 1) (w.alloc (.cells cs 54))
 | ⟨[c0,c1,c2,c3,c4,c5,c6,c7,c8,c9,c10,c11,c12,c13,c14,c15,c16,c17,c18,c19,c20,c21,c22,c23,c24,c25,c26,c27,c28,c29,c30,c31]⟩,_,w=>PO c0 c1 c2 c3 c4 c5 c6 c7 c8 c9 c10 c11 c12 c13 c14 c15 c16 c17 c18 c19 c20 c21 c22 c23 c24 c25 c26 c27 c28 c29 c30 c31 w
theorem KR:Plain Tryz.prog 39:=fun _ _=>by kernel_rfl
set_option maxHeartbeats 1600000
theorem B3(w:World)(id:List UInt8)(hid:id.length=32):
  Calls Tryz.prog 27 #[AB id] w fun e w' =>e = .returned (St (Ad id))∧Ext w w' :=by
 refine gG (args:= [AB id]) Tryz.func27 rfl 6 rfl rfl ?_
 have hE:=Ext.refl w
 refine gS (Yk.box (cs:=(Lib.byteCells id:List Value).toArray) (vr (AB id) rfl) fun b c i a f j=> ?_)
 have g:=a;clear a
 have k:b<c.heap.size:=by omega
 refine gS (Yk.loadAll rfl g IU rfl (by exact Ae hid) (gS (Yk.callA1 QC rfl ((FK _ id hid).mono ?_))))
 rintro e n ⟨rfl,h⟩
 refine⟨_,rfl,?_⟩
 refine gS (Yk.catSt (l:=([111,45]:List UInt8)) (m:=hexOf id) rfl rfl (by rw[B4,hid];simp) (AX rfl (vr (St ((([111,45]:List UInt8):List UInt8)++(hexOf id:List UInt8))) rfl) ?_))
 have hE:=hE.trans (f.trans h)
 exact⟨rfl,hE⟩

theorem QE{P:Nat→Prop}(w:World)(D:An)(V:Cn)(hR:RdAt P w D V)(hP:∀b,w.heap.size≤b→P b)(n:Nat)(hF:FitD n D)(hn:n≤98000)(vb:Value)(b:List UInt8)(hb:RB w vb b)(hbl:b.length≤300):
  Calls Tryz.prog 18 #[.agg (rdkC (Ac D,V)).toArray,vb] w fun e w' =>∃V' vo,e = .returned (.tuple #[.agg (rdkC (Ac (A2 D b).1,V')).toArray,AB ((A2 D b).2.1),vo,NI (A2 D b).2.2.2])∧RB w' vo (A2 D b).2.2.1∧RdAt P w' (A2 D b).1 V' ∧Ext w w' :=by
 obtain⟨vs,hvs,hfiles0⟩:=hR.files
 have hfiles:=hfiles0.1
 have hsynced:=hR.synced.1
 have hnow:=hR.now.1
 have hkept:=hR.kept.1
 have hacts:=hR.acts.1
 refine gG (args:= [.agg (rdkC (Ac D,V)).toArray,vb]) Tryz.func18 rfl 93 rfl rfl ?_
 have hE:=Ext.refl w
 refine gS (Yk.box (cs:=(rdkC (Ac D,V):List Value).toArray) (vr (.agg (rdkC (Ac D,V)).toArray) rfl) fun o w3 e4 ce d7 e5=> ?_)
 have f:=ce;clear ce
 have e6:o<w3.heap.size:=by omega
 refine gS (Yk.alloc (cs:=(rdkC ((⟨false,0,[],[],[],[],[],0,0,false⟩,⟨.slice none 0 0, .slice none 0 0, .slice none 0 0, .slice none 0 0, .slice none 0 0⟩):Au)).toArray) Ku fun k d8 d9 cf cg e7=> ?_)
 have hE:=hE.trans d7
 have s:=hE.size
 have e8:=AE (bl f) d9
 have g:=cf;clear cf
 have e9:k<d8.heap.size:=by omega
 refine gS (Yk.alloc (cs:=(Lib.byteCells (List.replicate 32 0)).toArray) IX fun r ea ch ci cj fa=> ?_)
 have hE:=hE.trans cg
 have t:=hE.size
 have f:=eb cg f
 have fb:=AE (bl f) ch
 have fc:=AE (bl g) ch
 have h:=ci;clear ci
 have fd:r<ea.heap.size:=by omega
 have hE:=hE.trans cj
 refine gS (Yk.lenRB S2 (RB.of (hb.keep hE) rfl) (gS (Yk.eqI (a:=(b.length:Nat)) (b:=(262144:Nat)) rfl rfl (Ca _ _ _ _) (kF (by omega) (cF rfl (gS (Yk.callA1 P4 rfl ((Da _ vb b (hb.keep hE) (by omega)).mono ?_))))))))
 rintro e fe ⟨rfl,cb⟩
 refine⟨_,rfl,?_⟩
 refine gS (Yk.alloc (cs:=(Lib.byteCells (List.replicate 32 0)).toArray) IX fun j ec cc ck bp ff=> ?_)
 have hE:=hE.trans cb
 have ed:=hE.size
 have hZ1:=cj.trans cb
 have f:=eb hZ1 f
 have fg:=AE (bl f) cc
 have g:=eb hZ1 g
 have fh:=AE (bl g) cc
 have h:=eb cb h
 have fi:=AE (bl h) cc
 have c:=ck;clear ck
 have fj:j<ec.heap.size:=by omega
 refine gS (Yk.storeAll (vr (PQ j 0) rfl) (vr (AB (Sha.sum b)) rfl) c (by exact Bg (Sha.sum_length _) List.length_replicate) (by exact Ae (Sha.sum_length _)) (Ah _) fun fk cl bq fl=> ?_)
 have hE:=hE.trans bp
 have hE:=Aa hE bq (Nat.le_trans ed (by omega))
 have f:=eb bp f
 have f:=kb bq f (by omega)
 have g:=eb bp g
 have g:=kb bq g (by omega)
 have h:=eb bp h
 have h:=kb bq h (by omega)
 clear c
 have c:=cl;clear cl
 have fm:=bl c
 have hRo:=RdAt.out (j+1) hR hE
 have hbx_n2:w.heap.size≤o:=by omega
 have hbl_n2:o<(j+1):=by omega
 have hbx_n10:w.heap.size≤k:=by omega
 have hbl_n10:k<(j+1):=by omega
 have hbx_n22:w.heap.size≤r:=by omega
 have hbl_n22:r<(j+1):=by omega
 have hbx_n42:w.heap.size≤j:=by omega
 have hbl_n42:j<(j+1):=by omega
 refine BV [0,1,2,3,4,5,6,7,8] [2,3] [] [0] fun cm br=> ?_
 have hRo:RdAt (Bi P w.heap.size (j+1)) cm (D) V:=(hRo.keep br)
 have bs:=Ext.refl cm
 have f:=eb br f
 have c:=eb br c
 refine BM bs ?_
 refine yf (fun _ ⟨hZ,_⟩=>Yk.loadSt AG rfl (eb hZ f) zz) (ys (Yk.loadAll rfl c IU rfl (by exact Ae (Sha.sum_length _)) zz) (yE (Yk.callA1 Cw rfl ((B3 _ (Sha.sum b) (Sha.sum_length _)).mono ?_))))
 rintro e ee ⟨rfl,ab⟩
 refine⟨_,rfl,?_⟩
 have hRo:RdAt (Bi P w.heap.size (j+1)) ee (D) V:=(hRo.keep ab)
 have bs:=bs.trans ab
 refine⟨bs,?_⟩
 refine yD rfl (Yk.callA2 FL rfl rfl ((hRo.read hF (by omega) (Ad (Sha.sum b))).mono ?_))
 rintro e ef ⟨ac,rfl,bt,p⟩
 refine⟨_,rfl,?_⟩
 have f:=eb ab f
 have ak:OB ac o:=Ao bt (bl f)
 have hZ2:=br.trans ab
 have g:=eb hZ2 g
 have u:OB ac k:=Ao bt (bl g)
 have h:=eb hZ2 h
 have y:OB ac r:=Ao bt (bl h)
 have hRo:RdAt (Bi P w.heap.size (j+1)) ef (D) V:=(hRo.keep p)
 have i:=RB.ofOwn bt
 refine ys (Yk.extract (vs:= [ac,NI ((Az D (Ad (Sha.sum b))).2)]) rfl rfl zz) (ys (Yk.extract (vs:= [ac,NI ((Az D (Ad (Sha.sum b))).2)]) rfl rfl zz) ?_)
 have hrl:=FE hF.lt (Ad (Sha.sum b))
 by_cases h4:(Az D (Ad (Sha.sum b))).2=4
 ·have hV:A2 D b=Cm (AS D (Ad (Sha.sum b)) [.add b, .sync]) (Sha.sum b):=by unfold A2;rw[if_pos h4]
  refine gS (Yk.eqI (a:=((Az D (Ad (Sha.sum b))).2:Nat)) (b:=(0:Nat)) rfl rfl (AZ _ _ _ _) (kT (by rw[h4];decide) (gS (Yk.eqI (a:=((Az D (Ad (Sha.sum b))).2:Nat)) (b:=(4:Nat)) rfl rfl (AZ _ _ _ _) (kF (fun q=>q h4) (gS (Yk.pickT rfl rfl (cF rfl (gS (Yk.eqI (a:=((Az D (Ad (Sha.sum b))).2:Nat)) (b:=(0:Nat)) rfl rfl (AY _ _ _ _) (kF (by rw[h4];decide) (gS (Yk.pickF rfl rfl (cF rfl (gS (Yk.notB rfl (cT rfl (BV [0,1,3,2,4,5,6,7,8,9] [2,4,8] [7] [0] fun cn bg=> ?_))))))))))))))))))
  have hRo:RdAt (Bi P w.heap.size (j+1)) cn (D) V:=(hRo.keep bg)
  have bu:=Ext.refl cn
  have c:=eb ((ab.trans p).trans bg) c
  have hZ3:=p.trans bg
  have f:=eb hZ3 f
  refine BM bu ?_
  refine yf (fun _ ⟨hZ,_⟩=>Yk.loadSt AG rfl (eb hZ f) zz) (ys (Yk.loadAll rfl c IU rfl (by exact Ae (Sha.sum_length _)) zz) (yE (Yk.callA1 Cw rfl ((B3 _ (Sha.sum b) (Sha.sum_length _)).mono ?_))))
  rintro e eg ⟨rfl,ae⟩
  refine⟨_,rfl,?_⟩
  have hRo:RdAt (Bi P w.heap.size (j+1)) eg (D) V:=(hRo.keep ae)
  have hE:=hE.trans (((hZ2.trans p).trans bg).trans ae)
  have c:=eb ae c
  have bu:=bu.trans ae
  refine⟨bu,?_⟩
  refine yD rfl (Yk.callA3 KP rfl rfl rfl ((hRo.append (fun b_ hb_=>⟨hP b_ (Nat.le_trans (hE).size hb_), .inr (Nat.le_trans (bl c) hb_)⟩) hF (by omega) (Ad (Sha.sum b)) vb b (hb.keep hE) hbl).mono ?_))
  rintro e fn ⟨V95,rfl,hR96,bh⟩
  refine⟨_,rfl,?_⟩
  have hF98:=hF.append (Ad (Sha.sum b)) hbl
  refine ys (Yk.extract (vs:= [.agg (rdkC (Ac (Af D (Ad (Sha.sum b)) b).1,V95)).toArray,NI ((Af D (Ad (Sha.sum b)) b).2)]) rfl rfl zz) (yp (Yk.extract (vs:= [.agg (rdkC (Ac (Af D (Ad (Sha.sum b)) b).1,V95)).toArray,NI ((Af D (Ad (Sha.sum b)) b).2)]) rfl rfl zz) ?_)
  have hq100:=(hR96).files.choose_spec.2.1
  have hq101:=(hR96).synced.1
  have hq102:=(hR96).now.1
  have hq103:=(hR96).kept.1
  have hq104:=(hR96).acts.1
  have f:=eb (ae.trans bh) f
  refine yD rfl (Yk.storeSt AG (vr (PQ o 0) rfl) (vr (.agg (rdkC (Ac (Af D (Ad (Sha.sum b)) b).1,V95)).toArray) rfl) f (AA (x:=(Ac (Af D (Ad (Sha.sum b)) b).1,V95)) (RG.one hq100).2 (RG.one hq101).2 (RG.one hq102).2 (RG.one hq103).2 (RG.one hq104).2) fun co cp al fo=> ?_)
  have hE:=hE.trans bh
  have hE:=Aa hE al (Nat.le_trans (Nat.le_refl _) (by omega))
  have hZ4:=(hZ3.trans ae).trans bh
  have g:=eb hZ4 g
  have g:=kb al g (by omega)
  have h:=eb hZ4 h
  have h:=kb al h (by omega)
  have c:=eb bh c
  have c:=kb al c (by omega)
  have i:=i.keep ((bg.trans ae).trans bh)
  have i:=RB.kept i al (.inr ak)
  have hR96:RdAt (Bi P w.heap.size (j+1)) co ((Af D (Ad (Sha.sum b)) b).1) V95:=RdAt.setO hR96 al hbx_n2 hbl_n2
  clear hq100
  clear hq101
  clear hq102
  clear hq103
  clear hq104
  clear f
  have f:co.heap[o]? =some (.cells (rdkC (Ac (Af D (Ad (Sha.sum b)) b).1,V95)).toArray 31 (0,0)):=cp;clear cp
  have fp:=bl f
  refine gS (Yk.eqI (a:=((Af D (Ad (Sha.sum b)) b).2:Nat)) (b:=(0:Nat)) rfl rfl (AZ _ _ _ _) ?_)
  refine cD rfl (fun aa=> ?_) fun aa=> ?_
  ·refine gS (Yk.loadSt AG rfl f (gS (Yk.run (v:=AB (List.replicate 32 0)) (by kernel_rfl) ?_)))
   have hq112:=(hR96).files.choose_spec.2.1
   have hq113:=(hR96).synced.1
   have hq114:=(hR96).now.1
   have hq115:=(hR96).kept.1
   have hq116:=(hR96).acts.1
   refine gS (Yk.storeSt AG (vr (PQ k 0) rfl) (vr (.agg (rdkC (Ac (Af D (Ad (Sha.sum b)) b).1,V95)).toArray) rfl) g (AA (x:=(Ac (Af D (Ad (Sha.sum b)) b).1,V95)) (RG.one hq112).2 (RG.one hq113).2 (RG.one hq114).2 (RG.one hq115).2 (RG.one hq116).2) fun cq cr am fq=> ?_)
   have hE:=Aa hE am (Nat.le_trans s (by omega))
   have h:=kb am h (by omega)
   have c:=kb am c (by omega)
   have i:=RB.kept i am (.inr u)
   have hR96:RdAt (Bi P w.heap.size (j+1)) cq ((Af D (Ad (Sha.sum b)) b).1) V95:=RdAt.setO hR96 am hbx_n10 hbl_n10
   have f:=kb am f (by omega)
   clear hq112
   clear hq113
   clear hq114
   clear hq115
   clear hq116
   clear g
   have g:cq.heap[k]? =some (.cells (rdkC (Ac (Af D (Ad (Sha.sum b)) b).1,V95)).toArray 31 (0,0)):=cr;clear cr
   have fr:=bl g
   refine gS (Yk.storeAll (vr (PQ r 0) rfl) (vr (AB (List.replicate 32 0)) rfl) h (by exact Bg List.length_replicate List.length_replicate) (by exact Ae List.length_replicate) (Ah _) fun eh ct an fs=> ?_)
   have hE:=Aa hE an (Nat.le_trans t (by omega))
   have c:=kb an c (by omega)
   have i:=RB.kept i an (.inr y)
   have hR96:RdAt (Bi P w.heap.size (j+1)) eh ((Af D (Ad (Sha.sum b)) b).1) V95:=RdAt.setO hR96 an hbx_n22 hbl_n22
   have f:=kb an f (by omega)
   have g:=kb an g (by omega)
   clear h
   have h:=ct;clear ct
   have ft:=bl h
   refine FN (v:= .tuple #[.agg (rdkC (Ac (Af D (Ad (Sha.sum b)) b).1,V95)).toArray,AB (List.replicate 32 0),(Value.slice none 0 0),NI ((Af D (Ad (Sha.sum b)) b).2)]) (vs:= [.agg (rdkC (Ac (Af D (Ad (Sha.sum b)) b).1,V95)).toArray,AB (List.replicate 32 0),(Value.slice none 0 0),NI ((Af D (Ad (Sha.sum b)) b).2)]) rfl rfl ⟨ResF.row rfl g (FH).choose_spec rfl (AN (Ay _) E0),ResF.row rfl h IU rfl (by exact Ae List.length_replicate),rfl,rfl,trivial⟩ ?_
   have hV:=hV.trans (Ek (a:= .add b) aa)
   rw[hV]
   exact⟨_,_,rfl,RB.nil _,(hR96).inO,hE⟩
  refine BV [0,1,2,3,4,5,6,7,8] [2,3,7] [6] [0] fun cu bv=> ?_
  have hR96:RdAt (Bi P w.heap.size (j+1)) cu ((Af D (Ad (Sha.sum b)) b).1) V95:=(hR96.keep bv)
  have bw:=Ext.refl cu
  have c:=eb bv c
  have f:=eb bv f
  refine BM bw ?_
  refine yf (fun _ ⟨hZ,_⟩=>Yk.loadSt AG rfl (eb hZ f) zz) (ys (Yk.loadAll rfl c IU rfl (by exact Ae (Sha.sum_length _)) zz) (yE (Yk.callA1 Cw rfl ((B3 _ (Sha.sum b) (Sha.sum_length _)).mono ?_))))
  rintro e ei ⟨rfl,bi⟩
  refine⟨_,rfl,?_⟩
  have hR96:RdAt (Bi P w.heap.size (j+1)) ei ((Af D (Ad (Sha.sum b)) b).1) V95:=(hR96.keep bi)
  have hZ5:=bv.trans bi
  have hE:=hE.trans hZ5
  have c:=eb bi c
  have bw:=bw.trans bi
  refine⟨bw,?_⟩
  refine yD rfl (Yk.callA2 Hp rfl rfl ((hR96.sync (fun b_ hb_=>⟨hP b_ (Nat.le_trans (hE).size hb_), .inr (Nat.le_trans (bl c) hb_)⟩) hF98 (by omega) (Ad (Sha.sum b))).mono ?_))
  rintro e fu ⟨V134,rfl,hR135,bx⟩
  refine⟨_,rfl,?_⟩
  have hF137:=hF98.sync (Ad (Sha.sum b))
  refine ys (Yk.extract (vs:= [.agg (rdkC (Ac (Aw ((Af D (Ad (Sha.sum b)) b).1) (Ad (Sha.sum b))).1,V134)).toArray,NI ((Aw ((Af D (Ad (Sha.sum b)) b).1) (Ad (Sha.sum b))).2)]) rfl rfl zz) (yp (Yk.extract (vs:= [.agg (rdkC (Ac (Aw ((Af D (Ad (Sha.sum b)) b).1) (Ad (Sha.sum b))).1,V134)).toArray,NI ((Aw ((Af D (Ad (Sha.sum b)) b).1) (Ad (Sha.sum b))).2)]) rfl rfl zz) ?_)
  have hq139:=(hR135).files.choose_spec.2.1
  have hq140:=(hR135).synced.1
  have hq141:=(hR135).now.1
  have hq142:=(hR135).kept.1
  have hq143:=(hR135).acts.1
  have f:=eb (bi.trans bx) f
  refine yD rfl (Yk.storeSt AG (vr (PQ o 0) rfl) (vr (.agg (rdkC (Ac (Aw ((Af D (Ad (Sha.sum b)) b).1) (Ad (Sha.sum b))).1,V134)).toArray) rfl) f (AA (x:=(Ac (Aw ((Af D (Ad (Sha.sum b)) b).1) (Ad (Sha.sum b))).1,V134)) (RG.one hq139).2 (RG.one hq140).2 (RG.one hq141).2 (RG.one hq142).2 (RG.one hq143).2) fun cv cw ao fv=> ?_)
  have hE:=hE.trans bx
  have hE:=Aa hE ao (Nat.le_trans (Nat.le_refl _) (by omega))
  have hZ6:=hZ5.trans bx
  have g:=eb hZ6 g
  have g:=kb ao g (by omega)
  have h:=eb hZ6 h
  have h:=kb ao h (by omega)
  have c:=eb bx c
  have c:=kb ao c (by omega)
  have i:=i.keep hZ6
  have i:=RB.kept i ao (.inr ak)
  have hR135:RdAt (Bi P w.heap.size (j+1)) cv ((Aw ((Af D (Ad (Sha.sum b)) b).1) (Ad (Sha.sum b))).1) V134:=RdAt.setO hR135 ao hbx_n2 hbl_n2
  clear hq139
  clear hq140
  clear hq141
  clear hq142
  clear hq143
  clear f
  have f:cv.heap[o]? =some (.cells (rdkC (Ac (Aw ((Af D (Ad (Sha.sum b)) b).1) (Ad (Sha.sum b))).1,V134)).toArray 31 (0,0)):=cw;clear cw
  have fw:=bl f
  refine gS (Yk.eqI (a:=((Aw ((Af D (Ad (Sha.sum b)) b).1) (Ad (Sha.sum b))).2:Nat)) (b:=(0:Nat)) rfl rfl (AZ _ _ _ _) ?_)
  refine cD rfl (fun z=> ?_) fun z=> ?_
  ·refine gS (Yk.loadSt AG rfl f (gS (Yk.run (v:=AB (List.replicate 32 0)) (by kernel_rfl) ?_)))
   have hq152:=(hR135).files.choose_spec.2.1
   have hq153:=(hR135).synced.1
   have hq154:=(hR135).now.1
   have hq155:=(hR135).kept.1
   have hq156:=(hR135).acts.1
   refine gS (Yk.storeSt AG (vr (PQ k 0) rfl) (vr (.agg (rdkC (Ac (Aw ((Af D (Ad (Sha.sum b)) b).1) (Ad (Sha.sum b))).1,V134)).toArray) rfl) g (AA (x:=(Ac (Aw ((Af D (Ad (Sha.sum b)) b).1) (Ad (Sha.sum b))).1,V134)) (RG.one hq152).2 (RG.one hq153).2 (RG.one hq154).2 (RG.one hq155).2 (RG.one hq156).2) fun cx cy ap fx=> ?_)
   have hE:=Aa hE ap (Nat.le_trans s (by omega))
   have h:=kb ap h (by omega)
   have c:=kb ap c (by omega)
   have i:=RB.kept i ap (.inr u)
   have hR135:RdAt (Bi P w.heap.size (j+1)) cx ((Aw ((Af D (Ad (Sha.sum b)) b).1) (Ad (Sha.sum b))).1) V134:=RdAt.setO hR135 ap hbx_n10 hbl_n10
   have f:=kb ap f (by omega)
   clear hq152
   clear hq153
   clear hq154
   clear hq155
   clear hq156
   clear g
   have g:cx.heap[k]? =some (.cells (rdkC (Ac (Aw ((Af D (Ad (Sha.sum b)) b).1) (Ad (Sha.sum b))).1,V134)).toArray 31 (0,0)):=cy;clear cy
   have fy:=bl g
   refine gS (Yk.storeAll (vr (PQ r 0) rfl) (vr (AB (List.replicate 32 0)) rfl) h (by exact Bg List.length_replicate List.length_replicate) (by exact Ae List.length_replicate) (Ah _) fun ej cz aq fz=> ?_)
   have hE:=Aa hE aq (Nat.le_trans t (by omega))
   have c:=kb aq c (by omega)
   have i:=RB.kept i aq (.inr y)
   have hR135:RdAt (Bi P w.heap.size (j+1)) ej ((Aw ((Af D (Ad (Sha.sum b)) b).1) (Ad (Sha.sum b))).1) V134:=RdAt.setO hR135 aq hbx_n22 hbl_n22
   have f:=kb aq f (by omega)
   have g:=kb aq g (by omega)
   clear h
   have h:=cz;clear cz
   have f0:=bl h
   refine FN (v:= .tuple #[.agg (rdkC (Ac (Aw ((Af D (Ad (Sha.sum b)) b).1) (Ad (Sha.sum b))).1,V134)).toArray,AB (List.replicate 32 0),(Value.slice none 0 0),NI ((Aw ((Af D (Ad (Sha.sum b)) b).1) (Ad (Sha.sum b))).2)]) (vs:= [.agg (rdkC (Ac (Aw ((Af D (Ad (Sha.sum b)) b).1) (Ad (Sha.sum b))).1,V134)).toArray,AB (List.replicate 32 0),(Value.slice none 0 0),NI ((Aw ((Af D (Ad (Sha.sum b)) b).1) (Ad (Sha.sum b))).2)]) rfl rfl ⟨ResF.row rfl g (FH).choose_spec rfl (AN (Ay _) E0),ResF.row rfl h IU rfl (by exact Ae List.length_replicate),rfl,rfl,trivial⟩ ?_
   have hV:=hV.trans (((DL (a:= .add b) aa)).trans (Ek (a:= .sync) z))
   rw[hV]
   exact⟨_,_,rfl,RB.nil _,(hR135).inO,hE⟩
  refine BV [0,1,2,3,4,5] [2,3] [] [1] fun el af=> ?_
  have hR135:RdAt (Bi P w.heap.size (j+1)) el ((Aw ((Af D (Ad (Sha.sum b)) b).1) (Ad (Sha.sum b))).1) V134:=(hR135.keep af)
  have c:=eb af c
  have f:=eb af f
  refine HE c ?_
  refine ys (Yk.loadSt AG rfl f zz) (yf (fun _ ⟨c,_⟩=>Yk.loadAll rfl c IU rfl (by exact Ae (Sha.sum_length _)) zz) ?_)
  have hq170:=(hR135).files.choose_spec.2.1
  have hq171:=(hR135).synced.1
  have hq172:=(hR135).now.1
  have hq173:=(hR135).kept.1
  have hq174:=(hR135).acts.1
  have g:=eb af g
  refine yI (Yk.storeSt AG (vr (PQ k 0) rfl) (vr (.agg (rdkC (Ac (Aw ((Af D (Ad (Sha.sum b)) b).1) (Ad (Sha.sum b))).1,V134)).toArray) rfl) g (AA (x:=(Ac (Aw ((Af D (Ad (Sha.sum b)) b).1) (Ad (Sha.sum b))).1,V134)) (RG.one hq170).2 (RG.one hq171).2 (RG.one hq172).2 (RG.one hq173).2 (RG.one hq174).2) fun c0 c1 ar f1=> ?_)
  have hE:=hE.trans af
  have hE:=Aa hE ar (Nat.le_trans s (by omega))
  have h:=eb af h
  have h:=kb ar h (by omega)
  have c:=kb ar c (by omega)
  have i:=i.keep af
  have i:=RB.kept i ar (.inr u)
  have hR135:RdAt (Bi P w.heap.size (j+1)) c0 ((Aw ((Af D (Ad (Sha.sum b)) b).1) (Ad (Sha.sum b))).1) V134:=RdAt.setO hR135 ar hbx_n10 hbl_n10
  have f:=kb ar f (by omega)
  clear hq170
  clear hq171
  clear hq172
  clear hq173
  clear hq174
  clear g
  have g:c0.heap[k]? =some (.cells (rdkC (Ac (Aw ((Af D (Ad (Sha.sum b)) b).1) (Ad (Sha.sum b))).1,V134)).toArray 31 (0,0)):=c1;clear c1
  have f2:=bl g
  refine⟨⟨c,trivial⟩,?_⟩
  refine yD rfl (Yk.storeAll (vr (PQ r 0) rfl) (vr (AB (Sha.sum b)) rfl) h (by exact Bg (Sha.sum_length _) List.length_replicate) (by exact Ae (Sha.sum_length _)) (Ah _) fun em c2 au f3=> ?_)
  have hE:=Aa hE au (Nat.le_trans t (by omega))
  have c:=kb au c (by omega)
  have i:=RB.kept i au (.inr y)
  have hR135:RdAt (Bi P w.heap.size (j+1)) em ((Aw ((Af D (Ad (Sha.sum b)) b).1) (Ad (Sha.sum b))).1) V134:=RdAt.setO hR135 au hbx_n22 hbl_n22
  have f:=kb au f (by omega)
  have g:=kb au g (by omega)
  clear h
  have h:=c2;clear c2
  have f4:=bl h
  refine FN (v:= .tuple #[.agg (rdkC (Ac (Aw ((Af D (Ad (Sha.sum b)) b).1) (Ad (Sha.sum b))).1,V134)).toArray,AB (Sha.sum b),(Value.slice none 0 0),NI 0]) (vs:= [.agg (rdkC (Ac (Aw ((Af D (Ad (Sha.sum b)) b).1) (Ad (Sha.sum b))).1,V134)).toArray,AB (Sha.sum b),(Value.slice none 0 0),NI 0]) rfl rfl ⟨ResF.row rfl g (FH).choose_spec rfl (AN (Ay _) E0),ResF.row rfl h IU rfl (by exact Ae (Sha.sum_length _)),rfl,rfl,trivial⟩ ?_
  have hV:=hV.trans ((((DL (a:= .add b) aa)).trans (DL (a:= .sync) z)).trans IE)
  rw[hV]
  exact⟨_,_,rfl,RB.nil _,(hR135).inO,hE⟩
 by_cases h0:(Az D (Ad (Sha.sum b))).2=0
 ·by_cases hsm:(Az D (Ad (Sha.sum b))).1=b
  ·have hV:A2 D b=Cm (AS D (Ad (Sha.sum b)) [.sync]) (Sha.sum b):=by unfold A2;rw[if_neg h4,if_neg (fun q=>q h0),if_pos hsm]
   have hE:=hE.trans (hZ2.trans p)
   refine gS (Yk.eqI (a:=((Az D (Ad (Sha.sum b))).2:Nat)) (b:=(0:Nat)) rfl rfl (AZ _ _ _ _) (kF (fun q=>q h0) (gS (Yk.pickF rfl rfl (cF rfl (gS (Yk.eqI (a:=((Az D (Ad (Sha.sum b))).2:Nat)) (b:=(0:Nat)) rfl rfl (AY _ _ _ _) (kT (h0) (gS (Yk.convRB S2 Ds Io (RB.of i rfl) (gS (Yk.convRB S2 Ds Io (RB.of (hb.keep hE) rfl) (gS (Yk.eqSt (l:=(Az D (Ad (Sha.sum b))).1) (m:=b) (.inr rfl) rfl rfl (decide ((Az D (Ad (Sha.sum b))).1≠b)) rfl (kF (fun q=>q hsm) (gS (Yk.pickT rfl rfl (cF rfl (gS (Yk.notB rfl (cF rfl (BV [0,1,2,3,4,5,6,7,8] [2,3,7] [6] [0] fun c3 bz=> ?_))))))))))))))))))))))
   have hRo:RdAt (Bi P w.heap.size (j+1)) c3 (D) V:=(hRo.keep bz)
   have b0:=Ext.refl c3
   have c:=eb ((ab.trans p).trans bz) c
   have hZ7:=p.trans bz
   have f:=eb hZ7 f
   refine BM b0 ?_
   refine yf (fun _ ⟨hZ,_⟩=>Yk.loadSt AG rfl (eb hZ f) zz) (ys (Yk.loadAll rfl c IU rfl (by exact Ae (Sha.sum_length _)) zz) (yE (Yk.callA1 Cw rfl ((B3 _ (Sha.sum b) (Sha.sum_length _)).mono ?_))))
   rintro e en ⟨rfl,av⟩
   refine⟨_,rfl,?_⟩
   have hRo:RdAt (Bi P w.heap.size (j+1)) en (D) V:=(hRo.keep av)
   have hZ8:=bz.trans av
   have hE:=hE.trans hZ8
   have c:=eb av c
   have b0:=b0.trans av
   refine⟨b0,?_⟩
   refine yD rfl (Yk.callA2 Hp rfl rfl ((hRo.sync (fun b_ hb_=>⟨hP b_ (Nat.le_trans (hE).size hb_), .inr (Nat.le_trans (bl c) hb_)⟩) hF (by omega) (Ad (Sha.sum b))).mono ?_))
   rintro e f5 ⟨V199,rfl,hR200,bj⟩
   refine⟨_,rfl,?_⟩
   have hF202:=hF.sync (Ad (Sha.sum b))
   refine ys (Yk.extract (vs:= [.agg (rdkC (Ac (Aw D (Ad (Sha.sum b))).1,V199)).toArray,NI ((Aw D (Ad (Sha.sum b))).2)]) rfl rfl zz) (yp (Yk.extract (vs:= [.agg (rdkC (Ac (Aw D (Ad (Sha.sum b))).1,V199)).toArray,NI ((Aw D (Ad (Sha.sum b))).2)]) rfl rfl zz) ?_)
   have hq204:=(hR200).files.choose_spec.2.1
   have hq205:=(hR200).synced.1
   have hq206:=(hR200).now.1
   have hq207:=(hR200).kept.1
   have hq208:=(hR200).acts.1
   have f:=eb (av.trans bj) f
   refine yD rfl (Yk.storeSt AG (vr (PQ o 0) rfl) (vr (.agg (rdkC (Ac (Aw D (Ad (Sha.sum b))).1,V199)).toArray) rfl) f (AA (x:=(Ac (Aw D (Ad (Sha.sum b))).1,V199)) (RG.one hq204).2 (RG.one hq205).2 (RG.one hq206).2 (RG.one hq207).2 (RG.one hq208).2) fun c4 c5 aw f6=> ?_)
   have hE:=hE.trans bj
   have hE:=Aa hE aw (Nat.le_trans (Nat.le_refl _) (by omega))
   have hZ9:=(hZ7.trans av).trans bj
   have g:=eb hZ9 g
   have g:=kb aw g (by omega)
   have h:=eb hZ9 h
   have h:=kb aw h (by omega)
   have c:=eb bj c
   have c:=kb aw c (by omega)
   have i:=i.keep (hZ8.trans bj)
   have i:=RB.kept i aw (.inr ak)
   have hR200:RdAt (Bi P w.heap.size (j+1)) c4 ((Aw D (Ad (Sha.sum b))).1) V199:=RdAt.setO hR200 aw hbx_n2 hbl_n2
   clear hq204
   clear hq205
   clear hq206
   clear hq207
   clear hq208
   clear f
   have f:c4.heap[o]? =some (.cells (rdkC (Ac (Aw D (Ad (Sha.sum b))).1,V199)).toArray 31 (0,0)):=c5;clear c5
   have f7:=bl f
   refine gS (Yk.eqI (a:=((Aw D (Ad (Sha.sum b))).2:Nat)) (b:=(0:Nat)) rfl rfl (AZ _ _ _ _) ?_)
   refine cD rfl (fun z=> ?_) fun z=> ?_
   ·refine gS (Yk.loadSt AG rfl f (gS (Yk.run (v:=AB (List.replicate 32 0)) (by kernel_rfl) ?_)))
    have hq217:=(hR200).files.choose_spec.2.1
    have hq218:=(hR200).synced.1
    have hq219:=(hR200).now.1
    have hq220:=(hR200).kept.1
    have hq221:=(hR200).acts.1
    refine gS (Yk.storeSt AG (vr (PQ k 0) rfl) (vr (.agg (rdkC (Ac (Aw D (Ad (Sha.sum b))).1,V199)).toArray) rfl) g (AA (x:=(Ac (Aw D (Ad (Sha.sum b))).1,V199)) (RG.one hq217).2 (RG.one hq218).2 (RG.one hq219).2 (RG.one hq220).2 (RG.one hq221).2) fun c6 c7 ax f8=> ?_)
    have hE:=Aa hE ax (Nat.le_trans s (by omega))
    have h:=kb ax h (by omega)
    have c:=kb ax c (by omega)
    have i:=RB.kept i ax (.inr u)
    have hR200:RdAt (Bi P w.heap.size (j+1)) c6 ((Aw D (Ad (Sha.sum b))).1) V199:=RdAt.setO hR200 ax hbx_n10 hbl_n10
    have f:=kb ax f (by omega)
    clear hq217
    clear hq218
    clear hq219
    clear hq220
    clear hq221
    clear g
    have g:c6.heap[k]? =some (.cells (rdkC (Ac (Aw D (Ad (Sha.sum b))).1,V199)).toArray 31 (0,0)):=c7;clear c7
    have f9:=bl g
    refine gS (Yk.storeAll (vr (PQ r 0) rfl) (vr (AB (List.replicate 32 0)) rfl) h (by exact Bg List.length_replicate List.length_replicate) (by exact Ae List.length_replicate) (Ah _) fun eo c8 ay ga=> ?_)
    have hE:=Aa hE ay (Nat.le_trans t (by omega))
    have c:=kb ay c (by omega)
    have i:=RB.kept i ay (.inr y)
    have hR200:RdAt (Bi P w.heap.size (j+1)) eo ((Aw D (Ad (Sha.sum b))).1) V199:=RdAt.setO hR200 ay hbx_n22 hbl_n22
    have f:=kb ay f (by omega)
    have g:=kb ay g (by omega)
    clear h
    have h:=c8;clear c8
    have gb:=bl h
    refine FN (v:= .tuple #[.agg (rdkC (Ac (Aw D (Ad (Sha.sum b))).1,V199)).toArray,AB (List.replicate 32 0),(Value.slice none 0 0),NI ((Aw D (Ad (Sha.sum b))).2)]) (vs:= [.agg (rdkC (Ac (Aw D (Ad (Sha.sum b))).1,V199)).toArray,AB (List.replicate 32 0),(Value.slice none 0 0),NI ((Aw D (Ad (Sha.sum b))).2)]) rfl rfl ⟨ResF.row rfl g (FH).choose_spec rfl (AN (Ay _) E0),ResF.row rfl h IU rfl (by exact Ae List.length_replicate),rfl,rfl,trivial⟩ ?_
    have hV:=hV.trans (Ek (a:= .sync) z)
    rw[hV]
    exact⟨_,_,rfl,RB.nil _,(hR200).inO,hE⟩
   refine BV [0,1,2,3,4,5] [2,3] [] [1] fun ep ag=> ?_
   have hR200:RdAt (Bi P w.heap.size (j+1)) ep ((Aw D (Ad (Sha.sum b))).1) V199:=(hR200.keep ag)
   have c:=eb ag c
   have f:=eb ag f
   refine HE c ?_
   refine ys (Yk.loadSt AG rfl f zz) (yf (fun _ ⟨c,_⟩=>Yk.loadAll rfl c IU rfl (by exact Ae (Sha.sum_length _)) zz) ?_)
   have hq235:=(hR200).files.choose_spec.2.1
   have hq236:=(hR200).synced.1
   have hq237:=(hR200).now.1
   have hq238:=(hR200).kept.1
   have hq239:=(hR200).acts.1
   have g:=eb ag g
   refine yI (Yk.storeSt AG (vr (PQ k 0) rfl) (vr (.agg (rdkC (Ac (Aw D (Ad (Sha.sum b))).1,V199)).toArray) rfl) g (AA (x:=(Ac (Aw D (Ad (Sha.sum b))).1,V199)) (RG.one hq235).2 (RG.one hq236).2 (RG.one hq237).2 (RG.one hq238).2 (RG.one hq239).2) fun c9 da az gc=> ?_)
   have hE:=hE.trans ag
   have hE:=Aa hE az (Nat.le_trans s (by omega))
   have h:=eb ag h
   have h:=kb az h (by omega)
   have c:=kb az c (by omega)
   have i:=i.keep ag
   have i:=RB.kept i az (.inr u)
   have hR200:RdAt (Bi P w.heap.size (j+1)) c9 ((Aw D (Ad (Sha.sum b))).1) V199:=RdAt.setO hR200 az hbx_n10 hbl_n10
   have f:=kb az f (by omega)
   clear hq235
   clear hq236
   clear hq237
   clear hq238
   clear hq239
   clear g
   have g:c9.heap[k]? =some (.cells (rdkC (Ac (Aw D (Ad (Sha.sum b))).1,V199)).toArray 31 (0,0)):=da;clear da
   have gd:=bl g
   refine⟨⟨c,trivial⟩,?_⟩
   refine yD rfl (Yk.storeAll (vr (PQ r 0) rfl) (vr (AB (Sha.sum b)) rfl) h (by exact Bg (Sha.sum_length _) List.length_replicate) (by exact Ae (Sha.sum_length _)) (Ah _) fun eq db a0 ge=> ?_)
   have hE:=Aa hE a0 (Nat.le_trans t (by omega))
   have c:=kb a0 c (by omega)
   have i:=RB.kept i a0 (.inr y)
   have hR200:RdAt (Bi P w.heap.size (j+1)) eq ((Aw D (Ad (Sha.sum b))).1) V199:=RdAt.setO hR200 a0 hbx_n22 hbl_n22
   have f:=kb a0 f (by omega)
   have g:=kb a0 g (by omega)
   clear h
   have h:=db;clear db
   have gf:=bl h
   refine FN (v:= .tuple #[.agg (rdkC (Ac (Aw D (Ad (Sha.sum b))).1,V199)).toArray,AB (Sha.sum b),(Value.slice none 0 0),NI 0]) (vs:= [.agg (rdkC (Ac (Aw D (Ad (Sha.sum b))).1,V199)).toArray,AB (Sha.sum b),(Value.slice none 0 0),NI 0]) rfl rfl ⟨ResF.row rfl g (FH).choose_spec rfl (AN (Ay _) E0),ResF.row rfl h IU rfl (by exact Ae (Sha.sum_length _)),rfl,rfl,trivial⟩ ?_
   have hV:=hV.trans (((DL (a:= .sync) z)).trans IE)
   rw[hV]
   exact⟨_,_,rfl,RB.nil _,(hR200).inO,hE⟩
  have hE:=hE.trans (hZ2.trans p)
  refine gS (Yk.eqI (a:=((Az D (Ad (Sha.sum b))).2:Nat)) (b:=(0:Nat)) rfl rfl (AZ _ _ _ _) (kF (fun q=>q h0) (gS (Yk.pickF rfl rfl (cF rfl (gS (Yk.eqI (a:=((Az D (Ad (Sha.sum b))).2:Nat)) (b:=(0:Nat)) rfl rfl (AY _ _ _ _) (kT (h0) (gS (Yk.convRB S2 Ds Io (RB.of i rfl) (gS (Yk.convRB S2 Ds Io (RB.of (hb.keep hE) rfl) (gS (Yk.eqSt (l:=(Az D (Ad (Sha.sum b))).1) (m:=b) (.inr rfl) rfl rfl (decide ((Az D (Ad (Sha.sum b))).1≠b)) rfl (kT (hsm) (gS (Yk.pickT rfl rfl (cT rfl (BV [0,2,1,3] [1] [] [2] fun dc ah=> ?_)))))))))))))))))))
  have hRo:RdAt (Bi P w.heap.size (j+1)) dc (D) V:=(hRo.keep ah)
  have b1:=Ext.refl dc
  have c:=eb ((ab.trans p).trans ah) c
  have i:=i.keep ah
  refine BM b1 ?_
  refine yf (fun _ ⟨hZ,_⟩=>Yk.loadAll rfl (eb hZ c) IU rfl (by exact Ae (Sha.sum_length _)) zz) (yE (Yk.callA1 P4 rfl ((Da _ ac ((Az D (Ad (Sha.sum b))).1) i (by omega)).mono ?_)))
  rintro e er ⟨rfl,ad⟩
  refine⟨_,rfl,?_⟩
  have hRo:RdAt (Bi P w.heap.size (j+1)) er (D) V:=(hRo.keep ad)
  have b1:=b1.trans ad
  refine⟨b1,?_⟩
  refine ys (Yk.eqArr (l1:=(Sha.sum ((Az D (Ad (Sha.sum b))).1))) (l2:=(Sha.sum b)) IU Ds Fy PJ rfl rfl ((Sha.sum_length _)) ((Sha.sum_length _)) zz) ?_
  refine cD rfl (fun cd=> ?_) fun cd=> ?_
  ·have hV:A2 D b=(D,(Sha.sum b),(Az D (Ad (Sha.sum b))).1,7):=by unfold A2;rw[if_neg h4,if_neg (fun q=>q h0),if_neg hsm,if_pos cd]
   refine BV [0,1,2,3,4,5,6] [3,4] [] [1] fun es b2=> ?_
   have hRo:RdAt (Bi P w.heap.size (j+1)) es (D) V:=(hRo.keep b2)
   have hZ10:=((p.trans ah).trans ad).trans b2
   have f:=eb hZ10 f
   have g:=eb hZ10 g
   have hE:=hE.trans ((ah.trans ad).trans b2)
   have hZ11:=ad.trans b2
   have c:=eb hZ11 c
   refine HE c ?_
   refine ys (Yk.loadSt AG rfl f zz) (yf (fun _ ⟨c,_⟩=>Yk.loadAll rfl c IU rfl (by exact Ae (Sha.sum_length _)) zz) (yI (Yk.storeSt AG (vr (PQ k 0) rfl) (vr (.agg (rdkC (Ac D,V)).toArray) rfl) g (AA (x:=(Ac D,V)) (RG.one (hfiles.keep hE)).2 (RG.one (hsynced.keep hE)).2 (RG.one (hnow.keep hE)).2 (RG.one (hkept.keep hE)).2 (RG.one (hacts.keep hE)).2) fun dd de a1 gg=> ?_)))
   have hE:=Aa hE a1 (Nat.le_trans s (by omega))
   have f:=kb a1 f (by omega)
   have h:=eb hZ10 h
   have h:=kb a1 h (by omega)
   have c:=kb a1 c (by omega)
   have hRo:RdAt (Bi P w.heap.size (j+1)) dd (D) V:=RdAt.setO hRo a1 hbx_n10 hbl_n10
   have i:=i.keep hZ11
   have i:=RB.kept i a1 (.inr u)
   clear g
   have g:dd.heap[k]? =some (.cells (rdkC (Ac D,V)).toArray 31 (0,0)):=de;clear de
   have gh:=bl g
   refine⟨⟨c,trivial⟩,?_⟩
   refine yD rfl (Yk.storeAll (vr (PQ r 0) rfl) (vr (AB (Sha.sum b)) rfl) h (by exact Bg (Sha.sum_length _) List.length_replicate) (by exact Ae (Sha.sum_length _)) (Ah _) fun et df a2 gi=> ?_)
   have hE:=Aa hE a2 (Nat.le_trans t (by omega))
   have f:=kb a2 f (by omega)
   have c:=kb a2 c (by omega)
   have hRo:RdAt (Bi P w.heap.size (j+1)) et (D) V:=RdAt.setO hRo a2 hbx_n22 hbl_n22
   have i:=RB.kept i a2 (.inr y)
   have g:=kb a2 g (by omega)
   clear h
   have h:=df;clear df
   have gj:=bl h
   refine FN (v:= .tuple #[.agg (rdkC (Ac D,V)).toArray,AB (Sha.sum b),ac,NI 7]) (vs:= [.agg (rdkC (Ac D,V)).toArray,AB (Sha.sum b),ac,NI 7]) rfl rfl ⟨ResF.row rfl g (FH).choose_spec rfl (AN (Ay _) E0),ResF.row rfl h IU rfl (by exact Ae (Sha.sum_length _)),rfl,rfl,trivial⟩ ?_
   rw[hV]
   exact⟨_,_,rfl,i,(hRo).inO,hE⟩
  have hV:A2 D b=Cm (AS D (Ad (Sha.sum b)) [.rem, .add b, .sync]) (Sha.sum b):=by unfold A2;rw[if_neg h4,if_neg (fun q=>q h0),if_neg hsm,if_neg cd]
  refine BV [0,1,2,3,4,5,6,7,8] [2,3,7] [6] [0] fun dh b3=> ?_
  have hRo:RdAt (Bi P w.heap.size (j+1)) dh (D) V:=(hRo.keep b3)
  have b4:=Ext.refl dh
  have hZ12:=((p.trans ah).trans ad).trans b3
  have f:=eb hZ12 f
  have hZ13:=ad.trans b3
  have c:=eb hZ13 c
  refine BM b4 ?_
  refine yf (fun _ ⟨hZ,_⟩=>Yk.loadSt AG rfl (eb hZ f) zz) (ys (Yk.loadAll rfl c IU rfl (by exact Ae (Sha.sum_length _)) zz) (yE (Yk.callA1 Cw rfl ((B3 _ (Sha.sum b) (Sha.sum_length _)).mono ?_))))
  rintro e eu ⟨rfl,ai⟩
  refine⟨_,rfl,?_⟩
  have hRo:RdAt (Bi P w.heap.size (j+1)) eu (D) V:=(hRo.keep ai)
  have hE:=hE.trans (((ah.trans ad).trans b3).trans ai)
  have c:=eb ai c
  have b4:=b4.trans ai
  refine⟨b4,?_⟩
  refine yD rfl (Yk.callA4 Hq rfl rfl rfl rfl ((hRo.drop (fun b_ hb_=>⟨hP b_ (Nat.le_trans (hE).size hb_), .inr (Nat.le_trans (bl c) hb_)⟩) hF (by omega) (Ad (Sha.sum b))).mono ?_))
  rintro e gk ⟨V283,rfl,hR284,bk⟩
  refine⟨_,rfl,?_⟩
  have hF286:=hF.drop (Ad (Sha.sum b))
  refine ys (Yk.extract (vs:= [.agg (rdkC (Ac (Ar D (Ad (Sha.sum b))).1,V283)).toArray,NI ((Ar D (Ad (Sha.sum b))).2)]) rfl rfl zz) (yp (Yk.extract (vs:= [.agg (rdkC (Ac (Ar D (Ad (Sha.sum b))).1,V283)).toArray,NI ((Ar D (Ad (Sha.sum b))).2)]) rfl rfl zz) ?_)
  have hq288:=(hR284).files.choose_spec.2.1
  have hq289:=(hR284).synced.1
  have hq290:=(hR284).now.1
  have hq291:=(hR284).kept.1
  have hq292:=(hR284).acts.1
  have f:=eb (ai.trans bk) f
  refine yD rfl (Yk.storeSt AG (vr (PQ o 0) rfl) (vr (.agg (rdkC (Ac (Ar D (Ad (Sha.sum b))).1,V283)).toArray) rfl) f (AA (x:=(Ac (Ar D (Ad (Sha.sum b))).1,V283)) (RG.one hq288).2 (RG.one hq289).2 (RG.one hq290).2 (RG.one hq291).2 (RG.one hq292).2) fun di dj a3 gl=> ?_)
  have hE:=hE.trans bk
  have hE:=Aa hE a3 (Nat.le_trans (Nat.le_refl _) (by omega))
  have hZ14:=(hZ12.trans ai).trans bk
  have g:=eb hZ14 g
  have g:=kb a3 g (by omega)
  have h:=eb hZ14 h
  have h:=kb a3 h (by omega)
  have c:=eb bk c
  have c:=kb a3 c (by omega)
  have i:=i.keep ((hZ13.trans ai).trans bk)
  have i:=RB.kept i a3 (.inr ak)
  have hR284:RdAt (Bi P w.heap.size (j+1)) di ((Ar D (Ad (Sha.sum b))).1) V283:=RdAt.setO hR284 a3 hbx_n2 hbl_n2
  clear hq288
  clear hq289
  clear hq290
  clear hq291
  clear hq292
  clear f
  have f:di.heap[o]? =some (.cells (rdkC (Ac (Ar D (Ad (Sha.sum b))).1,V283)).toArray 31 (0,0)):=dj;clear dj
  have gm:=bl f
  refine gS (Yk.eqI (a:=((Ar D (Ad (Sha.sum b))).2:Nat)) (b:=(0:Nat)) rfl rfl (AZ _ _ _ _) ?_)
  refine cD rfl (fun bm=> ?_) fun bm=> ?_
  ·refine gS (Yk.loadSt AG rfl f (gS (Yk.run (v:=AB (List.replicate 32 0)) (by kernel_rfl) ?_)))
   have hq301:=(hR284).files.choose_spec.2.1
   have hq302:=(hR284).synced.1
   have hq303:=(hR284).now.1
   have hq304:=(hR284).kept.1
   have hq305:=(hR284).acts.1
   refine gS (Yk.storeSt AG (vr (PQ k 0) rfl) (vr (.agg (rdkC (Ac (Ar D (Ad (Sha.sum b))).1,V283)).toArray) rfl) g (AA (x:=(Ac (Ar D (Ad (Sha.sum b))).1,V283)) (RG.one hq301).2 (RG.one hq302).2 (RG.one hq303).2 (RG.one hq304).2 (RG.one hq305).2) fun dk dl a4 gn=> ?_)
   have hE:=Aa hE a4 (Nat.le_trans s (by omega))
   have h:=kb a4 h (by omega)
   have c:=kb a4 c (by omega)
   have i:=RB.kept i a4 (.inr u)
   have hR284:RdAt (Bi P w.heap.size (j+1)) dk ((Ar D (Ad (Sha.sum b))).1) V283:=RdAt.setO hR284 a4 hbx_n10 hbl_n10
   have f:=kb a4 f (by omega)
   clear hq301
   clear hq302
   clear hq303
   clear hq304
   clear hq305
   clear g
   have g:dk.heap[k]? =some (.cells (rdkC (Ac (Ar D (Ad (Sha.sum b))).1,V283)).toArray 31 (0,0)):=dl;clear dl
   have go:=bl g
   refine gS (Yk.storeAll (vr (PQ r 0) rfl) (vr (AB (List.replicate 32 0)) rfl) h (by exact Bg List.length_replicate List.length_replicate) (by exact Ae List.length_replicate) (Ah _) fun ew dm a5 gp=> ?_)
   have hE:=Aa hE a5 (Nat.le_trans t (by omega))
   have c:=kb a5 c (by omega)
   have i:=RB.kept i a5 (.inr y)
   have hR284:RdAt (Bi P w.heap.size (j+1)) ew ((Ar D (Ad (Sha.sum b))).1) V283:=RdAt.setO hR284 a5 hbx_n22 hbl_n22
   have f:=kb a5 f (by omega)
   have g:=kb a5 g (by omega)
   clear h
   have h:=dm;clear dm
   have gq:=bl h
   refine FN (v:= .tuple #[.agg (rdkC (Ac (Ar D (Ad (Sha.sum b))).1,V283)).toArray,AB (List.replicate 32 0),(Value.slice none 0 0),NI ((Ar D (Ad (Sha.sum b))).2)]) (vs:= [.agg (rdkC (Ac (Ar D (Ad (Sha.sum b))).1,V283)).toArray,AB (List.replicate 32 0),(Value.slice none 0 0),NI ((Ar D (Ad (Sha.sum b))).2)]) rfl rfl ⟨ResF.row rfl g (FH).choose_spec rfl (AN (Ay _) E0),ResF.row rfl h IU rfl (by exact Ae List.length_replicate),rfl,rfl,trivial⟩ ?_
   have hV:=hV.trans (Ek (a:= .rem) bm)
   rw[hV]
   exact⟨_,_,rfl,RB.nil _,(hR284).inO,hE⟩
  refine gS (Yk.notB rfl (cT rfl (BV [0,1,3,2,4,5,6,7,8,9] [2,4,8] [7] [0] fun dn b5=> ?_)))
  have hR284:RdAt (Bi P w.heap.size (j+1)) dn ((Ar D (Ad (Sha.sum b))).1) V283:=(hR284.keep b5)
  have b6:=Ext.refl dn
  have c:=eb b5 c
  have f:=eb b5 f
  refine BM b6 ?_
  refine yf (fun _ ⟨hZ,_⟩=>Yk.loadSt AG rfl (eb hZ f) zz) (ys (Yk.loadAll rfl c IU rfl (by exact Ae (Sha.sum_length _)) zz) (yE (Yk.callA1 Cw rfl ((B3 _ (Sha.sum b) (Sha.sum_length _)).mono ?_))))
  rintro e ex ⟨rfl,bn⟩
  refine⟨_,rfl,?_⟩
  have hR284:RdAt (Bi P w.heap.size (j+1)) ex ((Ar D (Ad (Sha.sum b))).1) V283:=(hR284.keep bn)
  have hZ15:=b5.trans bn
  have hE:=hE.trans hZ15
  have c:=eb bn c
  have b6:=b6.trans bn
  refine⟨b6,?_⟩
  refine yD rfl (Yk.callA3 KP rfl rfl rfl ((hR284.append (fun b_ hb_=>⟨hP b_ (Nat.le_trans (hE).size hb_), .inr (Nat.le_trans (bl c) hb_)⟩) hF286 (by omega) (Ad (Sha.sum b)) vb b (hb.keep hE) hbl).mono ?_))
  rintro e gr ⟨V325,rfl,hR326,b7⟩
  refine⟨_,rfl,?_⟩
  have hF328:=hF286.append (Ad (Sha.sum b)) hbl
  refine ys (Yk.extract (vs:= [.agg (rdkC (Ac (Af ((Ar D (Ad (Sha.sum b))).1) (Ad (Sha.sum b)) b).1,V325)).toArray,NI ((Af ((Ar D (Ad (Sha.sum b))).1) (Ad (Sha.sum b)) b).2)]) rfl rfl zz) (yp (Yk.extract (vs:= [.agg (rdkC (Ac (Af ((Ar D (Ad (Sha.sum b))).1) (Ad (Sha.sum b)) b).1,V325)).toArray,NI ((Af ((Ar D (Ad (Sha.sum b))).1) (Ad (Sha.sum b)) b).2)]) rfl rfl zz) ?_)
  have hq330:=(hR326).files.choose_spec.2.1
  have hq331:=(hR326).synced.1
  have hq332:=(hR326).now.1
  have hq333:=(hR326).kept.1
  have hq334:=(hR326).acts.1
  have f:=eb (bn.trans b7) f
  refine yD rfl (Yk.storeSt AG (vr (PQ o 0) rfl) (vr (.agg (rdkC (Ac (Af ((Ar D (Ad (Sha.sum b))).1) (Ad (Sha.sum b)) b).1,V325)).toArray) rfl) f (AA (x:=(Ac (Af ((Ar D (Ad (Sha.sum b))).1) (Ad (Sha.sum b)) b).1,V325)) (RG.one hq330).2 (RG.one hq331).2 (RG.one hq332).2 (RG.one hq333).2 (RG.one hq334).2) fun dp dq a6 gs=> ?_)
  have hE:=hE.trans b7
  have hE:=Aa hE a6 (Nat.le_trans (Nat.le_refl _) (by omega))
  have hZ16:=hZ15.trans b7
  have g:=eb hZ16 g
  have g:=kb a6 g (by omega)
  have h:=eb hZ16 h
  have h:=kb a6 h (by omega)
  have c:=eb b7 c
  have c:=kb a6 c (by omega)
  have i:=i.keep hZ16
  have i:=RB.kept i a6 (.inr ak)
  have hR326:RdAt (Bi P w.heap.size (j+1)) dp ((Af ((Ar D (Ad (Sha.sum b))).1) (Ad (Sha.sum b)) b).1) V325:=RdAt.setO hR326 a6 hbx_n2 hbl_n2
  clear hq330
  clear hq331
  clear hq332
  clear hq333
  clear hq334
  clear f
  have f:dp.heap[o]? =some (.cells (rdkC (Ac (Af ((Ar D (Ad (Sha.sum b))).1) (Ad (Sha.sum b)) b).1,V325)).toArray 31 (0,0)):=dq;clear dq
  have gt:=bl f
  refine gS (Yk.eqI (a:=((Af ((Ar D (Ad (Sha.sum b))).1) (Ad (Sha.sum b)) b).2:Nat)) (b:=(0:Nat)) rfl rfl (AZ _ _ _ _) ?_)
  refine cD rfl (fun aa=> ?_) fun aa=> ?_
  ·refine gS (Yk.loadSt AG rfl f (gS (Yk.run (v:=AB (List.replicate 32 0)) (by kernel_rfl) ?_)))
   have hq342:=(hR326).files.choose_spec.2.1
   have hq343:=(hR326).synced.1
   have hq344:=(hR326).now.1
   have hq345:=(hR326).kept.1
   have hq346:=(hR326).acts.1
   refine gS (Yk.storeSt AG (vr (PQ k 0) rfl) (vr (.agg (rdkC (Ac (Af ((Ar D (Ad (Sha.sum b))).1) (Ad (Sha.sum b)) b).1,V325)).toArray) rfl) g (AA (x:=(Ac (Af ((Ar D (Ad (Sha.sum b))).1) (Ad (Sha.sum b)) b).1,V325)) (RG.one hq342).2 (RG.one hq343).2 (RG.one hq344).2 (RG.one hq345).2 (RG.one hq346).2) fun dr ds a7 gu=> ?_)
   have hE:=Aa hE a7 (Nat.le_trans s (by omega))
   have h:=kb a7 h (by omega)
   have c:=kb a7 c (by omega)
   have i:=RB.kept i a7 (.inr u)
   have hR326:RdAt (Bi P w.heap.size (j+1)) dr ((Af ((Ar D (Ad (Sha.sum b))).1) (Ad (Sha.sum b)) b).1) V325:=RdAt.setO hR326 a7 hbx_n10 hbl_n10
   have f:=kb a7 f (by omega)
   clear hq342
   clear hq343
   clear hq344
   clear hq345
   clear hq346
   clear g
   have g:dr.heap[k]? =some (.cells (rdkC (Ac (Af ((Ar D (Ad (Sha.sum b))).1) (Ad (Sha.sum b)) b).1,V325)).toArray 31 (0,0)):=ds;clear ds
   have gv:=bl g
   refine gS (Yk.storeAll (vr (PQ r 0) rfl) (vr (AB (List.replicate 32 0)) rfl) h (by exact Bg List.length_replicate List.length_replicate) (by exact Ae List.length_replicate) (Ah _) fun ey dt a8 gw=> ?_)
   have hE:=Aa hE a8 (Nat.le_trans t (by omega))
   have c:=kb a8 c (by omega)
   have i:=RB.kept i a8 (.inr y)
   have hR326:RdAt (Bi P w.heap.size (j+1)) ey ((Af ((Ar D (Ad (Sha.sum b))).1) (Ad (Sha.sum b)) b).1) V325:=RdAt.setO hR326 a8 hbx_n22 hbl_n22
   have f:=kb a8 f (by omega)
   have g:=kb a8 g (by omega)
   clear h
   have h:=dt;clear dt
   have gx:=bl h
   refine FN (v:= .tuple #[.agg (rdkC (Ac (Af ((Ar D (Ad (Sha.sum b))).1) (Ad (Sha.sum b)) b).1,V325)).toArray,AB (List.replicate 32 0),(Value.slice none 0 0),NI ((Af ((Ar D (Ad (Sha.sum b))).1) (Ad (Sha.sum b)) b).2)]) (vs:= [.agg (rdkC (Ac (Af ((Ar D (Ad (Sha.sum b))).1) (Ad (Sha.sum b)) b).1,V325)).toArray,AB (List.replicate 32 0),(Value.slice none 0 0),NI ((Af ((Ar D (Ad (Sha.sum b))).1) (Ad (Sha.sum b)) b).2)]) rfl rfl ⟨ResF.row rfl g (FH).choose_spec rfl (AN (Ay _) E0),ResF.row rfl h IU rfl (by exact Ae List.length_replicate),rfl,rfl,trivial⟩ ?_
   have hV:=hV.trans (((DL (a:= .rem) bm)).trans (Ek (a:= .add b) aa))
   rw[hV]
   exact⟨_,_,rfl,RB.nil _,(hR326).inO,hE⟩
  refine BV [0,1,2,3,4,5,6,7,8] [2,3,7] [6] [0] fun du b8=> ?_
  have hR326:RdAt (Bi P w.heap.size (j+1)) du ((Af ((Ar D (Ad (Sha.sum b))).1) (Ad (Sha.sum b)) b).1) V325:=(hR326.keep b8)
  have b9:=Ext.refl du
  have c:=eb b8 c
  have f:=eb b8 f
  refine BM b9 ?_
  refine yf (fun _ ⟨hZ,_⟩=>Yk.loadSt AG rfl (eb hZ f) zz) (ys (Yk.loadAll rfl c IU rfl (by exact Ae (Sha.sum_length _)) zz) (yE (Yk.callA1 Cw rfl ((B3 _ (Sha.sum b) (Sha.sum_length _)).mono ?_))))
  rintro e ez ⟨rfl,bo⟩
  refine⟨_,rfl,?_⟩
  have hR326:RdAt (Bi P w.heap.size (j+1)) ez ((Af ((Ar D (Ad (Sha.sum b))).1) (Ad (Sha.sum b)) b).1) V325:=(hR326.keep bo)
  have hZ17:=b8.trans bo
  have hE:=hE.trans hZ17
  have c:=eb bo c
  have b9:=b9.trans bo
  refine⟨b9,?_⟩
  refine yD rfl (Yk.callA2 Hp rfl rfl ((hR326.sync (fun b_ hb_=>⟨hP b_ (Nat.le_trans (hE).size hb_), .inr (Nat.le_trans (bl c) hb_)⟩) hF328 (by omega) (Ad (Sha.sum b))).mono ?_))
  rintro e gy ⟨V364,rfl,hR365,ca⟩
  refine⟨_,rfl,?_⟩
  have hF367:=hF328.sync (Ad (Sha.sum b))
  refine ys (Yk.extract (vs:= [.agg (rdkC (Ac (Aw ((Af ((Ar D (Ad (Sha.sum b))).1) (Ad (Sha.sum b)) b).1) (Ad (Sha.sum b))).1,V364)).toArray,NI ((Aw ((Af ((Ar D (Ad (Sha.sum b))).1) (Ad (Sha.sum b)) b).1) (Ad (Sha.sum b))).2)]) rfl rfl zz) (yp (Yk.extract (vs:= [.agg (rdkC (Ac (Aw ((Af ((Ar D (Ad (Sha.sum b))).1) (Ad (Sha.sum b)) b).1) (Ad (Sha.sum b))).1,V364)).toArray,NI ((Aw ((Af ((Ar D (Ad (Sha.sum b))).1) (Ad (Sha.sum b)) b).1) (Ad (Sha.sum b))).2)]) rfl rfl zz) ?_)
  have hq369:=(hR365).files.choose_spec.2.1
  have hq370:=(hR365).synced.1
  have hq371:=(hR365).now.1
  have hq372:=(hR365).kept.1
  have hq373:=(hR365).acts.1
  have f:=eb (bo.trans ca) f
  refine yD rfl (Yk.storeSt AG (vr (PQ o 0) rfl) (vr (.agg (rdkC (Ac (Aw ((Af ((Ar D (Ad (Sha.sum b))).1) (Ad (Sha.sum b)) b).1) (Ad (Sha.sum b))).1,V364)).toArray) rfl) f (AA (x:=(Ac (Aw ((Af ((Ar D (Ad (Sha.sum b))).1) (Ad (Sha.sum b)) b).1) (Ad (Sha.sum b))).1,V364)) (RG.one hq369).2 (RG.one hq370).2 (RG.one hq371).2 (RG.one hq372).2 (RG.one hq373).2) fun dv dw a9 gz=> ?_)
  have hE:=hE.trans ca
  have hE:=Aa hE a9 (Nat.le_trans (Nat.le_refl _) (by omega))
  have hZ18:=hZ17.trans ca
  have g:=eb hZ18 g
  have g:=kb a9 g (by omega)
  have h:=eb hZ18 h
  have h:=kb a9 h (by omega)
  have c:=eb ca c
  have c:=kb a9 c (by omega)
  have i:=i.keep hZ18
  have i:=RB.kept i a9 (.inr ak)
  have hR365:RdAt (Bi P w.heap.size (j+1)) dv ((Aw ((Af ((Ar D (Ad (Sha.sum b))).1) (Ad (Sha.sum b)) b).1) (Ad (Sha.sum b))).1) V364:=RdAt.setO hR365 a9 hbx_n2 hbl_n2
  clear hq369
  clear hq370
  clear hq371
  clear hq372
  clear hq373
  clear f
  have f:dv.heap[o]? =some (.cells (rdkC (Ac (Aw ((Af ((Ar D (Ad (Sha.sum b))).1) (Ad (Sha.sum b)) b).1) (Ad (Sha.sum b))).1,V364)).toArray 31 (0,0)):=dw;clear dw
  have g0:=bl f
  refine gS (Yk.eqI (a:=((Aw ((Af ((Ar D (Ad (Sha.sum b))).1) (Ad (Sha.sum b)) b).1) (Ad (Sha.sum b))).2:Nat)) (b:=(0:Nat)) rfl rfl (AZ _ _ _ _) ?_)
  refine cD rfl (fun z=> ?_) fun z=> ?_
  ·refine gS (Yk.loadSt AG rfl f (gS (Yk.run (v:=AB (List.replicate 32 0)) (by kernel_rfl) ?_)))
   have hq382:=(hR365).files.choose_spec.2.1
   have hq383:=(hR365).synced.1
   have hq384:=(hR365).now.1
   have hq385:=(hR365).kept.1
   have hq386:=(hR365).acts.1
   refine gS (Yk.storeSt AG (vr (PQ k 0) rfl) (vr (.agg (rdkC (Ac (Aw ((Af ((Ar D (Ad (Sha.sum b))).1) (Ad (Sha.sum b)) b).1) (Ad (Sha.sum b))).1,V364)).toArray) rfl) g (AA (x:=(Ac (Aw ((Af ((Ar D (Ad (Sha.sum b))).1) (Ad (Sha.sum b)) b).1) (Ad (Sha.sum b))).1,V364)) (RG.one hq382).2 (RG.one hq383).2 (RG.one hq384).2 (RG.one hq385).2 (RG.one hq386).2) fun dx dy ba g1=> ?_)
   have hE:=Aa hE ba (Nat.le_trans s (by omega))
   have h:=kb ba h (by omega)
   have c:=kb ba c (by omega)
   have i:=RB.kept i ba (.inr u)
   have hR365:RdAt (Bi P w.heap.size (j+1)) dx ((Aw ((Af ((Ar D (Ad (Sha.sum b))).1) (Ad (Sha.sum b)) b).1) (Ad (Sha.sum b))).1) V364:=RdAt.setO hR365 ba hbx_n10 hbl_n10
   have f:=kb ba f (by omega)
   clear hq382
   clear hq383
   clear hq384
   clear hq385
   clear hq386
   clear g
   have g:dx.heap[k]? =some (.cells (rdkC (Ac (Aw ((Af ((Ar D (Ad (Sha.sum b))).1) (Ad (Sha.sum b)) b).1) (Ad (Sha.sum b))).1,V364)).toArray 31 (0,0)):=dy;clear dy
   have g2:=bl g
   refine gS (Yk.storeAll (vr (PQ r 0) rfl) (vr (AB (List.replicate 32 0)) rfl) h (by exact Bg List.length_replicate List.length_replicate) (by exact Ae List.length_replicate) (Ah _) fun e0 dz bb g3=> ?_)
   have hE:=Aa hE bb (Nat.le_trans t (by omega))
   have c:=kb bb c (by omega)
   have i:=RB.kept i bb (.inr y)
   have hR365:RdAt (Bi P w.heap.size (j+1)) e0 ((Aw ((Af ((Ar D (Ad (Sha.sum b))).1) (Ad (Sha.sum b)) b).1) (Ad (Sha.sum b))).1) V364:=RdAt.setO hR365 bb hbx_n22 hbl_n22
   have f:=kb bb f (by omega)
   have g:=kb bb g (by omega)
   clear h
   have h:=dz;clear dz
   have g4:=bl h
   refine FN (v:= .tuple #[.agg (rdkC (Ac (Aw ((Af ((Ar D (Ad (Sha.sum b))).1) (Ad (Sha.sum b)) b).1) (Ad (Sha.sum b))).1,V364)).toArray,AB (List.replicate 32 0),(Value.slice none 0 0),NI ((Aw ((Af ((Ar D (Ad (Sha.sum b))).1) (Ad (Sha.sum b)) b).1) (Ad (Sha.sum b))).2)]) (vs:= [.agg (rdkC (Ac (Aw ((Af ((Ar D (Ad (Sha.sum b))).1) (Ad (Sha.sum b)) b).1) (Ad (Sha.sum b))).1,V364)).toArray,AB (List.replicate 32 0),(Value.slice none 0 0),NI ((Aw ((Af ((Ar D (Ad (Sha.sum b))).1) (Ad (Sha.sum b)) b).1) (Ad (Sha.sum b))).2)]) rfl rfl ⟨ResF.row rfl g (FH).choose_spec rfl (AN (Ay _) E0),ResF.row rfl h IU rfl (by exact Ae List.length_replicate),rfl,rfl,trivial⟩ ?_
   have hV:=hV.trans ((((DL (a:= .rem) bm)).trans (DL (a:= .add b) aa)).trans (Ek (a:= .sync) z))
   rw[hV]
   exact⟨_,_,rfl,RB.nil _,(hR365).inO,hE⟩
  refine BV [0,1,2,3,4,5] [2,3] [] [1] fun e1 aj=> ?_
  have hR365:RdAt (Bi P w.heap.size (j+1)) e1 ((Aw ((Af ((Ar D (Ad (Sha.sum b))).1) (Ad (Sha.sum b)) b).1) (Ad (Sha.sum b))).1) V364:=(hR365.keep aj)
  have c:=eb aj c
  have f:=eb aj f
  refine HE c ?_
  refine ys (Yk.loadSt AG rfl f zz) (yf (fun _ ⟨c,_⟩=>Yk.loadAll rfl c IU rfl (by exact Ae (Sha.sum_length _)) zz) ?_)
  have hq400:=(hR365).files.choose_spec.2.1
  have hq401:=(hR365).synced.1
  have hq402:=(hR365).now.1
  have hq403:=(hR365).kept.1
  have hq404:=(hR365).acts.1
  have g:=eb aj g
  refine yI (Yk.storeSt AG (vr (PQ k 0) rfl) (vr (.agg (rdkC (Ac (Aw ((Af ((Ar D (Ad (Sha.sum b))).1) (Ad (Sha.sum b)) b).1) (Ad (Sha.sum b))).1,V364)).toArray) rfl) g (AA (x:=(Ac (Aw ((Af ((Ar D (Ad (Sha.sum b))).1) (Ad (Sha.sum b)) b).1) (Ad (Sha.sum b))).1,V364)) (RG.one hq400).2 (RG.one hq401).2 (RG.one hq402).2 (RG.one hq403).2 (RG.one hq404).2) fun d0 d1 bc g5=> ?_)
  have hE:=hE.trans aj
  have hE:=Aa hE bc (Nat.le_trans s (by omega))
  have h:=eb aj h
  have h:=kb bc h (by omega)
  have c:=kb bc c (by omega)
  have i:=i.keep aj
  have i:=RB.kept i bc (.inr u)
  have hR365:RdAt (Bi P w.heap.size (j+1)) d0 ((Aw ((Af ((Ar D (Ad (Sha.sum b))).1) (Ad (Sha.sum b)) b).1) (Ad (Sha.sum b))).1) V364:=RdAt.setO hR365 bc hbx_n10 hbl_n10
  have f:=kb bc f (by omega)
  clear hq400
  clear hq401
  clear hq402
  clear hq403
  clear hq404
  clear g
  have g:d0.heap[k]? =some (.cells (rdkC (Ac (Aw ((Af ((Ar D (Ad (Sha.sum b))).1) (Ad (Sha.sum b)) b).1) (Ad (Sha.sum b))).1,V364)).toArray 31 (0,0)):=d1;clear d1
  have g6:=bl g
  refine⟨⟨c,trivial⟩,?_⟩
  refine yD rfl (Yk.storeAll (vr (PQ r 0) rfl) (vr (AB (Sha.sum b)) rfl) h (by exact Bg (Sha.sum_length _) List.length_replicate) (by exact Ae (Sha.sum_length _)) (Ah _) fun e2 d2 bd g7=> ?_)
  have hE:=Aa hE bd (Nat.le_trans t (by omega))
  have c:=kb bd c (by omega)
  have i:=RB.kept i bd (.inr y)
  have hR365:RdAt (Bi P w.heap.size (j+1)) e2 ((Aw ((Af ((Ar D (Ad (Sha.sum b))).1) (Ad (Sha.sum b)) b).1) (Ad (Sha.sum b))).1) V364:=RdAt.setO hR365 bd hbx_n22 hbl_n22
  have f:=kb bd f (by omega)
  have g:=kb bd g (by omega)
  clear h
  have h:=d2;clear d2
  have g8:=bl h
  refine FN (v:= .tuple #[.agg (rdkC (Ac (Aw ((Af ((Ar D (Ad (Sha.sum b))).1) (Ad (Sha.sum b)) b).1) (Ad (Sha.sum b))).1,V364)).toArray,AB (Sha.sum b),(Value.slice none 0 0),NI 0]) (vs:= [.agg (rdkC (Ac (Aw ((Af ((Ar D (Ad (Sha.sum b))).1) (Ad (Sha.sum b)) b).1) (Ad (Sha.sum b))).1,V364)).toArray,AB (Sha.sum b),(Value.slice none 0 0),NI 0]) rfl rfl ⟨ResF.row rfl g (FH).choose_spec rfl (AN (Ay _) E0),ResF.row rfl h IU rfl (by exact Ae (Sha.sum_length _)),rfl,rfl,trivial⟩ ?_
  have hV:=hV.trans (((((DL (a:= .rem) bm)).trans (DL (a:= .add b) aa)).trans (DL (a:= .sync) z)).trans IE)
  rw[hV]
  exact⟨_,_,rfl,RB.nil _,(hR365).inO,hE⟩
 have hV:A2 D b=(D,zid32,[],(Az D (Ad (Sha.sum b))).2):=by unfold A2;rw[if_neg h4,if_pos h0]
 have hE:=hE.trans (hZ2.trans p)
 have f:=eb p f
 have g:=eb p g
 refine gS (Yk.eqI (a:=((Az D (Ad (Sha.sum b))).2:Nat)) (b:=(0:Nat)) rfl rfl (AZ _ _ _ _) (kT (h0) (gS (Yk.eqI (a:=((Az D (Ad (Sha.sum b))).2:Nat)) (b:=(4:Nat)) rfl rfl (AZ _ _ _ _) (kT (h4) (gS (Yk.pickT rfl rfl (cT rfl (gS (Yk.loadSt AG rfl f (gS (Yk.run (v:=AB (List.replicate 32 0)) (by kernel_rfl) (gS (Yk.storeSt AG (vr (PQ k 0) rfl) (vr (.agg (rdkC (Ac D,V)).toArray) rfl) g (AA (x:=(Ac D,V)) (RG.one (hfiles.keep hE)).2 (RG.one (hsynced.keep hE)).2 (RG.one (hnow.keep hE)).2 (RG.one (hkept.keep hE)).2 (RG.one (hacts.keep hE)).2) fun d3 d4 be g9=> ?_))))))))))))))
 have hE:=Aa hE be (Nat.le_trans s (by omega))
 have f:=kb be f (by omega)
 have h:=eb p h
 have h:=kb be h (by omega)
 have c:=eb (ab.trans p) c
 have c:=kb be c (by omega)
 have hRo:RdAt (Bi P w.heap.size (j+1)) d3 (D) V:=RdAt.setO hRo be hbx_n10 hbl_n10
 have i:=RB.kept i be (.inr u)
 clear g
 have g:d3.heap[k]? =some (.cells (rdkC (Ac D,V)).toArray 31 (0,0)):=d4;clear d4
 have ha:=bl g
 refine gS (Yk.storeAll (vr (PQ r 0) rfl) (vr (AB (List.replicate 32 0)) rfl) h (by exact Bg List.length_replicate List.length_replicate) (by exact Ae List.length_replicate) (Ah _) fun e3 d5 bf hc=> ?_)
 have hE:=Aa hE bf (Nat.le_trans t (by omega))
 have f:=kb bf f (by omega)
 have c:=kb bf c (by omega)
 have hRo:RdAt (Bi P w.heap.size (j+1)) e3 (D) V:=RdAt.setO hRo bf hbx_n22 hbl_n22
 have i:=RB.kept i bf (.inr y)
 have g:=kb bf g (by omega)
 clear h
 have h:=d5;clear d5
 have hd:=bl h
 refine FN (v:= .tuple #[.agg (rdkC (Ac D,V)).toArray,AB (List.replicate 32 0),(Value.slice none 0 0),NI ((Az D (Ad (Sha.sum b))).2)]) (vs:= [.agg (rdkC (Ac D,V)).toArray,AB (List.replicate 32 0),(Value.slice none 0 0),NI ((Az D (Ad (Sha.sum b))).2)]) rfl rfl ⟨ResF.row rfl g (FH).choose_spec rfl (AN (Ay _) E0),ResF.row rfl h IU rfl (by exact Ae List.length_replicate),rfl,rfl,trivial⟩ ?_
 rw[hV]
 exact⟨_,_,rfl,RB.nil _,(hRo).inO,hE⟩

theorem ES{P:Nat→Prop}(w:World)(D:An)(V:Cn)(hR:RdAt P w D V)(n:Nat)(hF:FitD n D)(hn:n≤98000)(id:List UInt8)(hid:id.length=32):
  Calls Tryz.prog 20 #[.agg (rdkC (Ac D,V)).toArray,AB id] w fun e w' =>∃v,e = .returned (.tuple #[v,NI (A8 D id).2])∧RB w' v (A8 D id).1∧Ext w w' :=by
 obtain⟨vs,hvs,hfiles0⟩:=hR.files
 have hfiles:=hfiles0.1
 have hsynced:=hR.synced.1
 have hnow:=hR.now.1
 have hkept:=hR.kept.1
 have hacts:=hR.acts.1
 refine gG (args:= [.agg (rdkC (Ac D,V)).toArray,AB id]) Tryz.func20 rfl 31 rfl rfl ?_
 have hE:=Ext.refl w
 refine gS (Yk.box (cs:=(rdkC (Ac D,V):List Value).toArray) (vr (.agg (rdkC (Ac D,V)).toArray) rfl) fun u x am r y an=> ?_)
 have h:=r;clear r
 have ao:u<x.heap.size:=by omega
 refine gS (Yk.box (cs:=(Lib.byteCells id:List Value).toArray) (vr (AB id) rfl) fun z aa ab s ac ap=> ?_)
 have hE:=hE.trans y
 have aq:=hE.size
 have ar:=AE (bl h) ab
 have c:=s;clear s
 have au:z<aa.heap.size:=by omega
 refine BV [0,1,2,3,4,5,6,7,8] [2,3] [] [0] fun ad t=> ?_
 have i:=Ext.refl ad
 have hZ1:=ac.trans t
 have h:=eb hZ1 h
 have c:=eb t c
 refine BM i ?_
 refine yf (fun _ ⟨hZ,_⟩=>Yk.loadSt AG rfl (eb hZ h) zz) (ys (Yk.loadAll rfl c IU rfl (by exact Ae hid) zz) (yE (Yk.callA1 Cw rfl ((B3 _ id hid).mono ?_))))
 rintro e av ⟨rfl,o⟩
 refine⟨_,rfl,?_⟩
 have hE:=hE.trans (hZ1.trans o)
 have i:=i.trans o
 refine⟨i,?_⟩
 refine yD rfl (Yk.callA2 FL rfl rfl (((hR.keep hE).read hF (by omega) (Ad id)).mono ?_))
 rintro e aw ⟨j,rfl,ae,g⟩
 refine⟨_,rfl,?_⟩
 have f:=RB.ofOwn ae
 refine ys (Yk.extract (vs:= [j,NI ((Az D (Ad id)).2)]) rfl rfl zz) (ys (Yk.extract (vs:= [j,NI ((Az D (Ad id)).2)]) rfl rfl zz) ?_)
 have hrl:=FE hF.lt (Ad id)
 by_cases h4:(Az D (Ad id)).2=4
 ·refine BV [0,1,2,3,4,5,6,8,7,9,10,11] [7] [] [8] fun af ag=> ?_
  have ah:=Ext.refl af
  refine BM ah ?_
  refine ys (Yk.eqI (a:=((Az D (Ad id)).2:Nat)) (b:=(4:Nat)) rfl rfl (AY _ _ _ _) zz) (kT (h4) (ys (Yk.pickT rfl rfl zz) (cT rfl (Dh rfl (vr (Value.slice none 0 0) rfl) (vr (NI 12) rfl) ?_))))
  have hV:A8 D id=([],12):=if_pos (.inl h4)
  have hE:=hE.trans (g.trans ag)
  exact⟨_,by rw[hV],by rw[hV];exact RB.nil _,hE⟩
 by_cases h0:(Az D (Ad id)).2=0
 ·refine BV [0,1,2,3,4,5,6,8,7,9,10,11] [7] [] [8] fun ai k=> ?_
  have l:=Ext.refl ai
  have hZ2:=(o.trans g).trans k
  have c:=eb hZ2 c
  have f:=f.keep k
  refine BM l ?_
  refine ys (Yk.eqI (a:=((Az D (Ad id)).2:Nat)) (b:=(4:Nat)) rfl rfl (AY _ _ _ _) zz) (kF (h4) (ys (Yk.eqI (a:=((Az D (Ad id)).2:Nat)) (b:=(0:Nat)) rfl rfl (AY _ _ _ _) zz) (kT (h0) (yf (fun _ ⟨hZ,_⟩=>Yk.loadAll rfl (eb hZ c) IU rfl (by exact Ae hid) zz) (yE (Yk.callA1 P4 rfl ((Da _ j ((Az D (Ad id)).1) f (by omega)).mono ?_)))))))
  rintro e ax ⟨rfl,m⟩
  refine⟨_,rfl,?_⟩
  have l:=l.trans m
  refine⟨l,?_⟩
  refine ys (Yk.neArr (l1:=(Sha.sum ((Az D (Ad id)).1))) (l2:=id) IU Ds Fy PJ rfl rfl ((Sha.sum_length _)) (hid) zz) (ys (Yk.pickT rfl rfl zz) (ys (Yk.pickF rfl rfl zz) ?_))
  refine cD rfl (fun p=> ?_) fun p=> ?_
  ·refine Dh rfl (vr (Value.slice none 0 0) rfl) (vr (NI 12) rfl) ?_
   have hV:A8 D id=([],12):=if_pos (.inr ⟨h0,p⟩)
   have hE:=hE.trans ((g.trans k).trans m)
   exact⟨_,by rw[hV],by rw[hV];exact RB.nil _,hE⟩
  refine gS (Yk.eqI (a:=((Az D (Ad id)).2:Nat)) (b:=(0:Nat)) rfl rfl (AZ _ _ _ _) (kF (fun q=>q h0) (cF rfl (Dh rfl (vr j rfl) (vr (NI 0) rfl) ?_))))
  have hV:A8 D id=((Az D (Ad id)).1,0):=(if_neg (fun q=>q.elim h4 fun q=>p q.2)).trans (by rw[←h0])
  have hE:=hE.trans ((g.trans k).trans m)
  have f:=f.keep m
  exact⟨_,by rw[hV],by rw[hV];exact f,hE⟩
 refine BV [0,1,2,3,4,5,6,8,7,9,10,11] [7] [] [8] fun aj ak=> ?_
 have al:=Ext.refl aj
 refine BM al ?_
 refine ys (Yk.eqI (a:=((Az D (Ad id)).2:Nat)) (b:=(4:Nat)) rfl rfl (AY _ _ _ _) zz) (kF (h4) (ys (Yk.eqI (a:=((Az D (Ad id)).2:Nat)) (b:=(0:Nat)) rfl rfl (AY _ _ _ _) zz) (kF (h0) (ys (Yk.pickF rfl rfl zz) (ys (Yk.pickF rfl rfl zz) (cF rfl (gS (Yk.eqI (a:=((Az D (Ad id)).2:Nat)) (b:=(0:Nat)) rfl rfl (AZ _ _ _ _) (kT (h0) (cT rfl (Dh rfl (vr (Value.slice none 0 0) rfl) (vr (NI ((Az D (Ad id)).2)) rfl) ?_)))))))))))
 have hV:A8 D id=([],(Az D (Ad id)).2):=(if_neg (fun q=>q.elim h4 fun q=>h0 q.1)).trans (by rw[←Qw h0])
 have hE:=hE.trans (g.trans ak)
 exact⟨_,by rw[hV],by rw[hV];exact RB.nil _,hE⟩

theorem MY{P:Nat→Prop}(w:World)(D:An)(V:Cn)(hR:RdAt P w D V)(hP:∀b,w.heap.size≤b→P b)(n:Nat)(hF:FitD n D)(hn:n≤98000)(id:List UInt8)(hid:id.length=32):
  Calls Tryz.prog 23 #[.agg (rdkC (Ac D,V)).toArray,AB id] w fun e w' =>∃V',e = .returned (.tuple #[.agg (rdkC (Ac (BY D id).1,V')).toArray,NI (BY D id).2])∧RdAt P w' (BY D id).1 V' ∧Ext w w' :=by
 obtain⟨vs,hvs,hfiles0⟩:=hR.files
 have hfiles:=hfiles0.1
 have hsynced:=hR.synced.1
 have hnow:=hR.now.1
 have hkept:=hR.kept.1
 have hacts:=hR.acts.1
 refine gG (args:= [.agg (rdkC (Ac D,V)).toArray,AB id]) Tryz.func23 rfl 19 rfl rfl ?_
 have hE:=Ext.refl w
 refine gS (Yk.box (cs:=(rdkC (Ac D,V):List Value).toArray) (vr (.agg (rdkC (Ac D,V)).toArray) rfl) fun i w3 ap t ak aq=> ?_)
 have c:=t;clear t
 have ar:i<w3.heap.size:=by omega
 refine gS (Yk.box (cs:=(Lib.byteCells id:List Value).toArray) (vr (AB id) rfl) fun p al am u v au=> ?_)
 have hE:=hE.trans ak
 have av:=hE.size
 have aw:=AE (bl c) am
 have h:=u;clear u
 have ax:p<al.heap.size:=by omega
 refine gS (Yk.alloc (cs:=(rdkC ((⟨false,0,[],[],[],[],[],0,0,false⟩,⟨.slice none 0 0, .slice none 0 0, .slice none 0 0, .slice none 0 0, .slice none 0 0⟩):Au)).toArray) Ku fun g an y z aa ay=> ?_)
 have hE:=hE.trans v
 have ab:=hE.size
 have c:=eb v c
 have az:=AE (bl c) y
 have a0:=AE (bl h) y
 have f:=z;clear z
 have a1:g<an.heap.size:=by omega
 have hE:=hE.trans aa
 have hRo:=RdAt.out (g+1) hR hE
 have hbx_n2:w.heap.size≤i:=by omega
 have hbl_n2:i<(g+1):=by omega
 have hbx_n10:w.heap.size≤p:=by omega
 have hbl_n10:p<(g+1):=by omega
 have hbx_n22:w.heap.size≤g:=by omega
 have hbl_n22:g<(g+1):=by omega
 refine BV [0,1,2,3,4,5,6,7,8] [2,3,7] [6] [0] fun ac q=> ?_
 have hRo:RdAt (Bi P w.heap.size (g+1)) ac (D) V:=(hRo.keep q)
 have j:=Ext.refl ac
 have hZ1:=aa.trans q
 have c:=eb hZ1 c
 have h:=eb hZ1 h
 refine BM j ?_
 refine yf (fun _ ⟨hZ,_⟩=>Yk.loadSt AG rfl (eb hZ c) zz) (ys (Yk.loadAll rfl h IU rfl (by exact Ae hid) zz) (yE (Yk.callA1 Cw rfl ((B3 _ id hid).mono ?_))))
 rintro e ao ⟨rfl,k⟩
 refine⟨_,rfl,?_⟩
 have hRo:RdAt (Bi P w.heap.size (g+1)) ao (D) V:=(hRo.keep k)
 have hZ2:=q.trans k
 have hE:=hE.trans hZ2
 have f:=eb hZ2 f
 have j:=j.trans k
 refine⟨j,?_⟩
 refine yD rfl (Yk.callA4 Hq rfl rfl rfl rfl ((hRo.drop (fun b_ hb_=>⟨hP b_ (Nat.le_trans (hE).size hb_), .inr (Nat.le_trans (bl f) hb_)⟩) hF (by omega) (Ad id)).mono ?_))
 rintro e a2 ⟨V44,rfl,hR45,r⟩
 refine⟨_,rfl,?_⟩
 have hF47:=hF.drop (Ad id)
 refine ys (Yk.extract (vs:= [.agg (rdkC (Ac (Ar D (Ad id)).1,V44)).toArray,NI ((Ar D (Ad id)).2)]) rfl rfl zz) (yp (Yk.extract (vs:= [.agg (rdkC (Ac (Ar D (Ad id)).1,V44)).toArray,NI ((Ar D (Ad id)).2)]) rfl rfl zz) ?_)
 have hq49:=(hR45).files.choose_spec.2.1
 have hq50:=(hR45).synced.1
 have hq51:=(hR45).now.1
 have hq52:=(hR45).kept.1
 have hq53:=(hR45).acts.1
 have hZ3:=k.trans r
 have c:=eb hZ3 c
 refine yD rfl (Yk.storeSt AG (vr (PQ i 0) rfl) (vr (.agg (rdkC (Ac (Ar D (Ad id)).1,V44)).toArray) rfl) c (AA (x:=(Ac (Ar D (Ad id)).1,V44)) (RG.one hq49).2 (RG.one hq50).2 (RG.one hq51).2 (RG.one hq52).2 (RG.one hq53).2) fun ad ae l a3=> ?_)
 have hE:=hE.trans r
 have hE:=Aa hE l (Nat.le_trans (Nat.le_refl _) (by omega))
 have h:=eb hZ3 h
 have h:=kb l h (by omega)
 have f:=eb r f
 have f:=kb l f (by omega)
 have hR45:RdAt (Bi P w.heap.size (g+1)) ad ((Ar D (Ad id)).1) V44:=RdAt.setO hR45 l hbx_n2 hbl_n2
 clear hq49
 clear hq50
 clear hq51
 clear hq52
 clear hq53
 clear c
 have c:ad.heap[i]? =some (.cells (rdkC (Ac (Ar D (Ad id)).1,V44)).toArray 31 (0,0)):=ae;clear ae
 have a4:=bl c
 refine gS (Yk.eqI (a:=((Ar D (Ad id)).2:Nat)) (b:=(4:Nat)) rfl rfl (AY _ _ _ _) ?_)
 refine cD rfl (fun s=> ?_) fun s=> ?_
 ·refine gS (Yk.loadSt AG rfl c ?_)
  have hq62:=(hR45).files.choose_spec.2.1
  have hq63:=(hR45).synced.1
  have hq64:=(hR45).now.1
  have hq65:=(hR45).kept.1
  have hq66:=(hR45).acts.1
  refine gS (Yk.storeSt AG (vr (PQ g 0) rfl) (vr (.agg (rdkC (Ac (Ar D (Ad id)).1,V44)).toArray) rfl) f (AA (x:=(Ac (Ar D (Ad id)).1,V44)) (RG.one hq62).2 (RG.one hq63).2 (RG.one hq64).2 (RG.one hq65).2 (RG.one hq66).2) fun af ag m a5=> ?_)
  have hE:=Aa hE m (Nat.le_trans ab (by omega))
  have h:=kb m h (by omega)
  have hR45:RdAt (Bi P w.heap.size (g+1)) af ((Ar D (Ad id)).1) V44:=RdAt.setO hR45 m hbx_n22 hbl_n22
  have c:=kb m c (by omega)
  clear hq62
  clear hq63
  clear hq64
  clear hq65
  clear hq66
  clear f
  have f:af.heap[g]? =some (.cells (rdkC (Ac (Ar D (Ad id)).1,V44)).toArray 31 (0,0)):=ag;clear ag
  have a6:=bl f
  refine B2 rfl (ResF.row rfl f (FH).choose_spec rfl (AN (Ay _) E0)) (vr (NI 12) rfl) ?_
  have hV:BY D id=((Ar D (Ad id)).1,12):=if_pos s
  rw[hV]
  exact⟨_,rfl,(hR45).inO,hE⟩
 refine gS (Yk.loadSt AG rfl c ?_)
 have hq73:=(hR45).files.choose_spec.2.1
 have hq74:=(hR45).synced.1
 have hq75:=(hR45).now.1
 have hq76:=(hR45).kept.1
 have hq77:=(hR45).acts.1
 refine gS (Yk.storeSt AG (vr (PQ g 0) rfl) (vr (.agg (rdkC (Ac (Ar D (Ad id)).1,V44)).toArray) rfl) f (AA (x:=(Ac (Ar D (Ad id)).1,V44)) (RG.one hq73).2 (RG.one hq74).2 (RG.one hq75).2 (RG.one hq76).2 (RG.one hq77).2) fun ah ai o a7=> ?_)
 have hE:=Aa hE o (Nat.le_trans ab (by omega))
 have h:=kb o h (by omega)
 have hR45:RdAt (Bi P w.heap.size (g+1)) ah ((Ar D (Ad id)).1) V44:=RdAt.setO hR45 o hbx_n22 hbl_n22
 have c:=kb o c (by omega)
 clear hq73
 clear hq74
 clear hq75
 clear hq76
 clear hq77
 clear f
 have f:ah.heap[g]? =some (.cells (rdkC (Ac (Ar D (Ad id)).1,V44)).toArray 31 (0,0)):=ai;clear ai
 have a8:=bl f
 refine B2 rfl (ResF.row rfl f (FH).choose_spec rfl (AN (Ay _) E0)) (vr (NI ((Ar D (Ad id)).2)) rfl) ?_
 have hV:BY D id=Ar D (Ad id):=if_neg s
 rw[hV]
 exact⟨_,rfl,(hR45).inO,hE⟩

theorem MZ{P:Nat→Prop}(w:World)(D:An)(V:Cn)(hR:RdAt P w D V)(n:Nat)(hF:FitD n D)(hn:n≤98000):
  Calls Tryz.prog 13 #[.agg (rdkC (Ac D,V)).toArray] w fun e w' =>∃v o,e = .returned v∧OG w.heap.size 54 32 (Lib.byteCells) w' v o∧Cb o∧o.Nodup∧(∀x,x∈o↔x∈E7 D)∧Ext w w' :=by
 obtain⟨vs,hvs,hfiles0⟩:=hR.files
 have hfiles:=hfiles0.1
 have hsynced:=hR.synced.1
 have hnow:=hR.now.1
 have hkept:=hR.kept.1
 have hacts:=hR.acts.1
 refine gG (args:= [.agg (rdkC (Ac D,V)).toArray]) Tryz.func13 rfl 58 rfl rfl ?_
 have hE:=Ext.refl w
 refine gS (Yk.box (cs:=(rdkC (Ac D,V):List Value).toArray) (vr (.agg (rdkC (Ac D,V)).toArray) rfl) fun n2 w3 cp a4 bv cq=> ?_)
 have f:=a4;clear a4
 have cr:n2<w3.heap.size:=by omega
 refine gS (Yk.loadSt AG rfl f ?_)
 have hE:=hE.trans bv
 have ct:=hE.size
 refine gS (Yk.callA1 KQ rfl ((Jc _ D V (hR.keep hE) hF.lt).mono ?_))
 rintro e ad ⟨bw,rfl,bx,a5⟩
 refine⟨_,rfl,?_⟩
 have j:=RG.ofOwn bx
 have c:=Ext.refl ad
 have hE:=hE.trans a5
 have bz:=hE.size
 have hrow0:OG ad.heap.size 54 32 (Lib.byteCells) ad (Value.slice none 0 0) ([]:List (List UInt8)):=OG.nil _ _ _ _ _
 have b0:Value.ownBlock (Value.slice none 0 0)≠some n2:=fun e_=>by cases e_
 have f:=eb a5 f
 refine gL (fun(ρ:Ai) (wz:World)=>∃i:Nat,∃r:Value,ρ 0=(.agg (rdkC (Ac D,V)).toArray:Value)∧ρ 1=(PQ n2 0:Value)∧ρ 2=((Value.slice none 0 0):Value)∧ρ 4=(bw:Value)∧ρ 5=(NI i:Value)∧ρ 3=(r:Value)∧Ext w wz∧wz.heap[n2]? =some (.cells (rdkC (Ac D,V)).toArray 31 (0,0))∧Ext ad wz∧OG ad.heap.size 54 32 (Lib.byteCells) wz r (((As D).take i).filterMap (BK D))∧(i≤(As D).length)∧(OB r n2)∧True) (fun ρ _=>(As D).length-(intOf (ρ 5)).toNat) ⟨0,(Value.slice none 0 0),rfl,rfl,rfl,rfl,rfl,rfl,hE,f,c,Bk hrow0 (rfl),Nat.zero_le _,b0,trivial⟩ ?_
 clear hrow0
 clear hE f c
 rintro ae a6 ⟨i,r,T0,z,T2,p,k,T3,hE,f,c,hr_r,hi,hap_r_n2,-⟩
 have q5:=k
 refine gS (Yk.lenRG JV (RG.of (j.keep c) p) (gS (Yk.eqI (a:=(i:Nat)) (b:=(((As D)).length:Nat)) k rfl (AO _ _ _ _) ?_)))
 refine cD rfl (fun az=> ?_) fun az=> ?_
 ·have hlt:i<(As D).length:=az
  have hel:=I7 hF.ok hlt
  have hfl:(((As D).take i).filterMap (BK D)).length≤i:=Nat.le_trans (List.length_filterMap_le _ _) (by rw[List.length_take];exact Nat.min_le_left _ _)
  have hll:=ER hF
  by_cases h66:((As D).getD (i) ([]:List UInt8)).length=66
  ·by_cases hpr:((As D).getD (i) ([]:List UInt8)).take 2= [111,45]
   ·obtain⟨⟨g,u2⟩,hu⟩:∃u,AQ ((((As D).getD (i) ([]:List UInt8)).drop (2)).take ((((As D).getD (i) ([]:List UInt8)).length)-(2)))=u:=⟨_,rfl⟩
    have s:g.length=32:=by have h:=Bb ((((As D).getD (i) ([]:List UInt8)).drop (2)).take ((((As D).getD (i) ([]:List UInt8)).length)-(2)));rw[hu]at h;exact h
    have hue:=OI hu
    cases u2
    ·have hi0:=Qz (D:=D) (congrArg Prod.snd hue)
     have cu:(B1 (((As D)).getD (i) ([]:List UInt8))).length=1:=(RG.elem (j.keep c) ([]:List UInt8) (by omega))
     refine gS (Yk.atRG JV O8 (by decide) ([]:List UInt8) (RG.of (j.keep c) p) k (by omega) fun cv a7=>(gS (Yk.loadC Io rfl (PR.cell (PR.of a7 rfl) rfl) (gS (Yk.lenSt (l:=((As D)).getD (i) ([]:List UInt8)) Io rfl (gS (Yk.eqI (a:=((((As D)).getD (i) ([]:List UInt8):List UInt8).length:Nat)) (b:=(66:Nat)) rfl rfl (AZ _ _ _ _) (kF (fun q=>q h66) ?_))))))))
     have cw:(B1 (((As D)).getD (i) ([]:List UInt8))).length=1:=(RG.elem (j.keep c) ([]:List UInt8) (by omega))
     refine gS (Yk.atRG JV O8 (by decide) ([]:List UInt8) (RG.of (j.keep c) p) k (by omega) fun cx a8=>(gS (Yk.loadC Io rfl (PR.cell (PR.of a8 rfl) rfl) (gS (Yk.sliceSt (l:=((As D)).getD (i) ([]:List UInt8)) Io (0) (2) rfl (.inl ⟨rfl,rfl⟩) (.inr ⟨.i64,congrArg some rfl⟩) (by omega) (by omega) (gS (Yk.eqSt (l:=((((As D)).getD (i) ([]:List UInt8):List UInt8).drop (0)).take ((2)-(0))) (m:=([111,45]:List UInt8)) (.inr rfl) rfl rfl (decide (((((As D)).getD (i) ([]:List UInt8):List UInt8).drop (0)).take ((2)-(0))≠(([111,45]:List UInt8):List UInt8))) rfl (kF (fun q=>q hpr) (gS (Yk.pickF rfl rfl ?_))))))))))
     clear a7
     clear a8
     refine cF rfl ?_
     have cy:(B1 (((As D)).getD (i) ([]:List UInt8))).length=1:=(RG.elem (j.keep c) ([]:List UInt8) (by omega))
     refine gS (Yk.atRG JV O8 (by decide) ([]:List UInt8) (RG.of (j.keep c) p) k (by omega) fun cz am=>(gS (Yk.loadC Io rfl (PR.cell (PR.of am rfl) rfl) (gS (Yk.sliceSt (l:=((As D)).getD (i) ([]:List UInt8)) Io (2) ((((As D)).getD (i) ([]:List UInt8):List UInt8).length) rfl (.inr ⟨.i64,congrArg some rfl⟩) (.inl ⟨rfl,rfl⟩) (by omega) (by omega) (gS (Yk.callA1 Hr rfl ((GA _ ((((As D).getD (i) ([]:List UInt8)).drop (2)).take ((((As D).getD (i) ([]:List UInt8)).length)-(2))) (by rw[List.length_take,List.length_drop];omega) hu).mono ?_))))))))
     rintro e c0 ⟨rfl,ah⟩
     refine⟨_,rfl,?_⟩
     have am:=PR.keep am ah
     refine gS (Yk.extract (vs:= [AB g, .bool (false)]) rfl rfl (gS (Yk.extract (vs:= [AB g, .bool (false)]) rfl rfl (gS (Yk.alloc (cs:=(Lib.byteCells (List.replicate 32 0)).toArray) IX fun a0 b2 b3 a9 an c1=> ?_)))))
     have hE:=hE.trans ah
     have b4:=hE.size
     have c:=c.trans ah
     have b5:=c.size
     have f:=eb ah f
     have c2:=AE (bl f) b3
     have hr_r:=hr_r.keep ah
     have b6:OB r a0:=By hr_r.2 (by omega)
     have ai:=a9;clear a9
     have c3:a0<b2.heap.size:=by omega
     refine gS (Yk.storeAll (vr (PQ a0 0) rfl) (vr (AB g) rfl) ai (by exact Bg s List.length_replicate) (by exact Ae s) (Ah _) fun c4 ba ao c5=> ?_)
     have hE:=hE.trans an
     have hE:=Aa hE ao (Nat.le_trans b4 (by omega))
     have f:=eb an f
     have f:=kb ao f (by omega)
     have c:=c.trans an
     have c:=Aa c ao (Nat.le_trans b5 (by omega))
     have hr_r:=hr_r.keep an
     have hr_r:=OG.kept hr_r ao b6
     clear ai
     have ai:=ba;clear ba
     have c6:=bl ai
     clear am
     refine gS (Yk.loadSt AG z f (gS (Yk.loadAll rfl ai IU rfl (by exact Ae s) (gS (Yk.callA2 Hs rfl rfl ((ES _ D V (hR.keep hE) n hF hn g s).mono ?_))))))
     rintro e c7 ⟨bb,rfl,c8,ap⟩
     refine⟨_,rfl,?_⟩
     have hE:=hE.trans ap
     have f:=eb ap f
     have c:=c.trans ap
     have hr_r:=hr_r.keep ap
     refine gS (Yk.extract (vs:= [bb,NI ((A8 D g).2)]) rfl rfl (gS (Yk.extract (vs:= [bb,NI ((A8 D g).2)]) rfl rfl (gS (Yk.pickF rfl rfl (cF rfl (gS (Yk.bin (xv:=NI i) (yv:=NI 1) k rfl rfl (Ap _ _ _ (by omega)) (gK (And.intro ⟨i+1,r,T0,z,T2,p,rfl,T3,hE,f,c,Bk hr_r ((Gm hlt hi0)),by omega,hap_r_n2,trivial⟩ ?_))))))))))
     show(As D).length-(intOf (NI ((i)+(1)))).toNat<(As D).length-(intOf (ae 5)).toNat
     rw[q5]
     simp only[intOf,Int.toNat_natCast];omega
    by_cases hg:(A8 D g).2=0
    ·have hi1:BK D ((As D).getD (i) ([]:List UInt8))=some g:=RQ h66 hpr hue hg
     have c9:(B1 (((As D)).getD (i) ([]:List UInt8))).length=1:=(RG.elem (j.keep c) ([]:List UInt8) (by omega))
     refine gS (Yk.atRG JV O8 (by decide) ([]:List UInt8) (RG.of (j.keep c) p) k (by omega) fun da bc=>(gS (Yk.loadC Io rfl (PR.cell (PR.of bc rfl) rfl) (gS (Yk.lenSt (l:=((As D)).getD (i) ([]:List UInt8)) Io rfl (gS (Yk.eqI (a:=((((As D)).getD (i) ([]:List UInt8):List UInt8).length:Nat)) (b:=(66:Nat)) rfl rfl (AZ _ _ _ _) (kF (fun q=>q h66) ?_))))))))
     have db:(B1 (((As D)).getD (i) ([]:List UInt8))).length=1:=(RG.elem (j.keep c) ([]:List UInt8) (by omega))
     refine gS (Yk.atRG JV O8 (by decide) ([]:List UInt8) (RG.of (j.keep c) p) k (by omega) fun dc bd=>(gS (Yk.loadC Io rfl (PR.cell (PR.of bd rfl) rfl) (gS (Yk.sliceSt (l:=((As D)).getD (i) ([]:List UInt8)) Io (0) (2) rfl (.inl ⟨rfl,rfl⟩) (.inr ⟨.i64,congrArg some rfl⟩) (by omega) (by omega) (gS (Yk.eqSt (l:=((((As D)).getD (i) ([]:List UInt8):List UInt8).drop (0)).take ((2)-(0))) (m:=([111,45]:List UInt8)) (.inr rfl) rfl rfl (decide (((((As D)).getD (i) ([]:List UInt8):List UInt8).drop (0)).take ((2)-(0))≠(([111,45]:List UInt8):List UInt8))) rfl (kF (fun q=>q hpr) (gS (Yk.pickF rfl rfl ?_))))))))))
     clear bc
     clear bd
     refine cF rfl ?_
     have dd:(B1 (((As D)).getD (i) ([]:List UInt8))).length=1:=(RG.elem (j.keep c) ([]:List UInt8) (by omega))
     refine gS (Yk.atRG JV O8 (by decide) ([]:List UInt8) (RG.of (j.keep c) p) k (by omega) fun de aq=>(gS (Yk.loadC Io rfl (PR.cell (PR.of aq rfl) rfl) (gS (Yk.sliceSt (l:=((As D)).getD (i) ([]:List UInt8)) Io (2) ((((As D)).getD (i) ([]:List UInt8):List UInt8).length) rfl (.inr ⟨.i64,congrArg some rfl⟩) (.inl ⟨rfl,rfl⟩) (by omega) (by omega) (gS (Yk.callA1 Hr rfl ((GA _ ((((As D).getD (i) ([]:List UInt8)).drop (2)).take ((((As D).getD (i) ([]:List UInt8)).length)-(2))) (by rw[List.length_take,List.length_drop];omega) hu).mono ?_))))))))
     rintro e df ⟨rfl,aj⟩
     refine⟨_,rfl,?_⟩
     have aq:=PR.keep aq aj
     refine gS (Yk.extract (vs:= [AB g, .bool (true)]) rfl rfl (gS (Yk.extract (vs:= [AB g, .bool (true)]) rfl rfl (gS (Yk.alloc (cs:=(Lib.byteCells (List.replicate 32 0)).toArray) IX fun a1 b7 b8 be ar dh=> ?_)))))
     have hE:=hE.trans aj
     have b9:=hE.size
     have c:=c.trans aj
     have ca:=c.size
     have f:=eb aj f
     have di:=AE (bl f) b8
     have hr_r:=hr_r.keep aj
     have bf:OB r a1:=By hr_r.2 (by omega)
     have t:=be;clear be
     have dj:a1<b7.heap.size:=by omega
     refine gS (Yk.storeAll (vr (PQ a1 0) rfl) (vr (AB g) rfl) t (by exact Bg s List.length_replicate) (by exact Ae s) (Ah _) fun dk bg au dl=> ?_)
     have hE:=hE.trans ar
     have hE:=Aa hE au (Nat.le_trans b9 (by omega))
     have f:=eb ar f
     have f:=kb au f (by omega)
     have c:=c.trans ar
     have c:=Aa c au (Nat.le_trans ca (by omega))
     have hr_r:=hr_r.keep ar
     have hr_r:=OG.kept hr_r au bf
     clear t
     have t:=bg;clear bg
     have dm:=bl t
     clear aq
     refine gS (Yk.loadSt AG z f (gS (Yk.loadAll rfl t IU rfl (by exact Ae s) (gS (Yk.callA2 Hs rfl rfl ((ES _ D V (hR.keep hE) n hF hn g s).mono ?_))))))
     rintro e dn ⟨bh,rfl,dp,bi⟩
     refine⟨_,rfl,?_⟩
     have t:=eb bi t
     refine gS (Yk.extract (vs:= [bh,NI ((A8 D g).2)]) rfl rfl (gS (Yk.extract (vs:= [bh,NI ((A8 D g).2)]) rfl rfl (gS (Yk.eqI (a:=((A8 D g).2:Nat)) (b:=(0:Nat)) rfl rfl (AY _ _ _ _) (kT (hg) (gS (Yk.pickT rfl rfl (cT rfl (gS (Yk.loadAll rfl t IU rfl (by exact Ae s) (gS (Yk.lit1G (a:=g) (enc:=Lib.byteCells) (vr (AB g) rfl) ((by rw[Lib.byteCells_length,s])) QD fun cb cc bj bk=> ?_)))))))))))))
     have hZ1:=bi.trans bk
     have c:=c.trans hZ1
     have hr_r:=hr_r.keep hZ1
     refine gS (Yk.appendRG _ _ ad.heap.size _ 32 Bc pk6_ig54.choose_spec.1 pk6_ig54.choose_spec.2 Bc (((As D).take i).filterMap (BK D)) ([g]) (OG.of hr_r T3) (RG.of bj (vr cb rfl)) (fun y _=>Ah y) (by simp only[List.length_singleton];omega) (by simp only[List.length_singleton];omega) c.size fun a2 cd ce ab=> ?_)
     have ab:Grew cc cd r a2:= .eqv T3 ab
     have f:=eb hZ1 f
     have cf:OB a2 n2:=Ax ab hap_r_n2 (bl f)
     have hE:=hE.trans hZ1
     have hE:=Ag hE ab hr_r.2 bz
     have f:=Am f ab hap_r_n2
     have c:=Ag c ab hr_r.2 (Nat.le_refl _)
     have t:=eb bk t
     have t:=Am t ab bf
     clear bj
     clear hr_r
     refine gS (Yk.bin (xv:=NI i) (yv:=NI 1) k rfl rfl (Ap _ _ _ (by omega)) (gK (And.intro ⟨i+1,a2,T0,z,T2,p,rfl,rfl,hE,f,c,Bk ce ((LJ hlt hi1)),by omega,cf,trivial⟩ ?_)))
     show(As D).length-(intOf (NI ((i)+(1)))).toNat<(As D).length-(intOf (ae 5)).toNat
     rw[q5]
     simp only[intOf,Int.toNat_natCast];omega
    have hi0:BK D ((As D).getD (i) ([]:List UInt8))=none:=QB hue hg
    have dq:(B1 (((As D)).getD (i) ([]:List UInt8))).length=1:=(RG.elem (j.keep c) ([]:List UInt8) (by omega))
    refine gS (Yk.atRG JV O8 (by decide) ([]:List UInt8) (RG.of (j.keep c) p) k (by omega) fun dr bm=>(gS (Yk.loadC Io rfl (PR.cell (PR.of bm rfl) rfl) (gS (Yk.lenSt (l:=((As D)).getD (i) ([]:List UInt8)) Io rfl (gS (Yk.eqI (a:=((((As D)).getD (i) ([]:List UInt8):List UInt8).length:Nat)) (b:=(66:Nat)) rfl rfl (AZ _ _ _ _) (kF (fun q=>q h66) ?_))))))))
    have ds:(B1 (((As D)).getD (i) ([]:List UInt8))).length=1:=(RG.elem (j.keep c) ([]:List UInt8) (by omega))
    refine gS (Yk.atRG JV O8 (by decide) ([]:List UInt8) (RG.of (j.keep c) p) k (by omega) fun dt bn=>(gS (Yk.loadC Io rfl (PR.cell (PR.of bn rfl) rfl) (gS (Yk.sliceSt (l:=((As D)).getD (i) ([]:List UInt8)) Io (0) (2) rfl (.inl ⟨rfl,rfl⟩) (.inr ⟨.i64,congrArg some rfl⟩) (by omega) (by omega) (gS (Yk.eqSt (l:=((((As D)).getD (i) ([]:List UInt8):List UInt8).drop (0)).take ((2)-(0))) (m:=([111,45]:List UInt8)) (.inr rfl) rfl rfl (decide (((((As D)).getD (i) ([]:List UInt8):List UInt8).drop (0)).take ((2)-(0))≠(([111,45]:List UInt8):List UInt8))) rfl (kF (fun q=>q hpr) (gS (Yk.pickF rfl rfl ?_))))))))))
    clear bm
    clear bn
    refine cF rfl ?_
    have du:(B1 (((As D)).getD (i) ([]:List UInt8))).length=1:=(RG.elem (j.keep c) ([]:List UInt8) (by omega))
    refine gS (Yk.atRG JV O8 (by decide) ([]:List UInt8) (RG.of (j.keep c) p) k (by omega) fun dv av=>(gS (Yk.loadC Io rfl (PR.cell (PR.of av rfl) rfl) (gS (Yk.sliceSt (l:=((As D)).getD (i) ([]:List UInt8)) Io (2) ((((As D)).getD (i) ([]:List UInt8):List UInt8).length) rfl (.inr ⟨.i64,congrArg some rfl⟩) (.inl ⟨rfl,rfl⟩) (by omega) (by omega) (gS (Yk.callA1 Hr rfl ((GA _ ((((As D).getD (i) ([]:List UInt8)).drop (2)).take ((((As D).getD (i) ([]:List UInt8)).length)-(2))) (by rw[List.length_take,List.length_drop];omega) hu).mono ?_))))))))
    rintro e dw ⟨rfl,ak⟩
    refine⟨_,rfl,?_⟩
    have av:=PR.keep av ak
    refine gS (Yk.extract (vs:= [AB g, .bool (true)]) rfl rfl (gS (Yk.extract (vs:= [AB g, .bool (true)]) rfl rfl (gS (Yk.alloc (cs:=(Lib.byteCells (List.replicate 32 0)).toArray) IX fun a3 cg ch bo aw dx=> ?_)))))
    have hE:=hE.trans ak
    have ci:=hE.size
    have c:=c.trans ak
    have cj:=c.size
    have f:=eb ak f
    have dy:=AE (bl f) ch
    have hr_r:=hr_r.keep ak
    have ck:OB r a3:=By hr_r.2 (by omega)
    have al:=bo;clear bo
    have dz:a3<cg.heap.size:=by omega
    refine gS (Yk.storeAll (vr (PQ a3 0) rfl) (vr (AB g) rfl) al (by exact Bg s List.length_replicate) (by exact Ae s) (Ah _) fun d0 bp ax d1=> ?_)
    have hE:=hE.trans aw
    have hE:=Aa hE ax (Nat.le_trans ci (by omega))
    have f:=eb aw f
    have f:=kb ax f (by omega)
    have c:=c.trans aw
    have c:=Aa c ax (Nat.le_trans cj (by omega))
    have hr_r:=hr_r.keep aw
    have hr_r:=OG.kept hr_r ax ck
    clear al
    have al:=bp;clear bp
    have d2:=bl al
    clear av
    refine gS (Yk.loadSt AG z f (gS (Yk.loadAll rfl al IU rfl (by exact Ae s) (gS (Yk.callA2 Hs rfl rfl ((ES _ D V (hR.keep hE) n hF hn g s).mono ?_))))))
    rintro e d3 ⟨bq,rfl,d4,ay⟩
    refine⟨_,rfl,?_⟩
    have hE:=hE.trans ay
    have f:=eb ay f
    have c:=c.trans ay
    have hr_r:=hr_r.keep ay
    refine gS (Yk.extract (vs:= [bq,NI ((A8 D g).2)]) rfl rfl (gS (Yk.extract (vs:= [bq,NI ((A8 D g).2)]) rfl rfl (gS (Yk.eqI (a:=((A8 D g).2:Nat)) (b:=(0:Nat)) rfl rfl (AY _ _ _ _) (kF (hg) (gS (Yk.pickT rfl rfl (cF rfl (gS (Yk.bin (xv:=NI i) (yv:=NI 1) k rfl rfl (Ap _ _ _ (by omega)) (gK (And.intro ⟨i+1,r,T0,z,T2,p,rfl,T3,hE,f,c,Bk hr_r ((Gm hlt hi0)),by omega,hap_r_n2,trivial⟩ ?_)))))))))))))
    show(As D).length-(intOf (NI ((i)+(1)))).toNat<(As D).length-(intOf (ae 5)).toNat
    rw[q5]
    simp only[intOf,Int.toNat_natCast];omega
   have hi0:=Qy (D:=D) hpr
   have d5:(B1 (((As D)).getD (i) ([]:List UInt8))).length=1:=(RG.elem (j.keep c) ([]:List UInt8) (by omega))
   refine gS (Yk.atRG JV O8 (by decide) ([]:List UInt8) (RG.of (j.keep c) p) k (by omega) fun d6 br=>(gS (Yk.loadC Io rfl (PR.cell (PR.of br rfl) rfl) (gS (Yk.lenSt (l:=((As D)).getD (i) ([]:List UInt8)) Io rfl (gS (Yk.eqI (a:=((((As D)).getD (i) ([]:List UInt8):List UInt8).length:Nat)) (b:=(66:Nat)) rfl rfl (AZ _ _ _ _) (kF (fun q=>q h66) ?_))))))))
   have d7:(B1 (((As D)).getD (i) ([]:List UInt8))).length=1:=(RG.elem (j.keep c) ([]:List UInt8) (by omega))
   refine gS (Yk.atRG JV O8 (by decide) ([]:List UInt8) (RG.of (j.keep c) p) k (by omega) fun d8 bs=>(gS (Yk.loadC Io rfl (PR.cell (PR.of bs rfl) rfl) (gS (Yk.sliceSt (l:=((As D)).getD (i) ([]:List UInt8)) Io (0) (2) rfl (.inl ⟨rfl,rfl⟩) (.inr ⟨.i64,congrArg some rfl⟩) (by omega) (by omega) (gS (Yk.eqSt (l:=((((As D)).getD (i) ([]:List UInt8):List UInt8).drop (0)).take ((2)-(0))) (m:=([111,45]:List UInt8)) (.inr rfl) rfl rfl (decide (((((As D)).getD (i) ([]:List UInt8):List UInt8).drop (0)).take ((2)-(0))≠(([111,45]:List UInt8):List UInt8))) rfl (kT (hpr) (gS (Yk.pickF rfl rfl ?_))))))))))
   clear br
   clear bs
   refine cT rfl (gS (Yk.bin (xv:=NI i) (yv:=NI 1) k rfl rfl (Ap _ _ _ (by omega)) (gK (And.intro ⟨i+1,r,T0,z,T2,p,rfl,T3,hE,f,c,Bk hr_r ((Gm hlt hi0)),by omega,hap_r_n2,trivial⟩ ?_))))
   show(As D).length-(intOf (NI ((i)+(1)))).toNat<(As D).length-(intOf (ae 5)).toNat
   rw[q5]
   simp only[intOf,Int.toNat_natCast];omega
  have hi0:=Qx (D:=D) h66
  have d9:(B1 (((As D)).getD (i) ([]:List UInt8))).length=1:=(RG.elem (j.keep c) ([]:List UInt8) (by omega))
  refine gS (Yk.atRG JV O8 (by decide) ([]:List UInt8) (RG.of (j.keep c) p) k (by omega) fun ea bt=>(gS (Yk.loadC Io rfl (PR.cell (PR.of bt rfl) rfl) (gS (Yk.lenSt (l:=((As D)).getD (i) ([]:List UInt8)) Io rfl (gS (Yk.eqI (a:=((((As D)).getD (i) ([]:List UInt8):List UInt8).length:Nat)) (b:=(66:Nat)) rfl rfl (AZ _ _ _ _) (kT (h66) (gS (Yk.pickT rfl rfl ?_))))))))))
  clear bt
  refine cT rfl (gS (Yk.bin (xv:=NI i) (yv:=NI 1) k rfl rfl (Ap _ _ _ (by omega)) (gK (And.intro ⟨i+1,r,T0,z,T2,p,rfl,T3,hE,f,c,Bk hr_r ((Gm hlt hi0)),by omega,hap_r_n2,trivial⟩ ?_))))
  show(As D).length-(intOf (NI ((i)+(1)))).toNat<(As D).length-(intOf (ae 5)).toNat
  rw[q5]
  simp only[intOf,Int.toNat_natCast];omega
 have hie:i=(As D).length:=by have h:=az;omega
 have hrl:RG 32 (Lib.byteCells) a6 r (E7 D):=HI (RG.ofOwn hr_r) (by rw[hie,List.take_length];rfl)
 have hsz9:w.heap.size≤a6.heap.size:=hE.size
 refine gS (Yk.callA1 KR T3 ((Id _ _ (E7 D) hrl (Nat.le_trans (IA (ER hF)) (by decide))).mono ?_))
 rintro e ec ⟨cl,o,rfl,cm,hA,hN,hM,cn⟩
 refine⟨_,rfl,?_⟩
 have co:=cm
 refine AX rfl (vr cl rfl) ?_
 have hE:=hE.trans cn
 exact⟨_,o,rfl,OG.low co hsz9,hA,hN,hM,hE⟩

theorem RR(w:World)(q:Int)(vb:Value)(b:List UInt8)(hb:RB w vb b)(hbl:b.length≤300):
  Calls Tryz.prog 18 #[.agg (rdkC (AK q)).toArray,vb] w fun e w' =>e = .returned (.tuple #[.agg (rdkC (AK q)).toArray,AB zid32, .slice none 0 0,NI 1])∧Ext w w' :=by
 refine gG (args:= [.agg (rdkC (AK q)).toArray,vb]) Tryz.func18 rfl 93 rfl rfl ?_
 have hE:=Ext.refl w
 refine gS (Yk.box (cs:=(rdkC (AK q):List Value).toArray) (vr (.agg (rdkC (AK q)).toArray) rfl) fun n2 w3 az t al a0=> ?_)
 have c:=t;clear t
 have a1:n2<w3.heap.size:=by omega
 refine gS (Yk.alloc (cs:=(rdkC ((⟨false,0,[],[],[],[],[],0,0,false⟩,⟨.slice none 0 0, .slice none 0 0, .slice none 0 0, .slice none 0 0, .slice none 0 0⟩):Au)).toArray) Ku fun n am an u y a2=> ?_)
 have hE:=hE.trans al
 have ao:=hE.size
 have a3:=AE (bl c) an
 have f:=u;clear u
 have a4:n<am.heap.size:=by omega
 refine gS (Yk.alloc (cs:=(Lib.byteCells (List.replicate 32 0)).toArray) IX fun z ap aa ab ac a5=> ?_)
 have hE:=hE.trans y
 have aq:=hE.size
 have c:=eb y c
 have a6:=AE (bl c) aa
 have a7:=AE (bl f) aa
 have g:=ab;clear ab
 have a8:z<ap.heap.size:=by omega
 have hE:=hE.trans ac
 refine gS (Yk.lenRB S2 (RB.of (hb.keep hE) rfl) (gS (Yk.eqI (a:=(b.length:Nat)) (b:=(262144:Nat)) rfl rfl (Ca _ _ _ _) (kF (by omega) (cF rfl (gS (Yk.callA1 P4 rfl ((Da _ vb b (hb.keep hE) (by omega)).mono ?_))))))))
 rintro e a9 ⟨rfl,o⟩
 refine⟨_,rfl,?_⟩
 refine gS (Yk.alloc (cs:=(Lib.byteCells (List.replicate 32 0)).toArray) IX fun ad ar p ae i ba=> ?_)
 have hE:=hE.trans o
 have au:=hE.size
 have hZ1:=ac.trans o
 have c:=eb hZ1 c
 have bb:=AE (bl c) p
 have f:=eb hZ1 f
 have bc:=AE (bl f) p
 have g:=eb o g
 have bd:=AE (bl g) p
 have h:=ae;clear ae
 have be:ad<ar.heap.size:=by omega
 refine gS (Yk.storeAll (vr (PQ ad 0) rfl) (vr (AB (Sha.sum b)) rfl) h (by exact Bg (Sha.sum_length _) List.length_replicate) (by exact Ae (Sha.sum_length _)) (Ah _) fun bf af j bg=> ?_)
 have hE:=hE.trans i
 have hE:=Aa hE j (Nat.le_trans au (by omega))
 have c:=eb i c
 have c:=kb j c (by omega)
 have f:=eb i f
 have f:=kb j f (by omega)
 have g:=eb i g
 have g:=kb j g (by omega)
 clear h
 have h:=af;clear af
 have bh:=bl h
 refine BV [0,1,2,3,4,5,6,7,8] [2,3] [] [0] fun av r=> ?_
 have k:=Ext.refl av
 have c:=eb r c
 have h:=eb r h
 refine BM k ?_
 refine yf (fun _ ⟨hZ,_⟩=>Yk.loadSt AG rfl (eb hZ c) zz) (ys (Yk.loadAll rfl h IU rfl (by exact Ae (Sha.sum_length _)) zz) (yE (Yk.callA1 Cw rfl ((B3 _ (Sha.sum b) (Sha.sum_length _)).mono ?_))))
 rintro e bi ⟨rfl,s⟩
 refine⟨_,rfl,?_⟩
 have k:=k.trans s
 refine⟨k,?_⟩
 refine yD rfl (Yk.callA2 FL rfl rfl ((Kz _ q (Ad (Sha.sum b))).mono ?_))
 rintro e aw ⟨rfl,ag⟩
 refine⟨_,rfl,?_⟩
 have ax:RB aw (.slice none 0 0) []:=RB.nil _
 have hZ2:=(r.trans s).trans ag
 have f:=eb hZ2 f
 have hZ3:=s.trans ag
 have c:=eb hZ3 c
 refine ys (Yk.extract (vs:= [(.slice none 0 0),NI 1]) rfl rfl zz) (ys (Yk.extract (vs:= [(.slice none 0 0),NI 1]) rfl rfl zz) (gS (Yk.eqI (a:=(1:Nat)) (b:=(0:Nat)) rfl rfl (AZ _ _ _ _) (kT (by decide) (gS (Yk.eqI (a:=(1:Nat)) (b:=(4:Nat)) rfl rfl (AZ _ _ _ _) (kT (by decide) (gS (Yk.pickT rfl rfl (cT rfl (gS (Yk.loadSt AG rfl c (gS (Yk.run (v:=AB (List.replicate 32 0)) (by kernel_rfl) (gS (Yk.storeSt AG (vr (PQ n 0) rfl) (vr (.agg (rdkC (AK q)).toArray) rfl) f (AA (x:=(AK q)) rfl rfl rfl rfl rfl) fun ay ah l bj=> ?_))))))))))))))))
 have hE:=hE.trans hZ2
 have hE:=Aa hE l (Nat.le_trans ao (by omega))
 have c:=kb l c (by omega)
 have g:=eb hZ2 g
 have g:=kb l g (by omega)
 have h:=eb hZ3 h
 have h:=kb l h (by omega)
 clear ax
 clear f
 have f:ay.heap[n]? =some (.cells (rdkC (AK q)).toArray 31 (0,0)):=ah;clear ah
 have bk:=bl f
 refine gS (Yk.storeAll (vr (PQ z 0) rfl) (vr (AB (List.replicate 32 0)) rfl) g (by exact Bg List.length_replicate List.length_replicate) (by exact Ae List.length_replicate) (Ah _) fun bm ai m bn=> ?_)
 have hE:=Aa hE m (Nat.le_trans aq (by omega))
 have c:=kb m c (by omega)
 have h:=kb m h (by omega)
 have f:=kb m f (by omega)
 clear g
 have g:=ai;clear ai
 have bo:=bl g
 refine FN (v:= .tuple #[.agg (rdkC (AK q)).toArray,AB (List.replicate 32 0),(Value.slice none 0 0),NI 1]) (vs:= [.agg (rdkC (AK q)).toArray,AB (List.replicate 32 0),(Value.slice none 0 0),NI 1]) rfl rfl ⟨ResF.row rfl f (FH).choose_spec rfl (AN (Ay _) E0),ResF.row rfl g IU rfl (by exact Ae List.length_replicate),rfl,rfl,trivial⟩ ?_
 exact⟨rfl,hE⟩

theorem RS(w:World)(q:Int)(id:List UInt8)(hid:id.length=32):
  Calls Tryz.prog 20 #[.agg (rdkC (AK q)).toArray,AB id] w fun e w' =>e = .returned (.tuple #[.slice none 0 0,NI 1])∧Ext w w' :=by
 refine gG (args:= [.agg (rdkC (AK q)).toArray,AB id]) Tryz.func20 rfl 31 rfl rfl ?_
 have hE:=Ext.refl w
 refine gS (Yk.box (cs:=(rdkC (AK q):List Value).toArray) (vr (.agg (rdkC (AK q)).toArray) rfl) fun l m aa h n ab=> ?_)
 have c:=h;clear h
 have ac:l<m.heap.size:=by omega
 refine gS (Yk.box (cs:=(Lib.byteCells id:List Value).toArray) (vr (AB id) rfl) fun o p r i s ad=> ?_)
 have hE:=hE.trans n
 have ae:=hE.size
 have af:=AE (bl c) r
 have g:=i;clear i
 have ag:o<p.heap.size:=by omega
 refine BV [0,1,2,3,4,5,6,7,8] [2,3] [] [0] fun t j=> ?_
 have f:=Ext.refl t
 have hZ1:=s.trans j
 have c:=eb hZ1 c
 have g:=eb j g
 refine BM f ?_
 refine yf (fun _ ⟨hZ,_⟩=>Yk.loadSt AG rfl (eb hZ c) zz) (ys (Yk.loadAll rfl g IU rfl (by exact Ae hid) zz) (yE (Yk.callA1 Cw rfl ((B3 _ id hid).mono ?_))))
 rintro e ah ⟨rfl,k⟩
 refine⟨_,rfl,?_⟩
 have f:=f.trans k
 refine⟨f,?_⟩
 refine yD rfl (Yk.callA2 FL rfl rfl ((Kz _ q (Ad id)).mono ?_))
 rintro e u ⟨rfl,v⟩
 refine⟨_,rfl,?_⟩
 have ai:RB u (.slice none 0 0) []:=RB.nil _
 refine ys (Yk.extract (vs:= [(.slice none 0 0),NI 1]) rfl rfl zz) (ys (Yk.extract (vs:= [(.slice none 0 0),NI 1]) rfl rfl zz) (BV [0,1,2,3,4,5,6,8,7,9,10,11] [7] [] [8] fun x y=> ?_))
 have z:=Ext.refl x
 refine BM z ?_
 refine ys (Yk.eqI (a:=(1:Nat)) (b:=(4:Nat)) rfl rfl (AY _ _ _ _) zz) (kF (by decide) (ys (Yk.eqI (a:=(1:Nat)) (b:=(0:Nat)) rfl rfl (AY _ _ _ _) zz) (kF (by decide) (ys (Yk.pickF rfl rfl zz) (ys (Yk.pickF rfl rfl zz) (cF rfl (gS (Yk.eqI (a:=(1:Nat)) (b:=(0:Nat)) rfl rfl (AZ _ _ _ _) (kT (by decide) (cT rfl (Dh rfl (vr (Value.slice none 0 0) rfl) (vr (NI 1) rfl) ?_)))))))))))
 have hE:=hE.trans (((hZ1.trans k).trans v).trans y)
 exact⟨rfl,hE⟩

theorem OJ(w:World)(q:Int)(id:List UInt8)(hid:id.length=32):
  Calls Tryz.prog 23 #[.agg (rdkC (AK q)).toArray,AB id] w fun e w' =>e = .returned (.tuple #[.agg (rdkC (AK q)).toArray,NI 1])∧Ext w w' :=by
 refine gG (args:= [.agg (rdkC (AK q)).toArray,AB id]) Tryz.func23 rfl 19 rfl rfl ?_
 have hE:=Ext.refl w
 refine gS (Yk.box (cs:=(rdkC (AK q):List Value).toArray) (vr (.agg (rdkC (AK q)).toArray) rfl) fun j z ak o aa al=> ?_)
 have c:=o;clear o
 have am:j<z.heap.size:=by omega
 refine gS (Yk.box (cs:=(Lib.byteCells id:List Value).toArray) (vr (AB id) rfl) fun ab ac ad p r an=> ?_)
 have hE:=hE.trans aa
 have ao:=hE.size
 have ap:=AE (bl c) ad
 have f:=p;clear p
 have aq:ab<ac.heap.size:=by omega
 refine gS (Yk.alloc (cs:=(rdkC ((⟨false,0,[],[],[],[],[],0,0,false⟩,⟨.slice none 0 0, .slice none 0 0, .slice none 0 0, .slice none 0 0, .slice none 0 0⟩):Au)).toArray) Ku fun k ae s t af ar=> ?_)
 have hE:=hE.trans r
 have ag:=hE.size
 have c:=eb r c
 have au:=AE (bl c) s
 have av:=AE (bl f) s
 have g:=t;clear t
 have aw:k<ae.heap.size:=by omega
 refine BV [0,1,2,3,4,5,6,7,8] [2,3,7] [6] [0] fun ah u=> ?_
 have h:=Ext.refl ah
 have hZ1:=af.trans u
 have c:=eb hZ1 c
 have f:=eb hZ1 f
 refine BM h ?_
 refine yf (fun _ ⟨hZ,_⟩=>Yk.loadSt AG rfl (eb hZ c) zz) (ys (Yk.loadAll rfl f IU rfl (by exact Ae hid) zz) (yE (Yk.callA1 Cw rfl ((B3 _ id hid).mono ?_))))
 rintro e ax ⟨rfl,i⟩
 refine⟨_,rfl,?_⟩
 have h:=h.trans i
 refine⟨h,?_⟩
 refine yD rfl (Yk.callA4 Hq rfl rfl rfl rfl ((Qs _ q (Ad id) [] true).mono ?_))
 rintro e ay ⟨rfl,l⟩
 refine⟨_,rfl,?_⟩
 have hZ2:=i.trans l
 have c:=eb hZ2 c
 refine ys (Yk.extract (vs:= [.agg (rdkC (AK q)).toArray,NI 1]) rfl rfl zz) (yp (Yk.extract (vs:= [.agg (rdkC (AK q)).toArray,NI 1]) rfl rfl zz) (yD rfl (Yk.storeSt AG (vr (PQ j 0) rfl) (vr (.agg (rdkC (AK q)).toArray) rfl) c (AA (x:=(AK q)) rfl rfl rfl rfl rfl) fun ai v m az=> ?_)))
 have hE:=hE.trans ((hZ1.trans i).trans l)
 have hE:=Aa hE m (Nat.le_trans (Nat.le_refl _) (by omega))
 have f:=eb hZ2 f
 have f:=kb m f (by omega)
 have g:=eb ((u.trans i).trans l) g
 have g:=kb m g (by omega)
 clear c
 have c:ai.heap[j]? =some (.cells (rdkC (AK q)).toArray 31 (0,0)):=v;clear v
 have a0:=bl c
 refine gS (Yk.eqI (a:=(1:Nat)) (b:=(4:Nat)) rfl rfl (AY _ _ _ _) (kF (by decide) (cF rfl (gS (Yk.loadSt AG rfl c (gS (Yk.storeSt AG (vr (PQ k 0) rfl) (vr (.agg (rdkC (AK q)).toArray) rfl) g (AA (x:=(AK q)) rfl rfl rfl rfl rfl) fun aj y n a1=> ?_)))))))
 have hE:=Aa hE n (Nat.le_trans ag (by omega))
 have f:=kb n f (by omega)
 have c:=kb n c (by omega)
 clear g
 have g:aj.heap[k]? =some (.cells (rdkC (AK q)).toArray 31 (0,0)):=y;clear y
 have a2:=bl g
 refine B2 rfl (ResF.row rfl g (FH).choose_spec rfl (AN (Ay _) E0)) (vr (NI 1) rfl) ?_
 exact⟨rfl,hE⟩

theorem OL(w:World)(q:Int):
  Calls Tryz.prog 13 #[.agg (rdkC (AK q)).toArray] w fun e w' =>∃v o,e = .returned v∧OG w.heap.size 54 32 (Lib.byteCells) w' v o∧Cb o∧o.Nodup∧(∀x,x∈o↔x∈([]:List (List UInt8)))∧Ext w w' :=by
 refine gG (args:= [.agg (rdkC (AK q)).toArray]) Tryz.func13 rfl 58 rfl rfl ?_
 have hE:=Ext.refl w
 refine gS (Yk.box (cs:=(rdkC (AK q):List Value).toArray) (vr (.agg (rdkC (AK q)).toArray) rfl) fun g h y j l z=> ?_)
 have c:=j;clear j
 have aa:g<h.heap.size:=by omega
 refine gS (Yk.loadSt AG rfl c ?_)
 have f:=Ext.refl h
 have hE:=hE.trans l
 have ab:=hE.size
 refine gS (Yk.callA1 KQ rfl ((Ky _ q).mono ?_))
 rintro e ac ⟨rfl,i⟩
 refine⟨_,rfl,?_⟩
 have hE:=hE.trans i
 have c:=eb i c
 have f:=f.trans i
 refine gL (fun(ρ:Ai) (wz:World)=>ρ 0=(.agg (rdkC (AK q)).toArray:Value)∧ρ 1=(PQ g 0:Value)∧ρ 2=((Value.slice none 0 0):Value)∧ρ 5=(NI 0:Value)∧ρ 3=((Value.slice none 0 0):Value)∧ρ 4=((.slice none 0 0):Value)∧Ext w wz∧wz.heap[g]? =some (.cells (rdkC (AK q)).toArray 31 (0,0))∧Ext h wz∧True) (fun ρ _=>(intOf (ρ 5)).toNat) ⟨rfl,rfl,rfl,rfl,rfl,rfl,hE,c,f,trivial⟩ ?_
 clear hE c f
 rintro ad m ⟨T0,T1,T2,k,n,p,hE,c,f,-⟩
 have q5:=k
 refine gS (Yk.lenSl JV p (gS (Yk.eqI (a:=(0:Nat)) (b:=(0:Nat)) k rfl (AO _ _ _ _) (kF (by decide) (cF rfl ?_)))))
 have hsz9:w.heap.size≤m.heap.size:=hE.size
 refine gS (Yk.callA1 KR n ((Id _ (.slice none 0 0) [] (RG.nil _ _ _) (by decide)).mono ?_))
 rintro e ah ⟨r,o,rfl,s,hA,hN,hM,t⟩
 refine⟨_,rfl,?_⟩
 have u:=s
 refine AX rfl (vr r rfl) ?_
 have hE:=hE.trans t
 exact⟨_,o,rfl,OG.low u hsz9,hA,hN,hM,hE⟩
open Go.RowKit
set_option maxRecDepth 100000
set_option linter.unusedVariables false
set_option linter.unusedSimpArgs false
set_option maxHeartbeats 1600000
theorem RT(w:World)(hG:Laid w)(vb:Value)(b:List UInt8)(hr:RB w vb b)(hbl:b.length≤300):
  Calls Tryz.prog 16 #[.pointer none,vb] w fun e w' =>e = .returned (.tuple #[AB zid32, .slice none 0 0,NI 1])∧Ext w w' :=by
 refine gG (args:= [.pointer none,vb]) Tryz.func16 rfl 70 rfl rfl ?_
 have hE:=Ext.refl w
 refine gS (Yk.box1 (vr (.pointer none) rfl) rfl fun h w3 ak p ad al=> ?_)
 have c:=p;clear p
 have am:h<w3.heap.size:=by omega
 have hE:=hE.trans ad
 refine gS (Yk.box1 (vr vb rfl) (RB.one (hr.keep hE)).1 fun i ae af q r an=> ?_)
 have ao:=hE.size
 have ap:=AE (bl c) af
 have g:=q;clear q
 have aq:i<ae.heap.size:=by omega
 refine gS (Yk.alloc (cs:=(Lib.byteCells (List.replicate 32 0)).toArray) IX fun j ag s t k ar=> ?_)
 have hE:=hE.trans r
 have u:=hE.size
 have c:=eb r c
 have au:=AE (bl c) s
 have av:=AE (bl g) s
 have f:=t;clear t
 have aw:j<ag.heap.size:=by omega
 have hE:=hE.trans k
 have g:=eb k g
 refine gS (Yk.cell1 S2 rfl rfl (cellAt g rfl) (gS (Yk.lenRB S2 (RB.of (hr.keep hE) rfl) (gS (Yk.eqI (a:=(b.length:Nat)) (b:=(262144:Nat)) rfl rfl (Ca _ _ _ _) (kF (by omega) (cF rfl (gS (Yk.cell1 S2 rfl rfl (cellAt g rfl) (gS (Yk.rows1 Gk (RB.of (hr.keep hE) (vr vb rfl)) fun ah ax x l=> ?_)))))))))))
 have hE:=hE.trans l
 refine gS (Yk.callA1 Ke rfl ((GJ _ (hG.keep hE) ah b x (by omega)).mono ?_))
 rintro e ay ⟨rfl,m⟩
 refine⟨_,rfl,?_⟩
 have hZ1:=l.trans m
 have f:=eb hZ1 f
 refine gS (Yk.storeAll (vr (PQ j 0) rfl) (vr (AB (Sha.sum b)) rfl) f (by exact Bg (Sha.sum_length _) List.length_replicate) (by exact Ae (Sha.sum_length _)) (Ah _) fun az y n a0=> ?_)
 have hE:=hE.trans m
 have hE:=Aa hE n (Nat.le_trans u (by omega))
 have c:=eb ((k.trans l).trans m) c
 have c:=kb n c (by omega)
 have g:=eb hZ1 g
 have g:=kb n g (by omega)
 clear x
 clear f
 have f:=y;clear y
 have a1:=bl f
 refine gS (Yk.loadAll rfl f IU rfl (by exact Ae (Sha.sum_length _)) (gS (Yk.callA1 PH rfl ((Eh _ (Sha.sum b) (Sha.sum_length _)).mono ?_))))
 rintro e a2 ⟨rfl,z⟩
 refine⟨_,rfl,?_⟩
 have c:=eb z c
 refine gS (Yk.mkFunc (vs:= #[PQ h 0,PQ i 0]) (by simp only[List.map_toArray,List.map_cons,List.map_nil];exact congrArg List.toArray (D4 (vr (PQ h 0) rfl) (vr (PQ i 0) rfl))) (gS (Yk.cell1 JU rfl rfl (cellAt c rfl) (gS (Yk.callA2 PI rfl rfl ((J8 _ (Ad (Sha.sum b))).mono ?_))))))
 rintro e ai ⟨rfl,aa⟩
 refine⟨_,rfl,?_⟩
 have aj:RB ai (.slice none 0 0) []:=RB.nil _
 have hZ2:=z.trans aa
 have f:=eb hZ2 f
 refine gS (Yk.extract (vs:= [(.slice none 0 0),NI 1]) rfl rfl (gS (Yk.extract (vs:= [(.slice none 0 0),NI 1]) rfl rfl (gS (Yk.eqI (a:=(1:Nat)) (b:=(4:Nat)) rfl rfl (AY _ _ _ _) (kF (by decide) (cF rfl (gS (Yk.eqI (a:=(1:Nat)) (b:=(0:Nat)) rfl rfl (AZ _ _ _ _) (kT (by decide) (cT rfl (gS (Yk.eqI (a:=(1:Nat)) (b:=(0:Nat)) rfl rfl (AZ _ _ _ _) (kT (by decide) (cT rfl (gS (Yk.run (v:=AB (List.replicate 32 0)) (by kernel_rfl) (gS (Yk.storeAll (vr (PQ j 0) rfl) (vr (AB (List.replicate 32 0)) rfl) f (by exact Bg List.length_replicate (Sha.sum_length _)) (by exact Ae List.length_replicate) (Ah _) fun a3 ab o a4=> ?_)))))))))))))))))))
 have hE:=hE.trans hZ2
 have hE:=Aa hE o (Nat.le_trans u (by omega))
 have c:=eb aa c
 have c:=kb o c (by omega)
 have g:=eb hZ2 g
 have g:=kb o g (by omega)
 clear aj
 clear f
 have f:=ab;clear ab
 have a5:=bl f
 refine HF rfl (ResF.row rfl f IU rfl (by exact Ae List.length_replicate)) (vr (Value.slice none 0 0) rfl) (vr (NI 1) rfl) ?_
 exact⟨rfl,hE⟩

theorem LW(w:World)(id:List UInt8)(hid:id.length=32):
  Calls Tryz.prog 19 #[.pointer none,AB id] w fun e w' =>e = .returned (.tuple #[.slice none 0 0,NI 1])∧Ext w w' :=by
 refine gG (args:= [.pointer none,AB id]) Tryz.func19 rfl 30 rfl rfl ?_
 have hE:=Ext.refl w
 refine gS (Yk.box (cs:=(Lib.byteCells id:List Value).toArray) (vr (AB id) rfl) fun f g p c h q=> ?_)
 have i:=c;clear c
 have r:f<g.heap.size:=by omega
 refine gS (Yk.loadAll rfl i IU rfl (by exact Ae hid) (gS (Yk.callA1 PH rfl ((Eh _ id hid).mono ?_))))
 rintro e s ⟨rfl,j⟩
 refine⟨_,rfl,?_⟩
 refine gS (Yk.callA2 PI rfl rfl ((J8 _ (Ad id)).mono ?_))
 rintro e k ⟨rfl,l⟩
 refine⟨_,rfl,?_⟩
 have t:RB k (.slice none 0 0) []:=RB.nil _
 refine gS (Yk.extract (vs:= [(.slice none 0 0),NI 1]) rfl rfl (gS (Yk.extract (vs:= [(.slice none 0 0),NI 1]) rfl rfl (BV [0,1,2,3,4,5,6,9,7,8,10,11,12] [7,8] [] [9] fun m n=> ?_))))
 have o:=Ext.refl m
 refine BM o ?_
 refine ys (Yk.eqI (a:=(1:Nat)) (b:=(4:Nat)) rfl rfl (AY _ _ _ _) zz) (kF (by decide) (ys (Yk.eqI (a:=(1:Nat)) (b:=(0:Nat)) rfl rfl (AY _ _ _ _) zz) (kF (by decide) (ys (Yk.pickF rfl rfl zz) (ys (Yk.pickF rfl rfl zz) (cF rfl (Dh rfl (vr (.slice none 0 0) rfl) (vr (NI 1) rfl) ?_)))))))
 have hE:=hE.trans (((h.trans j).trans l).trans n)
 exact⟨rfl,hE⟩

theorem QF(w:World)(id:List UInt8)(hid:id.length=32):
  Calls Tryz.prog 21 #[.pointer none,AB id] w fun e w' =>e = .returned (.bool false)∧Ext w w' :=by
 refine gG (args:= [.pointer none,AB id]) Tryz.func21 rfl 15 rfl rfl ?_
 have hE:=Ext.refl w
 refine gS (Yk.box (cs:=(Lib.byteCells id:List Value).toArray) (vr (AB id) rfl) fun f g k c h l=> ?_)
 have i:=c;clear c
 have m:f<g.heap.size:=by omega
 refine gS (Yk.loadAll rfl i IU rfl (by exact Ae hid) (gS (Yk.callA2 PK rfl rfl ((LW _ id hid).mono ?_))))
 rintro e n ⟨rfl,j⟩
 refine⟨_,rfl,?_⟩
 refine gS (Yk.extract (vs:= [.slice none 0 0,NI 1]) rfl rfl (gS (Yk.extract (vs:= [.slice none 0 0,NI 1]) rfl rfl (gS (Yk.eqI (a:=(1:Nat)) (b:=(0:Nat)) rfl rfl (AY _ _ _ _) (kF (by decide) (AX rfl (vr (.bool (false)) rfl) ?_)))))))
 have hE:=hE.trans (h.trans j)
 exact⟨rfl,hE⟩

theorem OM(w:World)(id:List UInt8)(hid:id.length=32):
  Calls Tryz.prog 22 #[.pointer none,AB id] w fun e w' =>e = .returned (NI 1)∧Ext w w' :=by
 refine gG (args:= [.pointer none,AB id]) Tryz.func22 rfl 13 rfl rfl ?_
 have hE:=Ext.refl w
 refine gS (Yk.box (cs:=(Lib.byteCells id:List Value).toArray) (vr (AB id) rfl) fun f g l c h m=> ?_)
 have i:=c;clear c
 have n:f<g.heap.size:=by omega
 refine gS (Yk.loadAll rfl i IU rfl (by exact Ae hid) (gS (Yk.callA1 PH rfl ((Eh _ id hid).mono ?_))))
 rintro e o ⟨rfl,j⟩
 refine⟨_,rfl,?_⟩
 refine gS (Yk.callA2 PL rfl rfl ((Pp _ (Ad id)).mono ?_))
 rintro e p ⟨rfl,k⟩
 refine⟨_,rfl,?_⟩
 refine gS (Yk.eqI (a:=(1:Nat)) (b:=(4:Nat)) rfl rfl (AY _ _ _ _) (kF (by decide) (cF rfl (AX rfl (vr (NI 1) rfl) ?_))))
 have hE:=hE.trans ((h.trans j).trans k)
 exact⟨rfl,hE⟩

theorem ON(w:World):
  Calls Tryz.prog 12 #[.pointer none] w fun e w' =>∃v o,e = .returned v∧OG w.heap.size 54 32 (Lib.byteCells) w' v o∧Ew o∧(∀x,x∈o↔x∈([]:List (List UInt8)))∧Ext w w' :=by
 refine gG (args:= [.pointer none]) Tryz.func12 rfl 31 rfl rfl ?_
 have hE:=Ext.refl w
 refine gS (Yk.box1 (vr (.pointer none) rfl) rfl fun c j t g k u=> ?_)
 have f:=g;clear g
 have y:c<j.heap.size:=by omega
 refine gS (Yk.mkFunc (vs:= #[PQ c 0]) (by simp only[List.map_toArray,List.map_cons,List.map_nil];exact congrArg List.toArray (HC (vr (PQ c 0) rfl))) (gS (Yk.cell1 JU rfl rfl (cellAt f rfl) (gS (Yk.callA1 RA rfl ((J9 _).mono ?_))))))
 rintro e z ⟨rfl,h⟩
 refine⟨_,rfl,?_⟩
 have hE:=hE.trans (k.trans h)
 have f:=eb h f
 refine gS (Yk.lenSl JV rfl (gL (fun(ρ:Ai) (wz:World)=>ρ 0=(.pointer none:Value)∧ρ 1=(PQ c 0:Value)∧ρ 2=((Value.slice none 0 0):Value)∧ρ 3=(.func (.func 34) #[] #[PQ c 0]:Value)∧ρ 13=(NI 0:Value)∧ρ 4=((Value.slice none 0 0):Value)∧ρ 11=((.slice none 0 0):Value)∧ρ 12=(NI 0:Value)∧Ext w wz∧wz.heap[c]? =some (.cells (([.pointer none]:List Value)).toArray 24 (0,0))∧True) (fun ρ _=>(intOf (ρ 13)).toNat) ⟨rfl,rfl,rfl,rfl,rfl,rfl,rfl,rfl,hE,f,trivial⟩ ?_))
 clear hE f
 rintro aa l ⟨T0,T1,T2,T3,i,m,af,n,hE,f,-⟩
 have q13:=i
 refine gS (Yk.eqI (a:=(0:Nat)) (b:=(0:Nat)) i n (AO _ _ _ _) (kF (by decide) (cF rfl ?_)))
 have hsz9:w.heap.size≤l.heap.size:=hE.size
 refine gS (Yk.callA1 PY m ((LI _ (.slice none 0 0) [] (RG.nil _ _ _) (by decide)).mono ?_))
 rintro e ag ⟨p,o,rfl,q,hS,hM,hN,r⟩
 refine⟨_,rfl,?_⟩
 have s:=q
 refine AX rfl (vr p rfl) ?_
 have hE:=hE.trans r
 exact⟨_,o,rfl,OG.low s hsz9,hS,hM,hE⟩
open Go.RowKit
set_option linter.unusedVariables false
def BE(H:Dk)(n:Nat)(Q:Nat→Prop)(i:Nat):Prop:=¬A1 H n i∧¬Q i
section
variable {base : Nat} {w w' wb : World} {g : Nat} {H H' : Dk} {D D' : An}
theorem DkG.offq(h:DkG wb w g H D){Q:Nat→Prop}(hQ:∀i,Q i→i<w.heap.size):∀b,w.heap.size≤b→BE H D.files.length Q b:=fun b hb=>
  ⟨fun q=>by have:=(h.st.foot q).2.1;omega,fun q=>by have:=hQ b q;omega⟩
section
variable {P P' Q Q' : Nat → Prop} {n : Nat} {V : Cn} {D1 D1' : An}
theorem RdAt.mono(h:RdAt P w D V)(hP:∀b,b<w.heap.size→P b→P' b):RdAt P' w D V:=h.chg (Chg.refl (fun _=>False) w) fun b hb hp=>⟨id,hP b hb hp⟩
theorem RdAt.stepQ(h:RdAt (BE H D1.files.length Q) w D V)(hW:DkW wb w g H D1 w' H' D1'):RdAt (BE H' D1'.files.length Q) w' D V:=
  h.chg hW.chg fun b hb hp=>⟨hp.1,fun q=>(hW.foot b q).elim hp.1 fun r=>by omega,hp.2⟩
theorem RdAt.setQ(h:RdAt (BE H n Q) w D V){b:Nat}(hg:w.grownBy w' (some b))(hq:Q b):RdAt (BE H n Q) w' D V:=
  h.chg (B:=fun i=>i=b) (Chg.ofGrown hg fun i e=> .inl (Option.some.inj e).symm) fun i hi hp=>⟨fun e=>hp.2 (e▸hq),hp⟩
theorem RdAt.addQ(h:RdAt (BE H n Q) w D V)(hE:Ext w w'){a b:Nat}(ha:w.heap.size≤a)(hb:w.heap.size≤b):RdAt (BE H n fun i=>Q i∨i=a∨i=b) w' D V:=
  (h.mono fun i hi hp=>⟨hp.1,fun q=>by rcases q with q | q | q;exact hp.2 q;omega;omega⟩).keep hE
theorem RdAt.gapQ{wc:World}(h:RdAt (BE H n Q) w D V)(k:Ext w wc):RdAt (BE H n fun i=>Q i∨(w.heap.size≤i∧i<wc.heap.size)) wc D V:=(h.mono fun i hi hp=>⟨hp.1,fun q=>q.elim hp.2 fun q=>by omega⟩).keep k
theorem RdAt.gapM{a c m:Nat}(h:RdAt (BE H n fun i=>Q i∨(a≤i∧i<c)) w D V)(k:Ext w w')(h0:a≤m)(h1:m<c∨w.heap.size≤m):RdAt (BE H n fun i=>Q i∨i=m) w' D V:=
  (h.mono fun i hi hp=>⟨hp.1,fun q=>q.elim (fun q=>hp.2 (.inl q)) fun q=>by subst q;rcases h1 with h1 | h1;exact hp.2 (.inr ⟨h0,h1⟩);omega⟩).keep k
theorem RdAt.subQ(h:RdAt (BE H n Q) w D V)(hq:∀i,Q' i→Q i):RdAt (BE H n Q') w D V:=h.mono fun i _ hp=>⟨hp.1,fun q=>hp.2 (hq i q)⟩
end
end
end Go.Proofs.YtejpjjhkjdpeaaaGreatDoor
