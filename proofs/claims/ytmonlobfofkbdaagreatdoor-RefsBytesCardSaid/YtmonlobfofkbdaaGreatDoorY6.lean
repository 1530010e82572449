/- Part 6 of what stands behind these statements: laws and walks of the functions that are reached. Conditions: those that each theorem names. -/
import Derived.Test.YtmonlobfofkbdaaGreatDoorY5
set_option linter.unusedVariables false
set_option linter.unusedSimpArgs false
namespace Go.Proofs.YtmonlobfofkbdaaGreatDoor
open Go.RowKit
set_option maxRecDepth 100000
theorem M9{b:Bs}{s t:List AM × Nat}(h:CF b s=some t):t.1.length=s.1.length+1:=by
 unfold CF at h
 cases hn:C5 b s.2 with
 | none=>rw[hn]at h;cases h
 | some x=>rw[hn]at h;cases h;simp
theorem J8:AI Tryz.prog 45:=fun _ _=>by kernel_rfl
theorem O2:AI Tryz.prog 49:=fun _ _=>by kernel_rfl
theorem O3:∀(cs:Array Value),cs.size=67→∀w:World,(Instr.buildSlice 25 1 #[(0, .agg cs)]).run Tryz.prog w = .ok (.slice (some ⟨w.heap.size,0,none⟩) 1 1) (w.alloc (.cells cs 50))
 | ⟨c0 :: c1 :: c2 :: c3 :: c4 :: c5 :: c6 :: c7 :: c8 :: c9 :: c10 :: c11 :: c12 :: c13 :: c14 :: c15 :: c16 :: c17 :: c18 :: c19 :: c20 :: c21 :: c22 :: c23 :: c24 :: c25 :: c26 :: c27 :: c28 :: c29 :: c30 :: c31 :: c32 :: c33 :: c34 :: c35 :: c36 :: c37 :: c38 :: c39 :: c40 :: c41 :: c42 :: c43 :: c44 :: c45 :: c46 :: c47 :: c48 :: c49 :: c50 :: c51 :: c52 :: c53 :: c54 :: c55 :: c56 :: c57 :: c58 :: c59 :: c60 :: c61 :: c62 :: c63 :: c64 :: c65 :: c66 :: []⟩,_,w=>Ot c0 c1 c2 c3 c4 c5 c6 c7 c8 c9 c10 c11 c12 c13 c14 c15 c16 c17 c18 c19 c20 c21 c22 c23 c24 c25 c26 c27 c28 c29 c30 c31 c32 c33 c34 c35 c36 c37 c38 c39 c40 c41 c42 c43 c44 c45 c46 c47 c48 c49 c50 c51 c52 c53 c54 c55 c56 c57 c58 c59 c60 c61 c62 c63 c64 c65 c66 w
set_option maxHeartbeats 3200000
theorem O4{w0 w:World}{r:Nat}{v:Value}{b:Bs}(c:Ext w0 w)(hb:w.heap[r]? =some (.cells (Bz (Bj v b (0))).toArray 68 (0,0)))(hr:RB w0 v b)(lr:w0.heap.size≤r)(hl:b.length≤4611686018427387904):
  Calls Tryz.prog 23 #[PQ r 0] w fun e w' =>(∃x,e = .returned x∧∃X:Ah,B2 b=some X.1∧x = .agg (refsC X).toArray∧RefsOw w0.heap.size w' X∧Ext w0 w')∨∃ch,e = .panicked ch∧B2 b=none∧ch= [CS]∧Ext w0 w' :=by
 have fy:=c.size
 have hlr:=(bl hb)
 have hapr:b= []∨OB v r:=by
   rcases b with _ | ⟨b0,b1⟩
   ·exact .inl rfl
   ·exact .inr fun e=>by have:=RB.lt hr (by simp) e;omega
 refine CP (args:= [PQ r 0]) Tryz.func23 rfl 63 rfl (Nat.le_of_ble_eq_true rfl) ?_
 intro ct hb
 have u:ct 0=(PQ r 0:Value):=hb.get 0
 clear hb
 have hE:=Ext.refl w
 refine sk fun K1 cu=>(wt (oS rfl (Yk.alloc (cs:=(refsC ((⟨[],[],[],zid,[]⟩,⟨.slice none 0 0, .slice none 0 0, .slice none 0 0⟩):Ah)).toArray) N8 fun n2 w3 cw bz bf f0=> ?_)))
 have bg:=Ext.refl w
 have f1:=hE.size
 have cx:=c.size
 have f2:=Bc (bl hb) cw
 have c:=c.trans bf
 have hb:=eb bf hb
 have hE:=hE.trans bf
 have bg:=bg.trans bf
 have o:=bz;clear bz
 have f3:n2<w3.heap.size:=by omega
 refine oZ (tN (cu _ _ (sk fun f4 cy=>(wt (oS rfl (Yk.alloc (cs:=(refsC ((⟨[],[],[],zid,[]⟩,⟨.slice none 0 0, .slice none 0 0, .slice none 0 0⟩):Ah)).toArray) N8 fun aa cz b2 b3 bj f5=> ?_))))))
 have f6:=hE.size
 have a4:=c.size
 have f7:=bg.size
 have f8:=Bc (bl hb) b2
 have f9:=Bc (bl o) b2
 have c:=c.trans bj
 have hb:=eb bj hb
 have o:=eb bj o
 have q:=b3;clear b3
 have ga:aa<cz.heap.size:=by omega
 refine oZ (tN (cy _ _ (sk fun gb c0=>(wt (oM rfl ?_)))))
 have hz_:=c.size
 refine oP rfl (Yp.callA1 J8 u ?_)
 refine AV (J7 c hb hr lr (Nat.zero_le _) hl) ?_ ?_
 rotate_left
 ·
  rintro ch gc ⟨hPx,rfl,hgx⟩
  refine AD (A1 ?_)
  exact .inr ⟨_,rfl,by unfold B2;simp only[hPx,Option.bind_some,Option.bind_none],rfl,Af c hgx lr⟩
 rintro v_ gd ⟨u1,l1,i1,ad,rfl,g,hbq1,hle_i1,hgq1⟩
 have c:=Af c hgq1 (Nat.le_trans (Nat.le_refl _) lr)
 clear hE
 clear bg
 have o:=kb hgq1 o (by omega)
 have q:=kb hgq1 q (by omega)
 clear hb
 have hb:=hbq1;clear hbq1
 have ge:=bl hb
 have g:=OG.low g hz_
 refine oS rfl (Yk.fieldAt LU (vr (PQ aa 0) rfl) ?_)
 have c1:=OG.off g q (by decide)
 refine oS rfl (Yk.storeC (i:=0) (v:=u1) (vr (PQ aa 0) rfl) (vr u1 rfl) q (by rw[Ao];decide) IL (RG.one (RG.ofOwn g)).1 (RG.one (RG.ofOwn g)).2 fun c2 b4 bh gf=> ?_)
 have c:=Af c bh (Nat.le_trans a4 (by omega))
 have o:=kb bh o (by omega)
 have hb:=kb bh hb (by omega)
 have g:=OG.kept g bh c1
 clear q
 have q:c2.heap[aa]? =some (.cells (refsC ((⟨l1,[],[],zid,[]⟩,⟨u1,(Value.slice none 0 0),(Value.slice none 0 0)⟩):Ah)).toArray 35 (0,0)):=AG b4 (E2 ((⟨[],[],[],zid,[]⟩,⟨.slice none 0 0, .slice none 0 0, .slice none 0 0⟩):Ah) u1 (l1));clear b4
 have gg:=bl q
 refine oZ (tN (c0 _ _ (sk fun gh c3=>(wt (oM rfl ?_)))))
 have c4:=OG.off g hb (by decide)
 have hz_:=c.size
 refine oP rfl (Yp.callA1 J8 u ?_)
 refine AV (J7 c hb hr lr hle_i1 hl) ?_ ?_
 rotate_left
 ·
  rintro ch gi ⟨hPx,rfl,hgx⟩
  refine AD (A1 ?_)
  exact .inr ⟨_,rfl,by unfold B2;simp only[ad,hPx,Option.bind_some,Option.bind_none],rfl,Af c hgx lr⟩
 rintro v_ gj ⟨u2,l2,i2,af,rfl,l,hbq2,hle_i2,hgq2⟩
 have c:=Af c hgq2 (Nat.le_trans (Nat.le_refl _) lr)
 have o:=kb hgq2 o (by omega)
 have g:=OG.kept g hgq2 c4
 have q:=kb hgq2 q (by omega)
 clear hb
 have hb:=hbq2;clear hbq2
 have gk:=bl hb
 have l:=OG.low l hz_
 refine oS rfl (Yk.fieldAt LV (vr (PQ aa 0) rfl) ?_)
 have c5:=OG.off g q (by decide)
 have c6:=OG.off l q (by decide)
 refine oS rfl (Yk.storeC (i:=1) (v:=u2) (vr (PQ aa 1) rfl) (vr u2 rfl) q (by rw[Ao];decide) IL (RG.one (RG.ofOwn l)).1 (RG.one (RG.ofOwn l)).2 fun c7 b5 a5 gl=> ?_)
 have c:=Af c a5 (Nat.le_trans a4 (by omega))
 have o:=kb a5 o (by omega)
 have g:=OG.kept g a5 c5
 have hb:=kb a5 hb (by omega)
 have l:=OG.kept l a5 c6
 clear q
 have q:c7.heap[aa]? =some (.cells (refsC ((⟨l1,l2,[],zid,[]⟩,⟨u1,u2,(Value.slice none 0 0)⟩):Ah)).toArray 35 (0,0)):=AG b5 (E3 ((⟨l1,[],[],zid,[]⟩,⟨u1,(Value.slice none 0 0),(Value.slice none 0 0)⟩):Ah) u2 (l2));clear b5
 have gm:=bl q
 refine oZ (tN (c3 _ _ (sk fun gn c8=>(wt (oM rfl ?_)))))
 have c9:=OG.off g hb (by decide)
 have da:=OG.off l hb (by decide)
 refine oP rfl (Yp.callA1 OZ u ?_)
 refine AV (FC _ r v b i2 hb (hr.keep c) hapr hle_i2 hl) ?_ ?_
 rotate_left
 ·
  rintro ch go ⟨hPx,rfl,hgx⟩
  refine AD (A1 ?_)
  exact .inr ⟨_,rfl,by unfold B2;simp only[ad,af,hPx,Option.bind_some,Option.bind_none],rfl,Af c hgx lr⟩
 rintro v_ gp ⟨d3,i3,hP3,rfl,b6,a6⟩
 have c:=Af c a6 (Nat.le_trans (Nat.le_refl _) lr)
 have o:=kb a6 o (by omega)
 have g:=OG.kept g a6 c9
 have l:=OG.kept l a6 da
 have q:=kb a6 q (by omega)
 clear hb
 have hb:=b6;clear b6
 have hle_i3:=(txtP_le hP3).1
 have gq:=bl hb
 refine oS rfl (Yk.fieldAt FK (vr (PQ aa 0) rfl) ?_)
 have db:=OG.off g q (by decide)
 have dc:=OG.off l q (by decide)
 refine oS rfl (Yk.storeC (i:=2) (v:=St (d3)) (vr (PQ aa 2) rfl) (vr (St (d3)) rfl) q (by rw[Ao];decide) Ob rfl rfl fun dd b7 a7 gr=> ?_)
 have c:=Af c a7 (Nat.le_trans a4 (by omega))
 have o:=kb a7 o (by omega)
 have g:=OG.kept g a7 db
 have l:=OG.kept l a7 dc
 have hb:=kb a7 hb (by omega)
 clear q
 have q:dd.heap[aa]? =some (.cells (refsC ((⟨l1,l2,d3,zid,[]⟩,⟨u1,u2,(Value.slice none 0 0)⟩):Ah)).toArray 35 (0,0)):=AG b7 (FZ ((⟨l1,l2,[],zid,[]⟩,⟨u1,u2,(Value.slice none 0 0)⟩):Ah) d3);clear b7
 have gs:=bl q
 refine oZ (tN (c8 _ _ (sk fun gt de=>(wt (oM rfl ?_)))))
 have df:=OG.off g hb (by decide)
 have dg:=OG.off l hb (by decide)
 refine oP rfl (Yp.callA1 O0 u ?_)
 refine AV (Hy _ r v b i3 hb (hr.keep c) hapr hle_i3 hl) ?_ ?_
 rotate_left
 ·
  rintro ch gu ⟨hPx,rfl,hgx⟩
  refine AD (A1 ?_)
  exact .inr ⟨_,rfl,by unfold B2;simp only[ad,af,hP3,hPx,Option.bind_some,Option.bind_none],rfl,Af c hgx lr⟩
 rintro v_ gv ⟨d4,i4,hP4,rfl,b8,a8⟩
 have c:=Af c a8 (Nat.le_trans (Nat.le_refl _) lr)
 have o:=kb a8 o (by omega)
 have g:=OG.kept g a8 df
 have l:=OG.kept l a8 dg
 have q:=kb a8 q (by omega)
 clear hb
 have hb:=b8;clear b8
 have hle_i4:=IC hP4
 have gw:=bl hb
 refine oS rfl (Yk.fieldAt HM (vr (PQ aa 0) rfl) ?_)
 have dh:=OG.off g q (by decide)
 have di:=OG.off l q (by decide)
 refine oS rfl (Yk.storeMid (a:=Dq ((⟨l1,l2,d3,zid,[]⟩,⟨u1,u2,(Value.slice none 0 0)⟩):Ah)) (m:=Lib.byteCells zid.1) (z:=D0 ((⟨l1,l2,d3,zid,[]⟩,⟨u1,u2,(Value.slice none 0 0)⟩):Ah)) (cells:=Lib.byteCells d4.1) (vr (PQ aa 3) rfl) (vr (AB d4.1) rfl) (B7 ((⟨l1,l2,d3,zid,[]⟩,⟨u1,u2,(Value.slice none 0 0)⟩):Ah)▸q) (Cm ((⟨l1,l2,d3,zid,[]⟩,⟨u1,u2,(Value.slice none 0 0)⟩):Ah)) (by rw[Lib.byteCells_length,Lib.byteCells_length,zid.2,d4.2]) (by rw[Lib.byteCells_length,d4.2];exact Nw) (Ay _) fun dj b9 a9 gx=> ?_)
 have c:=Af c a9 (Nat.le_trans a4 (by omega))
 have o:=kb a9 o (by omega)
 have g:=OG.kept g a9 dh
 have l:=OG.kept l a9 di
 have hb:=kb a9 hb (by omega)
 clear q
 have q:dj.heap[aa]? =some (.cells (refsC ((⟨l1,l2,d3,d4,[]⟩,⟨u1,u2,(Value.slice none 0 0)⟩):Ah)).toArray 35 (0,0)):=AG b9 (F0 ((⟨l1,l2,d3,zid,[]⟩,⟨u1,u2,(Value.slice none 0 0)⟩):Ah) d4);clear b9
 have gy:=bl q
 refine oZ (tN (de _ _ (sk fun gz ca=>(sk fun g0 dk=>(wt (oM rfl ?_))))))
 have dl:=OG.off g hb (by decide)
 have dm:=OG.off l hb (by decide)
 refine oP rfl (Yp.callA2 OY u (vr (NI 64) rfl) ?_)
 refine AV (H1 _ r v b i4 hb (hr.keep c) hapr hle_i4 hl 64) ?_ ?_
 rotate_left
 ·
  rintro ch g1 ⟨hPx,rfl,hgx⟩
  refine AD (AD (A1 ?_))
  exact .inr ⟨_,rfl,by unfold B2;simp only[ad,af,hP3,hP4,PT hPx,Option.bind_some,Option.bind_none],rfl,Af c hgx lr⟩
 rintro v_ g2 ⟨n,j,hP,rfl,cb,ba⟩
 have c:=Af c ba (Nat.le_trans (Nat.le_refl _) lr)
 have o:=kb ba o (by omega)
 have g:=OG.kept g ba dl
 have l:=OG.kept l ba dm
 have q:=kb ba q (by omega)
 clear hb
 have hb:=cb;clear cb
 have hle_j:=(F6 hle_i4 hP).1
 have g3:=bl hb
 refine oM rfl (A3 [(0,PQ r 0),(2,PQ n2 0),(3,PQ aa 0),(18,NI n),(19,NI 0)] ⟨u,rfl,rfl,rfl,rfl,trivial⟩ fun g4 ⟨u,T2,T3,ag,ac,_⟩=> ?_)
 have hnl:=(F6 hle_i4 hP).2.1
 refine tN (dk _ _ (Av (A4 (fun(ρ:Au) (wz:World)=>∃k:Nat,∃j0:Nat,∃lo:List AM,∃vl:Value,ρ 0=(PQ r 0:Value)∧ρ 2=(PQ n2 0:Value)∧ρ 3=(PQ aa 0:Value)∧ρ 18=(NI n:Value)∧ρ 19=(NI k:Value)∧Ext w0 wz∧wz.heap[n2]? =some (.cells (refsC ((⟨[],[],[],zid,[]⟩,⟨.slice none 0 0, .slice none 0 0, .slice none 0 0⟩):Ah)).toArray 35 (0,0))∧OG w0.heap.size 60 33 nmdC wz u1 l1∧OG w0.heap.size 60 33 nmdC wz u2 l2∧wz.heap[r]? =some (.cells (Bz (Bj v b (j0))).toArray 68 (0,0))∧wz.heap[aa]? =some (.cells (refsC ((⟨l1,l2,d3,d4,lo⟩,⟨u1,u2,vl⟩):Ah)).toArray 35 (0,0))∧OG w0.heap.size 50 67 entC wz vl lo∧(k≤n)∧(j0≤b.length)∧(CT (CF b) k ([],j)=some (lo,j0))∧True) (fun ρ _=>n-(intOf (ρ 19)).toNat) ⟨0,j,[],(Value.slice none 0 0),u,T2,T3,ag,ac,c,o,g,l,hb,q,OG.nil _ _ _ _ _,Nat.zero_le _,hle_j,rfl,trivial⟩ ?_)))
 clear q
 clear hb
 clear c o g l
 rintro dn g5 ⟨k,j0,lo,vl,u,T2,T3,ag,ac,c,o,g,l,hb,hbo,hol,hk,hj0,hit,-⟩
 have q19:=ac
 have hlg3:=(bl hbo)
 refine sk fun g6 dp=>(wt (oS rfl (Yk.eqI (a:=(k:Nat)) (b:=(n:Nat)) ac ag (AX _ _ _ _) (oZ (tN (dp _ _ (sk fun g7 dq=> ?_)))))))
 refine AL ((k)<(n)) (vr (.bool (decide ((k)<(n)))) rfl) (fun cc=> ?_) (fun cc=> ?_)
 ·have hlt:k<n:=cc
  have hol_:lo.length=k:=by have:=Ht (f:=CF b) (fun s t h=>M9 h) k hit;simpa using this
  refine Aq (tN (dq _ _ (sk fun g8 dr=>(Av (sk fun g9 ds=>(wt (oS rfl (Yk.alloc (cs:=(entC (⟨0,[],zid,zid,[]⟩:AM)).toArray) NJ fun y dt bk cd aj ha=> ?_))))))))
  have bb:=c.size
  have hc:=Bc (bl o) bk
  have hd:=Bc (bl hb) bk
  have hg:=Bc (bl hbo) bk
  have bc:OB vl y:=CY hol.2 (by omega)
  have c:=c.trans aj
  have o:=eb aj o
  have g:=g.keep aj
  have l:=l.keep aj
  have hb:=eb aj hb
  have hbo:=eb aj hbo
  have hol:=hol.keep aj
  have p:=cd;clear cd
  have hh:y<dt.heap.size:=by omega
  refine oZ (tN (ds _ _ (sk fun hi du=>(wt (oM rfl ?_)))))
  have dv:=OG.off g hb (by decide)
  have dw:=OG.off l hb (by decide)
  have dx:=OG.off hol hb (by decide)
  refine oP rfl (Yp.callA1 O2 u ?_)
  refine AV (OJ _ r v b j0 hb (hr.keep c) hapr hj0 hl) ?_ ?_
  rotate_left
  ·
   rintro ch hm ⟨hPx,rfl,hgx⟩
   refine AD (Bu (AD (AD (Bu (AD (A1 ?_))))))
   exact .inr ⟨_,rfl,by unfold B2;simp only[ad,af,hP3,hP4,Hd hP hlt hit (show C5 b j0=none by unfold C5;simp only[hPx,Option.bind_some,Option.bind_none]),Option.bind_some,Option.bind_none],rfl,Af c hgx lr⟩
  rintro v_ hn ⟨d5,i5,hP5,rfl,ce,ak⟩
  have c:=Af c ak (Nat.le_trans (Nat.le_refl _) lr)
  have o:=kb ak o (by omega)
  have g:=OG.kept g ak dv
  have l:=OG.kept l ak dw
  have hbo:=kb ak hbo (by omega)
  have hol:=OG.kept hol ak dx
  have p:=kb ak p (by omega)
  clear hb
  have hb:=ce;clear ce
  have hle_i5:=Pw hP5
  have ho:=bl hb
  refine oS rfl (Yk.fieldAt HN (vr (PQ y 0) rfl) (oS rfl (Yk.fieldAt LW (vr (PQ y 0) rfl) ?_)))
  have dy:=OG.off g p (by decide)
  have dz:=OG.off l p (by decide)
  refine oS rfl (Yk.storeC (i:=0) (v:=B8 (d5)) (vr (PQ y 0) rfl) (vr (B8 (d5)) rfl) p (by rw[Bp];decide) Q0 rfl rfl fun d0 cf al hp=> ?_)
  have c:=Af c al (Nat.le_trans bb (by omega))
  have o:=kb al o (by omega)
  have g:=OG.kept g al dy
  have l:=OG.kept l al dz
  have hbo:=kb al hbo (by omega)
  have hol:=OG.kept hol al bc
  have hb:=kb al hb (by omega)
  clear p
  have p:d0.heap[y]? =some (.cells (entC (⟨d5,[],zid,zid,[]⟩:AM)).toArray 50 (0,0)):=AG cf (Nr (⟨0,[],zid,zid,[]⟩:AM) d5);clear cf
  have hq:=bl p
  refine oZ (tN (du _ _ (sk fun hs d1=>(wt (oM rfl ?_)))))
  have d2:=OG.off g hb (by decide)
  have ea:=OG.off l hb (by decide)
  have ec:=OG.off hol hb (by decide)
  refine oP rfl (Yp.callA1 OZ u ?_)
  refine AV (FC _ r v b i5 hb (hr.keep c) hapr hle_i5 hl) ?_ ?_
  rotate_left
  ·
   rintro ch ht ⟨hPx,rfl,hgx⟩
   refine AD (Bu (AD (AD (Bu (AD (A1 ?_))))))
   exact .inr ⟨_,rfl,by unfold B2;simp only[ad,af,hP3,hP4,Hd hP hlt hit (show C5 b j0=none by unfold C5;simp only[hP5,hPx,Option.bind_some,Option.bind_none]),Option.bind_some,Option.bind_none],rfl,Af c hgx lr⟩
  rintro v_ hu ⟨d6,i6,hP6,rfl,cg,am⟩
  have c:=Af c am (Nat.le_trans (Nat.le_refl _) lr)
  have o:=kb am o (by omega)
  have g:=OG.kept g am d2
  have l:=OG.kept l am ea
  have hbo:=kb am hbo (by omega)
  have hol:=OG.kept hol am ec
  have p:=kb am p (by omega)
  clear hb
  have hb:=cg;clear cg
  have hle_i6:=(txtP_le hP6).1
  have hv:=bl hb
  refine oS rfl (Yk.fieldAt HN (vr (PQ y 0) rfl) (oS rfl (Yk.fieldAt LY (vr (PQ y 0) rfl) ?_)))
  have ed:=OG.off g p (by decide)
  have ee:=OG.off l p (by decide)
  refine oS rfl (Yk.storeC (i:=1) (v:=St (d6)) (vr (PQ y 1) rfl) (vr (St (d6)) rfl) p (by rw[Bp];decide) Ob rfl rfl fun ef ci an hw=> ?_)
  have c:=Af c an (Nat.le_trans bb (by omega))
  have o:=kb an o (by omega)
  have g:=OG.kept g an ed
  have l:=OG.kept l an ee
  have hbo:=kb an hbo (by omega)
  have hol:=OG.kept hol an bc
  have hb:=kb an hb (by omega)
  clear p
  have p:ef.heap[y]? =some (.cells (entC (⟨d5,d6,zid,zid,[]⟩:AM)).toArray 50 (0,0)):=AG ci (KR (⟨d5,[],zid,zid,[]⟩:AM) d6);clear ci
  have hy:=bl p
  refine oZ (tN (d1 _ _ (sk fun hz eg=>(wt (oM rfl ?_)))))
  have eh:=OG.off g hb (by decide)
  have ei:=OG.off l hb (by decide)
  have ej:=OG.off hol hb (by decide)
  refine oP rfl (Yp.callA1 O0 u ?_)
  refine AV (Hy _ r v b i6 hb (hr.keep c) hapr hle_i6 hl) ?_ ?_
  rotate_left
  ·
   rintro ch h0 ⟨hPx,rfl,hgx⟩
   refine AD (Bu (AD (AD (Bu (AD (A1 ?_))))))
   exact .inr ⟨_,rfl,by unfold B2;simp only[ad,af,hP3,hP4,Hd hP hlt hit (show C5 b j0=none by unfold C5;simp only[hP5,hP6,hPx,Option.bind_some,Option.bind_none]),Option.bind_some,Option.bind_none],rfl,Af c hgx lr⟩
  rintro v_ h1 ⟨d7,i7,hP7,rfl,cj,ao⟩
  have c:=Af c ao (Nat.le_trans (Nat.le_refl _) lr)
  have o:=kb ao o (by omega)
  have g:=OG.kept g ao eh
  have l:=OG.kept l ao ei
  have hbo:=kb ao hbo (by omega)
  have hol:=OG.kept hol ao ej
  have p:=kb ao p (by omega)
  clear hb
  have hb:=cj;clear cj
  have hle_i7:=IC hP7
  have h2:=bl hb
  refine oS rfl (Yk.fieldAt HN (vr (PQ y 0) rfl) (oS rfl (Yk.fieldAt HU (vr (PQ y 0) rfl) ?_)))
  have el:=OG.off g p (by decide)
  have em:=OG.off l p (by decide)
  refine oS rfl (Yk.storeMid (a:=Ew (⟨d5,d6,zid,zid,[]⟩:AM)) (m:=Lib.byteCells zid.1) (z:=FT (⟨d5,d6,zid,zid,[]⟩:AM)) (cells:=Lib.byteCells d7.1) (vr (PQ y 2) rfl) (vr (AB d7.1) rfl) (FU (⟨d5,d6,zid,zid,[]⟩:AM)▸p) (GQ (⟨d5,d6,zid,zid,[]⟩:AM)) (by rw[Lib.byteCells_length,Lib.byteCells_length,zid.2,d7.2]) (by rw[Lib.byteCells_length,d7.2];exact Nw) (Ay _) fun en ck ap h3=> ?_)
  have c:=Af c ap (Nat.le_trans bb (by omega))
  have o:=kb ap o (by omega)
  have g:=OG.kept g ap el
  have l:=OG.kept l ap em
  have hbo:=kb ap hbo (by omega)
  have hol:=OG.kept hol ap bc
  have hb:=kb ap hb (by omega)
  clear p
  have p:en.heap[y]? =some (.cells (entC (⟨d5,d6,d7,zid,[]⟩:AM)).toArray 50 (0,0)):=AG ck (KS (⟨d5,d6,zid,zid,[]⟩:AM) d7);clear ck
  have h4:=bl p
  refine oZ (tN (eg _ _ (sk fun h5 eo=>(wt (oM rfl ?_)))))
  have ep:=OG.off g hb (by decide)
  have eq:=OG.off l hb (by decide)
  have er:=OG.off hol hb (by decide)
  refine oP rfl (Yp.callA1 O0 u ?_)
  refine AV (Hy _ r v b i7 hb (hr.keep c) hapr hle_i7 hl) ?_ ?_
  rotate_left
  ·
   rintro ch h6 ⟨hPx,rfl,hgx⟩
   refine AD (Bu (AD (AD (Bu (AD (A1 ?_))))))
   exact .inr ⟨_,rfl,by unfold B2;simp only[ad,af,hP3,hP4,Hd hP hlt hit (show C5 b j0=none by unfold C5;simp only[hP5,hP6,hP7,hPx,Option.bind_some,Option.bind_none]),Option.bind_some,Option.bind_none],rfl,Af c hgx lr⟩
  rintro v_ h7 ⟨d8,i8,hP8,rfl,cl,aq⟩
  have c:=Af c aq (Nat.le_trans (Nat.le_refl _) lr)
  have o:=kb aq o (by omega)
  have g:=OG.kept g aq ep
  have l:=OG.kept l aq eq
  have hbo:=kb aq hbo (by omega)
  have hol:=OG.kept hol aq er
  have p:=kb aq p (by omega)
  clear hb
  have hb:=cl;clear cl
  have hle_i8:=IC hP8
  have h8:=bl hb
  refine oS rfl (Yk.fieldAt HN (vr (PQ y 0) rfl) (oS rfl (Yk.fieldAt HV (vr (PQ y 0) rfl) ?_)))
  have es:=OG.off g p (by decide)
  have et:=OG.off l p (by decide)
  refine oS rfl (Yk.storeMid (a:=Ex (⟨d5,d6,d7,zid,[]⟩:AM)) (m:=Lib.byteCells zid.1) (z:=FV (⟨d5,d6,d7,zid,[]⟩:AM)) (cells:=Lib.byteCells d8.1) (vr (PQ y 34) rfl) (vr (AB d8.1) rfl) (FW (⟨d5,d6,d7,zid,[]⟩:AM)▸p) (GR (⟨d5,d6,d7,zid,[]⟩:AM)) (by rw[Lib.byteCells_length,Lib.byteCells_length,zid.2,d8.2]) (by rw[Lib.byteCells_length,d8.2];exact Nw) (Ay _) fun eu cm ar h9=> ?_)
  have c:=Af c ar (Nat.le_trans bb (by omega))
  have o:=kb ar o (by omega)
  have g:=OG.kept g ar es
  have l:=OG.kept l ar et
  have hbo:=kb ar hbo (by omega)
  have hol:=OG.kept hol ar bc
  have hb:=kb ar hb (by omega)
  clear p
  have p:eu.heap[y]? =some (.cells (entC (⟨d5,d6,d7,d8,[]⟩:AM)).toArray 50 (0,0)):=AG cm (KT (⟨d5,d6,d7,zid,[]⟩:AM) d8);clear cm
  have ia:=bl p
  refine oZ (tN (eo _ _ (sk fun ib ew=>(wt (oM rfl ?_)))))
  have ex:=OG.off g hb (by decide)
  have ey:=OG.off l hb (by decide)
  have ez:=OG.off hol hb (by decide)
  refine oP rfl (Yp.callA1 OZ u ?_)
  refine AV (FC _ r v b i8 hb (hr.keep c) hapr hle_i8 hl) ?_ ?_
  rotate_left
  ·
   rintro ch ic ⟨hPx,rfl,hgx⟩
   refine AD (Bu (AD (AD (Bu (AD (A1 ?_))))))
   exact .inr ⟨_,rfl,by unfold B2;simp only[ad,af,hP3,hP4,Hd hP hlt hit (show C5 b j0=none by unfold C5;simp only[hP5,hP6,hP7,hP8,hPx,Option.bind_some,Option.bind_none]),Option.bind_some,Option.bind_none],rfl,Af c hgx lr⟩
  rintro v_ id ⟨d9,i9,hP9,rfl,cn,au⟩
  have c:=Af c au (Nat.le_trans (Nat.le_refl _) lr)
  have o:=kb au o (by omega)
  have g:=OG.kept g au ex
  have l:=OG.kept l au ey
  have hbo:=kb au hbo (by omega)
  have hol:=OG.kept hol au ez
  have p:=kb au p (by omega)
  clear hb
  have hb:=cn;clear cn
  have hle_i9:=(txtP_le hP9).1
  have ie:=bl hb
  refine oS rfl (Yk.fieldAt LX (vr (PQ y 0) rfl) ?_)
  have e1:=OG.off g p (by decide)
  have e2:=OG.off l p (by decide)
  refine oS rfl (Yk.storeC (i:=66) (v:=St (d9)) (vr (PQ y 66) rfl) (vr (St (d9)) rfl) p (by rw[Bp];decide) Ob rfl rfl fun e4 co av ig=> ?_)
  have c:=Af c av (Nat.le_trans bb (by omega))
  have o:=kb av o (by omega)
  have g:=OG.kept g av e1
  have l:=OG.kept l av e2
  have hbo:=kb av hbo (by omega)
  have hol:=OG.kept hol av bc
  have hb:=kb av hb (by omega)
  clear p
  have p:e4.heap[y]? =some (.cells (entC (⟨d5,d6,d7,d8,d9⟩:AM)).toArray 50 (0,0)):=AG co (KU (⟨d5,d6,d7,d8,[]⟩:AM) d9);clear co
  have ih:=bl p
  refine oZ (tN (ew _ _ (wt (oS rfl (Yk.fieldAt HK T3 (oS rfl (Yk.cell1 EA rfl (vr (PQ aa 35) rfl) (Al hbo (show(refsC ((⟨l1,l2,d3,d4,lo⟩,⟨u1,u2,vl⟩):Ah))[35]? =some (vl:Value)from Bn ((⟨l1,l2,d3,d4,lo⟩,⟨u1,u2,vl⟩):Ah))) (oS rfl (Yk.loadAll (vr (PQ y 0) rfl) p (NH).choose_spec rfl (AC (Bp (⟨d5,d6,d7,d8,d9⟩:AM)) Iy) (oS rfl (Yk.lit1G (a:=(⟨d5,d6,d7,d8,d9⟩:AM)) (enc:=entC) (vr (.agg (entC (⟨d5,d6,d7,d8,d9⟩:AM)).toArray) rfl) (Bp _) O3 fun e5 e6 cp aw=> ?_)))))))))))
  have c:=c.trans aw
  have o:=eb aw o
  have g:=g.keep aw
  have l:=l.keep aw
  have hbo:=eb aw hbo
  have hol:=hol.keep aw
  have hb:=eb aw hb
  have e7:=OG.off hol o (by decide)
  have e8:=OG.apart hol g (by decide)
  have e9:=OG.apart hol l (by decide)
  have fa:=OG.off hol hbo (by decide)
  have fb:=OG.off hol hb (by decide)
  refine oS rfl (Yk.appendRG _ _ w0.heap.size _ 104 EA wr30_ig50.choose_spec.1 wr30_ig50.choose_spec.2 EA (lo) ([(⟨d5,d6,d7,d8,d9⟩:AM)]) (OG.of hol (vr vl rfl)) (RG.of cp (vr e5 rfl)) (fun _ _=>C7) (by simp only[List.length_cons,List.length_nil];omega) (by simp only[List.length_cons,List.length_nil];omega) c.size fun a0 fc a1 ah=> ?_)
  have ah:Grew e6 fc vl a0:=ah
  have c:=AZ c ah hol.2 (Nat.le_refl _)
  have o:=AN o ah e7
  have g:=Dr g ah e8
  have l:=Dr l ah e9
  have hbo:=AN hbo ah fa
  have hb:=AN hb ah fb
  clear cp
  clear hol
  refine oS rfl (Yk.fieldAt HK T3 ?_)
  have fd:=OG.off g hbo (by decide)
  have fe:=OG.off l hbo (by decide)
  have ff:=OG.off a1 hbo (by decide)
  refine oS rfl (Yk.storeC (i:=35) (v:=a0) (vr (PQ aa 35) rfl) (vr a0 rfl) hbo (by rw[Ao];decide) Gp (RG.one (RG.ofOwn a1)).1 (RG.one (RG.ofOwn a1)).2 fun fg cq a2 ii=> ?_)
  have c:=Af c a2 (Nat.le_trans a4 (by omega))
  have o:=kb a2 o (by omega)
  have g:=OG.kept g a2 fd
  have l:=OG.kept l a2 fe
  have hb:=kb a2 hb (by omega)
  have a1:=OG.kept a1 a2 ff
  clear hbo
  have hbo:fg.heap[aa]? =some (.cells (refsC ((⟨l1,l2,d3,d4,(lo)++ [(⟨d5,d6,d7,d8,d9⟩:AM)]⟩,⟨u1,u2,a0⟩):Ah)).toArray 35 (0,0)):=AG cq (D1 ((⟨l1,l2,d3,d4,lo⟩,⟨u1,u2,vl⟩):Ah) a0 ((lo)++ [(⟨d5,d6,d7,d8,d9⟩:AM)]));clear cq
  have ij:=bl hbo
  refine oZ (bN (tN (dr _ _ (wt (oS rfl (Yk.bin (xv:=NI k) (yv:=NI 1) ac rfl rfl (AA _ _ _ (by omega)) (oM rfl (A3 [(0,PQ r 0),(2,PQ n2 0),(3,PQ aa 0),(4,PQ y 0),(18,NI n),(19,NI ((k)+(1)))] ⟨u,T2,T3,rfl,ag,rfl,trivial⟩ fun fh ⟨u,T2,T3,T4,ag,ac,_⟩=>(tN (And.intro ⟨k+1,i9,lo++ [⟨d5,d6,d7,d8,d9⟩],a0,u,T2,T3,ag,ac,c,o,g,l,hb,hbo,a1,by omega,hle_i9,QK hit (show C5 b j0=some (⟨d5,d6,d7,d8,d9⟩,i9) by unfold C5;simp only[hP5,hP6,hP7,hP8,hP9,Option.bind_some]),trivial⟩ ?_))))))))))
  show n-(intOf (fh 19)).toNat<n-(intOf (dn 19)).toNat
  rw[ac,q19]
  simp only[intOf,Int.toNat_natCast];omega
 have hkn:k=n:=by omega
 have hN:Fm b i4=some (lo,j0):=(LA hP).trans (hkn▸hit)
 have hMl:By (⟨l1,l2,d3,d4,lo⟩:A0):=PU ad af hP3 hN
 by_cases hj:j0=b.length
 ·refine AP (Ar (Ar (Az (tN (ca _ _ (sk fun il fi=> ?_))))))
  refine DP 14 _ [Is (PQ r 0),Is (PQ r 0),Is (PQ r 1),Is (NI j0),Is (PQ r 0),Is (PQ r 0),Is (PQ r 0),Is (v),Is (NI b.length),Is (.bool (true)),Is (.bool (true)),Is (.agg (refsC ((⟨l1,l2,d3,d4,lo⟩,⟨u1,u2,vl⟩):Ah)).toArray),Is (.bool (AO ((⟨l1,l2,d3,d4,lo⟩,⟨u1,u2,vl⟩):Ah).1)),Is (.bool (AO ((⟨l1,l2,d3,d4,lo⟩,⟨u1,u2,vl⟩):Ah).1))] (by kernel_rfl) [47,48,49,50,51,52,53,54,55,56,57,58,59,60,61] (by kernel_rfl) (by kernel_rfl) (by kernel_rfl) rfl rfl rfl (fun _ _=>trivial) (DG (CG trivial)) ?fj ?hQ1016
  case fj=>
   refine⟨?_,?_,?_,?_,?_,?_,?_,?_,?_,?_,?_,?_,?_,?_,?_,trivial⟩
   ·refine A5 (Aa rfl fun σ w1 hC h=> ?_)
    have e0:=(Ae (h 0 (by decide))).trans u
    exact Yk.move e0 ⟨Ext.refl _,rfl⟩
   ·refine A5 (Aa rfl fun σ w1 hC h=> ?_)
    have bm:=Ae (h 47 (by decide))
    exact Yk.nilCheck bm ⟨Ext.refl _,rfl⟩
   ·refine A5 (Aa rfl fun σ w1 hC h=> ?_)
    have bn:=Ae (h 48 (by decide))
    exact Yk.fieldAt Bf bn ⟨Ext.refl _,rfl⟩
   ·refine A5 (Aa rfl fun σ w1 hC h=> ?_)
    have bo:=Ae (h 49 (by decide))
    exact Yk.cell1 Li rfl bo (Al (eb hC hb) (show(Bz (Bj v b (j0)))[1]? =some (NI j0:Value)from Dg (Bj v b (j0)))) ⟨Ext.refl _,rfl⟩
   ·refine A5 (Aa rfl fun σ w1 hC h=> ?_)
    have e0:=(Ae (h 0 (by decide))).trans u
    exact Yk.move e0 ⟨Ext.refl _,rfl⟩
   ·refine A5 (Aa rfl fun σ w1 hC h=> ?_)
    have bp:=Ae (h 51 (by decide))
    exact Yk.nilCheck bp ⟨Ext.refl _,rfl⟩
   ·refine A5 (Aa rfl fun σ w1 hC h=> ?_)
    have bq:=Ae (h 52 (by decide))
    exact Yk.fieldAt BP bq ⟨Ext.refl _,rfl⟩
   ·refine A5 (Aa rfl fun σ w1 hC h=> ?_)
    have br:=Ae (h 53 (by decide))
    exact Yk.cell1 Ek rfl br (Al (eb hC hb) (show(Bz (Bj v b (j0)))[0]? =some (v:Value)from Dt (Bj v b (j0)))) ⟨Ext.refl _,rfl⟩
   ·refine A5 (Aa rfl fun σ w1 hC h=> ?_)
    have bs:=Ae (h 54 (by decide))
    exact Yk.lenRB Ek (RB.of (hr.keep (c.trans hC)) bs) ⟨Ext.refl _,rfl⟩
   ·refine A5 (Aa rfl fun σ w1 hC h=> ?_)
    have bt:=Ae (h 50 (by decide))
    have bu:=Ae (h 55 (by decide))
    exact Yk.eqI (a:=(j0:Nat)) (b:=(b.length:Nat)) bt bu (A2 _ _ _ _) ⟨Ext.refl _,(congrArg Value.bool (decide_eq_true (hj)))⟩
   ·refine A5 (Aa rfl fun σ w1 hC h=> ?_)
    have bv:=Ae (h 56 (by decide))
    exact Yk.move bv ⟨Ext.refl _,rfl⟩
   ·refine A5 (Bi 10 true 57 rfl rfl (fun _ _ h=>h) fun σ w1 hC h=> ?_)
    have e3:=(Ae (h 3 (by decide))).trans T3
    exact Yk.loadAll e3 (eb hC hbo) (N9).choose_spec rfl (AC (Ao ((⟨l1,l2,d3,d4,lo⟩,⟨u1,u2,vl⟩):Ah)) IJ) ⟨Ext.refl _,rfl⟩
   ·refine A5 (Bi 10 true 57 rfl rfl (fun _ _ h=>h) fun σ w1 hC h=> ?_)
    have fl:=Ae (h 58 (by decide))
    refine Yk.callA1 Of fl ((ET _ ((⟨l1,l2,d3,d4,lo⟩,⟨u1,u2,vl⟩):Ah) ⟨RG.ofOwn (g.keep hC),RG.ofOwn (l.keep hC),RG.ofOwn (hol.keep hC)⟩ hMl).mono ?_)
    rintro e w2 ⟨rfl,hx⟩
    exact⟨_,rfl,hx,rfl⟩
   ·refine A5 (Aa rfl fun σ w1 hC h=> ?_)
    have bw:=Ae (h 57 (by decide))
    have fm:=Ae (h 59 (by decide))
    exact Yk.pickT bw fm ⟨Ext.refl _,rfl⟩
   ·exact trivial
  intro fo io ay he hf
  obtain⟨-,-,-,-,-,-,-,-,-,-,-,-,-,k60,-⟩:=hf
  obtain⟨u,T2,T3,ag,ac,-⟩:=he.hold [(0,_),(2,_),(3,_),(18,_),(19,_)] ⟨u,T2,T3,ag,ac,trivial⟩ rfl
  clear he
  have c:=c.trans ay
  have o:=eb ay o
  have g:=g.keep ay
  have l:=l.keep ay
  have hb:=eb ay hb
  have hbo:=eb ay hbo
  have hol:=hol.keep ay
  have bx:fo 60 = .bool (AO ((⟨l1,l2,d3,d4,lo⟩,⟨u1,u2,vl⟩):Ah).1):=k60
  clear k60
  refine Yp.callA1 Cy bx ?_
  refine AV (Cb _ (AO ((⟨l1,l2,d3,d4,lo⟩,⟨u1,u2,vl⟩):Ah).1)) ?_ ?_
  rotate_left
  ·
   rintro ch ip ⟨rfl,hb,hx⟩
   refine AD (A1 ?_)
   exact .inr ⟨_,rfl,by unfold B2;simp only[ad,af,hP3,hP4,hN,Option.bind_some];exact if_neg fun h=>Bool.noConfusion (h.2.symm.trans hb),rfl,c.trans hx⟩
  rintro v_ iq ⟨rfl,fp,az⟩
  have c:=c.trans az
  have o:=eb az o
  have g:=g.keep az
  have l:=l.keep az
  have hb:=eb az hb
  have hbo:=eb az hbo
  have hol:=hol.keep az
  intro bd be
  have u:bd 0=(PQ r 0:Value):=(be 0 (by decide)).trans u
  have T2:bd 2=(PQ n2 0:Value):=(be 2 (by decide)).trans T2
  have T3:bd 3=(PQ aa 0:Value):=(be 3 (by decide)).trans T3
  have ag:bd 18=(NI n:Value):=(be 18 (by decide)).trans ag
  have ac:bd 19=(NI k:Value):=(be 19 (by decide)).trans ac
  refine tN (fi _ _ (sk fun ir fq=>(wt (oS rfl (Yk.loadAll T3 hbo (N9).choose_spec rfl (AC (Ao ((⟨l1,l2,d3,d4,lo⟩,⟨u1,u2,vl⟩):Ah)) IJ) ?_)))))
  have fr:=OG.off g o (by decide)
  have fs:=OG.off l o (by decide)
  have ft:=OG.off hol o (by decide)
  refine oS rfl (Yk.storeAll T2 (vr (.agg (refsC ((⟨l1,l2,d3,d4,lo⟩,⟨u1,u2,vl⟩):Ah)).toArray) rfl) o (by simp only[List.size_toArray,Ao]) (AC (Ao _) IJ) (Br (x:=((⟨l1,l2,d3,d4,lo⟩,⟨u1,u2,vl⟩):Ah)) (RG.one (RG.ofOwn g)).2 (RG.one (RG.ofOwn l)).2 (RG.one (RG.ofOwn hol)).2) fun fu cr a3 iu=> ?_)
  have c:=Af c a3 (Nat.le_trans cx (by omega))
  have g:=OG.kept g a3 fr
  have l:=OG.kept l a3 fs
  have hb:=kb a3 hb (by omega)
  have hbo:=kb a3 hbo (by omega)
  have hol:=OG.kept hol a3 ft
  clear o
  have o:fu.heap[n2]? =some (.cells (refsC ((⟨l1,l2,d3,d4,lo⟩,⟨u1,u2,vl⟩):Ah)).toArray 35 (0,0)):=cr;clear cr
  have iv:=bl o
  refine oZ (tN (fq _ _ (Am (CK (fn:=Tryz.f23) _ rfl [.agg (refsC ((⟨l1,l2,d3,d4,lo⟩,⟨u1,u2,vl⟩):Ah)).toArray] (.agg (refsC ((⟨l1,l2,d3,d4,lo⟩,⟨u1,u2,vl⟩):Ah)).toArray) rfl ⟨ResF.row T2 o (N9).choose_spec rfl (AC (Ao _) IJ),trivial⟩ ?_))))
  exact .inl ⟨_,rfl,((⟨l1,l2,d3,d4,lo⟩,⟨u1,u2,vl⟩):Ah),by unfold B2;simp only[ad,af,hP3,hP4,hN,Option.bind_some];exact if_pos ⟨hj,fp⟩,rfl,⟨g,l,hol⟩,c⟩
 refine AP (Ar (Ar (Az (tN (ca _ _ (sk fun iw ix=> ?_))))))
 refine DP 14 _ [Is (PQ r 0),Is (PQ r 0),Is (PQ r 1),Is (NI j0),Is (PQ r 0),Is (PQ r 0),Is (PQ r 0),Is (v),Is (NI b.length),Is (.bool (false)),Is (.bool (false)),Is undef,Is undef,Is (.bool (false))] (by kernel_rfl) [47,48,49,50,51,52,53,54,55,56,57,58,59,60,61] (by kernel_rfl) (by kernel_rfl) (by kernel_rfl) rfl rfl rfl (fun _ _=>trivial) (DG (CG trivial)) ?fv ?hQ2016
 case fv=>
  refine⟨?_,?_,?_,?_,?_,?_,?_,?_,?_,?_,?_,?_,?_,?_,?_,trivial⟩
  ·refine A5 (Aa rfl fun σ w1 hC h=> ?_)
   have e0:=(Ae (h 0 (by decide))).trans u
   exact Yk.move e0 ⟨Ext.refl _,rfl⟩
  ·refine A5 (Aa rfl fun σ w1 hC h=> ?_)
   have bm:=Ae (h 47 (by decide))
   exact Yk.nilCheck bm ⟨Ext.refl _,rfl⟩
  ·refine A5 (Aa rfl fun σ w1 hC h=> ?_)
   have bn:=Ae (h 48 (by decide))
   exact Yk.fieldAt Bf bn ⟨Ext.refl _,rfl⟩
  ·refine A5 (Aa rfl fun σ w1 hC h=> ?_)
   have bo:=Ae (h 49 (by decide))
   exact Yk.cell1 Li rfl bo (Al (eb hC hb) (show(Bz (Bj v b (j0)))[1]? =some (NI j0:Value)from Dg (Bj v b (j0)))) ⟨Ext.refl _,rfl⟩
  ·refine A5 (Aa rfl fun σ w1 hC h=> ?_)
   have e0:=(Ae (h 0 (by decide))).trans u
   exact Yk.move e0 ⟨Ext.refl _,rfl⟩
  ·refine A5 (Aa rfl fun σ w1 hC h=> ?_)
   have bp:=Ae (h 51 (by decide))
   exact Yk.nilCheck bp ⟨Ext.refl _,rfl⟩
  ·refine A5 (Aa rfl fun σ w1 hC h=> ?_)
   have bq:=Ae (h 52 (by decide))
   exact Yk.fieldAt BP bq ⟨Ext.refl _,rfl⟩
  ·refine A5 (Aa rfl fun σ w1 hC h=> ?_)
   have br:=Ae (h 53 (by decide))
   exact Yk.cell1 Ek rfl br (Al (eb hC hb) (show(Bz (Bj v b (j0)))[0]? =some (v:Value)from Dt (Bj v b (j0)))) ⟨Ext.refl _,rfl⟩
  ·refine A5 (Aa rfl fun σ w1 hC h=> ?_)
   have bs:=Ae (h 54 (by decide))
   exact Yk.lenRB Ek (RB.of (hr.keep (c.trans hC)) bs) ⟨Ext.refl _,rfl⟩
  ·refine A5 (Aa rfl fun σ w1 hC h=> ?_)
   have bt:=Ae (h 50 (by decide))
   have bu:=Ae (h 55 (by decide))
   exact Yk.eqI (a:=(j0:Nat)) (b:=(b.length:Nat)) bt bu (A2 _ _ _ _) ⟨Ext.refl _,(congrArg Value.bool (decide_eq_false (hj)))⟩
  ·refine A5 (Aa rfl fun σ w1 hC h=> ?_)
   have bv:=Ae (h 56 (by decide))
   exact Yk.move bv ⟨Ext.refl _,rfl⟩
  ·refine A5 (P2 10 true 57 rfl rfl (fun x _ (h:x = .bool false)=>by rw[h];intro h;cases h) fun _=>rfl)
  ·refine A5 (P2 10 true 57 rfl rfl (fun x _ (h:x = .bool false)=>by rw[h];intro h;cases h) fun _=>rfl)
  ·refine A5 (Aa rfl fun σ w1 hC h=> ?_)
   have bw:=Ae (h 57 (by decide))
   exact Yk.pickF bw (vr (.bool (false)) rfl) ⟨Ext.refl _,rfl⟩
  ·exact trivial
 intro fw iy bi he hf
 obtain⟨-,-,-,-,-,-,-,-,-,-,-,-,-,k60,-⟩:=hf
 obtain⟨u,T2,T3,ag,ac,-⟩:=he.hold [(0,_),(2,_),(3,_),(18,_),(19,_)] ⟨u,T2,T3,ag,ac,trivial⟩ rfl
 clear he
 have c:=c.trans bi
 have hb:=eb bi hb
 have hbo:=eb bi hbo
 have hol:=hol.keep bi
 have bx:fw 60 = .bool (false):=k60
 clear k60
 refine Yp.callA1 Cy bx ?_
 refine AV (Cb _ (false)) ?_ ?_
 rotate_left
 ·
  rintro ch iz ⟨rfl,hb,hx⟩
  refine AD (A1 ?_)
  exact .inr ⟨_,rfl,by unfold B2;simp only[ad,af,hP3,hP4,hN,Option.bind_some];exact if_neg fun h=>hj h.1,rfl,c.trans hx⟩
 rintro v_ i0 ⟨rfl,fx,ja⟩
 cases fx
open Go.RowKit
structure FitsD (n : Nat) (D : List Deferred) (ρ : Au) (a : Act) : Prop where
  size:a.tmps.size=n
  defers:a.defers=D
  get:∀t,a.tmps.getD t undef=ρ t
theorem FitsD.fits{n:Nat}{D:List Deferred}{ρ:Au}{a:Act}(h:FitsD n D ρ a):Fits n ρ { a with defers:= [] } :=⟨h.size,rfl,h.get⟩
theorem FitsD.ofFits{n:Nat}{ρ:Au}{a:Act}(h:Fits n ρ a):FitsD n [] ρ a:=⟨h.size,h.defers,h.get⟩
theorem FitsD.toFits{n:Nat}{ρ:Au}{a:Act}(h:FitsD n [] ρ a):Fits n ρ a:=⟨h.size,h.defers,h.get⟩
theorem FitsD.eval{n:Nat}{D:List Deferred}{ρ:Au}{a:Act}(h:FitsD n D ρ a):a.eval=Ag ρ:=by
  funext x
  cases x with
  | tmp t=>exact h.get t
  | _=>rfl
theorem FitsD.put{n:Nat}{D:List Deferred}{ρ:Au}{a:Act}(h:FitsD n D ρ a)(d:Option Tmp)(hd:∀t,d=some t→t<n)(v:Value):FitsD n D (BC ρ d v) (a.put d v):=by
  have hf:=h.fits.put d hd v
  cases d with
  | none=>exact h
  | some d=>exact⟨hf.size,h.defers,hf.get⟩
def LE(P:Program)(n:Nat)(D:List Deferred)(c:Code)(QQ:Exit→Act→World→Prop)(ρ:Au)(w:World):Prop:=∀a,FitsD n D ρ a→c.wp P QQ a w
def Hi(P:Program)(ops:Array Oper)(n:Nat)(D:List Deferred)(QQ:Exit→Act→World→Prop)(l:List Oper)(ρ:Au)(w:World):Prop:=∀a,FitsD n D ρ a→wpList P ops QQ l a w
section
variable {P : Program} {n : Nat} {D : List Deferred} {QQ : Exit → Act → World → Prop} {ρ : Au} {w : World}
theorem O5{x y:Code}(QR:Ce)(hq:∀e ρ a w,e ≠ .normal→Fits n ρ a→QR e ρ w→QQ e a w)(h:∀K:Au→World→Prop,(∀ρ w,LE P n [] y QQ ρ w→K ρ w)→Cf P n x (Fs K QR) ρ w):LE P n [] (.seq x y) QQ ρ w:=fun a ha=>
  wp_seq (wp_mono (h (fun ρ w=>LE P n [] y QQ ρ w) (fun _ _ h=>h) a ha.toFits) fun e a' w' ⟨ρ',hf,hQ⟩=>by
    cases e with
    | normal=>exact hQ a' (FitsD.ofFits hf)
    | exit _=>exact hq _ ρ' a' w' (by simp) hf hQ
    | goto _=>exact hq _ ρ' a' w' (by simp) hf hQ
    | ret=>exact hq _ ρ' a' w' (by simp) hf hQ
    | panic _=>exact hq _ ρ' a' w' (by simp) hf hQ
    | outgrown=>exact hq _ ρ' a' w' (by simp) hf hQ)
theorem Hj{id:Nat}{l:List Oper}{y:Code}(h:Hi P l.toArray n D (Exit.then (y.wp P QQ) QQ) l ρ w):LE P n D (.seq (.region id l.toArray false) y) QQ ρ w:=fun a ha=>wp_seq (wp_region_lit (h a ha))
theorem QN(h:∀a,FitsD n D ρ a→QQ .ret a w):LE P n D .ret QQ ρ w:=fun a ha=>wp_ret (h a ha)
theorem LF{ops:Array Oper}{y:Code}(I:Au→Prop)(hI:I ρ)(h:∀ρ',I ρ' →LE P n D y QQ ρ' w):Hi P ops n D (Exit.then (y.wp P QQ) QQ) [] ρ w:=fun a ha=>h ρ hI a ha
theorem IZ{ops:Array Oper}{rest:List Oper}{dst:Option Tmp}{op:Op}{ty:TypeId}{pos:String}{af:Array Edge}(hd:(match dst with | some d=>Nat.blt d n | none=>true)=true) 
    (h:Yp P (fun v w' =>Hi P ops n D QQ rest (BC ρ dst v) w') (fun ch w' =>∀a,FitsD n D ρ a→QQ (.panic ch) a w') ((execOp (Ag ρ) ⟨dst,op,ty,pos,af,none⟩).run P w)):Hi P ops n D QQ (⟨dst,op,ty,pos,af,none⟩ :: rest) ρ w:=by
  intro a ha
  have hdn:∀t,dst=some t→t<n:=fun t ht=>by subst ht;exact Nat.le_of_ble_eq_true hd
  refine wpList_plain rfl fun K hK=> ?_
  unfold Oper.wp Oper.upon
  rw[ha.eval]
  have hput:=fun v=>ha.put dst hdn v
  revert h
  generalize (execOp (Ag ρ) ⟨dst,op,ty,pos,af,none⟩).run P w=r
  intro h
  match r,h with
  | .ok (.value v) w',h=>exact hK _ _ (h _ (hput v))
  | .ok .skip w',h=>exact hK _ _ (h _ (hput undef))
  | .halt (.panic v) w',h=>exact h a ha
  | .ok (.enter f args) w',h=>
    refine Calls.mono h ?_
    intro e w'' hx
    match e,hx with
    | .returned v,hx=>exact hK _ _ (hx _ (hput v))
    | .panicked ch,hx=>exact hx a ha
theorem D8{ops:Array Oper}{rest:List Oper}{dst:Option Tmp}{op:Op}{ty:TypeId}{pos:String}{af:Array Edge}(hd:(match dst with | some d=>Nat.blt d n | none=>true)=true) 
    (h:Yk P (fun v w' =>Hi P ops n D QQ rest (BC ρ dst v) w') ((execOp (Ag ρ) ⟨dst,op,ty,pos,af,none⟩).run P w)):Hi P ops n D QQ (⟨dst,op,ty,pos,af,none⟩ :: rest) ρ w:=
  IZ hd (Yp.ofK h)
theorem Na{ops:Array Oper}{rest:List Oper}{x:Operand}{ty:TypeId}{pos:String}{af:Array Edge}{fv:Fn}{first cap:Array Value}(hx:Ag ρ x = .func fv first cap) 
    (hr:(execOp (Ag ρ) ⟨none, .defer ⟨.value x,#[],#[]⟩,ty,pos,af,none⟩).run P w = .ok (.defer ⟨.fn fv cap,first⟩) w)
    (h:Hi P ops n (⟨.fn fv cap,first⟩ :: D) QQ rest ρ w):Hi P ops n D QQ (⟨none, .defer ⟨.value x,#[],#[]⟩,ty,pos,af,none⟩ :: rest) ρ w:=by
  intro a ha
  refine wpList_plain rfl fun K hK=> ?_
  unfold Oper.wp Oper.upon
  rw[ha.eval,hr]
  refine hK _ _ (h _ ⟨ha.size,?_,ha.get⟩)
  show _ :: a.defers=_
  rw[ha.defers]
theorem Mb{fn:Func}{R:Ending→World→Prop}:∀e ρ a w,e ≠ .normal→Fits n ρ a→Hp P fn R e ρ w→bodyPostD P fn R e a w:=fun e ρ a w he ha h=>by
  cases e with
  | normal=>exact absurd rfl he
  | ret=>
    show Leaves P fn a.tmps R a.defers .returning w
    rw[ha.defers]
    exact h a.tmps ha.get
  | panic ch=>
    show Leaves P fn a.tmps R a.defers (.panicking ch) w
    rw[ha.defers]
    exact h
  | exit _=>exact h.elim
  | goto _=>exact h.elim
  | outgrown=>exact h.elim
theorem LG{f:FuncId}{fn:Func}{c:Code}{args:List Value}{R:Ending→World→Prop}(hf:P.funcs[f]? =some fn)(hb:fn.body=some c)(m:Nat)(hm:fn.ntmps=m)(hn:args.length≤m) 
    (h:∀ρ,Ky args ρ→LE P m [] c (bodyPostD P fn R) ρ w):Calls P f args.toArray w R:=by
  subst hm
  refine calls_of_wp_defers hf hb ?_
  have hget:∀t,(args.toArray++Array.replicate (fn.ntmps-args.toArray.size) undef).getD t undef=args.getD t undef:=fun t=>by
    simp only[Array.getD_eq_getD_getElem?,List.getD_eq_getElem?_getD,Array.getElem?_append,List.size_toArray,List.getElem?_toArray]
    by_cases ht:t<args.length
    · rw[if_pos ht]
    · rw[if_neg ht,List.getElem?_eq_none (by omega),Array.getElem?_replicate]
      split <;> rfl
  refine h (fun t=>args.getD t undef) ⟨fun _=>rfl⟩ _ ⟨?_,rfl,hget⟩
  simp
  omega
end
open Go.RowKit
section
variable {P : Program} {n : Nat}
theorem O6{c:Code}{QF:Ce}{Q:Exit→Act→World→Prop}{ρ:Au}{a:Act}{w:World}(h:Cf P n c QF ρ w)(ha:Fits n ρ a)(hq:∀e ρ' a' w',Fits n ρ' a' →QF e ρ' w' →Q e a' w'):c.wp P Q a w:=
  wp_mono (h a ha) fun e a' w' ⟨ρ',hf,hQ⟩=>hq e ρ' a' w' hf hQ
def BZ:FrameMode→Value × FrameMode
  | .panicking ({ v,recovered:=false,goexit:=false } :: older)=>(v, .panicking ({ v,recovered:=true } :: older))
  | u=>(.nilIface,u)
theorem Mc(c₀:Frame)(cs:List Frame)(u:FrameMode)(hu:c₀.mode=u)(K:Value→List Frame→Prop)(h:K (BZ u).1 ({ c₀ with mode:=(BZ u).2 } :: cs)):
    match recoverD (c₀ :: cs)with
    | some (v,cs')=>K v cs'
    | none=>K .nilIface (c₀ :: cs):=by
  subst hu
  obtain⟨cf,ct,ctodo,cd,cm,ck,cr⟩:=c₀
  match cm,h with
  | .run,h=>exact h
  | .returning,h=>exact h
  | .panicking [],h=>exact h
  | .panicking ({ v,recovered:=true,goexit:=g } :: older),h=>exact h
  | .panicking ({ v,recovered:=false,goexit:=true } :: older),h=>exact h
  | .panicking ({ v,recovered:=false,goexit:=false } :: older),h=>exact h
theorem F9{f:FuncId}{fn:Func}{c:Code}{args:List Value}{u:FrameMode}{w:World}{R:Ending→World→Prop}{id:Nat}{d0 d1:Tmp}{ty0 ty1:TypeId}{p0 p1:String}{af0 af1:Array Edge} 
    (hf:P.funcs[f]? =some fn) (hb:fn.body=some (.seq (.region id #[⟨some d0, .call ⟨.builtin .recover,#[],#[]⟩,ty0,p0,af0,none⟩,⟨some d1, .assign (.tmp d0),ty1,p1,af1,none⟩] false) c)) (m:Nat) (hm:fn.ntmps=m) (hn:args.length≤m) (h0:Nat.blt d0 m=true) (h1:Nat.blt d1 m=true)
    (h:∀b,Ky args b→Cf P m c (Hp P fn R) (BC (BC b (some d0) (BZ u).1) (some d1) (BZ u).1) w):
    CallsD P f args.toArray u w fun e u' w' =>u' =(BZ u).2∧R e w' :=by
  subst hm
  refine callsD_of_wpS hf hb fun c₀ cs hu=> ?_
  have hget:∀t,(args.toArray++Array.replicate (fn.ntmps-args.toArray.size) undef).getD t undef=args.getD t undef:=fun t=>by
    simp only[Array.getD_eq_getD_getElem?,List.getD_eq_getElem?_getD,Array.getElem?_append,List.size_toArray,List.getElem?_toArray]
    by_cases ht:t<args.length
    · rw[if_pos ht]
    · rw[if_neg ht,List.getElem?_eq_none (by omega),Array.getElem?_replicate]
      split <;> rfl
  have hF:Fits fn.ntmps (fun t=>args.getD t undef) { tmps:=args.toArray++Array.replicate (fn.ntmps-args.toArray.size) undef,defers:= [] } :=⟨by simp;omega,rfl,hget⟩
  generalize ({ tmps:=args.toArray++Array.replicate (fn.ntmps-args.toArray.size) undef,defers:= [] } :Act)=a at hF ⊢
  have hd0:∀t,some d0=some t→t<fn.ntmps:=fun t ht=>by cases ht;exact Nat.le_of_ble_eq_true h0
  have hd1:∀t,some d1=some t→t<fn.ntmps:=fun t ht=>by cases ht;exact Nat.le_of_ble_eq_true h1
  have hF1:=hF.put (some d0) hd0 (BZ u).1
  have hF2:=hF1.put (some d1) hd1 (BZ u).1
  apply wpS_seq
  apply wpS_region
  have g:(execOp a.eval (⟨some d0, .call ⟨.builtin .recover,#[],#[]⟩,ty0,p0,af0,none⟩:Oper)).run P w = .ok .recover w:=by
    simp[go_sem]
  have hkey:∀(v:Value) (cs' :List Frame),v=(BZ u).1→cs' = { c₀ with mode:=(BZ u).2 } :: cs→wpOpsS P #[⟨some d0, .call ⟨.builtin .recover,#[],#[]⟩,ty0,p0,af0,none⟩,⟨some d1, .assign (.tmp d0),ty1,p1,af1,none⟩] (Exit.thenS (c.wpS P (bodyPostS P fn c₀ cs fun e u' w' =>u' =(BZ u).2∧R e w')) (bodyPostS P fn c₀ cs fun e u' w' =>u' =(BZ u).2∧R e w')) [1] (a.put (some d0) v) cs' w:=by
    rintro v cs' rfl rfl
    have hv:(a.put (some d0) (BZ u).1).eval (.tmp d0)=(BZ u).1:=by
      rw[hF1.eval]
      show(bif Nat.beq d0 d0 then _ else _)=_
      rw[Nat.beq_refl]
      rfl
    have i:(execOp (a.put (some d0) (BZ u).1).eval (⟨some d1, .assign (.tmp d0),ty1,p1,af1,none⟩:Oper)).run P w = .ok (.value (BZ u).1) w:=by
      simp[execOp,hv]
    simp only[wpOpsS,List.getElem?_toArray,List.getElem?_cons_succ,List.getElem?_cons_zero,Region.wanted,i,Oper.upon,if_true]
    refine wpS_of_wp (O6 (h _ ⟨fun _=>rfl⟩) hF2 fun e ρ' a' w' hf' hQ=> ?_)
    cases e with
    | normal=>obtain⟨v,hv,hR⟩:=hQ a'.tmps hf'.get;exact⟨hf'.defers,_,rfl,v,hv,rfl,hR⟩
    | ret=>obtain⟨v,hv,hR⟩:=hQ a'.tmps hf'.get;exact⟨hf'.defers,_,rfl,v,hv,rfl,hR⟩
    | panic ch=>exact⟨hf'.defers,_,rfl,rfl,hQ⟩
    | exit _=>exact hQ.elim
    | goto _=>exact hQ.elim
    | outgrown=>exact hQ.elim
  show wpOpsS P _ _ [0,1] a (c₀ :: cs) w
  unfold wpOpsS
  simp only[List.getElem?_toArray,List.getElem?_cons_zero,Region.wanted,if_true,g]
  exact Mc c₀ cs u hu (fun v cs' =>wpOpsS P _ _ [1] (a.put (some d0) v) cs' w) (hkey _ _ rfl rfl)
end
open Go.RowKit
section
variable {P : Program} {K : Value → World → Prop} {ρ : Au} {w : World} {d : Option Tmp} {ty : TypeId} {pos : String} {af : Array Edge} {gd : Option (Nat × Bool)} {t ty2 : TypeId}
theorem Yk.assertOk{x:Operand}{u:TypeId}{v:Value}{fs}(hu:P.underlying u=some (.struct fs))(hx:Ag ρ x = .iface u v)(hk:K (.tuple #[v, .bool true]) w):Yk P K ((execOp (Ag ρ) ⟨d, .typeAssert x t u true,ty,pos,af,gd⟩).run P w):=by
  refine Yk.value (v:= .tuple #[v, .bool true]) (w' :=w) ?_ hk
  unfold execOp
  simp[Instr.typeAssert,hx,run_underlying hu,Result.andThen]
theorem Yk.neqNilN{x:Operand}(he:(Op.equal t .nilIface .nilIface).run P w = .ok true w)(hx:Ag ρ x = .nilIface)(hk:K (.bool false) w):Yk P K ((execOp (Ag ρ) ⟨d, .binOp .neq t x (.const .nilIface) ty2,ty,pos,af,gd⟩).run P w):=by
  have hy:Ag ρ (.const .nilIface) = .nilIface:=rfl
  refine Yk.value (v:= .bool false) (w' :=w) ?_ hk
  unfold execOp
  simp only[hx,hy]
  simp[eqGuard,Go.binOp,he,Result.andThen]
theorem Yk.neqNilS{x:Operand}{u:TypeId}{v:Value}(he:(Op.equal t (.iface u v) .nilIface).run P w = .ok false w)(hx:Ag ρ x = .iface u v)(hk:K (.bool true) w):Yk P K ((execOp (Ag ρ) ⟨d, .binOp .neq t x (.const .nilIface) ty2,ty,pos,af,gd⟩).run P w):=by
  have hy:Ag ρ (.const .nilIface) = .nilIface:=rfl
  refine Yk.value (v:= .bool true) (w' :=w) ?_ hk
  unfold execOp
  simp only[hx,hy]
  simp[eqGuard,Go.binOp,he,Result.andThen]
theorem QO{x:Operand}{fv:Fn}{first cap:Array Value}(hx:Ag ρ x = .func fv first cap):(execOp (Ag ρ) ⟨none, .defer ⟨.value x,#[],#[]⟩,ty,pos,af,none⟩).run P w = .ok (.defer ⟨.fn fv cap,first⟩) w:=by
  unfold execOp
  simp[resolve,hx,Deferred.ofValue]
theorem ResF.cell1{p:Tmp}{ty:TypeId}{g:Nat}{t:TypeId}{v:Value}{fr:Nat × Nat}{d:TypeDesc}(hp:ρ p = .pointer (some ⟨g,0,none⟩))(hg:w.heap[g]? =some (.cells ([v]).toArray t fr)) 
    (hu:P.underlying ty=some d) (hd:(match d with | .struct _ | .array _ _=>false | _=>true)=true):ResF P ρ w (.cell p ty) v:=by
  refine⟨_,hp,?_⟩
  have hc:w.cell? ⟨g,0,none⟩=some v:=Al hg rfl
  have hagg:(isAgg ty).run P w = .ok false w:=by
    unfold isAgg
    cases d <;> first | (simp at hd;done) | simp[run_underlying hu,Result.andThen]
  simp[loadVar,hagg,hc]
theorem I0{fn:Func}{tmps:Array Value}{R:Ending→World→Prop}(rs:List ResultVar)(hrs:fn.results=rs.toArray)(vs:List Value)(v:Value)(hv:Fa vs=v)(ht:∀t,tmps.getD t undef=ρ t)(h:Ev P ρ w rs vs)(hR:R (.returned v) w):Leaves P fn tmps R [] .returning w:=
  ⟨_,Eb hrs ht h,by rw[hv];exact hR⟩
end
open Go.RowKit
set_option maxRecDepth 100000
theorem QP(w:World):(Op.equal 20 .nilIface .nilIface).run Tryz.prog w = .ok true w:=by kernel_rfl
theorem PZ(u:TypeId)(v:Value)(w:World):(Op.equal 20 (.iface u v) .nilIface).run Tryz.prog w = .ok false w:=by kernel_rfl
theorem O7{d:Option Tmp}{ty:TypeId}{pos:String}{af:Array Edge}{gd:Option (Nat × Bool)}(σ:Operand→Value)(w:World):(execOp σ ⟨d, .alloc 64,ty,pos,af,gd⟩).run Tryz.prog w = .ok (.value (PQ w.heap.size 0)) (w.alloc (.cells (([]:List Value)).toArray 64)):=by kernel_rfl
theorem Nb:(Tryz.prog.info? 30).map (·.size)=some 1:=by kernel_rfl
theorem Kv(b2 b3:Nat)(w:World):CallsD Tryz.prog 22 #[PQ b2 0,PQ b3 0] (.returning) w fun e u' w' =>u' =(BZ (.returning)).2∧(e = .returned (.tuple #[])∧Ext w w'):=by
 have hE:=Ext.refl w
 refine F9 (u:= .returning) (args:= [PQ b2 0,PQ b3 0]) Tryz.func22 rfl 17 rfl (Nat.le_of_ble_eq_true rfl) rfl rfl (R:=fun e w' =>e = .returned (.tuple #[])∧Ext w w') ?_
 intro ρz hb
 have b:(BC (BC ρz (some 5) (BZ (.returning)).1) (some 2) (BZ (.returning)).1) 0=(PQ b2 0:Value):=hb.get 0
 have c:(BC (BC ρz (some 5) (BZ (.returning)).1) (some 2) (BZ (.returning)).1) 1=(PQ b3 0:Value):=hb.get 1
 have a:(BC (BC ρz (some 5) (BZ (.returning)).1) (some 2) (BZ (.returning)).1) 2=(.nilIface:Value):=rfl
 generalize BC (BC ρz (some 5) (BZ (.returning)).1) (some 2) (BZ (.returning)).1=g at b c a ⊢
 clear hb
 refine sk fun h f=>(wt (oM rfl (oS rfl (Yk.neqNilN (QP _) a (oZ (tN (f _ _ (AH (vr (.bool (false)) rfl) (Aq (GY (fn:=Tryz.f22) [] rfl [] (.tuple #[]) rfl trivial ?_))))))))))
 exact⟨rfl,hE⟩

theorem Kw(w0:World)(b2 b3:Nat)(X2:Ah)(r:Value)(w:World)(h0:Ext w0 w)(l2:w0.heap.size≤b2)(l3:w0.heap.size≤b3)(hne:b2≠b3)(h2:w.heap[b2]? =some (.cells (refsC X2).toArray 35 (0,0)))(h3:w.heap[b3]? =some (.cells ([r]).toArray 30 (0,0))):CallsD Tryz.prog 22 #[PQ b2 0,PQ b3 0] (.panicking [CS]) w fun e u' w' =>u' =(BZ (.panicking [CS])).2∧(e = .returned (.tuple #[])∧w'.heap[b2]? =some (.cells (refsC ((⟨[],[],[],zid,[]⟩,⟨.slice none 0 0, .slice none 0 0, .slice none 0 0⟩):Ah)).toArray 35 (0,0))∧w'.heap[b3]? =some (.cells ([NI 6]).toArray 30 (0,0))∧Ext w0 w'):=by
 have hl2_:=(bl h2)
 have hl3_:=(bl h3)
 refine F9 (u:= .panicking [CS]) (args:= [PQ b2 0,PQ b3 0]) Tryz.func22 rfl 17 rfl (Nat.le_of_ble_eq_true rfl) rfl rfl (R:=fun e w' =>e = .returned (.tuple #[])∧w'.heap[b2]? =some (.cells (refsC ((⟨[],[],[],zid,[]⟩,⟨.slice none 0 0, .slice none 0 0, .slice none 0 0⟩):Ah)).toArray 35 (0,0))∧w'.heap[b3]? =some (.cells ([NI 6]).toArray 30 (0,0))∧Ext w0 w') ?_
 intro ρz hb
 have g:(BC (BC ρz (some 5) (BZ (.panicking [CS])).1) (some 2) (BZ (.panicking [CS])).1) 0=(PQ b2 0:Value):=hb.get 0
 have h:(BC (BC ρz (some 5) (BZ (.panicking [CS])).1) (some 2) (BZ (.panicking [CS])).1) 1=(PQ b3 0:Value):=hb.get 1
 have b:(BC (BC ρz (some 5) (BZ (.panicking [CS])).1) (some 2) (BZ (.panicking [CS])).1) 2=((.iface 64 (.agg #[])):Value):=rfl
 generalize BC (BC ρz (some 5) (BZ (.panicking [CS])).1) (some 2) (BZ (.panicking [CS])).1=ad at g h b ⊢
 clear hb
 refine sk fun K1 s=>(wt (oM rfl (oS rfl (Yk.neqNilS (PZ _ _ _) b (oZ (tN (s _ _ (wpF_true (vr (.bool (true)) rfl) (sk fun K2 t=>(sk fun K3 y=>(wt (oM rfl (oS rfl (Yk.assertOk (OI).choose_spec b (oM rfl (oS rfl (Yk.extract (vs:= [.agg (([]:List Value)).toArray, .bool (true)]) (vr (.tuple #[.agg (([]:List Value)).toArray, .bool (true)]) rfl) (show _=some (.agg (([]:List Value)).toArray:Value)from rfl) (oS rfl (Yk.extract (vs:= [.agg (([]:List Value)).toArray, .bool (true)]) (vr (.tuple #[.agg (([]:List Value)).toArray, .bool (true)]) rfl) (show _=some (.bool (true):Value)from rfl) (oS rfl (Yk.alloc (cs:=(([]:List Value)).toArray) O7 fun j z k l c ah=> ?_)))))))))))))))))))))
 have aa:=h0.size
 have ai:=Bc (bl h2) k
 have aj:=Bc (bl h3) k
 have h0:=h0.trans c
 have h2:=eb c h2
 have h3:=eb c h3
 have a:=l;clear l
 have ak:j<z.heap.size:=by omega
 refine oS rfl (Yk.storeAll (vr (PQ j 0) rfl) (vr (.agg (([]:List Value)).toArray) rfl) a (rfl) ((show(Tryz.prog.info? 64).map (·.size)=some 0 from by kernel_rfl)) ((by intro u hu;cases hu)) fun al m f am=> ?_)
 have h0:=Af h0 f (Nat.le_trans aa (by omega))
 have h2:=kb f h2 (by omega)
 have h3:=kb f h3 (by omega)
 clear a
 have a:=m;clear m
 have an:=bl a
 refine oA rfl (oZ (tN (y _ _ (sk fun ao ab=>(wt (oM rfl (oS rfl (Yk.notB (vr (.bool (true)) rfl) (oZ (tN (ab _ _ (AH (vr (.bool (false)) rfl) (Aq (tN (t _ _ (wt (oS rfl (Yk.run (v:= .agg (refsC ((⟨[],[],[],zid,[]⟩,⟨.slice none 0 0, .slice none 0 0, .slice none 0 0⟩):Ah)).toArray) (by kernel_rfl) (oS rfl (Yk.storeAll g (vr (.agg (refsC ((⟨[],[],[],zid,[]⟩,⟨.slice none 0 0, .slice none 0 0, .slice none 0 0⟩):Ah)).toArray) rfl) h2 (by simp only[List.size_toArray,Ao]) (AC (Ao _) IJ) (Br (x:=((⟨[],[],[],zid,[]⟩,⟨.slice none 0 0, .slice none 0 0, .slice none 0 0⟩):Ah)) rfl rfl rfl) fun ac n o ap=> ?_))))))))))))))))))))
 have h0:=Af h0 o (Nat.le_trans (Nat.le_refl _) (by omega))
 have h3:=kb o h3 (by omega)
 clear h2
 have h2:ac.heap[b2]? =some (.cells (refsC ((⟨[],[],[],zid,[]⟩,⟨.slice none 0 0, .slice none 0 0, .slice none 0 0⟩):Ah)).toArray 35 (0,0)):=n;clear n
 have aq:=bl h2
 refine oS rfl (Yk.storeC (i:=0) (v:=NI 6) h (vr (NI 6) rfl) h3 (Nat.le_of_ble_eq_true rfl) Nb rfl rfl fun ar p q au=> ?_)
 have h0:=Af h0 q (Nat.le_trans (Nat.le_refl _) (by omega))
 have h2:=kb q h2 (by omega)
 clear h3
 have h3:=p;clear p
 have av:=bl h3
 refine oZ (GY (fn:=Tryz.f22) [] rfl [] (.tuple #[]) rfl trivial ?_)
 exact⟨rfl,h2,h3,h0⟩
open Go.RowKit
set_option maxRecDepth 100000
theorem OG.setE{α:Type}{n k g:Nat}{t:TypeId}{enc:α→List Value}{w w' :World}{v:Value}{l:List α}(h:OG n t k enc w v l)(hg:w.grownBy w' (some g))(hl:g<n):OG n t k enc w' v l:=
 h.kept hg fun e=>by have:=(h.2.lt g e).1;omega
theorem RefsOw.set{w w' :World}{X:Ah}{n g:Nat}(h:RefsOw n w X)(hg:w.grownBy w' (some g))(hl:g<n):RefsOw n w' X:=⟨h.br.setE hg hl,h.tg.setE hg hl,h.lg.setE hg hl⟩
theorem RefsOw.toAt{w:World}{X:Ah}{n:Nat}(h:RefsOw n w X):RefsAt w X:=⟨RG.ofOwn h.br,RG.ofOwn h.tg,RG.ofOwn h.lg⟩
def DecResR(w:World)(X:Ah)(c:Nat):Option A0→Prop
 | some m=>c=0∧X.1=m∧RefsAt w X
 | none=>c=6∧X=((⟨[],[],[],zid,[]⟩,⟨.slice none 0 0, .slice none 0 0, .slice none 0 0⟩):Ah)
theorem O8{d:Option Tmp}{ty:TypeId}{pos:String}{af:Array Edge}{gd:Option (Nat × Bool)}(σ:Operand→Value)(w:World):(execOp σ ⟨d, .alloc 30,ty,pos,af,gd⟩).run Tryz.prog w = .ok (.value (PQ w.heap.size 0)) (w.alloc (.cells ([NI 0]).toArray 30)):=by kernel_rfl
theorem LH{z0:Value}(h0:∃ao n c,z0 = .slice ao n c)(w:World):(Instr.build 68 #[(0,z0)]).run Tryz.prog w = .ok (.agg #[z0, .int .i64 0]) w:=by obtain⟨_,_,_,rfl⟩:=h0;kernel_rfl
theorem Md{z0:Value}(h0:∃ao n c,z0 = .slice ao n c)(w:World):(Instr.build 68 #[(0,z0)]).run Tryz.prog w = .ok (.agg (z0 :: (.int .i64 (0) :: ([]))).toArray) w:=by
 exact LH h0 w
theorem O9:AI Tryz.prog 23:=fun _ _=>by kernel_rfl
theorem J9:Tryz.prog.underlying 30=some (.int .i64):=by kernel_rfl
set_option maxHeartbeats 1600000
theorem Me(w:World)(v:Value)(b:Bs)(hr:RB w v b)(hl:b.length≤4611686018427387904):
  Calls Tryz.prog 8 #[v] w fun e w' =>∃x,e = .returned x∧∃X c,x = .tuple #[.agg (refsC X).toArray,NI c]∧DecResR w' X c (B2 b)∧Ext w w' :=by
 refine LG (args:= [v]) Tryz.func8 rfl 9 rfl (Nat.le_of_ble_eq_true rfl) ?_
 intro aj hb
 have m:aj 0=(v:Value):=hb.get 0
 clear hb
 have hE:=Ext.refl w
 refine O5 _ Mb fun K1 ak=>(wt (oS rfl (Yk.alloc (cs:=(refsC ((⟨[],[],[],zid,[]⟩,⟨.slice none 0 0, .slice none 0 0, .slice none 0 0⟩):Ah)).toArray) N8 fun a p aw y al ax=> ?_)))
 have hE:=hE.trans al
 have n:=y;clear y
 have ay:a<p.heap.size:=by omega
 refine oS rfl (Yk.alloc (cs:=([NI 0]).toArray) O8 fun g o am z q az=> ?_)
 have r:=Ext.refl p
 have an:=hE.size
 have a0:=Bc (bl n) am
 have hE:=hE.trans q
 have n:=eb q n
 have r:=r.trans q
 have aa:=z;clear z
 have a1:g<o.heap.size:=by omega
 refine A3 [(0,v),(2,PQ a 0),(3,PQ g 0)] ⟨m,rfl,rfl,trivial⟩ fun a2 ⟨m,k,l,_⟩=> ?_
 have hrA:RB o v b:=(hr.keep hE)
 have ab:=n
 have ac:=aa
 have hEA:=hE
 have s:=Ext.refl o
 have a3:=hE.size
 have a4:=r.size
 refine tN (ak _ _ (Hj (D8 rfl (Yk.mkFunc (vs:= #[PQ a 0,PQ g 0]) (by simp only[List.map_toArray,List.map_cons,List.map_nil];exact congrArg List.toArray (CZ k l)) (Na (vr (.func (.func 22) #[] #[PQ a 0,PQ g 0]) rfl) (QO (vr (.func (.func 22) #[] #[PQ a 0,PQ g 0]) rfl)) (LF (fun ρ=>ρ 0=(v:Value)∧ρ 2=(PQ a 0:Value)∧ρ 3=(PQ g 0:Value)∧True) ⟨m,k,l,trivial⟩ fun a5 ⟨m,k,l,_⟩=>(Hj (D8 rfl (Yk.move m (D8 rfl (Yk.build1 (vr v rfl) (fun w=>Md (RB.slice (hr.keep hE)) w) (D8 rfl (Yk.box (cs:=(Bz ((⟨b,0⟩,⟨v⟩):D2):List Value).toArray) (vr (.agg (Bz ((⟨b,0⟩,⟨v⟩):D2)).toArray) rfl) fun ad ao ae af ap a6=> ?_)))))))))))))
 have a7:=Bc (bl n) ae
 have a8:=Bc (bl aa) ae
 have s:=s.trans ap
 have aq:=af;clear af
 have a9:ad<ao.heap.size:=by omega
 refine IZ rfl (Yp.callA1 O9 (vr (PQ ad 0) rfl) ?_)
 refine AV (O4 s aq hrA (by omega) hl) ?_ ?_
 rotate_left
 ·
  rintro ch ba ⟨hP,rfl,hx⟩
  intro a_ ha_
  show Leaves _ _ a_.tmps _ a_.defers (.panicking _) _
  rw[ha_.defers]
  refine leaves_cons (f:=22) (args:= #[PQ a 0,PQ g 0]) (by simp) (by simp[go_sem]) ((Kw w a g _ _ _ (hEA.trans hx) (by omega) (by omega) (by omega) (eb hx ab) (eb hx ac)).mono ?_)
  rintro e u' p ⟨rfl,rfl,h,j,ar⟩
  exact I0 (ρ:=_) _ rfl [.agg (refsC ((⟨[],[],[],zid,[]⟩,⟨.slice none 0 0, .slice none 0 0, .slice none 0 0⟩):Ah)).toArray,NI 6] (.tuple #[.agg (refsC ((⟨[],[],[],zid,[]⟩,⟨.slice none 0 0, .slice none 0 0, .slice none 0 0⟩):Ah)).toArray,NI 6]) rfl ha_.get ⟨ResF.row (k) h (N9).choose_spec rfl (AC (Ao _) IJ),ResF.cell1 (l) j J9 rfl,trivial⟩ ⟨_,rfl,_,_,rfl,by rw[hP];exact⟨rfl,rfl⟩,ar⟩
 rintro v_ bb ⟨X,hP,rfl,hX,hx⟩
 have hE:=hEA.trans hx
 have h:=eb hx ab
 have j:=eb hx ac
 have bc:=hx.size
 have hmt:=RG.ofOwn hX.br
 have hmg:=RG.ofOwn hX.tg
 have hml:=RG.ofOwn hX.lg
 have bd:=(bl h)
 have be:=(bl j)
 have hzA:=hEA.size
 refine D8 rfl (Yk.storeAll k (vr (.agg (refsC X).toArray) rfl) h (by simp only[List.size_toArray,Ao]) (AC (Ao _) IJ) (Br (x:=X) (RG.one hmt).2 (RG.one hmg).2 (RG.one hml).2) fun ag ah t bf=> ?_)
 have hE:=Af hE t (Nat.le_trans (Nat.le_refl _) (by omega))
 have j:=kb t j (by omega)
 have hX:RefsOw o.heap.size ag X:=RefsOw.set hX t (by omega)
 clear hmt
 clear hmg
 clear hml
 clear h
 have h:ag.heap[a]? =some (.cells (refsC X).toArray 35 (0,0)):=ah;clear ah
 have bg:=bl h
 refine D8 rfl (Yk.storeC (i:=0) (v:=NI 0) l (vr (NI 0) rfl) j (Nat.le_of_ble_eq_true rfl) Nb rfl rfl fun au ai u bh=> ?_)
 have hE:=Af hE u (Nat.le_trans an (by omega))
 have hX:RefsOw o.heap.size au X:=RefsOw.set hX u (by omega)
 have h:=kb u h (by omega)
 clear j
 have j:=ai;clear ai
 have bi:=bl j
 refine LF (fun ρ=>ρ 0=(v:Value)∧ρ 2=(PQ a 0:Value)∧ρ 3=(PQ g 0:Value)∧True) ⟨m,k,l,trivial⟩ fun bj ⟨m,k,l,_⟩=>(QN fun a_ ha_=> ?_)
 show Leaves _ _ a_.tmps _ a_.defers .returning _
 rw[ha_.defers]
 refine leaves_cons (f:=22) (args:= #[PQ a 0,PQ g 0]) (by simp) (by simp[go_sem]) ((Kv a g _).mono ?_)
 rintro e u' p ⟨rfl,rfl,hxi⟩
 exact I0 (ρ:=_) _ rfl [.agg (refsC X).toArray,NI 0] (.tuple #[.agg (refsC X).toArray,NI 0]) rfl ha_.get ⟨ResF.row (k) (eb hxi h) (N9).choose_spec rfl (AC (Ao _) IJ),ResF.cell1 (l) (eb hxi j) J9 rfl,trivial⟩ ⟨_,rfl,_,_,rfl,by rw[hP];exact⟨rfl,rfl,(RefsOw.toAt hX).keep hxi⟩,hE.trans hxi⟩
open Go.RowKit
set_option maxRecDepth 100000
theorem H3(w:World)(z:Ah)(hm:RefsAt w z)(hL:By z.1)(hR:AO z.1=true):
  Calls Tryz.prog 5 #[.agg (refsC z).toArray] w fun e w' =>∃v,e = .returned (.tuple #[v,NI 0])∧RB w' v (encR z.1)∧Ext w w' :=
 (H2 w z hm hL).mono fun e w' h=>by
  obtain⟨v,rfl,h1,h2⟩:=h
  rw[if_pos hR]at h1
  exact⟨v,by rw[if_pos hR],h1,h2⟩
theorem I1(w:World)(z:Ah)(hm:RefsAt w z)(hL:By z.1)(hR:AO z.1=false):
  Calls Tryz.prog 5 #[.agg (refsC z).toArray] w fun e w' =>∃v,e = .returned (.tuple #[v,NI 1])∧RB w' v []∧Ext w w' :=
 (H2 w z hm hL).mono fun e w' h=>by
  obtain⟨v,rfl,h1,h2⟩:=h
  rw[if_neg (by rw[hR];decide)]at h1
  exact⟨v,by rw[if_neg (by rw[hR];decide)],h1,h2⟩
def Fo(m:A0)(c:Nat):Option A0→Prop
 | some n=>c=0∧m=n
 | none=>c=6∧m=zeroR
theorem DecResR.all{w:World}{X:Ah}{c:Nat}{o:Option A0}(h:DecResR w X c o):RefsAt w X∧Fo X.1 c o:=by
 cases o with
 | some m=>exact⟨h.2.2,h.1,h.2.1⟩
 | none=>
  obtain⟨h1,h2⟩:=h
  subst h2
  exact⟨⟨RG.nil _ _ _,RG.nil _ _ _,RG.nil _ _ _⟩,h1,rfl⟩
theorem Er(w:World)(v:Value)(b:Bs)(hr:RB w v b)(hl:b.length≤4611686018427387904):
  Calls Tryz.prog 8 #[v] w fun e w' =>∃X c,e = .returned (.tuple #[.agg (refsC X).toArray,NI c])∧RefsAt w' X∧Fo X.1 c (B2 b)∧Ext w w' :=
 (Me w v b hr hl).mono fun e w' h=>by
  obtain⟨x,rfl,X,c,rfl,h1,h2⟩:=h
  exact⟨X,c,rfl,h1.all.1,h1.all.2,h2⟩

set_option maxHeartbeats 1600000
open Go.RowKit
set_option maxRecDepth 100000
theorem QS(r:Nat):((decide (0≤r)&&decide (r<55296))||(decide (57343<r)&&decide (r≤1114111)))=Dh r:=by
 unfold Dh
 rw[Bool.eq_iff_iff]
 simp only[Bool.or_eq_true,Bool.and_eq_true,decide_eq_true_eq]
 omega
theorem Ro{a b:Bool}(h:(a&&b)=false):a=false∨b=false:=by cases a <;> simp_all
abbrev runeC(r:Nat):List Value:= [.int .i32 (r:Int)]
theorem P0(r:Nat):∀v∈runeC r,v.oneCell' =true:=by intro v hv;simp only[List.mem_singleton]at hv;subst hv;rfl
theorem wr25_l2_28(z0 z1:Int)(w:World):(Instr.buildSlice 28 2 #[(0, .int .u8 z0),(1, .int .u8 z1)]).run Tryz.prog w = .ok (.slice (some ⟨w.heap.size,0,none⟩) 2 2) (w.alloc (.cells #[.int .u8 z0, .int .u8 z1] 5)):=by kernel_rfl
theorem Nc(z0 z1 z2:Int)(w:World):(Instr.buildSlice 28 3 #[(0, .int .u8 z0),(1, .int .u8 z1),(2, .int .u8 z2)]).run Tryz.prog w = .ok (.slice (some ⟨w.heap.size,0,none⟩) 3 3) (w.alloc (.cells #[.int .u8 z0, .int .u8 z1, .int .u8 z2] 5)):=by kernel_rfl
theorem Nd(z0 z1 z2 z3:Int)(w:World):(Instr.buildSlice 28 4 #[(0, .int .u8 z0),(1, .int .u8 z1),(2, .int .u8 z2),(3, .int .u8 z3)]).run Tryz.prog w = .ok (.slice (some ⟨w.heap.size,0,none⟩) 4 4) (w.alloc (.cells #[.int .u8 z0, .int .u8 z1, .int .u8 z2, .int .u8 z3] 5)):=by kernel_rfl
theorem Nf:AI Tryz.prog 100:=fun _ _=>by kernel_rfl
theorem Ng:AI Tryz.prog 101:=fun _ _=>by kernel_rfl
theorem Pa:AI Tryz.prog 90:=fun _ _=>by kernel_rfl
theorem Nh(z:Int)(w:World):(Instr.buildSlice 128 1 #[(0, .int .i32 z)]).run Tryz.prog w = .ok (.slice (some ⟨w.heap.size,0,none⟩) 1 1) (w.alloc (.cells #[.int .i32 z] 21)):=by kernel_rfl
theorem wr25_ig21:∃z,(Tryz.prog.info? 21).map (fun i=>(i.zero,i.size,i.bytes))=some (some z,1,4)∧z.cells.size=1:=Hs (by kernel_rfl)
theorem I2:Tryz.prog.underlying 128=some (.slice 21):=by kernel_rfl
theorem Ka:AI Tryz.prog 79:=fun _ _=>by kernel_rfl
theorem Pb:AI Tryz.prog 65:=fun _ _=>by kernel_rfl
set_option maxHeartbeats 1600000
theorem Ni(w:World)(r:Nat):
  Calls Tryz.prog 100 #[.int .i32 (r:Int)] w fun e w' =>e = .returned (.bool (Dh r))∧Ext w w' :=by
 refine As (args:= [.int .i32 ((r:Nat):Int)]) Tryz.func100 rfl 17 rfl (Nat.le_of_ble_eq_true rfl) ?_
 intro f hb
 have c:f 0=(.int .i32 ((r:Nat):Int):Value):=hb.get 0
 clear hb
 have hE:=Ext.refl w
 refine sk fun i g=>(wt (oA rfl (oZ (tN (g _ _ (sk fun j h=>(wt (oM rfl (oS rfl (Yk.eqI (a:=(r:Nat)) (b:=(0:Nat)) c rfl (Ds _ _ _ _) (oM rfl (Ac (.int .i32 ((r:Nat):Int)) rfl rfl (gT (vr (.bool (decide ((0)≤(r)))) rfl)) (fun hG3=>Yk.move c ⟨rfl,rfl⟩) (Ac (.bool (decide ((r)<(55296)))) rfl rfl (gT (vr (.bool (decide ((0)≤(r)))) rfl)) (fun hG4=>Yk.eqI (a:=((r:Nat):Int)) (b:=((55296:Nat):Int)) (Ak (vr (cond ((decide ((0)≤(r)))) (.int .i32 ((r:Nat):Int)) undef) rfl) hG4) (vr (.int .i32 ((55296:Nat):Int)) rfl) (AX _ .i32 (r) (55296)) ⟨rfl,rfl⟩) (oS rfl (Yk.pickAndN (vr (.bool (decide ((0)≤(r)))) rfl) (fun hA=>(Ak (vr (cond ((decide ((0)≤(r)))) (.bool (decide ((r)<(55296)))) undef) rfl) hA)) (vr (.bool (false)) rfl) fun bb5 hbb6=>(oM rfl (Ac (.int .i32 ((r:Nat):Int)) rfl rfl (gF (vr (.bool (bb5)) rfl)) (fun hG7=>Yk.move c ⟨rfl,rfl⟩) (Ac (.bool (decide ((57343)<(r)))) rfl rfl (gF (vr (.bool (bb5)) rfl)) (fun hG8=>Yk.eqI (a:=((r:Nat):Int)) (b:=((57343:Nat):Int)) (Ak (vr (cond (!bb5) (.int .i32 ((r:Nat):Int)) undef) rfl) hG8) (vr (.int .i32 ((57343:Nat):Int)) rfl) (BA _ .i32 (r) (57343)) ⟨rfl,rfl⟩) ?_))))))))))))))))))
 refine Ac (.bool (decide ((57343)<(r)))) rfl rfl (gF (vr (.bool (bb5)) rfl)) (fun hG9=>Yk.move (Ak (vr (cond (!bb5) (.bool (decide ((57343)<(r)))) undef) rfl) hG9) ⟨rfl,rfl⟩) (Ac (.int .i32 ((r:Nat):Int)) rfl rfl (Cc (vr (cond (!bb5) (.bool (decide ((57343)<(r)))) undef) rfl)) (fun hG10=>Yk.move c ⟨rfl,rfl⟩) (Ac (.bool (decide ((r)≤(1114111)))) rfl rfl (Cc (vr (cond (!bb5) (.bool (decide ((57343)<(r)))) undef) rfl)) (fun hG11=>Yk.eqI (a:=((r:Nat):Int)) (b:=((1114111:Nat):Int)) (Ak (vr (cond ((!bb5)&&(decide ((57343)<(r)))) (.int .i32 ((r:Nat):Int)) undef) rfl) hG11) (vr (.int .i32 ((1114111:Nat):Int)) rfl) (Cs _ .i32 (r) (1114111)) ⟨rfl,rfl⟩) (Cv ((decide ((57343)<(r)))&&(decide ((r)≤(1114111)))) rfl rfl (gF (vr (.bool (bb5)) rfl)) (fun hG12=>Yk.pickAnd (Ak (vr (cond (!bb5) (.bool (decide ((57343)<(r)))) undef) rfl) hG12) (fun hA=>(Ak (vr (cond ((!bb5)&&(decide ((57343)<(r)))) (.bool (decide ((r)≤(1114111)))) undef) rfl) (Du hG12 hA))) (vr (.bool (false)) rfl) ⟨rfl,rfl⟩) fun bb13 hbb14=>(oS rfl (Yk.pickOrN (vr (.bool (bb5)) rfl) (vr (.bool (true)) rfl) (fun hA=>(Ak (vr (cond (!bb5) (.bool (bb13)) undef) rfl) (Bb hA))) fun bb15 hbb16=>(oA rfl (oZ (tN (h _ _ (Am (Aj (fn:=Tryz.f100) _ rfl [.bool (bb15)] (.bool (bb15)) rfl ⟨rfl,trivial⟩ ?_)))))))))))
 subst hbb6 hbb14 hbb16
 exact⟨by rw[←QS],hE⟩

theorem LI(w:World)(r:Nat)(hr:r≤1114111):
  Calls Tryz.prog 101 #[.int .i32 (r:Int)] w fun e w' =>∃v,e = .returned v∧RB w' v (bytesR r)∧Ext w w' :=by
 refine As (args:= [.int .i32 ((r:Nat):Int)]) Tryz.func101 rfl 57 rfl (Nat.le_of_ble_eq_true rfl) ?_
 intro p hb
 have q:p 0=(.int .i32 ((r:Nat):Int):Value):=hb.get 0
 clear hb
 have hE:=Ext.refl w
 refine sk fun K1 s=>(wt (oA rfl (oZ (tN (s _ _ (sk fun K2 t=>(wt (oM rfl (oS rfl (Yk.convI Ez Li q (BJ (r) (by omega)) (oA rfl (oZ (tN (t _ _ (sk fun K3 u=>(sk fun K4 x=>(wt (oM rfl ?_))))))))))))))))))
 refine oS rfl (Yk.eqI (a:=(r:Nat)) (b:=(128:Nat)) rfl rfl (AX _ _ _ _) (oZ (tN (x _ _ ?_))))
 refine AL ((r)<(128)) (vr (.bool (decide ((r)<(128)))) rfl) (fun c=> ?_) (fun c=> ?_)
 ·refine sk fun K5 y=>(wt (oM rfl (oS rfl (Yk.convI Li u5 (vr (NI r) rfl) (DH (r)) (oS rfl (Yk.lit1 (b:=UInt8.ofNat (r)) M7 (vr (B8 (UInt8.ofNat (r))) rfl) fun l w7 g=> ?_))))))
  have hE:=hE.trans g.ext
  have z:=g.own;clear g
  refine oA rfl (oZ (tN (y _ _ (Am (An (Aj (fn:=Tryz.f101) _ rfl [l] (l) rfl ⟨rfl,trivial⟩ ?_))))))
  exact⟨_,rfl,RB.ofOwn (BW z (by unfold bytesR;rw[if_pos c])),hE⟩
 refine Aq (tN (u _ _ (sk fun aq aa=>(sk fun ar ab=>(wt (oM rfl (oS rfl (Yk.eqI (a:=(r:Nat)) (b:=(2048:Nat)) rfl rfl (AX _ _ _ _) (oZ (tN (ab _ _ ?_)))))))))))
 refine AL ((r)<(2048)) (vr (.bool (decide ((r)<(2048)))) rfl) (fun f=> ?_) (fun f=> ?_)
 ·refine sk fun au ac=>(wt (oM rfl (oS rfl (Yk.bin (xv:=NI r) (yv:=NI 64) rfl rfl rfl (E1 _ _ _ (by omega) (by omega)) (oS rfl (Yk.bin (xv:=NI 192) (yv:=NI ((r)/(64))) rfl rfl rfl (AA _ _ _ (by omega)) (oS rfl (Yk.convI Li u5 (vr (NI ((192)+((r)/(64)))) rfl) (DH ((192)+((r)/(64)))) (oM rfl (oS rfl (Yk.bin (xv:=NI r) (yv:=NI 64) rfl rfl rfl (DY _ _ _ (by omega)) (oS rfl (Yk.bin (xv:=NI 128) (yv:=NI ((r)%(64))) rfl rfl rfl (AA _ _ _ (by omega)) (oS rfl (Yk.convI Li u5 (vr (NI ((128)+((r)%(64)))) rfl) (DH ((128)+((r)%(64)))) (oS rfl (Yk.lit2 (b0:=UInt8.ofNat ((192)+((r)/(64)))) (b1:=UInt8.ofNat ((128)+((r)%(64)))) wr25_l2_28 (vr (B8 (UInt8.ofNat ((192)+((r)/(64))))) rfl) (vr (B8 (UInt8.ofNat ((128)+((r)%(64))))) rfl) fun m av h=> ?_)))))))))))))))))
  have hE:=hE.trans h.ext
  have ad:=h.own;clear h
  refine oA rfl (oZ (tN (ac _ _ (Am (An (Aj (fn:=Tryz.f101) _ rfl [m] (m) rfl ⟨rfl,trivial⟩ ?_))))))
  exact⟨_,rfl,RB.ofOwn (BW ad (by unfold bytesR;rw[if_neg c,if_pos f])),hE⟩
 refine Aq (tN (aa _ _ (sk fun aw ae=>(sk fun ax af=>(wt (oM rfl (oS rfl (Yk.eqI (a:=(r:Nat)) (b:=(65536:Nat)) rfl rfl (AX _ _ _ _) (oZ (tN (af _ _ ?_)))))))))))
 refine AL ((r)<(65536)) (vr (.bool (decide ((r)<(65536)))) rfl) (fun i=> ?_) (fun i=> ?_)
 ·refine sk fun ay ag=>(wt (oM rfl (oS rfl (Yk.bin (xv:=NI r) (yv:=NI 4096) rfl rfl rfl (E1 _ _ _ (by omega) (by omega)) (oS rfl (Yk.bin (xv:=NI 224) (yv:=NI ((r)/(4096))) rfl rfl rfl (AA _ _ _ (by omega)) (oS rfl (Yk.convI Li u5 (vr (NI ((224)+((r)/(4096)))) rfl) (DH ((224)+((r)/(4096)))) (oM rfl (oS rfl (Yk.bin (xv:=NI r) (yv:=NI 64) rfl rfl rfl (E1 _ _ _ (by omega) (by omega)) (oS rfl (Yk.bin (xv:=NI ((r)/(64))) (yv:=NI 64) rfl rfl rfl (DY _ _ _ (by omega)) (oS rfl (Yk.bin (xv:=NI 128) (yv:=NI (((r)/(64))%(64))) rfl rfl rfl (AA _ _ _ (by omega)) (oS rfl (Yk.convI Li u5 (vr (NI ((128)+(((r)/(64))%(64)))) rfl) (DH ((128)+(((r)/(64))%(64)))) (oM rfl (oS rfl (Yk.bin (xv:=NI r) (yv:=NI 64) rfl rfl rfl (DY _ _ _ (by omega)) (oS rfl (Yk.bin (xv:=NI 128) (yv:=NI ((r)%(64))) rfl rfl rfl (AA _ _ _ (by omega)) (oS rfl (Yk.convI Li u5 (vr (NI ((128)+((r)%(64)))) rfl) (DH ((128)+((r)%(64)))) (oS rfl (Yk.lit3 (b0:=UInt8.ofNat ((224)+((r)/(4096)))) (b1:=UInt8.ofNat ((128)+(((r)/(64))%(64)))) (b2:=UInt8.ofNat ((128)+((r)%(64)))) Nc (vr (B8 (UInt8.ofNat ((224)+((r)/(4096))))) rfl) (vr (B8 (UInt8.ofNat ((128)+(((r)/(64))%(64))))) rfl) (vr (B8 (UInt8.ofNat ((128)+((r)%(64))))) rfl) fun n az j=> ?_))))))))))))))))))))))))))
  have hE:=hE.trans j.ext
  have ah:=j.own;clear j
  refine oA rfl (oZ (tN (ag _ _ (Am (An (Aj (fn:=Tryz.f101) _ rfl [n] (n) rfl ⟨rfl,trivial⟩ ?_))))))
  exact⟨_,rfl,RB.ofOwn (BW ah (by unfold bytesR;rw[if_neg c,if_neg f,if_pos i])),hE⟩
 refine Aq (tN (ae _ _ (sk fun a0 ai=>(wt (oM rfl (oS rfl (Yk.bin (xv:=NI r) (yv:=NI 262144) rfl rfl rfl (E1 _ _ _ (by omega) (by omega)) (oS rfl (Yk.bin (xv:=NI 240) (yv:=NI ((r)/(262144))) rfl rfl rfl (AA _ _ _ (by omega)) (oS rfl (Yk.convI Li u5 (vr (NI ((240)+((r)/(262144)))) rfl) (DH ((240)+((r)/(262144)))) (oM rfl (oS rfl (Yk.bin (xv:=NI r) (yv:=NI 4096) rfl rfl rfl (E1 _ _ _ (by omega) (by omega)) (oS rfl (Yk.bin (xv:=NI ((r)/(4096))) (yv:=NI 64) rfl rfl rfl (DY _ _ _ (by omega)) (oS rfl (Yk.bin (xv:=NI 128) (yv:=NI (((r)/(4096))%(64))) rfl rfl rfl (AA _ _ _ (by omega)) (oS rfl (Yk.convI Li u5 (vr (NI ((128)+(((r)/(4096))%(64)))) rfl) (DH ((128)+(((r)/(4096))%(64)))) (oM rfl (oS rfl (Yk.bin (xv:=NI r) (yv:=NI 64) rfl rfl rfl (E1 _ _ _ (by omega) (by omega)) (oS rfl (Yk.bin (xv:=NI ((r)/(64))) (yv:=NI 64) rfl rfl rfl (DY _ _ _ (by omega)) ?_)))))))))))))))))))))))))
 refine oS rfl (Yk.bin (xv:=NI 128) (yv:=NI (((r)/(64))%(64))) rfl rfl rfl (AA _ _ _ (by omega)) (oS rfl (Yk.convI Li u5 (vr (NI ((128)+(((r)/(64))%(64)))) rfl) (DH ((128)+(((r)/(64))%(64)))) (oM rfl (oS rfl (Yk.bin (xv:=NI r) (yv:=NI 64) rfl rfl rfl (DY _ _ _ (by omega)) (oS rfl (Yk.bin (xv:=NI 128) (yv:=NI ((r)%(64))) rfl rfl rfl (AA _ _ _ (by omega)) (oS rfl (Yk.convI Li u5 (vr (NI ((128)+((r)%(64)))) rfl) (DH ((128)+((r)%(64)))) (oS rfl (Yk.lit4 (b0:=UInt8.ofNat ((240)+((r)/(262144)))) (b1:=UInt8.ofNat ((128)+(((r)/(4096))%(64)))) (b2:=UInt8.ofNat ((128)+(((r)/(64))%(64)))) (b3:=UInt8.ofNat ((128)+((r)%(64)))) Nd (vr (B8 (UInt8.ofNat ((240)+((r)/(262144))))) rfl) (vr (B8 (UInt8.ofNat ((128)+(((r)/(4096))%(64))))) rfl) (vr (B8 (UInt8.ofNat ((128)+(((r)/(64))%(64))))) rfl) (vr (B8 (UInt8.ofNat ((128)+((r)%(64))))) rfl) fun o a1 k=> ?_))))))))))))
 have hE:=hE.trans k.ext
 have aj:=k.own;clear k
 refine oA rfl (oZ (tN (ai _ _ (Am (Aj (fn:=Tryz.f101) _ rfl [o] (o) rfl ⟨rfl,trivial⟩ ?_)))))
 exact⟨_,rfl,RB.ofOwn (BW aj (by unfold bytesR;rw[if_neg c,if_neg f,if_neg i])),hE⟩

theorem Nj(w:World)(l:Bs)(a:Nat)(ha:a<l.length)(hl:l.length≤4611686018427387904):
  Calls Tryz.prog 90 #[St l,NI a] w fun e w' =>(∃r n,e = .returned (.tuple #[.int .i32 ((r:Nat):Int),NI n])∧(CU l a=if n=0 then none else some (a+n))∧a+n≤l.length)∧Ext w w' :=by
 refine As (args:= [St (l),NI a]) Tryz.func90 rfl 122 rfl (Nat.le_of_ble_eq_true rfl) ?_
 intro aa hb
 have g:aa 0=(St (l):Value):=hb.get 0
 have f:aa 1=(NI a:Value):=hb.get 1
 clear hb
 have hE:=Ext.refl w
 refine sk fun K1 ag=>(wt (oA rfl (oA rfl (oZ (tN (ag _ _ (sk fun K2 ah=>(sk fun K3 ai=>(wt (oA rfl (A3 [(0,St (l)),(1,NI a),(4, .int .i32 ((0:Nat):Int)),(5,NI 0),(6,NI 1)] ⟨g,f,rfl,rfl,rfl,trivial⟩ fun du ⟨g,f,T4,T5,c,_⟩=>(tN (ai _ _ (Av (A4 (fun(ρ:Au) (wz:World)=>∃n:Nat,ρ 0=(St (l):Value)∧ρ 1=(NI a:Value)∧ρ 6=(NI n:Value)∧Ext w wz∧(1≤n)∧(n≤5)∧(∀m,1≤m→m<n→a+m≤l.length→¬EL l a m)∧True) (fun ρ _=>6-(intOf (ρ 6)).toNat) ⟨1,g,f,c,hE,Nat.le_refl _,by omega,fun m h1 h2=>by omega,trivial⟩ ?_)))))))))))))))
 clear hE
 rintro q w6 ⟨n,g,f,c,hE,aj,dy,hno,-⟩
 have q6:=c
 refine sk fun K7 ak=>(sk fun K8 al=>(wt (oM rfl (oS rfl (Yk.eqI (a:=(n:Nat)) (b:=(4:Nat)) c rfl (Cs _ _ _ _) (oM rfl (Ac (NI n) rfl rfl (gT (vr (.bool (decide ((n)≤(4)))) rfl)) (fun hG9=>Yk.move c ⟨rfl,rfl⟩) (Ac (St (l)) rfl rfl (gT (vr (.bool (decide ((n)≤(4)))) rfl)) (fun hG10=>Yk.move g ⟨rfl,rfl⟩) (Ac (NI l.length) rfl rfl (gT (vr (.bool (decide ((n)≤(4)))) rfl)) (fun hG11=>Yk.lenSt (l:=l) DT (Ak (vr (cond ((decide ((n)≤(4)))) (St (l)) undef) rfl) hG11) ⟨rfl,rfl⟩) (Ac (NI a) rfl rfl (gT (vr (.bool (decide ((n)≤(4)))) rfl)) (fun hG12=>Yk.move f ⟨rfl,rfl⟩) (Ac (NI ((l.length)-(a))) rfl rfl (gT (vr (.bool (decide ((n)≤(4)))) rfl)) (fun hG13=>Yk.bin (xv:=NI l.length) (yv:=NI a) (Ak (vr (cond ((decide ((n)≤(4)))) (NI l.length) undef) rfl) hG13) (Ak (vr (cond ((decide ((n)≤(4)))) (NI a) undef) rfl) hG13) rfl (B5 _ (l.length) (a) (by omega) (by omega)) ⟨rfl,rfl⟩) (Ac (.bool (decide ((n)≤((l.length)-(a))))) rfl rfl (gT (vr (.bool (decide ((n)≤(4)))) rfl)) (fun hG14=>Yk.eqI (a:=((n:Nat):Int)) (b:=(((l.length)-(a):Nat):Int)) (Ak (vr (cond ((decide ((n)≤(4)))) (NI n) undef) rfl) hG14) (Ak (vr (cond ((decide ((n)≤(4)))) (NI ((l.length)-(a))) undef) rfl) hG14) (Cs _ .i64 (n) ((l.length)-(a))) ⟨rfl,rfl⟩) (oS rfl (Yk.pickAndN (vr (.bool (decide ((n)≤(4)))) rfl) (fun hA=>(Ak (vr (cond ((decide ((n)≤(4)))) (.bool (decide ((n)≤((l.length)-(a))))) undef) rfl) hA)) (vr (.bool (false)) rfl) fun bb15 hbb16=>(oZ (tN (al _ _ ?_)))))))))))))))))
 refine AW (bb15) (vr (.bool (bb15)) rfl) (fun t=> ?_) (fun t=> ?_)
 ·subst hbb16
  have hb:n≤4∧n≤l.length-a:=by simpa using t
  have d1:=(l.getD a 0).toNat_lt
  have d2:=(l.getD (a+1) 0).toNat_lt
  have d3:=(l.getD (a+2) 0).toNat_lt
  have d4:=(l.getD (a+3) 0).toNat_lt
  refine Aq (tN (ak _ _ (sk fun d5 s=>(Av (sk fun d6 am=>(wt (oA rfl (oZ (tN (am _ _ (sk fun an ab=> ?_)))))))))))
  have hJK19:∀(ρ:Au) (wz:World),(∃v:Int,ρ 0=(St (l):Value)∧ρ 1=(NI a:Value)∧ρ 6=(NI n:Value)∧ρ 7=(.int .i64 (v:Int):Value)∧Ext w wz∧(v=vN l a n)∧True)→an ρ wz:=by
   clear hE
   rintro d7 d8 ⟨v,g,f,c,j,hE,hv,-⟩
   refine ab _ _ ?_
   by_cases q1:v<0
   ·have hnk:¬EL l a n:=fun h=>by have:=h.1;omega
    refine sk fun d9 ea=>(sk fun ec ao=>(wt (oM rfl (oS rfl (Yk.eqI j (vr (NI 0) rfl) (Kz _ .i64 (v:Int) ((0:Nat):Int)) (oM rfl (oN (d:=98) rfl rfl rfl (vr (.bool (true)) (congrArg Value.bool (decide_eq_true (q1)))) rfl (oN (d:=98) rfl rfl rfl (vr (.bool (true)) (congrArg Value.bool (decide_eq_true (q1)))) rfl (oS rfl (Yk.pickT (vr (.bool (true)) (congrArg Value.bool (decide_eq_true (q1)))) (vr (.bool (true)) rfl) (oM rfl (oN (d:=102) rfl rfl rfl (vr (.bool (true)) rfl) rfl (oN (d:=102) rfl rfl rfl (vr (.bool (true)) rfl) rfl (oN (d:=102) rfl rfl rfl (vr (.bool (true)) rfl) rfl (oN (d:=102) rfl rfl rfl (vr (.bool (true)) rfl) rfl (oS rfl (Yk.pickT (vr (.bool (true)) rfl) (vr (.bool (true)) rfl) (oZ ?_))))))))))))))))))
    refine tN (ao _ _ (wpF_true (vr (.bool (true)) rfl) (AP (Ar (Az (tN (s _ _ (wt (oM rfl (oS rfl (Yk.bin (xv:=NI n) (yv:=NI 1) c rfl rfl (AA _ _ _ (by omega)) (oA rfl (A3 [(0,St (l)),(1,NI a),(6,NI ((n)+(1))),(7, .int .i64 (v:Int)),(107, .bool (true))] ⟨g,f,rfl,j,rfl,trivial⟩ fun ap ⟨g,f,c,j,aq,_⟩=>(tN (And.intro ⟨n+1,g,f,c,hE,by omega,by omega,fun m h1 h2 h3=>(Nat.lt_succ_iff_lt_or_eq.1 h2).elim (fun h=>hno m h1 h h3) (fun h=>h▸hnk),trivial⟩ ?_)))))))))))))))
    show 6-(intOf (ap 6)).toNat<6-(intOf (q 6)).toNat
    rw[c,q6]
    simp only[intOf,Int.toNat_natCast];omega
   by_cases q2:1114111<v
   ·have hnk:¬EL l a n:=fun h=>by have:=h.2.1;omega
    refine sk fun ed ee=>(sk fun ef ar=>(wt (oM rfl (oS rfl (Yk.eqI j (vr (NI 0) rfl) (Kz _ .i64 (v:Int) ((0:Nat):Int)) (oM rfl (oY (d:=98) rfl rfl (vr (.bool (false)) (congrArg Value.bool (decide_eq_false (q1)))) (Yk.move j (oY (d:=98) rfl rfl (vr (.bool (false)) (congrArg Value.bool (decide_eq_false (q1)))) (Yk.eqI (vr (.int .i64 (v:Int)) rfl) (vr (NI 1114111) rfl) (Rs _ .i64 (v:Int) ((1114111:Nat):Int)) (oS rfl (Yk.pickF (vr (.bool (false)) (congrArg Value.bool (decide_eq_false (q1)))) (vr (.bool (true)) (congrArg Value.bool (decide_eq_true (q2)))) (oM rfl (oN (d:=102) rfl rfl rfl (vr (.bool (true)) rfl) rfl (oN (d:=102) rfl rfl rfl (vr (.bool (true)) rfl) rfl (oN (d:=102) rfl rfl rfl (vr (.bool (true)) rfl) rfl (oN (d:=102) rfl rfl rfl (vr (.bool (true)) rfl) rfl (oS rfl (Yk.pickT (vr (.bool (true)) rfl) (vr (.bool (true)) rfl) (oZ ?_))))))))))))))))))))
    refine tN (ar _ _ (wpF_true (vr (.bool (true)) rfl) (AP (Ar (Az (tN (s _ _ (wt (oM rfl (oS rfl (Yk.bin (xv:=NI n) (yv:=NI 1) c rfl rfl (AA _ _ _ (by omega)) (oA rfl (A3 [(0,St (l)),(1,NI a),(6,NI ((n)+(1))),(7, .int .i64 (v:Int)),(107, .bool (true))] ⟨g,f,rfl,j,rfl,trivial⟩ fun au ⟨g,f,c,j,aq,_⟩=>(tN (And.intro ⟨n+1,g,f,c,hE,by omega,by omega,fun m h1 h2 h3=>(Nat.lt_succ_iff_lt_or_eq.1 h2).elim (fun h=>hno m h1 h h3) (fun h=>h▸hnk),trivial⟩ ?_)))))))))))))))
    show 6-(intOf (au 6)).toNat<6-(intOf (q 6)).toNat
    rw[c,q6]
    simp only[intOf,Int.toNat_natCast];omega
   obtain⟨k,rfl⟩:=Int.eq_ofNat_of_zero_le (Int.not_lt.1 q1)
   refine sk fun eg av=>(sk fun eh aw=>(wt (oM rfl (oS rfl (Yk.eqI (a:=(k:Nat)) (b:=(0:Nat)) j rfl (AX _ _ _ _) (oM rfl (oY (d:=98) rfl rfl (vr (.bool (false)) (congrArg Value.bool (decide_eq_false (by omega)))) (Yk.move j (oY (d:=98) rfl rfl (vr (.bool (false)) (congrArg Value.bool (decide_eq_false (by omega)))) (Yk.eqI (a:=(k:Nat)) (b:=(1114111:Nat)) rfl rfl (BA _ _ _ _) (oS rfl (Yk.pickF (vr (.bool (false)) (congrArg Value.bool (decide_eq_false (by omega)))) (vr (.bool (false)) (congrArg Value.bool (decide_eq_false (by omega)))) (oM rfl (oY (d:=102) rfl rfl (vr (.bool (false)) rfl) (Yk.move j (oY (d:=102) rfl rfl (vr (.bool (false)) rfl) (Yk.convI Li Ez (vr (NI k) rfl) (C3 (k) (by omega)) (oY (d:=102) rfl rfl (vr (.bool (false)) rfl) (Yk.callA1 Nf (vr (.int .i32 ((k:Nat):Int)) rfl) ((Ni _ k).mono ?_))))))))))))))))))))
   rintro e ei ⟨rfl,ax⟩
   refine⟨_,rfl,?_⟩
   have hE:=hE.trans ax
   refine oY (d:=102) rfl rfl (vr (.bool (false)) rfl) (Yk.notB (vr (.bool (Dh k)) rfl) (oS rfl (Yk.pickF (vr (.bool (false)) rfl) (vr (.bool (!(Dh k))) rfl) (oZ (tN (aw _ _ ?_))))))
   refine AW (!(Dh k)) (vr (.bool (!(Dh k))) rfl) (fun u=> ?_) (fun u=> ?_)
   ·have hm:Dh k=false:=by simpa using u
    have hnk:¬EL l a n:=fun h=>by have h3:=h.2.2.1;rw[←hv,Int.toNat_natCast,hm]at h3;cases h3
    refine AP (Ar (Az (tN (s _ _ (wt (oM rfl (oS rfl (Yk.bin (xv:=NI n) (yv:=NI 1) c rfl rfl (AA _ _ _ (by omega)) (oA rfl (A3 [(0,St (l)),(1,NI a),(6,NI ((n)+(1))),(7,NI k)] ⟨g,f,rfl,j,trivial⟩ fun ay ⟨g,f,c,j,_⟩=>(tN (And.intro ⟨n+1,g,f,c,hE,by omega,by omega,fun m h1 h2 h3=>(Nat.lt_succ_iff_lt_or_eq.1 h2).elim (fun h=>hno m h1 h h3) (fun h=>h▸hnk),trivial⟩ ?_))))))))))))
    show 6-(intOf (ay 6)).toNat<6-(intOf (q 6)).toNat
    rw[c,q6]
    simp only[intOf,Int.toNat_natCast];omega
   have hm:Dh k=true:=by simpa using u
   refine Aq (tN (av _ _ (sk fun ej az=> ?_)))
   refine Bw [Is (NI k),Is (.int .i32 ((k:Nat):Int)),fun x w' =>RB w' x (bytesR k),Is (St (bytesR k)),Is (St (l)),Is (NI a),Is (NI a),Is (NI n),Is (NI ((a)+(n))),Is (St ((l.drop (a)).take (((a)+(n))-(a)))),Is (.bool (decide ((bytesR k:List UInt8)=((l.drop (a)).take (((a)+(n))-(a)):List UInt8))))] (by kernel_rfl) [108,109,110,111,112,113,114,115,116,117,118] (by kernel_rfl) (by kernel_rfl) (DG ⟨(fun _ _ _ h k=>RB.keep h k),(RR trivial)⟩) ?a0 ?hQ1015
   case a0=>
    refine⟨?_,?_,?_,?_,?_,?_,?_,?_,?_,?_,?_,trivial⟩
    ·refine Aa rfl fun σ w1 hC h=> ?_
     have e7:=(Ae (h 7 (by decide))).trans j
     exact Yk.move e7 ⟨Ext.refl _,rfl⟩
    ·refine Aa rfl fun σ w1 hC h=> ?_
     have a2:=Ae (h 108 (by decide))
     exact Yk.convI Li Ez a2 (C3 (k) (by omega)) ⟨Ext.refl _,rfl⟩
    ·refine Aa rfl fun σ w1 hC h=> ?_
     have a3:=Ae (h 109 (by decide))
     refine Yk.callA1 Ng a3 ((LI _ k (by omega)).mono ?_)
     rintro e w2 ⟨v,rfl,hR,hx⟩
     exact⟨_,rfl,hx,hR⟩
    ·refine Aa rfl fun σ w1 hC h=> ?_
     have a4:(fun x w' =>RB w' x (bytesR k)) (σ 110) w1:=h 110 (by decide)
     exact Yk.convRB Ek u5 DT a4 ⟨Ext.refl _,rfl⟩
    ·refine Aa rfl fun σ w1 hC h=> ?_
     have p:=(Ae (h 0 (by decide))).trans g
     exact Yk.move p ⟨Ext.refl _,rfl⟩
    ·refine Aa rfl fun σ w1 hC h=> ?_
     have o:=(Ae (h 1 (by decide))).trans f
     exact Yk.move o ⟨Ext.refl _,rfl⟩
    ·refine Aa rfl fun σ w1 hC h=> ?_
     have o:=(Ae (h 1 (by decide))).trans f
     exact Yk.move o ⟨Ext.refl _,rfl⟩
    ·refine Aa rfl fun σ w1 hC h=> ?_
     have e6:=(Ae (h 6 (by decide))).trans c
     exact Yk.move e6 ⟨Ext.refl _,rfl⟩
    ·refine Aa rfl fun σ w1 hC h=> ?_
     have a6:=Ae (h 114 (by decide))
     have a7:=Ae (h 115 (by decide))
     exact Yk.bin (xv:=NI a) (yv:=NI n) a6 a7 rfl (AA _ _ _ (by omega)) ⟨Ext.refl _,rfl⟩
    ·refine Aa rfl fun σ w1 hC h=> ?_
     have a8:=Ae (h 112 (by decide))
     have a9:=Ae (h 113 (by decide))
     have ba:=Ae (h 116 (by decide))
     exact Yk.sliceSt (l:=l) DT (a) ((a)+(n)) a8 (.inr ⟨.i64,congrArg some a9⟩) (.inr ⟨.i64,congrArg some ba⟩) (by omega) (by omega) ⟨Ext.refl _,rfl⟩
    ·refine Aa rfl fun σ w1 hC h=> ?_
     have bb:=Ae (h 111 (by decide))
     have bc:=Ae (h 117 (by decide))
     exact Yk.eqSt (l:=bytesR k) (m:=(l.drop (a)).take (((a)+(n))-(a))) (.inl rfl) bb bc (decide ((bytesR k:List UInt8)=((l.drop (a)).take (((a)+(n))-(a)):List UInt8))) rfl ⟨Ext.refl _,rfl⟩
   intro bd em be he hf
   obtain⟨-,-,-,-,-,-,-,-,-,-,k118,-⟩:=hf
   obtain⟨g,f,c,j,-⟩:=he.hold [(0,_),(1,_),(6,_),(7,_)] ⟨g,f,c,j,trivial⟩ rfl
   clear he
   have hE:=hE.trans be
   have bf:bd 118 = .bool (decide ((bytesR k:List UInt8)=((l.drop (a)).take (((a)+(n))-(a)):List UInt8))):=k118
   clear k118
   refine tN (az _ _ ?_)
   refine AL ((bytesR k:List UInt8)=((l.drop (a)).take (((a)+(n))-(a)):List UInt8)) bf (fun y=> ?_) (fun y=> ?_)
   ·refine sk fun en bg=>(wt (oM rfl (oS rfl (Yk.convI Li Ez j (C3 (k) (by omega)) (oM rfl (oA rfl (oA rfl (oZ (tN (bg _ _ (Am (AE (An (An (AE (An (Aj (fn:=Tryz.f90) _ rfl [.int .i32 ((k:Nat):Int),NI n] (.tuple #[.int .i32 ((k:Nat):Int),NI n]) rfl ⟨rfl,c,trivial⟩ ?_)))))))))))))))))
    exact⟨⟨_,n,rfl,by rw[if_neg (by omega)];exact M3 ha aj hb.1 (by have:=hb.2;omega) ⟨by omega,by omega,by rw[←hv,Int.toNat_natCast];exact hm,by rw[←hv,Int.toNat_natCast];exact y.trans (by rw[Nat.add_sub_cancel_left])⟩,by have:=hb.2;omega⟩,hE⟩
   have hnk:¬EL l a n:=fun h=>y (by have h4:=h.2.2.2;rw[←hv,Int.toNat_natCast]at h4;rw[h4,Nat.add_sub_cancel_left])
   refine Aq (bN (tN (s _ _ (wt (oM rfl (oS rfl (Yk.bin (xv:=NI n) (yv:=NI 1) c rfl rfl (AA _ _ _ (by omega)) (oA rfl (A3 [(0,St (l)),(1,NI a),(6,NI ((n)+(1))),(7,NI k)] ⟨g,f,rfl,j,trivial⟩ fun bh ⟨g,f,c,j,_⟩=>(tN (And.intro ⟨n+1,g,f,c,hE,by omega,by omega,fun m h1 h2 h3=>(Nat.lt_succ_iff_lt_or_eq.1 h2).elim (fun h=>hno m h1 h h3) (fun h=>h▸hnk),trivial⟩ ?_)))))))))))
   show 6-(intOf (bh 6)).toNat<6-(intOf (q 6)).toNat
   rw[c,q6]
   simp only[intOf,Int.toNat_natCast];omega
  clear ab
  refine sk fun eo bi=>(wt (oM rfl (oZ (tN (bi _ _ (Av (sk fun ep bj=>(wt (oS rfl (Yk.eqI (a:=(n:Nat)) (b:=(1:Nat)) c rfl (A2 _ _ _ _) (oA rfl (oZ (tN (bj _ _ ?_))))))))))))))
  refine AL ((n:Nat)=(1)) (vr (.bool (decide ((n:Nat)=(1)))) rfl) (fun ac=> ?_) (fun ac=> ?_)
  ·refine wt (oM rfl (oM rfl (oS rfl (Yk.idxSt (l:=l) (i:=a) DT g f (by omega) (oS rfl (Yk.convI u5 Li (vr (B8 (l.getD (a) 0)) rfl) (C6 .i64 (l.getD (a) 0) (fun n hn=>BJ n (by omega))) (oA rfl (A3 [(0,St (l)),(1,NI a),(6,NI n),(7,NI ((l.getD (a) 0).toNat)),(20,NI n)] ⟨g,f,c,rfl,c,trivial⟩ fun eq ⟨g,f,c,j,z,_⟩=>(bN ?_)))))))))
   exact tN (hJK19 _ _ ⟨(((l.getD (a) 0).toNat:Nat):Int),g,f,c,j,hE,by rw[show n=1 from ac];rfl,trivial⟩)
  refine sk fun er bk=>(wt (oS rfl (Yk.eqI (a:=(n:Nat)) (b:=(2:Nat)) c rfl (A2 _ _ _ _) (oA rfl (oZ (tN (bk _ _ ?_)))))))
  refine AL ((n:Nat)=(2)) (vr (.bool (decide ((n:Nat)=(2)))) rfl) (fun ad=> ?_) (fun ad=> ?_)
  ·refine Bw [Is (St (l)),Is (NI a),Is (B8 (l.getD (a) 0)),Is (NI ((l.getD (a) 0).toNat)),Is (.int .i64 ((((((l.getD (a) 0).toNat:Nat):Int))-(((192:Nat):Int))):Int)),Is (.int .i64 ((((((((l.getD (a) 0).toNat:Nat):Int))-(((192:Nat):Int))))*(((64:Nat):Int))):Int)),Is (St (l)),Is (NI a),Is (NI ((a)+(1))),Is (B8 (l.getD ((a)+(1)) 0)),Is (NI ((l.getD ((a)+(1)) 0).toNat)),Is (.int .i64 ((((((((((l.getD (a) 0).toNat:Nat):Int))-(((192:Nat):Int))))*(((64:Nat):Int))))+((((l.getD ((a)+(1)) 0).toNat:Nat):Int))):Int)),Is (.int .i64 ((((((((((((l.getD (a) 0).toNat:Nat):Int))-(((192:Nat):Int))))*(((64:Nat):Int))))+((((l.getD ((a)+(1)) 0).toNat:Nat):Int))))-(((128:Nat):Int))):Int)),Is (.int .i64 ((((((((((((l.getD (a) 0).toNat:Nat):Int))-(((192:Nat):Int))))*(((64:Nat):Int))))+((((l.getD ((a)+(1)) 0).toNat:Nat):Int))))-(((128:Nat):Int))):Int))] (by kernel_rfl) [29,30,31,32,33,34,35,36,37,38,39,40,41,7] (by kernel_rfl) (by kernel_rfl) (DG (CG trivial)) ?bm ?hQ2009
   case bm=>
    refine⟨?_,?_,?_,?_,?_,?_,?_,?_,?_,?_,?_,?_,?_,?_,trivial⟩
    ·refine Aa rfl fun σ w1 hC h=> ?_
     have p:=(Ae (h 0 (by decide))).trans g
     exact Yk.move p ⟨Ext.refl _,rfl⟩
    ·refine Aa rfl fun σ w1 hC h=> ?_
     have o:=(Ae (h 1 (by decide))).trans f
     exact Yk.move o ⟨Ext.refl _,rfl⟩
    ·refine Aa rfl fun σ w1 hC h=> ?_
     have bn:=Ae (h 29 (by decide))
     have bo:=Ae (h 30 (by decide))
     exact Yk.idxSt (l:=l) (i:=a) DT bn bo (by omega) ⟨Ext.refl _,rfl⟩
    ·refine Aa rfl fun σ w1 hC h=> ?_
     have bp:=Ae (h 31 (by decide))
     exact Yk.convI u5 Li bp (C6 .i64 (l.getD (a) 0) (fun n hn=>BJ n (by omega))) ⟨Ext.refl _,rfl⟩
    ·refine Aa rfl fun σ w1 hC h=> ?_
     have bq:=Ae (h 32 (by decide))
     exact Yk.bin (xv:= .int .i64 ((((l.getD (a) 0).toNat:Nat):Int))) (yv:= .int .i64 (((192:Nat):Int))) bq rfl rfl (DL _ ((((l.getD (a) 0).toNat:Nat):Int)) (((192:Nat):Int)) (by omega)) ⟨Ext.refl _,rfl⟩
    ·refine Aa rfl fun σ w1 hC h=> ?_
     have br:=Ae (h 33 (by decide))
     exact Yk.bin (xv:= .int .i64 ((((((l.getD (a) 0).toNat:Nat):Int))-(((192:Nat):Int))))) (yv:= .int .i64 (((64:Nat):Int))) br rfl rfl (F5 _ ((((((l.getD (a) 0).toNat:Nat):Int))-(((192:Nat):Int)))) (((64:Nat):Int)) (by omega)) ⟨Ext.refl _,rfl⟩
    ·refine Aa rfl fun σ w1 hC h=> ?_
     have p:=(Ae (h 0 (by decide))).trans g
     exact Yk.move p ⟨Ext.refl _,rfl⟩
    ·refine Aa rfl fun σ w1 hC h=> ?_
     have o:=(Ae (h 1 (by decide))).trans f
     exact Yk.move o ⟨Ext.refl _,rfl⟩
    ·refine Aa rfl fun σ w1 hC h=> ?_
     have bs:=Ae (h 36 (by decide))
     exact Yk.bin (xv:=NI a) (yv:=NI 1) bs rfl rfl (AA _ _ _ (by omega)) ⟨Ext.refl _,rfl⟩
    ·refine Aa rfl fun σ w1 hC h=> ?_
     have bt:=Ae (h 35 (by decide))
     have bu:=Ae (h 37 (by decide))
     exact Yk.idxSt (l:=l) (i:=(a)+(1)) DT bt bu (by omega) ⟨Ext.refl _,rfl⟩
    ·refine Aa rfl fun σ w1 hC h=> ?_
     have bv:=Ae (h 38 (by decide))
     exact Yk.convI u5 Li bv (C6 .i64 (l.getD ((a)+(1)) 0) (fun n hn=>BJ n (by omega))) ⟨Ext.refl _,rfl⟩
    ·refine Aa rfl fun σ w1 hC h=> ?_
     have bw:=Ae (h 34 (by decide))
     have bx:=Ae (h 39 (by decide))
     exact Yk.bin (xv:= .int .i64 ((((((((l.getD (a) 0).toNat:Nat):Int))-(((192:Nat):Int))))*(((64:Nat):Int))))) (yv:= .int .i64 ((((l.getD ((a)+(1)) 0).toNat:Nat):Int))) bw bx rfl (F4 _ ((((((((l.getD (a) 0).toNat:Nat):Int))-(((192:Nat):Int))))*(((64:Nat):Int)))) ((((l.getD ((a)+(1)) 0).toNat:Nat):Int)) (by omega)) ⟨Ext.refl _,rfl⟩
    ·refine Aa rfl fun σ w1 hC h=> ?_
     have bz:=Ae (h 40 (by decide))
     exact Yk.bin (xv:= .int .i64 ((((((((((l.getD (a) 0).toNat:Nat):Int))-(((192:Nat):Int))))*(((64:Nat):Int))))+((((l.getD ((a)+(1)) 0).toNat:Nat):Int))))) (yv:= .int .i64 (((128:Nat):Int))) bz rfl rfl (DL _ ((((((((((l.getD (a) 0).toNat:Nat):Int))-(((192:Nat):Int))))*(((64:Nat):Int))))+((((l.getD ((a)+(1)) 0).toNat:Nat):Int)))) (((128:Nat):Int)) (by omega)) ⟨Ext.refl _,rfl⟩
    ·refine Aa rfl fun σ w1 hC h=> ?_
     have b0:=Ae (h 41 (by decide))
     exact Yk.assign b0 ⟨Ext.refl _,rfl⟩
   intro b1 es b2 he hf
   obtain⟨-,-,-,-,-,-,-,-,-,-,-,-,-,k7,-⟩:=hf
   obtain⟨g,f,c,z,-⟩:=he.hold [(0,_),(1,_),(6,_),(20,_)] ⟨g,f,c,c,trivial⟩ rfl
   clear he
   have hE:=hE.trans b2
   have j:b1 7 = .int .i64 ((((((((((((l.getD (a) 0).toNat:Nat):Int))-(((192:Nat):Int))))*(((64:Nat):Int))))+((((l.getD ((a)+(1)) 0).toNat:Nat):Int))))-(((128:Nat):Int))):Int):=k7
   clear k7
   refine bN ?_
   exact tN (hJK19 _ _ ⟨(((((((((((l.getD (a) 0).toNat:Nat):Int))-(((192:Nat):Int))))*(((64:Nat):Int))))+((((l.getD ((a)+(1)) 0).toNat:Nat):Int))))-(((128:Nat):Int))),g,f,c,j,hE,by rw[show n=2 from ad];rfl,trivial⟩)
  refine sk fun et b3=>(wt (oS rfl (Yk.eqI (a:=(n:Nat)) (b:=(3:Nat)) c rfl (A2 _ _ _ _) (oA rfl (oZ (tN (b3 _ _ ?_)))))))
  refine AL ((n:Nat)=(3)) (vr (.bool (decide ((n:Nat)=(3)))) rfl) (fun ae=> ?_) (fun ae=> ?_)
  ·refine Bw [Is (St (l)),Is (NI a),Is (B8 (l.getD (a) 0)),Is (NI ((l.getD (a) 0).toNat)),Is (.int .i64 ((((((l.getD (a) 0).toNat:Nat):Int))-(((224:Nat):Int))):Int)),Is (.int .i64 ((((((((l.getD (a) 0).toNat:Nat):Int))-(((224:Nat):Int))))*(((4096:Nat):Int))):Int)),Is (St (l)),Is (NI a),Is (NI ((a)+(1))),Is (B8 (l.getD ((a)+(1)) 0)),Is (NI ((l.getD ((a)+(1)) 0).toNat)),Is (.int .i64 ((((((l.getD ((a)+(1)) 0).toNat:Nat):Int))-(((128:Nat):Int))):Int)),Is (.int .i64 ((((((((l.getD ((a)+(1)) 0).toNat:Nat):Int))-(((128:Nat):Int))))*(((64:Nat):Int))):Int)),Is (.int .i64 ((((((((((l.getD (a) 0).toNat:Nat):Int))-(((224:Nat):Int))))*(((4096:Nat):Int))))+((((((((l.getD ((a)+(1)) 0).toNat:Nat):Int))-(((128:Nat):Int))))*(((64:Nat):Int))))):Int)),Is (St (l)),Is (NI a),Is (NI ((a)+(2))),Is (B8 (l.getD ((a)+(2)) 0)),Is (NI ((l.getD ((a)+(2)) 0).toNat)),Is (.int .i64 ((((((((((((l.getD (a) 0).toNat:Nat):Int))-(((224:Nat):Int))))*(((4096:Nat):Int))))+((((((((l.getD ((a)+(1)) 0).toNat:Nat):Int))-(((128:Nat):Int))))*(((64:Nat):Int))))))+((((l.getD ((a)+(2)) 0).toNat:Nat):Int))):Int)),Is (.int .i64 ((((((((((((((l.getD (a) 0).toNat:Nat):Int))-(((224:Nat):Int))))*(((4096:Nat):Int))))+((((((((l.getD ((a)+(1)) 0).toNat:Nat):Int))-(((128:Nat):Int))))*(((64:Nat):Int))))))+((((l.getD ((a)+(2)) 0).toNat:Nat):Int))))-(((128:Nat):Int))):Int)),Is (.int .i64 ((((((((((((((l.getD (a) 0).toNat:Nat):Int))-(((224:Nat):Int))))*(((4096:Nat):Int))))+((((((((l.getD ((a)+(1)) 0).toNat:Nat):Int))-(((128:Nat):Int))))*(((64:Nat):Int))))))+((((l.getD ((a)+(2)) 0).toNat:Nat):Int))))-(((128:Nat):Int))):Int))] (by kernel_rfl) [44,45,46,47,48,49,50,51,52,53,54,55,56,57,58,59,60,61,62,63,64,7] (by kernel_rfl) (by kernel_rfl) (KO (CG trivial)) ?b4 ?hQ3011
   case b4=>
    refine⟨?_,?_,?_,?_,?_,?_,?_,?_,?_,?_,?_,?_,?_,?_,?_,?_,?_,?_,?_,?_,?_,?_,trivial⟩
    ·refine Aa rfl fun σ w1 hC h=> ?_
     have p:=(Ae (h 0 (by decide))).trans g
     exact Yk.move p ⟨Ext.refl _,rfl⟩
    ·refine Aa rfl fun σ w1 hC h=> ?_
     have o:=(Ae (h 1 (by decide))).trans f
     exact Yk.move o ⟨Ext.refl _,rfl⟩
    ·refine Aa rfl fun σ w1 hC h=> ?_
     have b5:=Ae (h 44 (by decide))
     have b6:=Ae (h 45 (by decide))
     exact Yk.idxSt (l:=l) (i:=a) DT b5 b6 (by omega) ⟨Ext.refl _,rfl⟩
    ·refine Aa rfl fun σ w1 hC h=> ?_
     have b7:=Ae (h 46 (by decide))
     exact Yk.convI u5 Li b7 (C6 .i64 (l.getD (a) 0) (fun n hn=>BJ n (by omega))) ⟨Ext.refl _,rfl⟩
    ·refine Aa rfl fun σ w1 hC h=> ?_
     have b8:=Ae (h 47 (by decide))
     exact Yk.bin (xv:= .int .i64 ((((l.getD (a) 0).toNat:Nat):Int))) (yv:= .int .i64 (((224:Nat):Int))) b8 rfl rfl (DL _ ((((l.getD (a) 0).toNat:Nat):Int)) (((224:Nat):Int)) (by omega)) ⟨Ext.refl _,rfl⟩
    ·refine Aa rfl fun σ w1 hC h=> ?_
     have b9:=Ae (h 48 (by decide))
     exact Yk.bin (xv:= .int .i64 ((((((l.getD (a) 0).toNat:Nat):Int))-(((224:Nat):Int))))) (yv:= .int .i64 (((4096:Nat):Int))) b9 rfl rfl (F5 _ ((((((l.getD (a) 0).toNat:Nat):Int))-(((224:Nat):Int)))) (((4096:Nat):Int)) (by omega)) ⟨Ext.refl _,rfl⟩
    ·refine Aa rfl fun σ w1 hC h=> ?_
     have p:=(Ae (h 0 (by decide))).trans g
     exact Yk.move p ⟨Ext.refl _,rfl⟩
    ·refine Aa rfl fun σ w1 hC h=> ?_
     have o:=(Ae (h 1 (by decide))).trans f
     exact Yk.move o ⟨Ext.refl _,rfl⟩
    ·refine Aa rfl fun σ w1 hC h=> ?_
     have ca:=Ae (h 51 (by decide))
     exact Yk.bin (xv:=NI a) (yv:=NI 1) ca rfl rfl (AA _ _ _ (by omega)) ⟨Ext.refl _,rfl⟩
    ·refine Aa rfl fun σ w1 hC h=> ?_
     have cb:=Ae (h 50 (by decide))
     have cc:=Ae (h 52 (by decide))
     exact Yk.idxSt (l:=l) (i:=(a)+(1)) DT cb cc (by omega) ⟨Ext.refl _,rfl⟩
    ·refine Aa rfl fun σ w1 hC h=> ?_
     have cd:=Ae (h 53 (by decide))
     exact Yk.convI u5 Li cd (C6 .i64 (l.getD ((a)+(1)) 0) (fun n hn=>BJ n (by omega))) ⟨Ext.refl _,rfl⟩
    ·refine Aa rfl fun σ w1 hC h=> ?_
     have ce:=Ae (h 54 (by decide))
     exact Yk.bin (xv:= .int .i64 ((((l.getD ((a)+(1)) 0).toNat:Nat):Int))) (yv:= .int .i64 (((128:Nat):Int))) ce rfl rfl (DL _ ((((l.getD ((a)+(1)) 0).toNat:Nat):Int)) (((128:Nat):Int)) (by omega)) ⟨Ext.refl _,rfl⟩
    ·refine Aa rfl fun σ w1 hC h=> ?_
     have cf:=Ae (h 55 (by decide))
     exact Yk.bin (xv:= .int .i64 ((((((l.getD ((a)+(1)) 0).toNat:Nat):Int))-(((128:Nat):Int))))) (yv:= .int .i64 (((64:Nat):Int))) cf rfl rfl (F5 _ ((((((l.getD ((a)+(1)) 0).toNat:Nat):Int))-(((128:Nat):Int)))) (((64:Nat):Int)) (by omega)) ⟨Ext.refl _,rfl⟩
    ·refine Aa rfl fun σ w1 hC h=> ?_
     have cg:=Ae (h 49 (by decide))
     have ch:=Ae (h 56 (by decide))
     exact Yk.bin (xv:= .int .i64 ((((((((l.getD (a) 0).toNat:Nat):Int))-(((224:Nat):Int))))*(((4096:Nat):Int))))) (yv:= .int .i64 ((((((((l.getD ((a)+(1)) 0).toNat:Nat):Int))-(((128:Nat):Int))))*(((64:Nat):Int))))) cg ch rfl (F4 _ ((((((((l.getD (a) 0).toNat:Nat):Int))-(((224:Nat):Int))))*(((4096:Nat):Int)))) ((((((((l.getD ((a)+(1)) 0).toNat:Nat):Int))-(((128:Nat):Int))))*(((64:Nat):Int)))) (by omega)) ⟨Ext.refl _,rfl⟩
    ·refine Aa rfl fun σ w1 hC h=> ?_
     have p:=(Ae (h 0 (by decide))).trans g
     exact Yk.move p ⟨Ext.refl _,rfl⟩
    ·refine Aa rfl fun σ w1 hC h=> ?_
     have o:=(Ae (h 1 (by decide))).trans f
     exact Yk.move o ⟨Ext.refl _,rfl⟩
    ·refine Aa rfl fun σ w1 hC h=> ?_
     have ci:=Ae (h 59 (by decide))
     exact Yk.bin (xv:=NI a) (yv:=NI 2) ci rfl rfl (AA _ _ _ (by omega)) ⟨Ext.refl _,rfl⟩
    ·refine Aa rfl fun σ w1 hC h=> ?_
     have cj:=Ae (h 58 (by decide))
     have ck:=Ae (h 60 (by decide))
     exact Yk.idxSt (l:=l) (i:=(a)+(2)) DT cj ck (by omega) ⟨Ext.refl _,rfl⟩
    ·refine Aa rfl fun σ w1 hC h=> ?_
     have cl:=Ae (h 61 (by decide))
     exact Yk.convI u5 Li cl (C6 .i64 (l.getD ((a)+(2)) 0) (fun n hn=>BJ n (by omega))) ⟨Ext.refl _,rfl⟩
    ·refine Aa rfl fun σ w1 hC h=> ?_
     have cm:=Ae (h 57 (by decide))
     have cn:=Ae (h 62 (by decide))
     exact Yk.bin (xv:= .int .i64 ((((((((((l.getD (a) 0).toNat:Nat):Int))-(((224:Nat):Int))))*(((4096:Nat):Int))))+((((((((l.getD ((a)+(1)) 0).toNat:Nat):Int))-(((128:Nat):Int))))*(((64:Nat):Int))))))) (yv:= .int .i64 ((((l.getD ((a)+(2)) 0).toNat:Nat):Int))) cm cn rfl (F4 _ ((((((((((l.getD (a) 0).toNat:Nat):Int))-(((224:Nat):Int))))*(((4096:Nat):Int))))+((((((((l.getD ((a)+(1)) 0).toNat:Nat):Int))-(((128:Nat):Int))))*(((64:Nat):Int)))))) ((((l.getD ((a)+(2)) 0).toNat:Nat):Int)) (by omega)) ⟨Ext.refl _,rfl⟩
    ·refine Aa rfl fun σ w1 hC h=> ?_
     have co:=Ae (h 63 (by decide))
     exact Yk.bin (xv:= .int .i64 ((((((((((((l.getD (a) 0).toNat:Nat):Int))-(((224:Nat):Int))))*(((4096:Nat):Int))))+((((((((l.getD ((a)+(1)) 0).toNat:Nat):Int))-(((128:Nat):Int))))*(((64:Nat):Int))))))+((((l.getD ((a)+(2)) 0).toNat:Nat):Int))))) (yv:= .int .i64 (((128:Nat):Int))) co rfl rfl (DL _ ((((((((((((l.getD (a) 0).toNat:Nat):Int))-(((224:Nat):Int))))*(((4096:Nat):Int))))+((((((((l.getD ((a)+(1)) 0).toNat:Nat):Int))-(((128:Nat):Int))))*(((64:Nat):Int))))))+((((l.getD ((a)+(2)) 0).toNat:Nat):Int)))) (((128:Nat):Int)) (by omega)) ⟨Ext.refl _,rfl⟩
    ·refine Aa rfl fun σ w1 hC h=> ?_
     have cp:=Ae (h 64 (by decide))
     exact Yk.assign cp ⟨Ext.refl _,rfl⟩
   intro cq eu cr he hf
   obtain⟨-,-,-,-,-,-,-,-,-,-,-,-,-,-,-,-,-,-,-,-,-,k7,-⟩:=hf
   obtain⟨g,f,c,z,-⟩:=he.hold [(0,_),(1,_),(6,_),(20,_)] ⟨g,f,c,c,trivial⟩ rfl
   clear he
   have hE:=hE.trans cr
   have j:cq 7 = .int .i64 ((((((((((((((l.getD (a) 0).toNat:Nat):Int))-(((224:Nat):Int))))*(((4096:Nat):Int))))+((((((((l.getD ((a)+(1)) 0).toNat:Nat):Int))-(((128:Nat):Int))))*(((64:Nat):Int))))))+((((l.getD ((a)+(2)) 0).toNat:Nat):Int))))-(((128:Nat):Int))):Int):=k7
   clear k7
   refine bN ?_
   exact tN (hJK19 _ _ ⟨(((((((((((((l.getD (a) 0).toNat:Nat):Int))-(((224:Nat):Int))))*(((4096:Nat):Int))))+((((((((l.getD ((a)+(1)) 0).toNat:Nat):Int))-(((128:Nat):Int))))*(((64:Nat):Int))))))+((((l.getD ((a)+(2)) 0).toNat:Nat):Int))))-(((128:Nat):Int))),g,f,c,j,hE,by rw[show n=3 from ae];rfl,trivial⟩)
  refine sk fun ew cs=>(wt (oS rfl (Yk.eqI (a:=(n:Nat)) (b:=(4:Nat)) c rfl (A2 _ _ _ _) (oA rfl (oZ (tN (cs _ _ ?_)))))))
  refine AL ((n:Nat)=(4)) (vr (.bool (decide ((n:Nat)=(4)))) rfl) (fun af=> ?_) (fun af=> ?_)
  ·refine Bw [Is (St (l)),Is (NI a),Is (B8 (l.getD (a) 0)),Is (NI ((l.getD (a) 0).toNat)),Is (.int .i64 ((((((l.getD (a) 0).toNat:Nat):Int))-(((240:Nat):Int))):Int)),Is (.int .i64 ((((((((l.getD (a) 0).toNat:Nat):Int))-(((240:Nat):Int))))*(((262144:Nat):Int))):Int)),Is (St (l)),Is (NI a),Is (NI ((a)+(1))),Is (B8 (l.getD ((a)+(1)) 0)),Is (NI ((l.getD ((a)+(1)) 0).toNat)),Is (.int .i64 ((((((l.getD ((a)+(1)) 0).toNat:Nat):Int))-(((128:Nat):Int))):Int)),Is (.int .i64 ((((((((l.getD ((a)+(1)) 0).toNat:Nat):Int))-(((128:Nat):Int))))*(((4096:Nat):Int))):Int)),Is (.int .i64 ((((((((((l.getD (a) 0).toNat:Nat):Int))-(((240:Nat):Int))))*(((262144:Nat):Int))))+((((((((l.getD ((a)+(1)) 0).toNat:Nat):Int))-(((128:Nat):Int))))*(((4096:Nat):Int))))):Int)),Is (St (l)),Is (NI a),Is (NI ((a)+(2))),Is (B8 (l.getD ((a)+(2)) 0)),Is (NI ((l.getD ((a)+(2)) 0).toNat)),Is (.int .i64 ((((((l.getD ((a)+(2)) 0).toNat:Nat):Int))-(((128:Nat):Int))):Int)),Is (.int .i64 ((((((((l.getD ((a)+(2)) 0).toNat:Nat):Int))-(((128:Nat):Int))))*(((64:Nat):Int))):Int)),Is (.int .i64 ((((((((((((l.getD (a) 0).toNat:Nat):Int))-(((240:Nat):Int))))*(((262144:Nat):Int))))+((((((((l.getD ((a)+(1)) 0).toNat:Nat):Int))-(((128:Nat):Int))))*(((4096:Nat):Int))))))+((((((((l.getD ((a)+(2)) 0).toNat:Nat):Int))-(((128:Nat):Int))))*(((64:Nat):Int))))):Int)),Is (St (l)),Is (NI a),Is (NI ((a)+(3))),Is (B8 (l.getD ((a)+(3)) 0)),Is (NI ((l.getD ((a)+(3)) 0).toNat)),Is (.int .i64 ((((((((((((((l.getD (a) 0).toNat:Nat):Int))-(((240:Nat):Int))))*(((262144:Nat):Int))))+((((((((l.getD ((a)+(1)) 0).toNat:Nat):Int))-(((128:Nat):Int))))*(((4096:Nat):Int))))))+((((((((l.getD ((a)+(2)) 0).toNat:Nat):Int))-(((128:Nat):Int))))*(((64:Nat):Int))))))+((((l.getD ((a)+(3)) 0).toNat:Nat):Int))):Int)),Is (.int .i64 ((((((((((((((((l.getD (a) 0).toNat:Nat):Int))-(((240:Nat):Int))))*(((262144:Nat):Int))))+((((((((l.getD ((a)+(1)) 0).toNat:Nat):Int))-(((128:Nat):Int))))*(((4096:Nat):Int))))))+((((((((l.getD ((a)+(2)) 0).toNat:Nat):Int))-(((128:Nat):Int))))*(((64:Nat):Int))))))+((((l.getD ((a)+(3)) 0).toNat:Nat):Int))))-(((128:Nat):Int))):Int)),Is (.int .i64 ((((((((((((((((l.getD (a) 0).toNat:Nat):Int))-(((240:Nat):Int))))*(((262144:Nat):Int))))+((((((((l.getD ((a)+(1)) 0).toNat:Nat):Int))-(((128:Nat):Int))))*(((4096:Nat):Int))))))+((((((((l.getD ((a)+(2)) 0).toNat:Nat):Int))-(((128:Nat):Int))))*(((64:Nat):Int))))))+((((l.getD ((a)+(3)) 0).toNat:Nat):Int))))-(((128:Nat):Int))):Int))] (by kernel_rfl) [67,68,69,70,71,72,73,74,75,76,77,78,79,80,81,82,83,84,85,86,87,88,89,90,91,92,93,94,95,7] (by kernel_rfl) (by kernel_rfl) (QW (CG (CG trivial))) ?ct ?hQ4013
   case ct=>
    refine⟨?_,?_,?_,?_,?_,?_,?_,?_,?_,?_,?_,?_,?_,?_,?_,?_,?_,?_,?_,?_,?_,?_,?_,?_,?_,?_,?_,?_,?_,?_,trivial⟩
    ·refine Aa rfl fun σ w1 hC h=> ?_
     have p:=(Ae (h 0 (by decide))).trans g
     exact Yk.move p ⟨Ext.refl _,rfl⟩
    ·refine Aa rfl fun σ w1 hC h=> ?_
     have o:=(Ae (h 1 (by decide))).trans f
     exact Yk.move o ⟨Ext.refl _,rfl⟩
    ·refine Aa rfl fun σ w1 hC h=> ?_
     have cu:=Ae (h 67 (by decide))
     have cv:=Ae (h 68 (by decide))
     exact Yk.idxSt (l:=l) (i:=a) DT cu cv (by omega) ⟨Ext.refl _,rfl⟩
    ·refine Aa rfl fun σ w1 hC h=> ?_
     have cw:=Ae (h 69 (by decide))
     exact Yk.convI u5 Li cw (C6 .i64 (l.getD (a) 0) (fun n hn=>BJ n (by omega))) ⟨Ext.refl _,rfl⟩
    ·refine Aa rfl fun σ w1 hC h=> ?_
     have cx:=Ae (h 70 (by decide))
     exact Yk.bin (xv:= .int .i64 ((((l.getD (a) 0).toNat:Nat):Int))) (yv:= .int .i64 (((240:Nat):Int))) cx rfl rfl (DL _ ((((l.getD (a) 0).toNat:Nat):Int)) (((240:Nat):Int)) (by omega)) ⟨Ext.refl _,rfl⟩
    ·refine Aa rfl fun σ w1 hC h=> ?_
     have cy:=Ae (h 71 (by decide))
     exact Yk.bin (xv:= .int .i64 ((((((l.getD (a) 0).toNat:Nat):Int))-(((240:Nat):Int))))) (yv:= .int .i64 (((262144:Nat):Int))) cy rfl rfl (F5 _ ((((((l.getD (a) 0).toNat:Nat):Int))-(((240:Nat):Int)))) (((262144:Nat):Int)) (by omega)) ⟨Ext.refl _,rfl⟩
    ·refine Aa rfl fun σ w1 hC h=> ?_
     have p:=(Ae (h 0 (by decide))).trans g
     exact Yk.move p ⟨Ext.refl _,rfl⟩
    ·refine Aa rfl fun σ w1 hC h=> ?_
     have o:=(Ae (h 1 (by decide))).trans f
     exact Yk.move o ⟨Ext.refl _,rfl⟩
    ·refine Aa rfl fun σ w1 hC h=> ?_
     have cz:=Ae (h 74 (by decide))
     exact Yk.bin (xv:=NI a) (yv:=NI 1) cz rfl rfl (AA _ _ _ (by omega)) ⟨Ext.refl _,rfl⟩
    ·refine Aa rfl fun σ w1 hC h=> ?_
     have c0:=Ae (h 73 (by decide))
     have c1:=Ae (h 75 (by decide))
     exact Yk.idxSt (l:=l) (i:=(a)+(1)) DT c0 c1 (by omega) ⟨Ext.refl _,rfl⟩
    ·refine Aa rfl fun σ w1 hC h=> ?_
     have c2:=Ae (h 76 (by decide))
     exact Yk.convI u5 Li c2 (C6 .i64 (l.getD ((a)+(1)) 0) (fun n hn=>BJ n (by omega))) ⟨Ext.refl _,rfl⟩
    ·refine Aa rfl fun σ w1 hC h=> ?_
     have c3:=Ae (h 77 (by decide))
     exact Yk.bin (xv:= .int .i64 ((((l.getD ((a)+(1)) 0).toNat:Nat):Int))) (yv:= .int .i64 (((128:Nat):Int))) c3 rfl rfl (DL _ ((((l.getD ((a)+(1)) 0).toNat:Nat):Int)) (((128:Nat):Int)) (by omega)) ⟨Ext.refl _,rfl⟩
    ·refine Aa rfl fun σ w1 hC h=> ?_
     have c4:=Ae (h 78 (by decide))
     exact Yk.bin (xv:= .int .i64 ((((((l.getD ((a)+(1)) 0).toNat:Nat):Int))-(((128:Nat):Int))))) (yv:= .int .i64 (((4096:Nat):Int))) c4 rfl rfl (F5 _ ((((((l.getD ((a)+(1)) 0).toNat:Nat):Int))-(((128:Nat):Int)))) (((4096:Nat):Int)) (by omega)) ⟨Ext.refl _,rfl⟩
    ·refine Aa rfl fun σ w1 hC h=> ?_
     have c5:=Ae (h 72 (by decide))
     have c6:=Ae (h 79 (by decide))
     exact Yk.bin (xv:= .int .i64 ((((((((l.getD (a) 0).toNat:Nat):Int))-(((240:Nat):Int))))*(((262144:Nat):Int))))) (yv:= .int .i64 ((((((((l.getD ((a)+(1)) 0).toNat:Nat):Int))-(((128:Nat):Int))))*(((4096:Nat):Int))))) c5 c6 rfl (F4 _ ((((((((l.getD (a) 0).toNat:Nat):Int))-(((240:Nat):Int))))*(((262144:Nat):Int)))) ((((((((l.getD ((a)+(1)) 0).toNat:Nat):Int))-(((128:Nat):Int))))*(((4096:Nat):Int)))) (by omega)) ⟨Ext.refl _,rfl⟩
    ·refine Aa rfl fun σ w1 hC h=> ?_
     have p:=(Ae (h 0 (by decide))).trans g
     exact Yk.move p ⟨Ext.refl _,rfl⟩
    ·refine Aa rfl fun σ w1 hC h=> ?_
     have o:=(Ae (h 1 (by decide))).trans f
     exact Yk.move o ⟨Ext.refl _,rfl⟩
    ·refine Aa rfl fun σ w1 hC h=> ?_
     have c7:=Ae (h 82 (by decide))
     exact Yk.bin (xv:=NI a) (yv:=NI 2) c7 rfl rfl (AA _ _ _ (by omega)) ⟨Ext.refl _,rfl⟩
    ·refine Aa rfl fun σ w1 hC h=> ?_
     have c8:=Ae (h 81 (by decide))
     have c9:=Ae (h 83 (by decide))
     exact Yk.idxSt (l:=l) (i:=(a)+(2)) DT c8 c9 (by omega) ⟨Ext.refl _,rfl⟩
    ·refine Aa rfl fun σ w1 hC h=> ?_
     have da:=Ae (h 84 (by decide))
     exact Yk.convI u5 Li da (C6 .i64 (l.getD ((a)+(2)) 0) (fun n hn=>BJ n (by omega))) ⟨Ext.refl _,rfl⟩
    ·refine Aa rfl fun σ w1 hC h=> ?_
     have db:=Ae (h 85 (by decide))
     exact Yk.bin (xv:= .int .i64 ((((l.getD ((a)+(2)) 0).toNat:Nat):Int))) (yv:= .int .i64 (((128:Nat):Int))) db rfl rfl (DL _ ((((l.getD ((a)+(2)) 0).toNat:Nat):Int)) (((128:Nat):Int)) (by omega)) ⟨Ext.refl _,rfl⟩
    ·refine Aa rfl fun σ w1 hC h=> ?_
     have dc:=Ae (h 86 (by decide))
     exact Yk.bin (xv:= .int .i64 ((((((l.getD ((a)+(2)) 0).toNat:Nat):Int))-(((128:Nat):Int))))) (yv:= .int .i64 (((64:Nat):Int))) dc rfl rfl (F5 _ ((((((l.getD ((a)+(2)) 0).toNat:Nat):Int))-(((128:Nat):Int)))) (((64:Nat):Int)) (by omega)) ⟨Ext.refl _,rfl⟩
    ·refine Aa rfl fun σ w1 hC h=> ?_
     have dd:=Ae (h 80 (by decide))
     have de:=Ae (h 87 (by decide))
     exact Yk.bin (xv:= .int .i64 ((((((((((l.getD (a) 0).toNat:Nat):Int))-(((240:Nat):Int))))*(((262144:Nat):Int))))+((((((((l.getD ((a)+(1)) 0).toNat:Nat):Int))-(((128:Nat):Int))))*(((4096:Nat):Int))))))) (yv:= .int .i64 ((((((((l.getD ((a)+(2)) 0).toNat:Nat):Int))-(((128:Nat):Int))))*(((64:Nat):Int))))) dd de rfl (F4 _ ((((((((((l.getD (a) 0).toNat:Nat):Int))-(((240:Nat):Int))))*(((262144:Nat):Int))))+((((((((l.getD ((a)+(1)) 0).toNat:Nat):Int))-(((128:Nat):Int))))*(((4096:Nat):Int)))))) ((((((((l.getD ((a)+(2)) 0).toNat:Nat):Int))-(((128:Nat):Int))))*(((64:Nat):Int)))) (by omega)) ⟨Ext.refl _,rfl⟩
    ·refine Aa rfl fun σ w1 hC h=> ?_
     have p:=(Ae (h 0 (by decide))).trans g
     exact Yk.move p ⟨Ext.refl _,rfl⟩
    ·refine Aa rfl fun σ w1 hC h=> ?_
     have o:=(Ae (h 1 (by decide))).trans f
     exact Yk.move o ⟨Ext.refl _,rfl⟩
    ·refine Aa rfl fun σ w1 hC h=> ?_
     have df:=Ae (h 90 (by decide))
     exact Yk.bin (xv:=NI a) (yv:=NI 3) df rfl rfl (AA _ _ _ (by omega)) ⟨Ext.refl _,rfl⟩
    ·refine Aa rfl fun σ w1 hC h=> ?_
     have dg:=Ae (h 89 (by decide))
     have dh:=Ae (h 91 (by decide))
     exact Yk.idxSt (l:=l) (i:=(a)+(3)) DT dg dh (by omega) ⟨Ext.refl _,rfl⟩
    ·refine Aa rfl fun σ w1 hC h=> ?_
     have di:=Ae (h 92 (by decide))
     exact Yk.convI u5 Li di (C6 .i64 (l.getD ((a)+(3)) 0) (fun n hn=>BJ n (by omega))) ⟨Ext.refl _,rfl⟩
    ·refine Aa rfl fun σ w1 hC h=> ?_
     have dj:=Ae (h 88 (by decide))
     have dk:=Ae (h 93 (by decide))
     exact Yk.bin (xv:= .int .i64 ((((((((((((l.getD (a) 0).toNat:Nat):Int))-(((240:Nat):Int))))*(((262144:Nat):Int))))+((((((((l.getD ((a)+(1)) 0).toNat:Nat):Int))-(((128:Nat):Int))))*(((4096:Nat):Int))))))+((((((((l.getD ((a)+(2)) 0).toNat:Nat):Int))-(((128:Nat):Int))))*(((64:Nat):Int))))))) (yv:= .int .i64 ((((l.getD ((a)+(3)) 0).toNat:Nat):Int))) dj dk rfl (F4 _ ((((((((((((l.getD (a) 0).toNat:Nat):Int))-(((240:Nat):Int))))*(((262144:Nat):Int))))+((((((((l.getD ((a)+(1)) 0).toNat:Nat):Int))-(((128:Nat):Int))))*(((4096:Nat):Int))))))+((((((((l.getD ((a)+(2)) 0).toNat:Nat):Int))-(((128:Nat):Int))))*(((64:Nat):Int)))))) ((((l.getD ((a)+(3)) 0).toNat:Nat):Int)) (by omega)) ⟨Ext.refl _,rfl⟩
    ·refine Aa rfl fun σ w1 hC h=> ?_
     have dl:=Ae (h 94 (by decide))
     exact Yk.bin (xv:= .int .i64 ((((((((((((((l.getD (a) 0).toNat:Nat):Int))-(((240:Nat):Int))))*(((262144:Nat):Int))))+((((((((l.getD ((a)+(1)) 0).toNat:Nat):Int))-(((128:Nat):Int))))*(((4096:Nat):Int))))))+((((((((l.getD ((a)+(2)) 0).toNat:Nat):Int))-(((128:Nat):Int))))*(((64:Nat):Int))))))+((((l.getD ((a)+(3)) 0).toNat:Nat):Int))))) (yv:= .int .i64 (((128:Nat):Int))) dl rfl rfl (DL _ ((((((((((((((l.getD (a) 0).toNat:Nat):Int))-(((240:Nat):Int))))*(((262144:Nat):Int))))+((((((((l.getD ((a)+(1)) 0).toNat:Nat):Int))-(((128:Nat):Int))))*(((4096:Nat):Int))))))+((((((((l.getD ((a)+(2)) 0).toNat:Nat):Int))-(((128:Nat):Int))))*(((64:Nat):Int))))))+((((l.getD ((a)+(3)) 0).toNat:Nat):Int)))) (((128:Nat):Int)) (by omega)) ⟨Ext.refl _,rfl⟩
    ·refine Aa rfl fun σ w1 hC h=> ?_
     have dm:=Ae (h 95 (by decide))
     exact Yk.assign dm ⟨Ext.refl _,rfl⟩
   intro dn ex dp he hf
   obtain⟨-,-,-,-,-,-,-,-,-,-,-,-,-,-,-,-,-,-,-,-,-,-,-,-,-,-,-,-,-,k7,-⟩:=hf
   obtain⟨g,f,c,z,-⟩:=he.hold [(0,_),(1,_),(6,_),(20,_)] ⟨g,f,c,c,trivial⟩ rfl
   clear he
   have hE:=hE.trans dp
   have j:dn 7 = .int .i64 ((((((((((((((((l.getD (a) 0).toNat:Nat):Int))-(((240:Nat):Int))))*(((262144:Nat):Int))))+((((((((l.getD ((a)+(1)) 0).toNat:Nat):Int))-(((128:Nat):Int))))*(((4096:Nat):Int))))))+((((((((l.getD ((a)+(2)) 0).toNat:Nat):Int))-(((128:Nat):Int))))*(((64:Nat):Int))))))+((((l.getD ((a)+(3)) 0).toNat:Nat):Int))))-(((128:Nat):Int))):Int):=k7
   clear k7
   refine bN ?_
   exact tN (hJK19 _ _ ⟨(((((((((((((((l.getD (a) 0).toNat:Nat):Int))-(((240:Nat):Int))))*(((262144:Nat):Int))))+((((((((l.getD ((a)+(1)) 0).toNat:Nat):Int))-(((128:Nat):Int))))*(((4096:Nat):Int))))))+((((((((l.getD ((a)+(2)) 0).toNat:Nat):Int))-(((128:Nat):Int))))*(((64:Nat):Int))))))+((((l.getD ((a)+(3)) 0).toNat:Nat):Int))))-(((128:Nat):Int))),g,f,c,j,hE,by rw[show n=4 from af];rfl,trivial⟩)
  omega
 subst hbb16
 refine AP (Ar (Ar (Az (tN (ah _ _ (sk fun ey dq=>(wt (oA rfl (oA rfl (oZ (tN (dq _ _ (Am (Aj (fn:=Tryz.f90) _ rfl [.int .i32 ((0:Nat):Int),NI 0] (.tuple #[.int .i32 ((0:Nat):Int),NI 0]) rfl ⟨rfl,rfl,trivial⟩ ?_))))))))))))))
 exact⟨⟨0,0,rfl,by rw[if_pos rfl];exact QD ha (fun m h1 h4 h5=>hno m h1 (by rcases Ro t with h | h <;> (have:=of_decide_eq_false h;omega)) h5),by omega⟩,hE⟩

theorem Hk(w:World)(l:Bs)(hl:l.length≤1000):
  Calls Tryz.prog 79 #[St l] w fun e w' =>(∃v p,e = .returned (.tuple #[v,NI p,NI (if CI l 0=true then 0 else 5)]))∧Ext w w' :=by
 refine As (args:= [St (l)]) Tryz.func79 rfl 30 rfl (Nat.le_of_ble_eq_true rfl) ?_
 intro t hb
 have f:t 0=(St (l):Value):=hb.get 0
 clear hb
 have hE:=Ext.refl w
 refine sk fun K1 u=>(wt (oA rfl (oA rfl (oA rfl (oZ (tN (u _ _ (sk fun K2 x=>(wt (oA rfl (oZ ?_)))))))))))
 have k:OG w.heap.size 21 1 (runeC) w (Value.slice none 0 0) ([]:List Nat):=OG.nil _ _ _ _ _
 refine tN (x _ _ (sk fun K4 y=>(sk fun K5 z=>(wt (oA rfl (A3 [(0,St (l)),(2,(Value.slice none 0 0)),(3,NI 0),(4,NI 0),(5,(Value.slice none 0 0)),(6,NI 0)] ⟨f,rfl,rfl,rfl,rfl,rfl,trivial⟩ fun au ⟨f,T2,T3,T4,g,c,_⟩=>(tN (z _ _ (Av (A4 (fun(ρ:Au) (wz:World)=>∃p:Nat,∃ls:List Nat,∃vb:Value,ρ 0=(St (l):Value)∧ρ 6=(NI p:Value)∧ρ 5=(vb:Value)∧Ext w wz∧OG w.heap.size 21 1 (runeC) wz vb (ls)∧(p≤l.length)∧(ls.length≤p)∧(CI l 0=CI l p)∧True) (fun ρ _=>l.length-(intOf (ρ 6)).toNat) ⟨0,[],(Value.slice none 0 0),f,c,g,hE,CR k (rfl),Nat.zero_le _,Nat.le_refl _,rfl,trivial⟩ ?_))))))))))
 clear k
 clear hE
 rintro aa w8 ⟨p,ls,vb,f,c,g,hE,hr_vb,hp,hls,ht,-⟩
 have q6:=c
 refine sk fun K9 ab=>(sk fun a0 ac=>(wt (oM rfl (oM rfl (oS rfl (Yk.lenSt (l:=l) DT f (oS rfl (Yk.eqI (a:=(p:Nat)) (b:=(l.length:Nat)) c rfl (AX _ _ _ _) (oZ (tN (ac _ _ ?_)))))))))))
 refine AL ((p)<(l.length)) (vr (.bool (decide ((p)<(l.length)))) rfl) (fun m=> ?_) (fun m=> ?_)
 ·have hlt:p<l.length:=m
  refine Aq (tN (ab _ _ (Av (sk fun a1 ad=>(wt (oM rfl (oM rfl (oS rfl (Yk.callA2 Pa f c ((Nj _ l p hlt (by omega)).mono ?_))))))))))
  rintro e a2 ⟨⟨r,n,rfl,hd,hpn⟩,o⟩
  refine⟨_,rfl,?_⟩
  have hE:=hE.trans o
  have hr_vb:=hr_vb.keep o
  refine oM rfl (oS rfl (Yk.extract (vs:= [.int .i32 ((r:Nat):Int),NI n]) (vr (.tuple #[.int .i32 ((r:Nat):Int),NI n]) rfl) (show _=some (.int .i32 ((r:Nat):Int):Value)from rfl) (oS rfl (Yk.extract (vs:= [.int .i32 ((r:Nat):Int),NI n]) (vr (.tuple #[.int .i32 ((r:Nat):Int),NI n]) rfl) (show _=some (NI n:Value)from rfl) (oA rfl (oA rfl (oZ (tN (ad _ _ (sk fun a3 ae=>(sk fun a4 af=>(wt (oM rfl (oS rfl (Yk.eqI (a:=(n:Nat)) (b:=(0:Nat)) rfl rfl (A2 _ _ _ _) (oZ (tN (af _ _ ?_))))))))))))))))))
  refine AL ((n:Nat)=(0)) (vr (.bool (decide ((n:Nat)=(0)))) rfl) (fun h=> ?_) (fun h=> ?_)
  ·refine sk fun a5 ag=>(wt (oM rfl (oA rfl (oA rfl (oA rfl (oZ (tN (ag _ _ (Am (An (AE (An (AE (An (Aj (fn:=Tryz.f79) _ rfl [(Value.slice none 0 0),NI p,NI 5] (.tuple #[(Value.slice none 0 0),NI p,NI 5]) rfl ⟨rfl,c,rfl,trivial⟩ ?_)))))))))))))))
   exact⟨⟨_,_,by rw[ht,Js hlt (by rw[hd,if_pos h])];rfl⟩,hE⟩
  refine Aq (tN (ae _ _ (sk fun a6 ah=>(wt (oM rfl (oM rfl (oS rfl (Yk.lit1S (a:=r) (enc:=runeC) (vr (.int .i32 ((r:Nat):Int)) rfl) rfl (fun w=>Nh _ w) fun ai aj q s=> ?_))))))))
  have hE:=hE.trans s
  have hr_vb:=hr_vb.keep s
  refine oS rfl (Yk.appendRG _ _ w.heap.size _ 4 I2 wr25_ig21.choose_spec.1 wr25_ig21.choose_spec.2 I2 (ls) ([r]) (OG.of hr_vb g) (RG.of q (vr ai rfl)) (fun _ _=>P0 _) (by simp only[List.length_cons,List.length_nil];omega) (by simp only[List.length_cons,List.length_nil];omega) hE.size fun i ak al j=> ?_)
  have j:Grew aj ak vb i:= .eqv g j
  have hE:=AZ hE j hr_vb.2 (Nat.le_refl _)
  clear q
  clear hr_vb
  refine oA rfl (oZ (tN (ah _ _ (wt (oM rfl (oM rfl (oS rfl (Yk.bin (xv:=NI p) (yv:=NI n) c rfl rfl (AA _ _ _ (by omega)) (oA rfl (A3 [(0,St (l)),(5,i),(6,NI ((p)+(n))),(7, .int .i32 ((r:Nat):Int)),(8,NI n)] ⟨f,rfl,rfl,rfl,rfl,trivial⟩ fun am ⟨f,g,c,T7,T8,_⟩=>(bN (tN (And.intro ⟨p+n,(ls)++ [r],i,f,c,g,hE,CR al (rfl),hpn,by rw[List.length_append,List.length_singleton];omega,ht.trans (GT hlt (by rw[hd,if_neg h])),trivial⟩ ?_)))))))))))))
  show l.length-(intOf (am 6)).toNat<l.length-(intOf (aa 6)).toNat
  rw[c,q6]
  simp only[intOf,Int.toNat_natCast];omega
 refine AP (Ar (Ar (Az (tN (y _ _ (sk fun a9 an=>(wt (oM rfl (oA rfl (oA rfl (oA rfl (oZ (tN (an _ _ (Am (Aj (fn:=Tryz.f79) _ rfl [vb,NI 0,NI 0] (.tuple #[vb,NI 0,NI 0]) rfl ⟨g,rfl,rfl,trivial⟩ ?_))))))))))))))))
 exact⟨⟨_,_,by rw[ht,Gc (show ¬p<l.length by omega)];rfl⟩,hE⟩

theorem Pc(w:World)(l:Bs)(hl:l.length≤1000):
  Calls Tryz.prog 65 #[St l] w fun e w' =>e = .returned (.bool (CI l 0))∧Ext w w' :=by
 refine As (args:= [St (l)]) Tryz.func65 rfl 14 rfl (Nat.le_of_ble_eq_true rfl) ?_
 intro j hb
 have g:j 0=(St (l):Value):=hb.get 0
 clear hb
 have hE:=Ext.refl w
 refine sk fun s i=>(wt (oA rfl (oZ ?_)))
 rcases hT:CI l 0 with _ | _
 ·refine tN (i _ _ (sk fun t k=>(wt (oM rfl (oS rfl (Yk.callA1 Ka g (((show Calls _ _ _ _ (fun e f=>(∃v p,e = .returned (.tuple #[v,NI p,NI 5]))∧Ext w f)from by have h:=Hk w l hl;rw[hT]at h;exact h)).mono ?_)))))))
  rintro e u ⟨⟨c,p0,rfl⟩,m⟩
  refine⟨_,rfl,?_⟩
  have hE:=hE.trans m
  refine oM rfl (oS rfl (Yk.extract (vs:= [c,NI p0,NI 5]) (vr (.tuple #[c,NI p0,NI 5]) rfl) (show _=some (c:Value)from rfl) (oS rfl (Yk.extract (vs:= [c,NI p0,NI 5]) (vr (.tuple #[c,NI p0,NI 5]) rfl) (show _=some (NI p0:Value)from rfl) (oS rfl (Yk.extract (vs:= [c,NI p0,NI 5]) (vr (.tuple #[c,NI p0,NI 5]) rfl) (show _=some (NI 5:Value)from rfl) (oA rfl (oA rfl (oA rfl (oZ (tN (k _ _ (sk fun x n=>(wt (oM rfl (oS rfl (Yk.eqI (a:=(5:Nat)) (b:=(0:Nat)) rfl rfl (A2 _ _ _ _) (oA rfl (oZ (tN (n _ _ ?_)))))))))))))))))))))
  refine Am (Aj (fn:=Tryz.f65) _ rfl [.bool (false)] (.bool (false)) rfl ⟨(congrArg Value.bool (decide_eq_false (by decide))),trivial⟩ ?_)
  exact⟨by rw[hT],hE⟩
 refine tN (i _ _ (sk fun y o=>(wt (oM rfl (oS rfl (Yk.callA1 Ka g (((show Calls _ _ _ _ (fun e f=>(∃v p,e = .returned (.tuple #[v,NI p,NI 0]))∧Ext w f)from by have h:=Hk w l hl;rw[hT]at h;exact h)).mono ?_)))))))
 rintro e z ⟨⟨c,p0,rfl⟩,q⟩
 refine⟨_,rfl,?_⟩
 have hE:=hE.trans q
 refine oM rfl (oS rfl (Yk.extract (vs:= [c,NI p0,NI 0]) (vr (.tuple #[c,NI p0,NI 0]) rfl) (show _=some (c:Value)from rfl) (oS rfl (Yk.extract (vs:= [c,NI p0,NI 0]) (vr (.tuple #[c,NI p0,NI 0]) rfl) (show _=some (NI p0:Value)from rfl) (oS rfl (Yk.extract (vs:= [c,NI p0,NI 0]) (vr (.tuple #[c,NI p0,NI 0]) rfl) (show _=some (NI 0:Value)from rfl) (oA rfl (oA rfl (oA rfl (oZ (tN (o _ _ (sk fun K9 r=>(wt (oM rfl (oS rfl (Yk.eqI (a:=(0:Nat)) (b:=(0:Nat)) rfl rfl (A2 _ _ _ _) (oA rfl (oZ (tN (r _ _ ?_)))))))))))))))))))))
 refine Am (Aj (fn:=Tryz.f65) _ rfl [.bool (true)] (.bool (true)) rfl ⟨(congrArg Value.bool (decide_eq_true (by decide))),trivial⟩ ?_)
 exact⟨by rw[hT],hE⟩

theorem Mf(w:World)(l:Bs):
  Calls Tryz.prog 42 #[St l] w fun e w' =>e = .returned (.bool (BL l))∧Ext w w' :=by
 refine As (args:= [St (l)]) Tryz.func42 rfl 10 rfl (Nat.le_of_ble_eq_true rfl) ?_
 intro f hb
 have c:f 0=(St (l):Value):=hb.get 0
 clear hb
 have hE:=Ext.refl w
 refine sk fun j g=>(wt (oA rfl (oZ (tN (g _ _ (sk fun k h=>(wt (oM rfl (oS rfl (Yk.lenSt (l:=l) DT c (oS rfl (Yk.eqI (a:=(l.length:Nat)) (b:=(256:Nat)) rfl rfl (Cs _ _ _ _) (oM rfl (Ac (St (l)) rfl rfl (gT (vr (.bool (decide ((l.length)≤(256)))) rfl)) (fun hG3=>Yk.move c ⟨rfl,rfl⟩) (BF (.bool (CI l 0)) rfl rfl (gT (vr (.bool (decide ((l.length)≤(256)))) rfl)) (fun hG4=>Yk.callA1 Pb (Ak (vr (cond ((decide ((l.length)≤(256)))) (St (l)) undef) rfl) hG4) ((Pc _ l (by simp only[gA,gB,gC,gD,gE]at hG4;omega)).mono (by rintro e m ⟨rfl,hx⟩;exact⟨_,rfl,rfl,hx⟩))) fun n i=> ?_)))))))))))))))
 have hE:=hE.trans i
 refine oS rfl (Yk.pickAndN (vr (.bool (decide ((l.length)≤(256)))) rfl) (fun hA=>(Ak (vr (cond ((decide ((l.length)≤(256)))) (.bool (CI l 0)) undef) rfl) hA)) (vr (.bool (false)) rfl) fun bb8 hbb9=>(oA rfl (oZ (tN (h _ _ (Am (Aj (fn:=Tryz.f42) _ rfl [.bool (bb8)] (.bool (bb8)) rfl ⟨rfl,trivial⟩ ?_)))))))
 subst hbb9
 exact⟨rfl,hE⟩
open Go.RowKit
theorem Fp(w:World)(s:Bs)(hs:s.length≤1099511627776):
    Calls Tryz.prog 44 #[St s] w fun e w' =>∃v',e = .returned v' ∧NewB 5 w w' v' (Bd s):=by
  have hs' :(⟨s.toArray⟩:ByteArray).size=s.length:=by show s.toArray.size=_;rw[List.size_toArray]
  have h:=L0 w ⟨s.toArray⟩ (by rw[hs'];omega)
  rw[hs']at h
  exact h
open Go.RowKit
set_option maxRecDepth 100000
theorem Mw(r:A0):Fv r=((decide (r.head= [])&&Ai r.at_)||(decide (r.head≠ [])&&((!Ap r.head)||(!Ai r.at_)))):=Bool.or_comm _ _
theorem LJ(l:List AM)(i:Nat):DU l i=((((decide ((l.getD i Ad).kind.toNat<1))||(decide (3<(l.getD i Ad).kind.toNat)))||decide (32<(l.getD i Ad).name.length))||(!BL (l.getD i Ad).note)):=by
 unfold DU B3
 have:(!((decide ((l.getD i Ad).kind.toNat=1)||decide ((l.getD i Ad).kind.toNat=2))||decide ((l.getD i Ad).kind.toNat=3)))=((decide ((l.getD i Ad).kind.toNat<1))||(decide (3<(l.getD i Ad).kind.toNat))):=by
  rw[Bool.eq_iff_iff]
  simp only[Bool.or_eq_true,Bool.not_eq_true',Bool.or_eq_false_iff,decide_eq_true_eq,decide_eq_false_iff_not]
  omega
 rw[this]
 ac_rfl
theorem Kb:AI Tryz.prog 41:=fun _ _=>by kernel_rfl
theorem Hl:AI Tryz.prog 40:=fun _ _=>by kernel_rfl
theorem Kc:AI Tryz.prog 39:=fun _ _=>by kernel_rfl
theorem Pd:AI Tryz.prog 42:=fun _ _=>by kernel_rfl
set_option maxHeartbeats 1600000
theorem Gv(w:World)(u:BS):
  Calls Tryz.prog 40 #[AB u.1] w fun e w' =>e = .returned (.bool (Ai u))∧Ext w w' :=by
 refine As (args:= [AB u.1]) Tryz.func40 rfl 6 rfl (Nat.le_of_ble_eq_true rfl) ?_
 intro c hb
 have f:c 0=(AB u.1:Value):=hb.get 0
 clear hb
 have hE:=Ext.refl w
 refine sk fun l g=>(wt (oS rfl (Yk.box (cs:=(Lib.byteCells u.1:List Value).toArray) f fun a h m b i n=> ?_)))
 have hE:=hE.trans i
 have j:=b;clear b
 have o:a<h.heap.size:=by omega
 refine oA rfl (oZ (tN (g _ _ (sk fun p k=>(wt (oS rfl (Yk.loadAll (vr (PQ a 0) rfl) j P8 rfl (by exact At u.2) (oS rfl (Yk.run (v:=AB (List.replicate 32 0)) (by kernel_rfl) (oS rfl (Yk.eqArr (l1:=u.1) (l2:=(List.replicate 32 0)) P8 u5 MH NE (vr (AB u.1) rfl) (vr (AB (List.replicate 32 0)) rfl) (u.2) (List.length_replicate) (oA rfl (oZ (tN (k _ _ (Am (Aj (fn:=Tryz.f40) _ rfl [.bool (decide (u.1=(List.replicate 32 0)))] (.bool (decide (u.1=(List.replicate 32 0)))) rfl ⟨rfl,trivial⟩ ?_)))))))))))))))))
 exact⟨rfl,hE⟩

theorem I3(w:World)(v:Value)(l:List AK)(hr:RG 33 nmdC w v l)(hll:l.length<9223372036854775807)(hln:∀u∈l,u.name.length≤9223372036854775807):
  Calls Tryz.prog 39 #[v] w fun e w' =>e = .returned (.bool (A6 l))∧Ext w w' :=by
 refine As (args:= [v]) Tryz.func39 rfl 46 rfl (Nat.le_of_ble_eq_true rfl) ?_
 intro s hb
 have c:s 0=(v:Value):=hb.get 0
 clear hb
 have hE:=Ext.refl w
 refine sk fun K1 t=>(wt (oA rfl (oZ (tN (t _ _ (sk fun K2 y=>(sk fun K3 z=>(wt (oM rfl (oS rfl (Yk.lenRG Fz (RG.of hr c) (oS rfl (Yk.eqI (a:=(l.length:Nat)) (b:=(64:Nat)) rfl rfl (BA _ _ _ _) (oZ (tN (z _ _ ?_))))))))))))))))
 refine AL ((64)<(l.length)) (vr (.bool (decide ((64)<(l.length)))) rfl) (fun aa=> ?_) (fun aa=> ?_)
 ·refine sk fun K4 ab=>(wt (oA rfl (oZ (tN (ab _ _ (Am (An (Aj (fn:=Tryz.f39) _ rfl [.bool (false)] (.bool (false)) rfl ⟨rfl,trivial⟩ ?_))))))))
  exact⟨by rw[LS (by omega)],hE⟩
 refine Aq (tN (y _ _ (sk fun K5 ac=>(sk fun K6 ad=>(wt (oA rfl (A3 [(0,v),(2, .bool (false)),(3,NI 0)] ⟨c,rfl,rfl,trivial⟩ fun bv ⟨c,T2,f,_⟩=>(tN (ad _ _ (Av (A4 (fun(ρ:Au) (wz:World)=>∃i:Nat,ρ 0=(v:Value)∧ρ 3=(NI i:Value)∧RG 33 nmdC wz v l∧Ext w wz∧(i≤l.length)∧(∀j,j<i→nE l j=false)∧True) (fun ρ _=>l.length-(intOf (ρ 3)).toNat) ⟨0,c,f,hr,hE,Nat.zero_le _,fun j hj=>absurd hj (Nat.not_lt_zero _),trivial⟩ ?_)))))))))))
 clear hr hE
 rintro ae w9 ⟨i,c,f,hr,hE,hi,hn,-⟩
 have q3:=f
 refine sk fun bz af=>(sk fun b0 ag=>(wt (oM rfl (oM rfl (oS rfl (Yk.lenRG Fz (RG.of hr c) (oS rfl (Yk.eqI (a:=(i:Nat)) (b:=(l.length:Nat)) f rfl (AX _ _ _ _) (oZ (tN (ag _ _ ?_)))))))))))
 refine AL ((i)<(l.length)) (vr (.bool (decide ((i)<(l.length)))) rfl) (fun q=> ?_) (fun q=> ?_)
 ·have hlt:i<l.length:=q
  have hnm:=hln _ (CB dNmd hlt)
  refine Aq (tN (af _ _ (sk fun b1 ah=>(Av (sk fun b2 ai=> ?_)))))
  refine Bw [Is (v),Is (NI i),fun x w' =>PR (nmdC (l.getD (i) dNmd)) x w',PCell (St ((l.getD (i) dNmd).name)),Is (St ((l.getD (i) dNmd).name)),Is (.bool (Ap ((l.getD (i) dNmd).name))),Is (.bool (!(Ap ((l.getD (i) dNmd).name)))),Is (.bool (!(Ap ((l.getD (i) dNmd).name)))),Is (cond (!(!(Ap ((l.getD (i) dNmd).name)))) (v) undef),Is (cond (!(!(Ap ((l.getD (i) dNmd).name)))) (NI i) undef),fun x w' =>(!(!(Ap ((l.getD (i) dNmd).name))))=true→(fun x w' =>PR (nmdC (l.getD (i) dNmd)) x w') x w',fun x w' =>(!(!(Ap ((l.getD (i) dNmd).name))))=true→(fun x w' =>PR (Lib.byteCells (l.getD (i) dNmd).id.1) x w') x w',Is (cond (!(!(Ap ((l.getD (i) dNmd).name)))) (AB ((l.getD (i) dNmd).id.1)) undef),Is (cond (!(!(Ap ((l.getD (i) dNmd).name)))) (.bool (Ai ((l.getD (i) dNmd).id))) undef),Is (.bool ((!(Ap ((l.getD (i) dNmd).name)))||(Ai ((l.getD (i) dNmd).id)))),Is (.bool ((!(Ap ((l.getD (i) dNmd).name)))||(Ai ((l.getD (i) dNmd).id)))),Is (cond (!((!(Ap ((l.getD (i) dNmd).name)))||(Ai ((l.getD (i) dNmd).id)))) (NI i) undef),Is (cond (!((!(Ap ((l.getD (i) dNmd).name)))||(Ai ((l.getD (i) dNmd).id)))) (.bool (decide ((0)<(i)))) undef),Is (cond (!((!(Ap ((l.getD (i) dNmd).name)))||(Ai ((l.getD (i) dNmd).id)))) (.bool (decide ((0)<(i)))) undef),Is (cond ((!((!(Ap ((l.getD (i) dNmd).name)))||(Ai ((l.getD (i) dNmd).id))))&&(decide ((0)<(i)))) (v) undef),Is (cond ((!((!(Ap ((l.getD (i) dNmd).name)))||(Ai ((l.getD (i) dNmd).id))))&&(decide ((0)<(i)))) (NI i) undef),Is (cond ((!((!(Ap ((l.getD (i) dNmd).name)))||(Ai ((l.getD (i) dNmd).id))))&&(decide ((0)<(i)))) (NI ((i)-(1))) undef),fun x w' =>((!((!(Ap ((l.getD (i) dNmd).name)))||(Ai ((l.getD (i) dNmd).id))))&&(decide ((0)<(i))))=true→(fun x w' =>PR (nmdC (l.getD ((i)-(1)) dNmd)) x w') x w',fun x w' =>((!((!(Ap ((l.getD (i) dNmd).name)))||(Ai ((l.getD (i) dNmd).id))))&&(decide ((0)<(i))))=true→(PCell (St ((l.getD ((i)-(1)) dNmd).name))) x w',Is (cond ((!((!(Ap ((l.getD (i) dNmd).name)))||(Ai ((l.getD (i) dNmd).id))))&&(decide ((0)<(i)))) (St ((l.getD ((i)-(1)) dNmd).name)) undef),Is (cond ((!((!(Ap ((l.getD (i) dNmd).name)))||(Ai ((l.getD (i) dNmd).id))))&&(decide ((0)<(i)))) (v) undef),Is (cond ((!((!(Ap ((l.getD (i) dNmd).name)))||(Ai ((l.getD (i) dNmd).id))))&&(decide ((0)<(i)))) (NI i) undef),fun x w' =>((!((!(Ap ((l.getD (i) dNmd).name)))||(Ai ((l.getD (i) dNmd).id))))&&(decide ((0)<(i))))=true→(fun x w' =>PR (nmdC (l.getD (i) dNmd)) x w') x w',fun x w' =>((!((!(Ap ((l.getD (i) dNmd).name)))||(Ai ((l.getD (i) dNmd).id))))&&(decide ((0)<(i))))=true→(PCell (St ((l.getD (i) dNmd).name))) x w',Is (cond ((!((!(Ap ((l.getD (i) dNmd).name)))||(Ai ((l.getD (i) dNmd).id))))&&(decide ((0)<(i)))) (St ((l.getD (i) dNmd).name)) undef),Is (cond ((!((!(Ap ((l.getD (i) dNmd).name)))||(Ai ((l.getD (i) dNmd).id))))&&(decide ((0)<(i)))) (.bool (!(Op.bytesLess ((l.getD ((i)-(1)) dNmd).name) ((l.getD (i) dNmd).name)))) undef),Is (cond (!((!(Ap ((l.getD (i) dNmd).name)))||(Ai ((l.getD (i) dNmd).id)))) (.bool ((decide ((0)<(i)))&&(!(Op.bytesLess ((l.getD ((i)-(1)) dNmd).name) ((l.getD (i) dNmd).name))))) undef),Is (.bool (((!(Ap ((l.getD (i) dNmd).name)))||(Ai ((l.getD (i) dNmd).id)))||((decide ((0)<(i)))&&(!(Op.bytesLess ((l.getD ((i)-(1)) dNmd).name) ((l.getD (i) dNmd).name))))))] (by kernel_rfl) [13,14,15,16,17,18,19,20,21,22,23,24,25,26,27,28,29,30,31,32,33,34,35,36,37,38,39,40,41,42,43,44,45] (by kernel_rfl) (by kernel_rfl) (DG ⟨(fun _ _ _ h k=>PR.keep h k),Stab.pcell _,(QW ⟨(Stab.may ((fun _ _ _ h k=>PR.keep h k))),(Stab.may ((fun _ _ _ h k=>PR.keep h k))),(KO ⟨(Stab.may ((fun _ _ _ h k=>PR.keep h k))),(Stab.may (Stab.pcell _)),(QV ⟨(Stab.may ((fun _ _ _ h k=>PR.keep h k))),(Stab.may (Stab.pcell _)),(EJ trivial)⟩)⟩)⟩)⟩) ?aj ?hQ1006
  case aj=>
   refine⟨?_,?_,?_,?_,?_,?_,?_,?_,?_,?_,?_,?_,?_,?_,?_,?_,?_,?_,?_,?_,?_,?_,?_,?_,?_,?_,?_,?_,?_,?_,?_,?_,?_,trivial⟩
   ·refine Aa rfl fun σ w1 hC h=> ?_
    have o:=(Ae (h 0 (by decide))).trans c
    exact Yk.move o ⟨Ext.refl _,rfl⟩
   ·refine Aa rfl fun σ w1 hC h=> ?_
    have g:=(Ae (h 3 (by decide))).trans f
    exact Yk.move g ⟨Ext.refl _,rfl⟩
   ·refine Aa rfl fun σ w1 hC h=> ?_
    have ak:=Ae (h 13 (by decide))
    have al:=Ae (h 14 (by decide))
    exact Yk.atRG Fz EX (by decide) dNmd (RG.of (hr.keep hC) ak) al (by omega) fun v h=>⟨Ext.refl _,h⟩
   ·refine Aa rfl fun σ w1 hC h=> ?_
    have am:(fun x w' =>PR (nmdC (l.getD (i) dNmd)) x w') (σ 15) w1:=h 15 (by decide)
    exact Yk.fieldPR (n:=1) HW am fun v h=>⟨Ext.refl _,PR.pcell (by rw[DJ]at h;exact h)⟩
   ·refine Aa rfl fun σ w1 hC h=> ?_
    have an:(PCell (St ((l.getD (i) dNmd).name))) (σ 16) w1:=h 16 (by decide)
    exact Yk.loadC DT rfl an ⟨Ext.refl _,rfl⟩
   ·refine Aa rfl fun σ w1 hC h=> ?_
    have ao:=Ae (h 17 (by decide))
    refine Yk.callA1 Kb ao ((HI _ ((l.getD (i) dNmd).name) (by have:=hnm;omega)).mono ?_)
    rintro e w2 ⟨rfl,hx⟩
    exact⟨_,rfl,hx,rfl⟩
   ·refine Aa rfl fun σ w1 hC h=> ?_
    have aq:=Ae (h 18 (by decide))
    exact Yk.notB aq ⟨Ext.refl _,rfl⟩
   ·refine Aa rfl fun σ w1 hC h=> ?_
    have ar:=Ae (h 19 (by decide))
    exact Yk.move ar ⟨Ext.refl _,rfl⟩
   ·refine AY 7 false 20 (G:= !(!(Ap ((l.getD (i) dNmd).name)))) rfl rfl (fun x _ (h:x = .bool (!(Ap ((l.getD (i) dNmd).name))))=>gF h) (fun hu_ _=>Bl hu_) fun hG σ w1 hC h=> ?_
    have o:=(Ae (h 0 (by decide))).trans c
    exact Yk.move o ⟨Ext.refl _,Bk hG⟩
   ·refine AY 7 false 20 (G:= !(!(Ap ((l.getD (i) dNmd).name)))) rfl rfl (fun x _ (h:x = .bool (!(Ap ((l.getD (i) dNmd).name))))=>gF h) (fun hu_ _=>Bl hu_) fun hG σ w1 hC h=> ?_
    have g:=(Ae (h 3 (by decide))).trans f
    exact Yk.move g ⟨Ext.refl _,Bk hG⟩
   ·refine AY 7 false 20 (G:= !(!(Ap ((l.getD (i) dNmd).name)))) rfl rfl (fun x _ (h:x = .bool (!(Ap ((l.getD (i) dNmd).name))))=>gF h) (fun hu_ _=>Jt hu_) fun hG σ w1 hC h=> ?_
    have au:=Ae (h 21 (by decide))
    have av:=Ae (h 22 (by decide))
    exact Yk.atRG Fz EX (by decide) dNmd (RG.of (hr.keep hC) (Ak au hG)) (Ak av hG) (by simp only[gA,gB,gC,gD,gE]at hG;omega) fun v h=>⟨Ext.refl _,fun _=>h⟩
   ·refine AY 7 false 20 (G:= !(!(Ap ((l.getD (i) dNmd).name)))) rfl rfl (fun x _ (h:x = .bool (!(Ap ((l.getD (i) dNmd).name))))=>gF h) (fun hu_ _=>Jt hu_) fun hG σ w1 hC h=> ?_
    have aw:(fun x w' =>(!(!(Ap ((l.getD (i) dNmd).name))))=true→(fun x w' =>PR (nmdC (l.getD (i) dNmd)) x w') x w') (σ 23) w1:=h 23 (by decide)
    exact Yk.fieldPR (n:=32) HX (aw hG) fun v h=>⟨Ext.refl _,fun _=>by rw[Ee]at h;exact h⟩
   ·refine AY 7 false 20 (G:= !(!(Ap ((l.getD (i) dNmd).name)))) rfl rfl (fun x _ (h:x = .bool (!(Ap ((l.getD (i) dNmd).name))))=>gF h) (fun hu_ _=>Bl hu_) fun hG σ w1 hC h=> ?_
    have ax:(fun x w' =>(!(!(Ap ((l.getD (i) dNmd).name))))=true→(fun x w' =>PR (Lib.byteCells (l.getD (i) dNmd).id.1) x w') x w') (σ 24) w1:=h 24 (by decide)
    exact Yk.loadPR (ax hG) P8 rfl (by rw[Lib.byteCells_length,(l.getD (i) dNmd).id.2];exact Nw) ⟨Ext.refl _,Bk hG⟩
   ·refine AY 7 false 20 (G:= !(!(Ap ((l.getD (i) dNmd).name)))) rfl rfl (fun x _ (h:x = .bool (!(Ap ((l.getD (i) dNmd).name))))=>gF h) (fun hu_ _=>Bl hu_) fun hG σ w1 hC h=> ?_
    have ay:=Ae (h 25 (by decide))
    refine Yk.callA1 Hl (Ak ay hG) ((Gv _ ((l.getD (i) dNmd).id)).mono ?_)
    rintro e w2 ⟨rfl,hx⟩
    exact⟨_,rfl,hx,Bk hG⟩
   ·refine Aa rfl fun σ w1 hC h=> ?_
    have az:=Ae (h 20 (by decide))
    have a0:=Ae (h 26 (by decide))
    exact Yk.pickOr az (vr (.bool (true)) rfl) (fun hA=>(Ak a0 (Bb hA))) ⟨Ext.refl _,rfl⟩
   ·refine Aa rfl fun σ w1 hC h=> ?_
    have a1:=Ae (h 27 (by decide))
    exact Yk.move a1 ⟨Ext.refl _,rfl⟩
   ·refine AY 15 false 28 (G:= !((!(Ap ((l.getD (i) dNmd).name)))||(Ai ((l.getD (i) dNmd).id)))) rfl rfl (fun x _ (h:x = .bool ((!(Ap ((l.getD (i) dNmd).name)))||(Ai ((l.getD (i) dNmd).id))))=>gF h) (fun hu_ _=>Bl hu_) fun hG σ w1 hC h=> ?_
    have g:=(Ae (h 3 (by decide))).trans f
    exact Yk.move g ⟨Ext.refl _,Bk hG⟩
   ·refine AY 15 false 28 (G:= !((!(Ap ((l.getD (i) dNmd).name)))||(Ai ((l.getD (i) dNmd).id)))) rfl rfl (fun x _ (h:x = .bool ((!(Ap ((l.getD (i) dNmd).name)))||(Ai ((l.getD (i) dNmd).id))))=>gF h) (fun hu_ _=>Bl hu_) fun hG σ w1 hC h=> ?_
    have a2:=Ae (h 29 (by decide))
    exact Yk.eqI (a:=((i:Nat):Int)) (b:=((0:Nat):Int)) (Ak a2 hG) (vr (NI 0) rfl) (BA _ .i64 (i) (0)) ⟨Ext.refl _,Bk hG⟩
   ·refine AY 15 false 28 (G:= !((!(Ap ((l.getD (i) dNmd).name)))||(Ai ((l.getD (i) dNmd).id)))) rfl rfl (fun x _ (h:x = .bool ((!(Ap ((l.getD (i) dNmd).name)))||(Ai ((l.getD (i) dNmd).id))))=>gF h) (fun hu_ _=>Bl hu_) fun hG σ w1 hC h=> ?_
    have a3:=Ae (h 30 (by decide))
    exact Yk.move (Ak a3 hG) ⟨Ext.refl _,Bk hG⟩
   ·refine AY 18 true 31 (G:=(!((!(Ap ((l.getD (i) dNmd).name)))||(Ai ((l.getD (i) dNmd).id))))&&(decide ((0)<(i)))) rfl rfl (fun x _ (h:x=cond (!((!(Ap ((l.getD (i) dNmd).name)))||(Ai ((l.getD (i) dNmd).id)))) (.bool (decide ((0)<(i)))) undef)=>Cc h) (fun hu_ _=>Bl hu_) fun hG σ w1 hC h=> ?_
    have o:=(Ae (h 0 (by decide))).trans c
    exact Yk.move o ⟨Ext.refl _,Bk hG⟩
   ·refine AY 18 true 31 (G:=(!((!(Ap ((l.getD (i) dNmd).name)))||(Ai ((l.getD (i) dNmd).id))))&&(decide ((0)<(i)))) rfl rfl (fun x _ (h:x=cond (!((!(Ap ((l.getD (i) dNmd).name)))||(Ai ((l.getD (i) dNmd).id)))) (.bool (decide ((0)<(i)))) undef)=>Cc h) (fun hu_ _=>Bl hu_) fun hG σ w1 hC h=> ?_
    have g:=(Ae (h 3 (by decide))).trans f
    exact Yk.move g ⟨Ext.refl _,Bk hG⟩
   ·refine AY 18 true 31 (G:=(!((!(Ap ((l.getD (i) dNmd).name)))||(Ai ((l.getD (i) dNmd).id))))&&(decide ((0)<(i)))) rfl rfl (fun x _ (h:x=cond (!((!(Ap ((l.getD (i) dNmd).name)))||(Ai ((l.getD (i) dNmd).id)))) (.bool (decide ((0)<(i)))) undef)=>Cc h) (fun hu_ _=>Bl hu_) fun hG σ w1 hC h=> ?_
    have a4:=Ae (h 33 (by decide))
    exact Yk.bin (xv:=NI i) (yv:=NI 1) (Ak a4 hG) (vr (NI 1) rfl) rfl (B5 _ (i) (1) (by simp only[gA,gB,gC,gD,gE]at hG;omega) (by simp only[gA,gB,gC,gD,gE]at hG;omega)) ⟨Ext.refl _,Bk hG⟩
   ·refine AY 18 true 31 (G:=(!((!(Ap ((l.getD (i) dNmd).name)))||(Ai ((l.getD (i) dNmd).id))))&&(decide ((0)<(i)))) rfl rfl (fun x _ (h:x=cond (!((!(Ap ((l.getD (i) dNmd).name)))||(Ai ((l.getD (i) dNmd).id)))) (.bool (decide ((0)<(i)))) undef)=>Cc h) (fun hu_ _=>Jt hu_) fun hG σ w1 hC h=> ?_
    have a5:=Ae (h 32 (by decide))
    have a6:=Ae (h 34 (by decide))
    exact Yk.atRG Fz EX (by decide) dNmd (RG.of (hr.keep hC) (Ak a5 hG)) (Ak a6 hG) (by simp only[gA,gB,gC,gD,gE]at hG;omega) fun v h=>⟨Ext.refl _,fun _=>h⟩
   ·refine AY 18 true 31 (G:=(!((!(Ap ((l.getD (i) dNmd).name)))||(Ai ((l.getD (i) dNmd).id))))&&(decide ((0)<(i)))) rfl rfl (fun x _ (h:x=cond (!((!(Ap ((l.getD (i) dNmd).name)))||(Ai ((l.getD (i) dNmd).id)))) (.bool (decide ((0)<(i)))) undef)=>Cc h) (fun hu_ _=>Jt hu_) fun hG σ w1 hC h=> ?_
    have a7:(fun x w' =>((!((!(Ap ((l.getD (i) dNmd).name)))||(Ai ((l.getD (i) dNmd).id))))&&(decide ((0)<(i))))=true→(fun x w' =>PR (nmdC (l.getD ((i)-(1)) dNmd)) x w') x w') (σ 35) w1:=h 35 (by decide)
    exact Yk.fieldPR (n:=1) HW (a7 hG) fun v h=>⟨Ext.refl _,fun _=>PR.pcell (by rw[DJ]at h;exact h)⟩
   ·refine AY 18 true 31 (G:=(!((!(Ap ((l.getD (i) dNmd).name)))||(Ai ((l.getD (i) dNmd).id))))&&(decide ((0)<(i)))) rfl rfl (fun x _ (h:x=cond (!((!(Ap ((l.getD (i) dNmd).name)))||(Ai ((l.getD (i) dNmd).id)))) (.bool (decide ((0)<(i)))) undef)=>Cc h) (fun hu_ _=>Bl hu_) fun hG σ w1 hC h=> ?_
    have a8:(fun x w' =>((!((!(Ap ((l.getD (i) dNmd).name)))||(Ai ((l.getD (i) dNmd).id))))&&(decide ((0)<(i))))=true→(PCell (St ((l.getD ((i)-(1)) dNmd).name))) x w') (σ 36) w1:=h 36 (by decide)
    exact Yk.loadC DT rfl (a8 hG) ⟨Ext.refl _,Bk hG⟩
   ·refine AY 18 true 31 (G:=(!((!(Ap ((l.getD (i) dNmd).name)))||(Ai ((l.getD (i) dNmd).id))))&&(decide ((0)<(i)))) rfl rfl (fun x _ (h:x=cond (!((!(Ap ((l.getD (i) dNmd).name)))||(Ai ((l.getD (i) dNmd).id)))) (.bool (decide ((0)<(i)))) undef)=>Cc h) (fun hu_ _=>Bl hu_) fun hG σ w1 hC h=> ?_
    have o:=(Ae (h 0 (by decide))).trans c
    exact Yk.move o ⟨Ext.refl _,Bk hG⟩
   ·refine AY 18 true 31 (G:=(!((!(Ap ((l.getD (i) dNmd).name)))||(Ai ((l.getD (i) dNmd).id))))&&(decide ((0)<(i)))) rfl rfl (fun x _ (h:x=cond (!((!(Ap ((l.getD (i) dNmd).name)))||(Ai ((l.getD (i) dNmd).id)))) (.bool (decide ((0)<(i)))) undef)=>Cc h) (fun hu_ _=>Bl hu_) fun hG σ w1 hC h=> ?_
    have g:=(Ae (h 3 (by decide))).trans f
    exact Yk.move g ⟨Ext.refl _,Bk hG⟩
   ·refine AY 18 true 31 (G:=(!((!(Ap ((l.getD (i) dNmd).name)))||(Ai ((l.getD (i) dNmd).id))))&&(decide ((0)<(i)))) rfl rfl (fun x _ (h:x=cond (!((!(Ap ((l.getD (i) dNmd).name)))||(Ai ((l.getD (i) dNmd).id)))) (.bool (decide ((0)<(i)))) undef)=>Cc h) (fun hu_ _=>Jt hu_) fun hG σ w1 hC h=> ?_
    have a9:=Ae (h 38 (by decide))
    have ba:=Ae (h 39 (by decide))
    exact Yk.atRG Fz EX (by decide) dNmd (RG.of (hr.keep hC) (Ak a9 hG)) (Ak ba hG) (by simp only[gA,gB,gC,gD,gE]at hG;omega) fun v h=>⟨Ext.refl _,fun _=>h⟩
   ·refine AY 18 true 31 (G:=(!((!(Ap ((l.getD (i) dNmd).name)))||(Ai ((l.getD (i) dNmd).id))))&&(decide ((0)<(i)))) rfl rfl (fun x _ (h:x=cond (!((!(Ap ((l.getD (i) dNmd).name)))||(Ai ((l.getD (i) dNmd).id)))) (.bool (decide ((0)<(i)))) undef)=>Cc h) (fun hu_ _=>Jt hu_) fun hG σ w1 hC h=> ?_
    have bb:(fun x w' =>((!((!(Ap ((l.getD (i) dNmd).name)))||(Ai ((l.getD (i) dNmd).id))))&&(decide ((0)<(i))))=true→(fun x w' =>PR (nmdC (l.getD (i) dNmd)) x w') x w') (σ 40) w1:=h 40 (by decide)
    exact Yk.fieldPR (n:=1) HW (bb hG) fun v h=>⟨Ext.refl _,fun _=>PR.pcell (by rw[DJ]at h;exact h)⟩
   ·refine AY 18 true 31 (G:=(!((!(Ap ((l.getD (i) dNmd).name)))||(Ai ((l.getD (i) dNmd).id))))&&(decide ((0)<(i)))) rfl rfl (fun x _ (h:x=cond (!((!(Ap ((l.getD (i) dNmd).name)))||(Ai ((l.getD (i) dNmd).id)))) (.bool (decide ((0)<(i)))) undef)=>Cc h) (fun hu_ _=>Bl hu_) fun hG σ w1 hC h=> ?_
    have bc:(fun x w' =>((!((!(Ap ((l.getD (i) dNmd).name)))||(Ai ((l.getD (i) dNmd).id))))&&(decide ((0)<(i))))=true→(PCell (St ((l.getD (i) dNmd).name))) x w') (σ 41) w1:=h 41 (by decide)
    exact Yk.loadC DT rfl (bc hG) ⟨Ext.refl _,Bk hG⟩
   ·refine AY 18 true 31 (G:=(!((!(Ap ((l.getD (i) dNmd).name)))||(Ai ((l.getD (i) dNmd).id))))&&(decide ((0)<(i)))) rfl rfl (fun x _ (h:x=cond (!((!(Ap ((l.getD (i) dNmd).name)))||(Ai ((l.getD (i) dNmd).id)))) (.bool (decide ((0)<(i)))) undef)=>Cc h) (fun hu_ _=>Bl hu_) fun hG σ w1 hC h=> ?_
    have bd:=Ae (h 37 (by decide))
    have be:=Ae (h 42 (by decide))
    exact Yk.ltSt (l:=(l.getD ((i)-(1)) dNmd).name) (m:=(l.getD (i) dNmd).name) (.inr rfl) (Ak bd hG) (Ak be hG) (!(Op.bytesLess ((l.getD ((i)-(1)) dNmd).name) ((l.getD (i) dNmd).name))) rfl ⟨Ext.refl _,Bk hG⟩
   ·refine AY 15 false 28 (G:= !((!(Ap ((l.getD (i) dNmd).name)))||(Ai ((l.getD (i) dNmd).id)))) rfl rfl (fun x _ (h:x = .bool ((!(Ap ((l.getD (i) dNmd).name)))||(Ai ((l.getD (i) dNmd).id))))=>gF h) (fun hu_ _=>Bl hu_) fun hG σ w1 hC h=> ?_
    have bf:=Ae (h 31 (by decide))
    have bg:=Ae (h 43 (by decide))
    exact Yk.pickAnd (Ak bf hG) (fun hA=>(Ak bg (Du hG hA))) (vr (.bool (false)) rfl) ⟨Ext.refl _,Bk hG⟩
   ·refine Aa rfl fun σ w1 hC h=> ?_
    have bh:=Ae (h 28 (by decide))
    have bi:=Ae (h 44 (by decide))
    exact Yk.pickOr bh (vr (.bool (true)) rfl) (fun hA=>(Ak bi (Bb hA))) ⟨Ext.refl _,rfl⟩
  intro bj b3 r he hf
  obtain⟨-,-,-,-,-,-,-,-,-,-,-,-,-,-,-,-,-,-,-,-,-,-,-,-,-,-,-,-,-,-,-,-,k45,-⟩:=hf
  obtain⟨c,f,-⟩:=he.hold [(0,_),(3,_)] ⟨c,f,trivial⟩ rfl
  clear he
  have hr:=hr.keep r
  have hE:=hE.trans r
  have bk:bj 45 = .bool (((!(Ap ((l.getD (i) dNmd).name)))||(Ai ((l.getD (i) dNmd).id)))||((decide ((0)<(i)))&&(!(Op.bytesLess ((l.getD ((i)-(1)) dNmd).name) ((l.getD (i) dNmd).name))))):=k45
  clear k45
  refine tN (ai _ _ ?_)
  refine AW (((!(Ap ((l.getD (i) dNmd).name)))||(Ai ((l.getD (i) dNmd).id)))||((decide ((0)<(i)))&&(!(Op.bytesLess ((l.getD ((i)-(1)) dNmd).name) ((l.getD (i) dNmd).name))))) bk (fun p=> ?_) (fun p=> ?_)
  ·have hbad:nE l i=true:=p
   refine sk fun b4 bm=>(wt (oA rfl (oZ (tN (bm _ _ (Am (AE (An (An (AE (An (Aj (fn:=Tryz.f39) _ rfl [.bool (false)] (.bool (false)) rfl ⟨rfl,trivial⟩ ?_))))))))))))
   exact⟨by rw[Iu hlt hbad],hE⟩
  have hbad:nE l i=false:=p
  refine Aq (bN (tN (ah _ _ (wt (oM rfl (oS rfl (Yk.bin (xv:=NI i) (yv:=NI 1) f rfl rfl (AA _ _ _ (by omega)) (oA rfl (A3 [(0,v),(3,NI ((i)+(1)))] ⟨c,rfl,trivial⟩ fun bn ⟨c,f,_⟩=>(tN (And.intro ⟨i+1,c,f,hr,hE,by omega,F1 hn hbad,trivial⟩ ?_)))))))))))
  show l.length-(intOf (bn 3)).toNat<l.length-(intOf (ae 3)).toNat
  rw[f,q3]
  simp only[intOf,Int.toNat_natCast];omega
 refine AP (Ar (Ar (Az (tN (ac _ _ (sk fun b5 bo=>(wt (oA rfl (oZ (tN (bo _ _ (Am (Aj (fn:=Tryz.f39) _ rfl [.bool (true)] (.bool (true)) rfl ⟨rfl,trivial⟩ ?_)))))))))))))
 exact⟨by rw[ES (show l.length≤i by omega) hn,decide_eq_true (by omega)],hE⟩

theorem Es(w:World)(x:Ah)(hm:RefsAt w x)(hL:By x.1):
  Calls Tryz.prog 20 #[.agg (refsC x).toArray] w fun e w' =>e = .returned (.bool (AO x.1))∧Ext w w' :=by
 have hmt:=hm.branches
 have hmg:=hm.tags
 have hml:=hm.log
 refine As (args:= [.agg (refsC x).toArray]) Tryz.func20 rfl 81 rfl (Nat.le_of_ble_eq_true rfl) ?_
 intro aj hb
 have h:aj 0=(.agg (refsC x).toArray:Value):=hb.get 0
 clear hb
 have hE:=Ext.refl w
 refine sk fun K1 ak=>(wt (oS rfl (Yk.box (cs:=(refsC x:List Value).toArray) h fun f w3 bd t am be=> ?_)))
 have hE:=hE.trans am
 have c:=t;clear t
 have bf:f<w3.heap.size:=by omega
 refine oA rfl (oZ (tN (ak _ _ (sk fun bg an=>(sk fun bh ao=>(wt (oS rfl (Yk.fieldAt L5 (vr (PQ f 0) rfl) (oS rfl (Yk.cell1 Fz rfl (vr (PQ f 0) rfl) (Al c (show(refsC x)[0]? =some (x.2.branches:Value)from BN x)) (oS rfl (Yk.callA1 Kc (vr x.2.branches rfl) ((I3 _ _ x.1.branches (hmt.keep hE) hL.branches hL.bn).mono ?_)))))))))))))
 rintro e bi ⟨rfl,u⟩
 refine⟨_,rfl,?_⟩
 have hE:=hE.trans u
 have c:=eb u c
 refine oS rfl (Yk.notB (vr (.bool (A6 x.1.branches)) rfl) (oM rfl (Ac (PQ f 1) rfl rfl (gF (vr (.bool (!(A6 x.1.branches))) rfl)) (fun hG14=>Yk.fieldAt L6 (vr (PQ f 0) rfl) ⟨rfl,rfl⟩) (Ac (x.2.tags) rfl rfl (gF (vr (.bool (!(A6 x.1.branches))) rfl)) (fun hG15=>Yk.cell1 Fz rfl (Ak (vr (cond (!(!(A6 x.1.branches))) (PQ f 1) undef) rfl) hG15) (Al c (show(refsC x)[1]? =some (x.2.tags:Value)from B6 x)) ⟨rfl,rfl⟩) (BF (.bool (A6 x.1.tags)) rfl rfl (gF (vr (.bool (!(A6 x.1.branches))) rfl)) (fun hG16=>Yk.callA1 Kc (Ak (vr (cond (!(!(A6 x.1.branches))) (x.2.tags) undef) rfl) hG16) ((I3 _ _ x.1.tags (hmg.keep hE) hL.tags hL.tn).mono (by rintro e p ⟨rfl,hx⟩;exact⟨_,rfl,rfl,hx⟩))) fun bj v=> ?_)))))
 have hE:=hE.trans v
 have c:=eb v c
 refine Ac (.bool (!(A6 x.1.tags))) rfl rfl (gF (vr (.bool (!(A6 x.1.branches))) rfl)) (fun hG20=>Yk.notB (Ak (vr (cond (!(!(A6 x.1.branches))) (.bool (A6 x.1.tags)) undef) rfl) hG20) ⟨rfl,rfl⟩) (oS rfl (Yk.pickOrN (vr (.bool (!(A6 x.1.branches))) rfl) (vr (.bool (true)) rfl) (fun hA=>(Ak (vr (cond (!(!(A6 x.1.branches))) (.bool (!(A6 x.1.tags))) undef) rfl) (Bb hA))) fun bb21 hbb22=>(oM rfl (Ac (PQ f 35) rfl rfl (gF (vr (.bool (bb21)) rfl)) (fun hG23=>Yk.fieldAt Eo (vr (PQ f 0) rfl) ⟨rfl,rfl⟩) (Ac (x.2.log) rfl rfl (gF (vr (.bool (bb21)) rfl)) (fun hG24=>Yk.cell1 EA rfl (Ak (vr (cond (!bb21) (PQ f 35) undef) rfl) hG24) (Al c (show(refsC x)[35]? =some (x.2.log:Value)from Bn x)) ⟨rfl,rfl⟩) (Ac (NI ((x.1.log).length)) rfl rfl (gF (vr (.bool (bb21)) rfl)) (fun hG25=>Yk.lenRG EA (RG.of (hml.keep hE) (Ak (vr (cond (!bb21) (x.2.log) undef) rfl) hG25)) ⟨rfl,rfl⟩) (Ac (.bool (decide ((64)<((x.1.log).length)))) rfl rfl (gF (vr (.bool (bb21)) rfl)) (fun hG26=>Yk.eqI (a:=(((x.1.log).length:Nat):Int)) (b:=((64:Nat):Int)) (Ak (vr (cond (!bb21) (NI ((x.1.log).length)) undef) rfl) hG26) (vr (NI 64) rfl) (BA _ .i64 ((x.1.log).length) (64)) ⟨rfl,rfl⟩) (oS rfl (Yk.pickOrN (vr (.bool (bb21)) rfl) (vr (.bool (true)) rfl) (fun hA=>(Ak (vr (cond (!bb21) (.bool (decide ((64)<((x.1.log).length)))) undef) rfl) (Bb hA))) fun bb27 hbb28=>(oZ (tN (ao _ _ ?_))))))))))))
 refine AW (bb27) (vr (.bool (bb27)) rfl) (fun q=> ?_) (fun q=> ?_)
 ·subst hbb22 hbb28
  have h1c:F2 x.1=true:=q
  refine sk fun bk ap=>(wt (oA rfl (oZ (tN (ap _ _ (Am (An (Aj (fn:=Tryz.f20) _ rfl [.bool (false)] (.bool (false)) rfl ⟨rfl,trivial⟩ ?_))))))))
  exact⟨by rw[Le h1c],hE⟩
 subst hbb22 hbb28
 have h1c:F2 x.1=false:=q
 refine Aq (tN (an _ _ (sk fun bm aq=>(sk fun bo ar=>(wt (oS rfl (Yk.fieldAt HY (vr (PQ f 0) rfl) (oS rfl (Yk.cell1 DT rfl (vr (PQ f 2) rfl) (Al c (show(refsC x)[2]? =some (St (x.1.head):Value)from Cq x)) (oS rfl (Yk.eqSt (l:=x.1.head) (m:=([]:List UInt8)) (.inl rfl) (vr (St (x.1.head)) rfl) (vr (St (([]:List UInt8))) rfl) (decide ((x.1.head:List UInt8)=(([]:List UInt8):List UInt8))) rfl (oM rfl (Ac (PQ f 3) rfl rfl (gT (vr (.bool (decide ((x.1.head:List UInt8)=(([]:List UInt8):List UInt8)))) rfl)) (fun hG32=>Yk.fieldAt H0 (vr (PQ f 0) rfl) ⟨rfl,rfl⟩) (Ac (AB x.1.at_.1) rfl rfl (gT (vr (.bool (decide ((x.1.head:List UInt8)=(([]:List UInt8):List UInt8)))) rfl)) (fun hG33=>Yk.loadPR (PR.blk c (B7 x) (Cm x) (Ak (vr (cond ((decide ((x.1.head:List UInt8)=(([]:List UInt8):List UInt8)))) (PQ f 3) undef) rfl) hG33)) P8 rfl (At x.1.at_.2) ⟨rfl,rfl⟩) (BF (.bool (Ai x.1.at_)) rfl rfl (gT (vr (.bool (decide ((x.1.head:List UInt8)=(([]:List UInt8):List UInt8)))) rfl)) (fun hG34=>Yk.callA1 Hl (Ak (vr (cond ((decide ((x.1.head:List UInt8)=(([]:List UInt8):List UInt8)))) (AB x.1.at_.1) undef) rfl) hG34) ((Gv _ x.1.at_).mono (by rintro e p ⟨rfl,hx⟩;exact⟨_,rfl,rfl,hx⟩))) fun bp y=> ?_)))))))))))))))
 have hE:=hE.trans y
 have c:=eb y c
 refine oS rfl (Yk.pickAndN (vr (.bool (decide ((x.1.head:List UInt8)=(([]:List UInt8):List UInt8)))) rfl) (fun hA=>(Ak (vr (cond ((decide ((x.1.head:List UInt8)=(([]:List UInt8):List UInt8)))) (.bool (Ai x.1.at_)) undef) rfl) hA)) (vr (.bool (false)) rfl) fun bb38 hbb39=>(oM rfl (Ac (PQ f 2) rfl rfl (gF (vr (.bool (bb38)) rfl)) (fun hG40=>Yk.fieldAt HY (vr (PQ f 0) rfl) ⟨rfl,rfl⟩) (Ac (St (x.1.head)) rfl rfl (gF (vr (.bool (bb38)) rfl)) (fun hG41=>Yk.cell1 DT rfl (Ak (vr (cond (!bb38) (PQ f 2) undef) rfl) hG41) (Al c (show(refsC x)[2]? =some (St (x.1.head):Value)from Cq x)) ⟨rfl,rfl⟩) (Ac (.bool (decide ((x.1.head:List UInt8)≠(([]:List UInt8):List UInt8)))) rfl rfl (gF (vr (.bool (bb38)) rfl)) (fun hG42=>Yk.eqSt (l:=x.1.head) (m:=([]:List UInt8)) (.inr rfl) (Ak (vr (cond (!bb38) (St (x.1.head)) undef) rfl) hG42) (vr (St (([]:List UInt8))) rfl) (decide ((x.1.head:List UInt8)≠(([]:List UInt8):List UInt8))) rfl ⟨rfl,rfl⟩) (Ac (.bool (decide ((x.1.head:List UInt8)≠(([]:List UInt8):List UInt8)))) rfl rfl (gF (vr (.bool (bb38)) rfl)) (fun hG43=>Yk.move (Ak (vr (cond (!bb38) (.bool (decide ((x.1.head:List UInt8)≠(([]:List UInt8):List UInt8)))) undef) rfl) hG43) ⟨rfl,rfl⟩) (Ac (PQ f 2) rfl rfl (Cc (vr (cond (!bb38) (.bool (decide ((x.1.head:List UInt8)≠(([]:List UInt8):List UInt8)))) undef) rfl)) (fun hG44=>Yk.fieldAt HY (vr (PQ f 0) rfl) ⟨rfl,rfl⟩) (Ac (St (x.1.head)) rfl rfl (Cc (vr (cond (!bb38) (.bool (decide ((x.1.head:List UInt8)≠(([]:List UInt8):List UInt8)))) undef) rfl)) (fun hG45=>Yk.cell1 DT rfl (Ak (vr (cond ((!bb38)&&(decide ((x.1.head:List UInt8)≠(([]:List UInt8):List UInt8)))) (PQ f 2) undef) rfl) hG45) (Al c (show(refsC x)[2]? =some (St (x.1.head):Value)from Cq x)) ⟨rfl,rfl⟩) (BF (.bool (Ap x.1.head)) rfl rfl (Cc (vr (cond (!bb38) (.bool (decide ((x.1.head:List UInt8)≠(([]:List UInt8):List UInt8)))) undef) rfl)) (fun hG46=>Yk.callA1 Kb (Ak (vr (cond ((!bb38)&&(decide ((x.1.head:List UInt8)≠(([]:List UInt8):List UInt8)))) (St (x.1.head)) undef) rfl) hG46) ((HI _ x.1.head hL.head).mono (by rintro e p ⟨rfl,hx⟩;exact⟨_,rfl,rfl,hx⟩))) fun bq z=> ?_)))))))))
 have hE:=hE.trans z
 have c:=eb z c
 refine Ac (.bool (!(Ap x.1.head))) rfl rfl (Cc (vr (cond (!bb38) (.bool (decide ((x.1.head:List UInt8)≠(([]:List UInt8):List UInt8)))) undef) rfl)) (fun hG50=>Yk.notB (Ak (vr (cond ((!bb38)&&(decide ((x.1.head:List UInt8)≠(([]:List UInt8):List UInt8)))) (.bool (Ap x.1.head)) undef) rfl) hG50) ⟨rfl,rfl⟩) (Ac (.bool (!(Ap x.1.head))) rfl rfl (Cc (vr (cond (!bb38) (.bool (decide ((x.1.head:List UInt8)≠(([]:List UInt8):List UInt8)))) undef) rfl)) (fun hG51=>Yk.move (Ak (vr (cond ((!bb38)&&(decide ((x.1.head:List UInt8)≠(([]:List UInt8):List UInt8)))) (.bool (!(Ap x.1.head))) undef) rfl) hG51) ⟨rfl,rfl⟩) (Ac (PQ f 3) rfl rfl (D3 (vr (cond ((!bb38)&&(decide ((x.1.head:List UInt8)≠(([]:List UInt8):List UInt8)))) (.bool (!(Ap x.1.head))) undef) rfl)) (fun hG52=>Yk.fieldAt H0 (vr (PQ f 0) rfl) ⟨rfl,rfl⟩) (Ac (AB x.1.at_.1) rfl rfl (D3 (vr (cond ((!bb38)&&(decide ((x.1.head:List UInt8)≠(([]:List UInt8):List UInt8)))) (.bool (!(Ap x.1.head))) undef) rfl)) (fun hG53=>Yk.loadPR (PR.blk c (B7 x) (Cm x) (Ak (vr (cond (((!bb38)&&(decide ((x.1.head:List UInt8)≠(([]:List UInt8):List UInt8))))&& !(!(Ap x.1.head))) (PQ f 3) undef) rfl) hG53)) P8 rfl (At x.1.at_.2) ⟨rfl,rfl⟩) (BF (.bool (Ai x.1.at_)) rfl rfl (D3 (vr (cond ((!bb38)&&(decide ((x.1.head:List UInt8)≠(([]:List UInt8):List UInt8)))) (.bool (!(Ap x.1.head))) undef) rfl)) (fun hG54=>Yk.callA1 Hl (Ak (vr (cond (((!bb38)&&(decide ((x.1.head:List UInt8)≠(([]:List UInt8):List UInt8))))&& !(!(Ap x.1.head))) (AB x.1.at_.1) undef) rfl) hG54) ((Gv _ x.1.at_).mono (by rintro e p ⟨rfl,hx⟩;exact⟨_,rfl,rfl,hx⟩))) fun br aa=> ?_))))
 have hE:=hE.trans aa
 have c:=eb aa c
 refine Ac (.bool (!(Ai x.1.at_))) rfl rfl (D3 (vr (cond ((!bb38)&&(decide ((x.1.head:List UInt8)≠(([]:List UInt8):List UInt8)))) (.bool (!(Ap x.1.head))) undef) rfl)) (fun hG58=>Yk.notB (Ak (vr (cond (((!bb38)&&(decide ((x.1.head:List UInt8)≠(([]:List UInt8):List UInt8))))&& !(!(Ap x.1.head))) (.bool (Ai x.1.at_)) undef) rfl) hG58) ⟨rfl,rfl⟩) (Cv ((!(Ap x.1.head))||(!(Ai x.1.at_))) rfl rfl (Cc (vr (cond (!bb38) (.bool (decide ((x.1.head:List UInt8)≠(([]:List UInt8):List UInt8)))) undef) rfl)) (fun hG59=>Yk.pickOr (Ak (vr (cond ((!bb38)&&(decide ((x.1.head:List UInt8)≠(([]:List UInt8):List UInt8)))) (.bool (!(Ap x.1.head))) undef) rfl) hG59) (vr (.bool (true)) rfl) (fun hA=>(Ak (vr (cond (((!bb38)&&(decide ((x.1.head:List UInt8)≠(([]:List UInt8):List UInt8))))&& !(!(Ap x.1.head))) (.bool (!(Ai x.1.at_))) undef) rfl) (Du hG59 (Bb hA)))) ⟨rfl,rfl⟩) fun bb60 hbb61=>(Cv ((decide ((x.1.head:List UInt8)≠(([]:List UInt8):List UInt8)))&&bb60) rfl rfl (gF (vr (.bool (bb38)) rfl)) (fun hG62=>Yk.pickAnd (Ak (vr (cond (!bb38) (.bool (decide ((x.1.head:List UInt8)≠(([]:List UInt8):List UInt8)))) undef) rfl) hG62) (fun hA=>(Ak (vr (cond ((!bb38)&&(decide ((x.1.head:List UInt8)≠(([]:List UInt8):List UInt8)))) (.bool (bb60)) undef) rfl) (Du hG62 hA))) (vr (.bool (false)) rfl) ⟨rfl,rfl⟩) fun bb63 hbb64=>(oS rfl (Yk.pickOrN (vr (.bool (bb38)) rfl) (vr (.bool (true)) rfl) (fun hA=>(Ak (vr (cond (!bb38) (.bool (bb63)) undef) rfl) (Bb hA))) fun bb65 hbb66=>(A3 [(0, .agg (refsC x).toArray),(1,PQ f 0),(2, .bool (false)),(45, .bool (bb65))] ⟨h,rfl,rfl,rfl,trivial⟩ fun bs ⟨h,k,T2,au,_⟩=>(tN (ar _ _ ?_)))))))
 refine AW (bb65) au (fun r=> ?_) (fun r=> ?_)
 ·subst hbb39 hbb61 hbb64 hbb66
  have h2c:Fv x.1=true:=(Mw _).trans r
  refine sk fun bt av=>(wt (oA rfl (oZ (tN (av _ _ (Am (An (Aj (fn:=Tryz.f20) _ rfl [.bool (false)] (.bool (false)) rfl ⟨rfl,trivial⟩ ?_))))))))
  exact⟨by rw[Lf h1c h2c],hE⟩
 subst hbb39 hbb61 hbb64 hbb66
 have h2c:Fv x.1=false:=(Mw _).trans r
 refine Aq (tN (aq _ _ (sk fun bu aw=>(sk fun bv ax=>(wt (oA rfl (A3 [(0, .agg (refsC x).toArray),(1,PQ f 0),(2, .bool (false)),(3,NI 0)] ⟨h,k,T2,rfl,trivial⟩ fun bw ⟨h,k,T2,n,_⟩=>(tN (ax _ _ (Av (A4 (fun(ρ:Au) (wz:World)=>∃i:Nat,ρ 0=(.agg (refsC x).toArray:Value)∧ρ 1=(PQ f 0:Value)∧ρ 3=(NI i:Value)∧Ext w wz∧wz.heap[f]? =some (.cells (refsC x).toArray 27 (0,0))∧(i≤x.1.log.length)∧(∀j,j<i→DU x.1.log j=false)∧True) (fun ρ _=>x.1.log.length-(intOf (ρ 3)).toNat) ⟨0,h,k,n,hE,c,Nat.zero_le _,fun j hj=>absurd hj (Nat.not_lt_zero _),trivial⟩ ?_)))))))))))
 clear hE c
 rintro ay bx ⟨i,h,k,n,hE,c,hi,hn,-⟩
 have q3:=n
 refine sk fun bz az=>(sk fun b0 a0=>(wt (oM rfl (oS rfl (Yk.fieldAt Eo k (oS rfl (Yk.cell1 EA rfl (vr (PQ f 35) rfl) (Al c (show(refsC x)[35]? =some (x.2.log:Value)from Bn x)) (oS rfl (Yk.lenRG EA (RG.of (hml.keep hE) (vr x.2.log rfl)) (oS rfl (Yk.eqI (a:=(i:Nat)) (b:=((x.1.log).length:Nat)) n rfl (AX _ _ _ _) (oZ (tN (a0 _ _ ?_))))))))))))))
 refine AL ((i)<((x.1.log).length)) (vr (.bool (decide ((i)<((x.1.log).length)))) rfl) (fun ac=> ?_) (fun ac=> ?_)
 ·have hlt:i<x.1.log.length:=ac
  refine Aq (tN (az _ _ (sk fun b1 a1=>(Av (sk fun b2 a2=>(wt (oS rfl (Yk.fieldAt Eo k (oS rfl (Yk.cell1 EA rfl (vr (PQ f 35) rfl) (Al c (show(refsC x)[35]? =some (x.2.log:Value)from Bn x)) (oM rfl ?_)))))))))))
  have b3:(entC ((x.1.log).getD (i) Ad)).length=67:=(RG.elem (hml.keep hE) Ad (by omega))
  refine oS rfl (Yk.atRG EA MM (by decide) Ad (RG.of (hml.keep hE) (vr x.2.log rfl)) n (by omega) fun a3 ad=>(oS rfl (Yk.loadPR (PR.of ad (vr a3 rfl)) (NH).choose_spec rfl (by rw[Bp];exact Iy) (oS rfl (Yk.alloc (cs:=(entC (⟨0,[],zid,zid,[]⟩:AM)).toArray) NJ fun g a4 a5 ae af b4=> ?_)))))
  have a6:=hE.size
  have b5:=Bc (bl c) a5
  have hE:=hE.trans af
  have c:=eb af c
  have o:=ae;clear ae
  have b6:g<a4.heap.size:=by omega
  refine oS rfl (Yk.storeAll (vr (PQ g 0) rfl) (vr (.agg (entC ((x.1.log).getD (i) Ad)).toArray) rfl) o (by simp only[List.size_toArray,Bp]) (AC (Bp _) Iy) (C7 (x:=((x.1.log).getD (i) Ad))) fun a7 ag ah b7=> ?_)
  have hE:=Af hE ah (Nat.le_trans a6 (by omega))
  have c:=kb ah c (by omega)
  clear o
  have o:a7.heap[g]? =some (.cells (entC ((x.1.log).getD (i) Ad)).toArray 50 (0,0)):=ag;clear ag
  have b8:=bl o
  refine oZ ?_
  clear ad
  refine tN (a2 _ _ (sk fun b9 a8=>(wt (oS rfl (Yk.fieldAt HN (vr (PQ g 0) rfl) (oS rfl (Yk.fieldAt LW (vr (PQ g 0) rfl) (oS rfl (Yk.cell1 u5 rfl (vr (PQ g 0) rfl) (Al o (show(entC ((x.1.log).getD (i) Ad))[0]? =some (B8 ((((x.1.log).getD (i) Ad)).kind):Value)from GP ((x.1.log).getD (i) Ad))) (oS rfl (Yk.eqI (a:=(((((x.1.log).getD (i) Ad)).kind).toNat:Nat)) (b:=(1:Nat)) rfl rfl (AX _ _ _ _) (oM rfl (Ac (PQ g 0) rfl rfl (gF (vr (.bool (decide ((((((x.1.log).getD (i) Ad)).kind).toNat)<(1)))) rfl)) (fun hG99=>Yk.fieldAt HN (vr (PQ g 0) rfl) ⟨rfl,rfl⟩) (Ac (PQ g 0) rfl rfl (gF (vr (.bool (decide ((((((x.1.log).getD (i) Ad)).kind).toNat)<(1)))) rfl)) (fun hG100=>Yk.fieldAt LW (Ak (vr (cond (!(decide ((((((x.1.log).getD (i) Ad)).kind).toNat)<(1)))) (PQ g 0) undef) rfl) hG100) ⟨rfl,rfl⟩) (Ac (B8 ((((x.1.log).getD (i) Ad)).kind)) rfl rfl (gF (vr (.bool (decide ((((((x.1.log).getD (i) Ad)).kind).toNat)<(1)))) rfl)) (fun hG101=>Yk.cell1 u5 rfl (Ak (vr (cond (!(decide ((((((x.1.log).getD (i) Ad)).kind).toNat)<(1)))) (PQ g 0) undef) rfl) hG101) (Al o (show(entC ((x.1.log).getD (i) Ad))[0]? =some (B8 ((((x.1.log).getD (i) Ad)).kind):Value)from GP ((x.1.log).getD (i) Ad))) ⟨rfl,rfl⟩) (Ac (.bool (decide ((3)<(((((x.1.log).getD (i) Ad)).kind).toNat)))) rfl rfl (gF (vr (.bool (decide ((((((x.1.log).getD (i) Ad)).kind).toNat)<(1)))) rfl)) (fun hG102=>Yk.eqI (a:=((((((x.1.log).getD (i) Ad)).kind).toNat:Nat):Int)) (b:=((3:Nat):Int)) (Ak (vr (cond (!(decide ((((((x.1.log).getD (i) Ad)).kind).toNat)<(1)))) (B8 ((((x.1.log).getD (i) Ad)).kind)) undef) rfl) hG102) (vr (B8 (3)) rfl) (BA _ .u8 (((((x.1.log).getD (i) Ad)).kind).toNat) (3)) ⟨rfl,rfl⟩) (oS rfl (Yk.pickOrN (vr (.bool (decide ((((((x.1.log).getD (i) Ad)).kind).toNat)<(1)))) rfl) (vr (.bool (true)) rfl) (fun hA=>(Ak (vr (cond (!(decide ((((((x.1.log).getD (i) Ad)).kind).toNat)<(1)))) (.bool (decide ((3)<(((((x.1.log).getD (i) Ad)).kind).toNat)))) undef) rfl) (Bb hA))) fun bb103 hbb104=>(oM rfl (Ac (PQ g 0) rfl rfl (gF (vr (.bool (bb103)) rfl)) (fun hG105=>Yk.fieldAt HN (vr (PQ g 0) rfl) ⟨rfl,rfl⟩) (Ac (PQ g 1) rfl rfl (gF (vr (.bool (bb103)) rfl)) (fun hG106=>Yk.fieldAt LY (Ak (vr (cond (!bb103) (PQ g 0) undef) rfl) hG106) ⟨rfl,rfl⟩) ?_)))))))))))))))))))))
  refine Ac (St ((((x.1.log).getD (i) Ad)).name)) rfl rfl (gF (vr (.bool (bb103)) rfl)) (fun hG107=>Yk.cell1 DT rfl (Ak (vr (cond (!bb103) (PQ g 1) undef) rfl) hG107) (Al o (show(entC ((x.1.log).getD (i) Ad))[1]? =some (St ((((x.1.log).getD (i) Ad)).name):Value)from Il ((x.1.log).getD (i) Ad))) ⟨rfl,rfl⟩) (Ac (NI (((((x.1.log).getD (i) Ad)).name:List UInt8).length)) rfl rfl (gF (vr (.bool (bb103)) rfl)) (fun hG108=>Yk.lenSt (l:=(((x.1.log).getD (i) Ad)).name) DT (Ak (vr (cond (!bb103) (St ((((x.1.log).getD (i) Ad)).name)) undef) rfl) hG108) ⟨rfl,rfl⟩) (Ac (.bool (decide ((32)<(((((x.1.log).getD (i) Ad)).name:List UInt8).length)))) rfl rfl (gF (vr (.bool (bb103)) rfl)) (fun hG109=>Yk.eqI (a:=((((((x.1.log).getD (i) Ad)).name:List UInt8).length:Nat):Int)) (b:=((32:Nat):Int)) (Ak (vr (cond (!bb103) (NI (((((x.1.log).getD (i) Ad)).name:List UInt8).length)) undef) rfl) hG109) (vr (NI 32) rfl) (BA _ .i64 (((((x.1.log).getD (i) Ad)).name:List UInt8).length) (32)) ⟨rfl,rfl⟩) (oS rfl (Yk.pickOrN (vr (.bool (bb103)) rfl) (vr (.bool (true)) rfl) (fun hA=>(Ak (vr (cond (!bb103) (.bool (decide ((32)<(((((x.1.log).getD (i) Ad)).name:List UInt8).length)))) undef) rfl) (Bb hA))) fun bb110 hbb111=>(oM rfl (Ac (PQ g 66) rfl rfl (gF (vr (.bool (bb110)) rfl)) (fun hG112=>Yk.fieldAt LX (vr (PQ g 0) rfl) ⟨rfl,rfl⟩) (Ac (St ((((x.1.log).getD (i) Ad)).note)) rfl rfl (gF (vr (.bool (bb110)) rfl)) (fun hG113=>Yk.cell1 DT rfl (Ak (vr (cond (!bb110) (PQ g 66) undef) rfl) hG113) (Al o (show(entC ((x.1.log).getD (i) Ad))[66]? =some (St ((((x.1.log).getD (i) Ad)).note):Value)from Fg ((x.1.log).getD (i) Ad))) ⟨rfl,rfl⟩) (BF (.bool (BL ((((x.1.log).getD (i) Ad)).note))) rfl rfl (gF (vr (.bool (bb110)) rfl)) (fun hG114=>Yk.callA1 Pd (Ak (vr (cond (!bb110) (St ((((x.1.log).getD (i) Ad)).note)) undef) rfl) hG114) ((Mf _ ((((x.1.log).getD (i) Ad)).note)).mono (by rintro e p ⟨rfl,hx⟩;exact⟨_,rfl,rfl,hx⟩))) fun ca ai=> ?_))))))))
  have hE:=hE.trans ai
  have c:=eb ai c
  refine Ac (.bool (!(BL ((((x.1.log).getD (i) Ad)).note)))) rfl rfl (gF (vr (.bool (bb110)) rfl)) (fun hG118=>Yk.notB (Ak (vr (cond (!bb110) (.bool (BL ((((x.1.log).getD (i) Ad)).note))) undef) rfl) hG118) ⟨rfl,rfl⟩) (oS rfl (Yk.pickOrN (vr (.bool (bb110)) rfl) (vr (.bool (true)) rfl) (fun hA=>(Ak (vr (cond (!bb110) (.bool (!(BL ((((x.1.log).getD (i) Ad)).note)))) undef) rfl) (Bb hA))) fun bb119 hbb120=>(oZ (tN (a8 _ _ ?_)))))
  refine AW (bb119) (vr (.bool (bb119)) rfl) (fun s=> ?_) (fun s=> ?_)
  ·subst hbb104 hbb111 hbb120
   have hbad:DU x.1.log i=true:=(LJ _ _).trans s
   refine sk fun cb a9=>(wt (oA rfl (oZ (tN (a9 _ _ (Am (AE (An (An (AE (An (Aj (fn:=Tryz.f20) _ rfl [.bool (false)] (.bool (false)) rfl ⟨rfl,trivial⟩ ?_))))))))))))
   exact⟨by rw[Iv h1c h2c hlt hbad],hE⟩
  subst hbb104 hbb111 hbb120
  have hbad:DU x.1.log i=false:=(LJ _ _).trans s
  refine Aq (bN (tN (a1 _ _ (wt (oM rfl (oS rfl (Yk.bin (xv:=NI i) (yv:=NI 1) n rfl rfl (AA _ _ _ (by have:=hL.log;omega)) (oA rfl (A3 [(0, .agg (refsC x).toArray),(1,PQ f 0),(3,NI ((i)+(1))),(4,PQ g 0)] ⟨h,k,rfl,rfl,trivial⟩ fun ba ⟨h,k,n,T4,_⟩=>(tN (And.intro ⟨i+1,h,k,n,hE,c,by omega,F1 hn hbad,trivial⟩ ?_)))))))))))
  show x.1.log.length-(intOf (ba 3)).toNat<x.1.log.length-(intOf (ay 3)).toNat
  rw[n,q3]
  simp only[intOf,Int.toNat_natCast];omega
 refine AP (Ar (Ar (Az (tN (aw _ _ (sk fun cd bb=>(wt (oA rfl (oZ (tN (bb _ _ (Am (Aj (fn:=Tryz.f20) _ rfl [.bool (true)] (.bool (true)) rfl ⟨rfl,trivial⟩ ?_)))))))))))))
 exact⟨by rw[Eg h1c h2c (show x.1.log.length≤i by omega) hn],hE⟩

end Go.Proofs.YtmonlobfofkbdaaGreatDoor
