/- Part 7 of what stands behind these statements: laws and walks of the functions that are reached. Conditions: those that each theorem names. -/
import Derived.Test.YtmonlobfofkbdaaGreatDoorY6
set_option linter.unusedVariables false
set_option linter.unusedSimpArgs false
namespace Go.Proofs.YtmonlobfofkbdaaGreatDoor
open Go.RowKit
set_option maxRecDepth 100000
theorem Pe(b:Bs)(s:Nat × Bool):(nlR b s).1.length≤64∧∀u∈(nlR b s).1,u.name.length≤256:=by
 refine⟨?_,?_⟩
 ·have h:=(Jd (f:=DE b) (fun t=>by unfold DE;simp) (Ck b s).1 ([],(Ck b s).2)).1
  have h2:=FE (b:=b) (s:=s) (c:=(Ck b s).1) (t:=(Ck b s).2) rfl
  unfold nlR
  simp only[List.length_nil]at h
  omega
 ·exact Mm (Q:=fun u:AK=>u.name.length≤256) (fun t ht u hu=>by
   unfold DE at hu
   rcases List.mem_append.1 hu with hu | hu
   ·exact ht u hu
   ·rw[List.mem_singleton.1 hu]
    exact txtR_len (most:=256) (z:=t.2) rfl) _ _ (fun x hx=>by cases hx)
theorem Rp(b:Bs)(s:Nat × Bool):(EN b s).1.length≤64:=by
 have h:=(Jd (f:=CW b) (fun t=>by unfold CW;simp) (Ck b s).1 ([],(Ck b s).2)).1
 have h2:=FE (b:=b) (s:=s) (c:=(Ck b s).1) (t:=(Ck b s).2) rfl
 unfold EN
 simp only[List.length_nil]at h
 omega
theorem LK(b:Bs):By (FD b).1:=by
 have h1:=Pe b (0,true)
 have h2:=Pe b (nlR b (0,true)).2
 have h3:=txtR_len (b:=b) (most:=256) (z:=(nlR b (nlR b (0,true)).2).2) rfl
 have h4:=Rp b (BR b (BD b 256 (nlR b (nlR b (0,true)).2).2).2).2
 exact⟨Nat.lt_of_le_of_lt h1.1 (by decide),Nat.lt_of_le_of_lt h2.1 (by decide),Nat.lt_of_le_of_lt h4 (by decide),fun u hu=>Nat.le_trans (h1.2 u hu) (by decide),fun u hu=>Nat.le_trans (h2.2 u hu) (by decide),Nat.le_trans h3 (by decide)⟩
theorem Jm{z0:Value}(h0:∃ao n c,z0 = .slice ao n c)(z2:Bool)(w:World):(Instr.build 72 #[(0,z0),(2, .bool z2)]).run Tryz.prog w = .ok (.agg #[z0, .int .i64 0, .bool z2]) w:=by obtain⟨_,_,_,rfl⟩:=h0;kernel_rfl
theorem Kx{z0:Value}(h0:∃ao n c,z0 = .slice ao n c)(z2:Bool)(w:World):(Instr.build 72 #[(0,z0),(2, .bool z2)]).run Tryz.prog w = .ok (.agg (z0 :: (.int .i64 (0) :: (.bool (z2) :: ([])))).toArray) w:=by
 exact Jm h0 _ w
theorem Kd:AI Tryz.prog 24:=fun _ _=>by kernel_rfl
theorem Ke:∀(cs:Array Value),cs.size=67→∀w:World,(Instr.buildSlice 25 1 #[(0, .agg cs)]).run Tryz.prog w = .ok (.slice (some ⟨w.heap.size,0,none⟩) 1 1) (w.alloc (.cells cs 50))
 | ⟨c0 :: c1 :: c2 :: c3 :: c4 :: c5 :: c6 :: c7 :: c8 :: c9 :: c10 :: c11 :: c12 :: c13 :: c14 :: c15 :: c16 :: c17 :: c18 :: c19 :: c20 :: c21 :: c22 :: c23 :: c24 :: c25 :: c26 :: c27 :: c28 :: c29 :: c30 :: c31 :: c32 :: c33 :: c34 :: c35 :: c36 :: c37 :: c38 :: c39 :: c40 :: c41 :: c42 :: c43 :: c44 :: c45 :: c46 :: c47 :: c48 :: c49 :: c50 :: c51 :: c52 :: c53 :: c54 :: c55 :: c56 :: c57 :: c58 :: c59 :: c60 :: c61 :: c62 :: c63 :: c64 :: c65 :: c66 :: []⟩,_,w=>Ot c0 c1 c2 c3 c4 c5 c6 c7 c8 c9 c10 c11 c12 c13 c14 c15 c16 c17 c18 c19 c20 c21 c22 c23 c24 c25 c26 c27 c28 c29 c30 c31 c32 c33 c34 c35 c36 c37 c38 c39 c40 c41 c42 c43 c44 c45 c46 c47 c48 c49 c50 c51 c52 c53 c54 c55 c56 c57 c58 c59 c60 c61 c62 c63 c64 c65 c66 w
theorem Kf:AI Tryz.prog 20:=fun _ _=>by kernel_rfl
set_option maxHeartbeats 3200000
theorem Et(w:World)(v:Value)(b:Bs)(hr:RB w v b)(hl:b.length≤6000):
  Calls Tryz.prog 9 #[v] w fun e w' =>∃X c,e = .returned (.tuple #[.agg (refsC X).toArray,NI c])∧RefsAt w' X∧Fo X.1 c (B2 b)∧Ext w w' :=by
 refine As (args:= [v]) Tryz.func9 rfl 105 rfl (Nat.le_of_ble_eq_true rfl) ?_
 intro di hb
 have T0:di 0=(v:Value):=hb.get 0
 clear hb
 have hE:=Ext.refl w
 refine sk fun K1 dj=>(wt (oS rfl (Yk.alloc (cs:=(refsC ((⟨[],[],[],zid,[]⟩,⟨.slice none 0 0, .slice none 0 0, .slice none 0 0⟩):Ah)).toArray) JX fun n2 w3 i3 ci dk i4=> ?_)))
 have hE:=hE.trans dk
 have k:=ci;clear ci
 have i5:n2<w3.heap.size:=by omega
 refine oA rfl (oZ (tN (dj _ _ (sk fun i6 dl=>(wt (oM rfl (oS rfl (Yk.build2 T0 (vr (.bool (true)) rfl) (fun w=>Kx (RB.slice (hr.keep hE)) true w) (oS rfl (Yk.box (cs:=(AQ ((⟨b,0,true⟩,⟨v⟩):CH):List Value).toArray) (vr (.agg (AQ ((⟨b,0,true⟩,⟨v⟩):CH)).toArray) rfl) fun p cj dm ck ca i7=> ?_))))))))))
 have b5:=Ext.refl w3
 have ak:=hE.size
 have i8:=Bc (bl k) dm
 have hE:=hE.trans ca
 have k:=eb ca k
 have b5:=b5.trans ca
 have s:=ck;clear ck
 have i9:p<cj.heap.size:=by omega
 refine oA rfl (oZ ?_)
 have s:cj.heap[p]? =some (.cells (AQ (AF v b (0) true)).toArray 72 (0,0)):=s
 have hapr:=RB.new hr (r:=p) (by have:=hE.size;omega)
 refine tN (dl _ _ (sk fun ja dn=>(wt (oS rfl (Yk.alloc (cs:=(refsC ((⟨[],[],[],zid,[]⟩,⟨.slice none 0 0, .slice none 0 0, .slice none 0 0⟩):Ah)).toArray) JX fun ac dp cl cm cb jb=> ?_)))))
 have bh:=hE.size
 have jc:=b5.size
 have jd:=Bc (bl k) cl
 have je:=Bc (bl s) cl
 have hE:=hE.trans cb
 have k:=eb cb k
 have s:=eb cb s
 have aa:=cm;clear cm
 have jf:ac<dp.heap.size:=by omega
 refine oZ (tN (dn _ _ (sk fun jg dq=>(wt (oM rfl ?_)))))
 have hz_:=hE.size
 refine oS rfl (Yk.callA1 Kd (vr (PQ p 0) rfl) ((J6 _ p v b (0) true s (hr.keep hE) hapr (Nat.zero_le _) hl).mono ?_))
 rintro e jh ⟨q,l40,i40,k40,hq40,rfl,g,hbr40,dr,cc⟩
 refine⟨_,rfl,?_⟩
 have hE:=Af hE cc (Nat.le_trans ak (by omega))
 have k:=kb cc k (by omega)
 have aa:=kb cc aa (by omega)
 clear s
 have s:=hbr40;clear hbr40
 have ji:=bl s
 have g:=OG.low g hz_
 refine oS rfl (Yk.fieldAt L5 (vr (PQ ac 0) rfl) ?_)
 have ds:=OG.off g aa (by decide)
 refine oS rfl (Yk.storeC (i:=0) (v:=q) (vr (PQ ac 0) rfl) (vr q rfl) aa (by rw[Ao];decide) IP (RG.one (RG.ofOwn g)).1 (RG.one (RG.ofOwn g)).2 fun dt cn b6 jj=> ?_)
 have hE:=Af hE b6 (Nat.le_trans bh (by omega))
 have k:=kb b6 k (by omega)
 have s:=kb b6 s (by omega)
 have g:=OG.kept g b6 ds
 clear aa
 have aa:dt.heap[ac]? =some (.cells (refsC ((⟨l40,[],[],zid,[]⟩,⟨q,(Value.slice none 0 0),(Value.slice none 0 0)⟩):Ah)).toArray 27 (0,0)):=AG cn (E2 ((⟨[],[],[],zid,[]⟩,⟨.slice none 0 0, .slice none 0 0, .slice none 0 0⟩):Ah) q (l40));clear cn
 have jk:=bl aa
 refine oZ (tN (dq _ _ (sk fun jl du=>(wt (oM rfl ?_)))))
 have dv:=OG.off g s (by decide)
 have hz_:=hE.size
 refine oS rfl (Yk.callA1 Kd (vr (PQ p 0) rfl) ((J6 _ p v b (i40) k40 s (hr.keep hE) hapr dr hl).mono ?_))
 rintro e jm ⟨t,l51,i51,k51,hq51,rfl,n,hbr51,dw,b7⟩
 refine⟨_,rfl,?_⟩
 have hE:=Af hE b7 (Nat.le_trans ak (by omega))
 have k:=kb b7 k (by omega)
 have g:=OG.kept g b7 dv
 have aa:=kb b7 aa (by omega)
 clear s
 have s:=hbr51;clear hbr51
 have jn:=bl s
 have n:=OG.low n hz_
 refine oS rfl (Yk.fieldAt L6 (vr (PQ ac 0) rfl) ?_)
 have dx:=OG.off g aa (by decide)
 have dy:=OG.off n aa (by decide)
 refine oS rfl (Yk.storeC (i:=1) (v:=t) (vr (PQ ac 1) rfl) (vr t rfl) aa (by rw[Ao];decide) IP (RG.one (RG.ofOwn n)).1 (RG.one (RG.ofOwn n)).2 fun dz co bt jo=> ?_)
 have hE:=Af hE bt (Nat.le_trans bh (by omega))
 have k:=kb bt k (by omega)
 have g:=OG.kept g bt dx
 have s:=kb bt s (by omega)
 have n:=OG.kept n bt dy
 clear aa
 have aa:dz.heap[ac]? =some (.cells (refsC ((⟨l40,l51,[],zid,[]⟩,⟨q,t,(Value.slice none 0 0)⟩):Ah)).toArray 27 (0,0)):=AG co (E3 ((⟨l40,[],[],zid,[]⟩,⟨q,(Value.slice none 0 0),(Value.slice none 0 0)⟩):Ah) t (l51));clear co
 have jp:=bl aa
 refine oZ (tN (du _ _ (sk fun jq d0=>(wt (oM rfl ?_)))))
 have d1:=OG.off g s (by decide)
 have d2:=OG.off n s (by decide)
 refine oS rfl (Yk.callA1 OR (vr (PQ p 0) rfl) ((D7 _ p v b (i51) k51 s (hr.keep hE) hapr dw hl).mono ?_))
 rintro e jr ⟨c64,i64,k64,hq64,rfl,hbr64,cp,bu⟩
 refine⟨_,rfl,?_⟩
 have hE:=Af hE bu (Nat.le_trans ak (by omega))
 have k:=kb bu k (by omega)
 have g:=OG.kept g bu d1
 have n:=OG.kept n bu d2
 have aa:=kb bu aa (by omega)
 clear s
 have s:=hbr64;clear hbr64
 have js:=bl s
 refine oS rfl (Yk.fieldAt HY (vr (PQ ac 0) rfl) ?_)
 have d3:=OG.off g aa (by decide)
 have d4:=OG.off n aa (by decide)
 refine oS rfl (Yk.storeC (i:=2) (v:=St (c64)) (vr (PQ ac 2) rfl) (vr (St (c64)) rfl) aa (by rw[Ao];decide) Ob rfl rfl fun d5 cq bv jt=> ?_)
 have hE:=Af hE bv (Nat.le_trans bh (by omega))
 have k:=kb bv k (by omega)
 have g:=OG.kept g bv d3
 have n:=OG.kept n bv d4
 have s:=kb bv s (by omega)
 clear aa
 have aa:d5.heap[ac]? =some (.cells (refsC ((⟨l40,l51,c64,zid,[]⟩,⟨q,t,(Value.slice none 0 0)⟩):Ah)).toArray 27 (0,0)):=AG cq (FZ ((⟨l40,l51,[],zid,[]⟩,⟨q,t,(Value.slice none 0 0)⟩):Ah) c64);clear cq
 have ju:=bl aa
 refine oZ (tN (d0 _ _ (sk fun jv d6=>(wt (oM rfl ?_)))))
 have d7:=OG.off g s (by decide)
 have d8:=OG.off n s (by decide)
 refine oS rfl (Yk.callA1 OS (vr (PQ p 0) rfl) ((E5 _ p v b (i64) k64 s (hr.keep hE) hapr cp hl).mono ?_))
 rintro e jw ⟨c77,i77,k77,hq77,rfl,hbr77,d9,bw⟩
 refine⟨_,rfl,?_⟩
 have hE:=Af hE bw (Nat.le_trans ak (by omega))
 have k:=kb bw k (by omega)
 have g:=OG.kept g bw d7
 have n:=OG.kept n bw d8
 have aa:=kb bw aa (by omega)
 clear s
 have s:=hbr77;clear hbr77
 have jx:=bl s
 refine oS rfl (Yk.fieldAt H0 (vr (PQ ac 0) rfl) ?_)
 have ea:=OG.off g aa (by decide)
 have ec:=OG.off n aa (by decide)
 refine oS rfl (Yk.storeMid (a:=Dq ((⟨l40,l51,c64,zid,[]⟩,⟨q,t,(Value.slice none 0 0)⟩):Ah)) (m:=Lib.byteCells zid.1) (z:=D0 ((⟨l40,l51,c64,zid,[]⟩,⟨q,t,(Value.slice none 0 0)⟩):Ah)) (cells:=Lib.byteCells c77.1) (vr (PQ ac 3) rfl) (vr (AB c77.1) rfl) (B7 ((⟨l40,l51,c64,zid,[]⟩,⟨q,t,(Value.slice none 0 0)⟩):Ah)▸aa) (Cm ((⟨l40,l51,c64,zid,[]⟩,⟨q,t,(Value.slice none 0 0)⟩):Ah)) (by rw[Lib.byteCells_length,Lib.byteCells_length,zid.2,c77.2]) (by rw[Lib.byteCells_length,c77.2];exact Nw) (Ay _) fun ed cr bx jy=> ?_)
 have hE:=Af hE bx (Nat.le_trans bh (by omega))
 have k:=kb bx k (by omega)
 have g:=OG.kept g bx ea
 have n:=OG.kept n bx ec
 have s:=kb bx s (by omega)
 clear aa
 have aa:ed.heap[ac]? =some (.cells (refsC ((⟨l40,l51,c64,c77,[]⟩,⟨q,t,(Value.slice none 0 0)⟩):Ah)).toArray 27 (0,0)):=AG cr (F0 ((⟨l40,l51,c64,zid,[]⟩,⟨q,t,(Value.slice none 0 0)⟩):Ah) c77);clear cr
 have jz:=bl aa
 refine oZ (tN (d6 _ _ (sk fun j0 ee=>(wt (oM rfl ?_)))))
 have ef:=OG.off g s (by decide)
 have eg:=OG.off n s (by decide)
 refine oS rfl (Yk.callA2 OQ (vr (PQ p 0) rfl) (vr (NI 64) rfl) ((LD _ p v b (i77) k77 s (hr.keep hE) hapr d9 hl).mono ?_))
 rintro e j1 ⟨c90,i90,k90,hq90,rfl,hbr90,eh,bz⟩
 refine⟨_,rfl,?_⟩
 have hE:=Af hE bz (Nat.le_trans ak (by omega))
 have k:=kb bz k (by omega)
 have g:=OG.kept g bz ef
 have n:=OG.kept n bz eg
 have aa:=kb bz aa (by omega)
 clear s
 have s:=hbr90;clear hbr90
 have j2:=bl s
 refine oA rfl (oZ ?_)
 have cp:=FE hq90
 refine tN (ee _ _ (sk fun j3 b0=>(sk fun j4 ei=>(wt (oA rfl (A3 [(0,v),(2,PQ n2 0),(3,NI 0),(4,PQ p 0),(5,PQ ac 0),(6,NI c90),(7,NI 0)] ⟨T0,rfl,rfl,rfl,rfl,rfl,rfl,trivial⟩ fun j5 ⟨T0,T2,T3,y,T5,T6,T7,_⟩=>(tN (ei _ _ (Av (A4 (fun(ρ:Au) (wz:World)=>∃j:Nat,∃ls:List AM,∃i1:Nat,∃k1:Bool,∃vb1:Value,ρ 0=(v:Value)∧ρ 2=(PQ n2 0:Value)∧ρ 3=(NI 0:Value)∧ρ 4=(PQ p 0:Value)∧ρ 5=(PQ ac 0:Value)∧ρ 6=(NI c90:Value)∧ρ 7=(NI j:Value)∧Ext w wz∧wz.heap[n2]? =some (.cells (refsC ((⟨[],[],[],zid,[]⟩,⟨.slice none 0 0, .slice none 0 0, .slice none 0 0⟩):Ah)).toArray 27 (0,0))∧OG w.heap.size 61 33 (nmdC) wz q l40∧OG w.heap.size 61 33 (nmdC) wz t l51∧wz.heap[p]? =some (.cells (AQ (AF v b (i1) k1)).toArray 72 (0,0))∧wz.heap[ac]? =some (.cells (refsC ((⟨l40,l51,c64,c77,ls⟩,⟨q,t,vb1⟩):Ah)).toArray 27 (0,0))∧OG w.heap.size 50 67 (entC) wz vb1 ls∧(itR (CW b) j ([],(i90,k90))=(ls,(i1,k1)))∧(i1≤b.length)∧(ls.length=j)∧(j≤c90)∧True) (fun ρ _=>c90-(intOf (ρ 7)).toNat) ⟨0,[],i90,k90,(Value.slice none 0 0),T0,T2,T3,y,T5,T6,T7,hE,k,g,n,s,aa,OG.nil _ _ _ _ _,rfl,eh,rfl,Nat.zero_le _,trivial⟩ ?_))))))))))
 clear b5
 clear aa
 clear s
 clear hE k g n
 rintro ct j6 ⟨j,ls,i1,k1,vb1,T0,T2,T3,y,T5,T6,T7,hE,k,g,n,f,hm1,o,hit,hi1,hls,hjn,-⟩
 have q7:=T7
 have j7:=bl f
 have j8:=bl hm1
 by_cases hlt:j<c90
 ·cases k1
  ·have hM:=LC hq90 (show itR (CW b) c90 ([],(i90,k90))=(ls,(i1,false))from Gk hit _ (by omega))
   have hR:FD b=(((⟨l40,l51,c64,c77,ls⟩,⟨q,t,vb1⟩):Ah).1,(i1,false)):=by simp only[FD,hq40,hq51,hq64,hq77,hM]
   have hD:=Gt b
   unfold F8 at hD
   rw[hR]at hD
   have hMl:By ((⟨l40,l51,c64,c77,ls⟩,⟨q,t,vb1⟩):Ah).1:=by have:=LK b;rw[hR]at this;exact this
   rw[if_neg (fun h=>Bool.noConfusion h.1)]at hD
   refine sk fun j9 ka=>(sk fun kc ej=>(wt (oM rfl (oM rfl (oS rfl (Yk.eqI (a:=(j:Nat)) (b:=(c90:Nat)) T7 T6 (AX _ _ _ _) (oM rfl (oY (d:=29) rfl rfl (vr (.bool (true)) (congrArg Value.bool (decide_eq_true (hlt)))) (Yk.move y (oY (d:=29) rfl rfl (vr (.bool (true)) (congrArg Value.bool (decide_eq_true (hlt)))) (Yk.nilCheck (vr (PQ p 0) rfl) (oY (d:=29) rfl rfl (vr (.bool (true)) (congrArg Value.bool (decide_eq_true (hlt)))) (Yk.fieldAt Bx (vr (PQ p 0) rfl) (oY (d:=29) rfl rfl (vr (.bool (true)) (congrArg Value.bool (decide_eq_true (hlt)))) (Yk.cell1 PA rfl (vr (PQ p 2) rfl) (Al f (show(AQ (AF v b (i1) false))[2]? =some (.bool (false):Value)from CC (AF v b (i1) false))) (oS rfl (Yk.pickT (vr (.bool (true)) (congrArg Value.bool (decide_eq_true (hlt)))) (vr (.bool (false)) rfl) (oZ (tN (ej _ _ (AH (vr (.bool (false)) rfl) (AP (Ar (Ar (Az ?_)))))))))))))))))))))))))
   refine tN (b0 _ _ (sk fun kd ke=>(sk fun kf el=>(wt (oM rfl (oS rfl (Yk.nilCheck y (oS rfl (Yk.fieldAt Bx (vr (PQ p 0) rfl) (oS rfl (Yk.cell1 PA rfl (vr (PQ p 2) rfl) (Al f (show(AQ (AF v b (i1) false))[2]? =some (.bool (false):Value)from CC (AF v b (i1) false))) (oS rfl (Yk.notB (vr (.bool (false)) rfl) (oM rfl (oN (d:=89) rfl rfl rfl (vr (.bool (true)) rfl) rfl (oN (d:=89) rfl rfl rfl (vr (.bool (true)) rfl) rfl (oN (d:=89) rfl rfl rfl (vr (.bool (true)) rfl) rfl (oN (d:=89) rfl rfl rfl (vr (.bool (true)) rfl) rfl (oN (d:=89) rfl rfl rfl (vr (.bool (true)) rfl) rfl (oN (d:=89) rfl rfl rfl (vr (.bool (true)) rfl) rfl ?_))))))))))))))))))))
   refine oN (d:=89) rfl rfl rfl (vr (.bool (true)) rfl) rfl (oS rfl (Yk.pickT (vr (.bool (true)) rfl) (vr (.bool (true)) rfl) (oM rfl (oN (d:=98) rfl rfl rfl (vr (.bool (true)) rfl) rfl (oN (d:=98) rfl rfl rfl (vr (.bool (true)) rfl) rfl (oN (d:=98) rfl rfl rfl (vr (.bool (true)) rfl) rfl (oS rfl (Yk.pickT (vr (.bool (true)) rfl) (vr (.bool (true)) rfl) (oZ (tN (el _ _ (wpF_true (vr (.bool (true)) rfl) (sk fun kg em=>(wt (oS rfl (Yk.run (v:= .agg (refsC ((⟨[],[],[],zid,[]⟩,⟨.slice none 0 0, .slice none 0 0, .slice none 0 0⟩):Ah)).toArray) (by kernel_rfl) ?_))))))))))))))))
   have en:=OG.off g k (by decide)
   have eo:=OG.off n k (by decide)
   have ep:=OG.off o k (by decide)
   refine oS rfl (Yk.storeAll T2 (vr (.agg (refsC ((⟨[],[],[],zid,[]⟩,⟨.slice none 0 0, .slice none 0 0, .slice none 0 0⟩):Ah)).toArray) rfl) k (by simp only[List.size_toArray,Ao]) (AC (Ao _) Gq) (Br (x:=((⟨[],[],[],zid,[]⟩,⟨.slice none 0 0, .slice none 0 0, .slice none 0 0⟩):Ah)) rfl rfl rfl) fun eq cu bi kh=> ?_)
   have hE:=Af hE bi (Nat.le_trans (Nat.le_refl _) (by omega))
   have g:=OG.kept g bi en
   have n:=OG.kept n bi eo
   have f:=kb bi f (by omega)
   have hm1:=kb bi hm1 (by omega)
   have o:=OG.kept o bi ep
   clear k
   have k:eq.heap[n2]? =some (.cells (refsC ((⟨[],[],[],zid,[]⟩,⟨.slice none 0 0, .slice none 0 0, .slice none 0 0⟩):Ah)).toArray 27 (0,0)):=cu;clear cu
   have ki:=bl k
   refine oA rfl (oZ (tN (em _ _ (Am (An (Aj (fn:=Tryz.f9) _ rfl [.agg (refsC ((⟨[],[],[],zid,[]⟩,⟨.slice none 0 0, .slice none 0 0, .slice none 0 0⟩):Ah)).toArray,NI 6] (.tuple #[.agg (refsC ((⟨[],[],[],zid,[]⟩,⟨.slice none 0 0, .slice none 0 0, .slice none 0 0⟩):Ah)).toArray,NI 6]) rfl ⟨ResF.row T2 k (JZ).choose_spec rfl (AC (Ao _) Gq),rfl,trivial⟩ ?_))))))
   exact⟨_,6,rfl,⟨RG.nil _ _ _,RG.nil _ _ _,RG.nil _ _ _⟩,by rw[←hD];exact⟨rfl,rfl⟩,hE⟩
  have hlsl:ls.length=j:=hls
  by_cases cd:i1<b.length
  ·have hqb:EU b (i1,true)=(b.getD i1 0,(i1+1,true)):=KF (show DC b i1=some (b.getD i1 0,i1+1)from if_pos cd)
   have hi2:i1+1≤b.length:=cd
   refine sk fun kj er=>(sk fun kk es=>(wt (oM rfl (oM rfl (oS rfl (Yk.eqI (a:=(j:Nat)) (b:=(c90:Nat)) T7 T6 (AX _ _ _ _) (oM rfl (oY (d:=29) rfl rfl (vr (.bool (true)) (congrArg Value.bool (decide_eq_true (hlt)))) (Yk.move y (oY (d:=29) rfl rfl (vr (.bool (true)) (congrArg Value.bool (decide_eq_true (hlt)))) (Yk.nilCheck (vr (PQ p 0) rfl) (oY (d:=29) rfl rfl (vr (.bool (true)) (congrArg Value.bool (decide_eq_true (hlt)))) (Yk.fieldAt Bx (vr (PQ p 0) rfl) (oY (d:=29) rfl rfl (vr (.bool (true)) (congrArg Value.bool (decide_eq_true (hlt)))) (Yk.cell1 PA rfl (vr (PQ p 2) rfl) (Al f (show(AQ (AF v b (i1) true))[2]? =some (.bool (true):Value)from CC (AF v b (i1) true))) (oS rfl (Yk.pickT (vr (.bool (true)) (congrArg Value.bool (decide_eq_true (hlt)))) (vr (.bool (true)) rfl) (oZ (tN (es _ _ (wpF_true (vr (.bool (true)) rfl) (Aq ?_))))))))))))))))))))))
   refine tN (er _ _ (sk fun kl et=>(Av (sk fun km eu=>(wt (oS rfl (Yk.alloc (cs:=(entC (⟨0,[],zid,zid,[]⟩:AM)).toArray) NJ fun ag ew ce cv aq kn=> ?_)))))))
   have b1:=hE.size
   have ko:=Bc (bl k) ce
   have kp:=Bc (bl f) ce
   have kq:=Bc (bl hm1) ce
   have b2:OB vb1 ag:=CY o.2 (by omega)
   have hE:=hE.trans aq
   have k:=eb aq k
   have g:=g.keep aq
   have n:=n.keep aq
   have f:=eb aq f
   have hm1:=eb aq hm1
   have o:=o.keep aq
   have u:=cv;clear cv
   have kr:ag<ew.heap.size:=by omega
   refine oZ (tN (eu _ _ (sk fun ks ex=>(sk fun kt ey=>(wt (oM rfl (oS rfl (Yk.nilCheck y (oS rfl (Yk.fieldAt BE (vr (PQ p 0) rfl) (oS rfl (Yk.cell1 Li rfl (vr (PQ p 1) rfl) (Al f (show(AQ (AF v b (i1) true))[1]? =some (NI i1:Value)from Cg (AF v b (i1) true))) (oM rfl (oS rfl (Yk.lenRB Ek (RB.of (hr.keep hE) T0) (oS rfl (Yk.eqI (a:=(i1:Nat)) (b:=(b.length:Nat)) rfl rfl (AX _ _ _ _) (oZ (tN (ey _ _ (wpF_true (vr (.bool (true)) (congrArg Value.bool (decide_eq_true (by omega)))) (sk fun ku ez=> ?_))))))))))))))))))))))
   refine wt (oM rfl (oM rfl (oS rfl (Yk.nilCheck y (oS rfl (Yk.fieldAt BE (vr (PQ p 0) rfl) (oS rfl (Yk.cell1 Li rfl (vr (PQ p 1) rfl) (Al f (show(AQ (AF v b (i1) true))[1]? =some (NI i1:Value)from Cg (AF v b (i1) true))) (oS rfl (Yk.atRB (l:=b) (i:=i1) Ek MH (RB.of (hr.keep hE) T0) (vr (NI i1) rfl) (by omega) fun e0 cw=>(oS rfl (Yk.loadC u5 rfl (PCell.of cw (vr e0 rfl)) (oS rfl (Yk.fieldAt HN (vr (PQ ag 0) rfl) (oS rfl (Yk.fieldAt LW (vr (PQ ag 0) rfl) ?_))))))))))))))))
   have e1:=OG.off g u (by decide)
   have e2:=OG.off n u (by decide)
   refine oS rfl (Yk.storeC (i:=0) (v:=B8 (b.getD (i1) 0)) (vr (PQ ag 0) rfl) (vr (B8 (b.getD (i1) 0)) rfl) u (by rw[Bp];decide) Q0 rfl rfl fun e3 cx ar kv=> ?_)
   have hE:=Af hE ar (Nat.le_trans b1 (by omega))
   have k:=kb ar k (by omega)
   have g:=OG.kept g ar e1
   have n:=OG.kept n ar e2
   have f:=kb ar f (by omega)
   have hm1:=kb ar hm1 (by omega)
   have o:=OG.kept o ar b2
   clear cw
   clear u
   have u:e3.heap[ag]? =some (.cells (entC (⟨(b.getD (i1) 0),[],zid,zid,[]⟩:AM)).toArray 50 (0,0)):=AG cx (Nr (⟨0,[],zid,zid,[]⟩:AM) (b.getD (i1) 0));clear cx
   have kw:=bl u
   refine oZ (tN (ez _ _ (wt (oM rfl (oS rfl (Yk.nilCheck y (oS rfl (Yk.fieldAt BE (vr (PQ p 0) rfl) (oS rfl (Yk.cell1 Li rfl (vr (PQ p 1) rfl) (Al f (show(AQ (AF v b (i1) true))[1]? =some (NI i1:Value)from Cg (AF v b (i1) true))) (oS rfl (Yk.bin (xv:=NI i1) (yv:=NI 1) rfl rfl rfl (AA _ _ _ (by omega)) (oS rfl (Yk.nilCheck y (oS rfl (Yk.fieldAt BE (vr (PQ p 0) rfl) ?_))))))))))))))))
   have e4:=OG.off g f (by decide)
   have e5:=OG.off n f (by decide)
   have e6:=OG.off o f (by decide)
   refine oS rfl (Yk.storeC (i:=1) (v:=NI ((i1)+(1))) (vr (PQ p 1) rfl) (vr (NI ((i1)+(1))) rfl) f (by rw[Cz];decide) Dd rfl rfl fun e7 cy au kx=> ?_)
   have hE:=Af hE au (Nat.le_trans ak (by omega))
   have k:=kb au k (by omega)
   have g:=OG.kept g au e4
   have n:=OG.kept n au e5
   have hm1:=kb au hm1 (by omega)
   have o:=OG.kept o au e6
   have u:=kb au u (by omega)
   clear f
   have f:e7.heap[p]? =some (.cells (AQ ((⟨b,(((i1)+(1):Nat):Int),true⟩,⟨v⟩):CH)).toArray 72 (0,0)):=AG cy (In (AF v b (i1) true) (((i1)+(1):Nat):Int));clear cy
   have ky:=bl f
   refine oZ (tN (ex _ _ (sk fun kz e8=>(wt (oM rfl ?_)))))
   have e9:=OG.off g f (by decide)
   have fa:=OG.off n f (by decide)
   have fb:=OG.off o f (by decide)
   refine oS rfl (Yk.callA1 OR y ((D7 _ p v b ((i1)+(1)) true f (hr.keep hE) hapr hi2 hl).mono ?_))
   rintro e k0 ⟨c158,i158,k158,hq158,rfl,hbr158,fc,av⟩
   refine⟨_,rfl,?_⟩
   have hE:=Af hE av (Nat.le_trans ak (by omega))
   have k:=kb av k (by omega)
   have g:=OG.kept g av e9
   have n:=OG.kept n av fa
   have hm1:=kb av hm1 (by omega)
   have o:=OG.kept o av fb
   have u:=kb av u (by omega)
   clear f
   have f:=hbr158;clear hbr158
   have k2:=bl f
   refine oS rfl (Yk.fieldAt HN (vr (PQ ag 0) rfl) (oS rfl (Yk.fieldAt LY (vr (PQ ag 0) rfl) ?_)))
   have fd:=OG.off g u (by decide)
   have fe:=OG.off n u (by decide)
   refine oS rfl (Yk.storeC (i:=1) (v:=St (c158)) (vr (PQ ag 1) rfl) (vr (St (c158)) rfl) u (by rw[Bp];decide) Ob rfl rfl fun ff cz aw k3=> ?_)
   have hE:=Af hE aw (Nat.le_trans b1 (by omega))
   have k:=kb aw k (by omega)
   have g:=OG.kept g aw fd
   have n:=OG.kept n aw fe
   have hm1:=kb aw hm1 (by omega)
   have o:=OG.kept o aw b2
   have f:=kb aw f (by omega)
   clear u
   have u:ff.heap[ag]? =some (.cells (entC (⟨(b.getD (i1) 0),c158,zid,zid,[]⟩:AM)).toArray 50 (0,0)):=AG cz (KR (⟨(b.getD (i1) 0),[],zid,zid,[]⟩:AM) c158);clear cz
   have k4:=bl u
   refine oZ (tN (e8 _ _ (sk fun k5 fg=>(wt (oM rfl ?_)))))
   have fh:=OG.off g f (by decide)
   have fi:=OG.off n f (by decide)
   have fj:=OG.off o f (by decide)
   refine oS rfl (Yk.callA1 OS y ((E5 _ p v b (i158) k158 f (hr.keep hE) hapr fc hl).mono ?_))
   rintro e k6 ⟨c172,i172,k172,hq172,rfl,hbr172,fk,ax⟩
   refine⟨_,rfl,?_⟩
   have hE:=Af hE ax (Nat.le_trans ak (by omega))
   have k:=kb ax k (by omega)
   have g:=OG.kept g ax fh
   have n:=OG.kept n ax fi
   have hm1:=kb ax hm1 (by omega)
   have o:=OG.kept o ax fj
   have u:=kb ax u (by omega)
   clear f
   have f:=hbr172;clear hbr172
   have k7:=bl f
   refine oS rfl (Yk.fieldAt HN (vr (PQ ag 0) rfl) (oS rfl (Yk.fieldAt HU (vr (PQ ag 0) rfl) ?_)))
   have fl:=OG.off g u (by decide)
   have fm:=OG.off n u (by decide)
   refine oS rfl (Yk.storeMid (a:=Ew (⟨(b.getD (i1) 0),c158,zid,zid,[]⟩:AM)) (m:=Lib.byteCells zid.1) (z:=FT (⟨(b.getD (i1) 0),c158,zid,zid,[]⟩:AM)) (cells:=Lib.byteCells c172.1) (vr (PQ ag 2) rfl) (vr (AB c172.1) rfl) (FU (⟨(b.getD (i1) 0),c158,zid,zid,[]⟩:AM)▸u) (GQ (⟨(b.getD (i1) 0),c158,zid,zid,[]⟩:AM)) (by rw[Lib.byteCells_length,Lib.byteCells_length,zid.2,c172.2]) (by rw[Lib.byteCells_length,c172.2];exact Nw) (Ay _) fun fo c0 ay k8=> ?_)
   have hE:=Af hE ay (Nat.le_trans b1 (by omega))
   have k:=kb ay k (by omega)
   have g:=OG.kept g ay fl
   have n:=OG.kept n ay fm
   have hm1:=kb ay hm1 (by omega)
   have o:=OG.kept o ay b2
   have f:=kb ay f (by omega)
   clear u
   have u:fo.heap[ag]? =some (.cells (entC (⟨(b.getD (i1) 0),c158,c172,zid,[]⟩:AM)).toArray 50 (0,0)):=AG c0 (KS (⟨(b.getD (i1) 0),c158,zid,zid,[]⟩:AM) c172);clear c0
   have k9:=bl u
   refine A3 [(0,v),(2,PQ n2 0),(3,NI 0),(4,PQ p 0),(5,PQ ac 0),(6,NI c90),(7,NI j),(8,PQ ag 0),(34, .bool (true)),(43, .bool (true))] ⟨T0,T2,T3,y,T5,T6,T7,rfl,rfl,(congrArg Value.bool (decide_eq_true (by omega))),trivial⟩ fun la ⟨T0,T2,T3,y,T5,T6,T7,T8,b3,b4,_⟩=>(tN (fg _ _ (sk fun lb fp=>(wt (oM rfl ?_)))))
   have fq:=OG.off g f (by decide)
   have fr:=OG.off n f (by decide)
   have fs:=OG.off o f (by decide)
   refine oS rfl (Yk.callA1 OS y ((E5 _ p v b (i172) k172 f (hr.keep hE) hapr fk hl).mono ?_))
   rintro e lc ⟨c187,i187,k187,hq187,rfl,hbr187,ft,az⟩
   refine⟨_,rfl,?_⟩
   have hE:=Af hE az (Nat.le_trans ak (by omega))
   have k:=kb az k (by omega)
   have g:=OG.kept g az fq
   have n:=OG.kept n az fr
   have hm1:=kb az hm1 (by omega)
   have o:=OG.kept o az fs
   have u:=kb az u (by omega)
   clear f
   have f:=hbr187;clear hbr187
   have ld:=bl f
   refine oS rfl (Yk.fieldAt HN T8 (oS rfl (Yk.fieldAt HV (vr (PQ ag 0) rfl) ?_)))
   have fu:=OG.off g u (by decide)
   have fv:=OG.off n u (by decide)
   refine oS rfl (Yk.storeMid (a:=Ex (⟨(b.getD (i1) 0),c158,c172,zid,[]⟩:AM)) (m:=Lib.byteCells zid.1) (z:=FV (⟨(b.getD (i1) 0),c158,c172,zid,[]⟩:AM)) (cells:=Lib.byteCells c187.1) (vr (PQ ag 34) rfl) (vr (AB c187.1) rfl) (FW (⟨(b.getD (i1) 0),c158,c172,zid,[]⟩:AM)▸u) (GR (⟨(b.getD (i1) 0),c158,c172,zid,[]⟩:AM)) (by rw[Lib.byteCells_length,Lib.byteCells_length,zid.2,c187.2]) (by rw[Lib.byteCells_length,c187.2];exact Nw) (Ay _) fun fw c1 a0 le=> ?_)
   have hE:=Af hE a0 (Nat.le_trans b1 (by omega))
   have k:=kb a0 k (by omega)
   have g:=OG.kept g a0 fu
   have n:=OG.kept n a0 fv
   have hm1:=kb a0 hm1 (by omega)
   have o:=OG.kept o a0 b2
   have f:=kb a0 f (by omega)
   clear u
   have u:fw.heap[ag]? =some (.cells (entC (⟨(b.getD (i1) 0),c158,c172,c187,[]⟩:AM)).toArray 50 (0,0)):=AG c1 (KT (⟨(b.getD (i1) 0),c158,c172,zid,[]⟩:AM) c187);clear c1
   have lf:=bl u
   refine oZ (tN (fp _ _ (sk fun lg fx=>(wt (oM rfl ?_)))))
   have fy:=OG.off g f (by decide)
   have fz:=OG.off n f (by decide)
   have f0:=OG.off o f (by decide)
   refine oS rfl (Yk.callA1 OR y ((D7 _ p v b (i187) k187 f (hr.keep hE) hapr ft hl).mono ?_))
   rintro e lh ⟨c201,i201,k201,hq201,rfl,hbr201,f1,a1⟩
   refine⟨_,rfl,?_⟩
   have hE:=Af hE a1 (Nat.le_trans ak (by omega))
   have k:=kb a1 k (by omega)
   have g:=OG.kept g a1 fy
   have n:=OG.kept n a1 fz
   have hm1:=kb a1 hm1 (by omega)
   have o:=OG.kept o a1 f0
   have u:=kb a1 u (by omega)
   clear f
   have f:=hbr201;clear hbr201
   have li:=bl f
   refine oS rfl (Yk.fieldAt LX T8 ?_)
   have f2:=OG.off g u (by decide)
   have f3:=OG.off n u (by decide)
   refine oS rfl (Yk.storeC (i:=66) (v:=St (c201)) (vr (PQ ag 66) rfl) (vr (St (c201)) rfl) u (by rw[Bp];decide) Ob rfl rfl fun f4 c2 a2 lj=> ?_)
   have hE:=Af hE a2 (Nat.le_trans b1 (by omega))
   have k:=kb a2 k (by omega)
   have g:=OG.kept g a2 f2
   have n:=OG.kept n a2 f3
   have hm1:=kb a2 hm1 (by omega)
   have o:=OG.kept o a2 b2
   have f:=kb a2 f (by omega)
   clear u
   have u:f4.heap[ag]? =some (.cells (entC (⟨(b.getD (i1) 0),c158,c172,c187,c201⟩:AM)).toArray 50 (0,0)):=AG c2 (KU (⟨(b.getD (i1) 0),c158,c172,c187,[]⟩:AM) c201);clear c2
   have lk:=bl u
   refine oZ (tN (fx _ _ (wt (oS rfl (Yk.fieldAt Eo T5 (oS rfl (Yk.cell1 EA rfl (vr (PQ ac 35) rfl) (Al hm1 (show(refsC ((⟨l40,l51,c64,c77,ls⟩,⟨q,t,vb1⟩):Ah))[35]? =some (vb1:Value)from Bn ((⟨l40,l51,c64,c77,ls⟩,⟨q,t,vb1⟩):Ah))) (oS rfl (Yk.loadAll T8 u (NH).choose_spec rfl (AC (Bp (⟨(b.getD (i1) 0),c158,c172,c187,c201⟩:AM)) Iy) (oS rfl (Yk.lit1G (a:=(⟨(b.getD (i1) 0),c158,c172,c187,c201⟩:AM)) (enc:=entC) (vr (.agg (entC (⟨(b.getD (i1) 0),c158,c172,c187,c201⟩:AM)).toArray) rfl) (Bp _) Ke fun f5 f6 c3 a3=> ?_)))))))))))
   have hE:=hE.trans a3
   have k:=eb a3 k
   have g:=g.keep a3
   have n:=n.keep a3
   have hm1:=eb a3 hm1
   have o:=o.keep a3
   have f:=eb a3 f
   have f7:=OG.off o k (by decide)
   have f8:=OG.apart o g (by decide)
   have ga:=OG.apart o n (by decide)
   have gb:=OG.off o hm1 (by decide)
   have gc:=OG.off o f (by decide)
   refine oS rfl (Yk.appendRG _ _ w.heap.size _ 104 EA wr30_ig50.choose_spec.1 wr30_ig50.choose_spec.2 EA (ls) ([(⟨(b.getD (i1) 0),c158,c172,c187,c201⟩:AM)]) (OG.of o (vr vb1 rfl)) (RG.of c3 (vr f5 rfl)) (fun _ _=>C7) (by simp only[List.length_cons,List.length_nil];omega) (by simp only[List.length_cons,List.length_nil];omega) hE.size fun bj gd bk ao=> ?_)
   have ao:Grew f6 gd vb1 bj:=ao
   have hE:=AZ hE ao o.2 (Nat.le_refl _)
   have k:=AN k ao f7
   have g:=Dr g ao f8
   have n:=Dr n ao ga
   have hm1:=AN hm1 ao gb
   have f:=AN f ao gc
   clear c3
   clear o
   refine oS rfl (Yk.fieldAt Eo T5 ?_)
   have ge:=OG.off g hm1 (by decide)
   have gf:=OG.off n hm1 (by decide)
   have gg:=OG.off bk hm1 (by decide)
   refine oS rfl (Yk.storeC (i:=35) (v:=bj) (vr (PQ ac 35) rfl) (vr bj rfl) hm1 (by rw[Ao];decide) Gp (RG.one (RG.ofOwn bk)).1 (RG.one (RG.ofOwn bk)).2 fun gh c4 bm ll=> ?_)
   have hE:=Af hE bm (Nat.le_trans bh (by omega))
   have k:=kb bm k (by omega)
   have g:=OG.kept g bm ge
   have n:=OG.kept n bm gf
   have f:=kb bm f (by omega)
   have bk:=OG.kept bk bm gg
   clear hm1
   have hm1:gh.heap[ac]? =some (.cells (refsC ((⟨l40,l51,c64,c77,(ls)++ [(⟨(b.getD (i1) 0),c158,c172,c187,c201⟩:AM)]⟩,⟨q,t,bj⟩):Ah)).toArray 27 (0,0)):=AG c4 (D1 ((⟨l40,l51,c64,c77,ls⟩,⟨q,t,vb1⟩):Ah) bj ((ls)++ [(⟨(b.getD (i1) 0),c158,c172,c187,c201⟩:AM)]));clear c4
   have lm:=bl hm1
   refine oZ (bN (tN (et _ _ (wt (oM rfl (oS rfl (Yk.bin (xv:=NI j) (yv:=NI 1) T7 rfl rfl (AA _ _ _ (by omega)) (oA rfl (A3 [(0,v),(2,PQ n2 0),(3,NI 0),(4,PQ p 0),(5,PQ ac 0),(6,NI c90),(7,NI ((j)+(1))),(8,PQ ag 0),(34, .bool (true)),(43, .bool (true))] ⟨T0,T2,T3,y,T5,T6,rfl,T8,b3,b4,trivial⟩ fun gi ⟨T0,T2,T3,y,T5,T6,T7,T8,b3,b4,_⟩=>(tN (And.intro ⟨j+1,(ls)++ [(⟨(b.getD (i1) 0),c158,c172,c187,c201⟩:AM)],i201,k201,bj,T0,T2,T3,y,T5,T6,T7,hE,k,g,n,f,hm1,CR bk (by rfl),(Gj hit).trans (by unfold CW IY;simp only[hqb,hq158,hq172,hq187,hq201]),f1,by rw[List.length_append,hls];rfl,by omega,trivial⟩ ?_)))))))))))
   show c90-(intOf (gi 7)).toNat<c90-(intOf (ct 7)).toNat
   rw[T7,q7]
   simp only[intOf,Int.toNat_natCast];omega
  have hqb:EU b (i1,true)=(0,(i1,false)):=Gi (show DC b i1=none from if_neg cd)
  refine sk fun ln gj=>(sk fun lo gk=>(wt (oM rfl (oM rfl (oS rfl (Yk.eqI (a:=(j:Nat)) (b:=(c90:Nat)) T7 T6 (AX _ _ _ _) (oM rfl (oY (d:=29) rfl rfl (vr (.bool (true)) (congrArg Value.bool (decide_eq_true (hlt)))) (Yk.move y (oY (d:=29) rfl rfl (vr (.bool (true)) (congrArg Value.bool (decide_eq_true (hlt)))) (Yk.nilCheck (vr (PQ p 0) rfl) (oY (d:=29) rfl rfl (vr (.bool (true)) (congrArg Value.bool (decide_eq_true (hlt)))) (Yk.fieldAt Bx (vr (PQ p 0) rfl) (oY (d:=29) rfl rfl (vr (.bool (true)) (congrArg Value.bool (decide_eq_true (hlt)))) (Yk.cell1 PA rfl (vr (PQ p 2) rfl) (Al f (show(AQ (AF v b (i1) true))[2]? =some (.bool (true):Value)from CC (AF v b (i1) true))) (oS rfl (Yk.pickT (vr (.bool (true)) (congrArg Value.bool (decide_eq_true (hlt)))) (vr (.bool (true)) rfl) (oZ (tN (gk _ _ (wpF_true (vr (.bool (true)) rfl) (Aq ?_))))))))))))))))))))))
  refine tN (gj _ _ (sk fun lp gl=>(Av (sk fun lq gm=>(wt (oS rfl (Yk.alloc (cs:=(entC (⟨0,[],zid,zid,[]⟩:AM)).toArray) NJ fun ah gn cf c5 a4 lr=> ?_)))))))
  have b8:=hE.size
  have lt:=Bc (bl k) cf
  have lu:=Bc (bl f) cf
  have lv:=Bc (bl hm1) cf
  have b9:OB vb1 ah:=CY o.2 (by omega)
  have hE:=hE.trans a4
  have k:=eb a4 k
  have g:=g.keep a4
  have n:=n.keep a4
  have f:=eb a4 f
  have hm1:=eb a4 hm1
  have o:=o.keep a4
  have ab:=c5;clear c5
  have lw:ah<gn.heap.size:=by omega
  refine oZ (tN (gm _ _ (sk fun lx go=>(sk fun ly gp=>(wt (oM rfl (oS rfl (Yk.nilCheck y (oS rfl (Yk.fieldAt BE (vr (PQ p 0) rfl) (oS rfl (Yk.cell1 Li rfl (vr (PQ p 1) rfl) (Al f (show(AQ (AF v b (i1) true))[1]? =some (NI i1:Value)from Cg (AF v b (i1) true))) (oM rfl (oS rfl (Yk.lenRB Ek (RB.of (hr.keep hE) T0) (oS rfl (Yk.eqI (a:=(i1:Nat)) (b:=(b.length:Nat)) rfl rfl (AX _ _ _ _) (oZ (tN (gp _ _ (AH (vr (.bool (false)) (congrArg Value.bool (decide_eq_false (by omega)))) (wt ?_))))))))))))))))))))))
  refine oM rfl (oS rfl (Yk.nilCheck y (oS rfl (Yk.fieldAt Bx (vr (PQ p 0) rfl) ?_))))
  have gq:=OG.off g f (by decide)
  have gr:=OG.off n f (by decide)
  have gs:=OG.off o f (by decide)
  refine oS rfl (Yk.storeC (i:=2) (v:= .bool (false)) (vr (PQ p 2) rfl) (vr (.bool (false)) rfl) f (by rw[Cz];decide) C2 rfl rfl fun gt c6 a5 lz=> ?_)
  have hE:=Af hE a5 (Nat.le_trans ak (by omega))
  have k:=kb a5 k (by omega)
  have g:=OG.kept g a5 gq
  have n:=OG.kept n a5 gr
  have hm1:=kb a5 hm1 (by omega)
  have o:=OG.kept o a5 gs
  have ab:=kb a5 ab (by omega)
  clear f
  have f:gt.heap[p]? =some (.cells (AQ ((⟨b,((i1:Nat):Int),false⟩,⟨v⟩):CH)).toArray 72 (0,0)):=AG c6 (DK (AF v b (i1) true) false);clear c6
  have l0:=bl f
  refine oZ (tN (go _ _ (sk fun l1 gu=>(wt (oM rfl ?_)))))
  have gv:=OG.off g f (by decide)
  have gw:=OG.off n f (by decide)
  have gx:=OG.off o f (by decide)
  refine oS rfl (Yk.callA1 OR y ((D7 _ p v b (i1) false f (hr.keep hE) hapr hi1 hl).mono ?_))
  rintro e l2 ⟨c281,i281,k281,hq281,rfl,hbr281,gy,a6⟩
  refine⟨_,rfl,?_⟩
  have hE:=Af hE a6 (Nat.le_trans ak (by omega))
  have k:=kb a6 k (by omega)
  have g:=OG.kept g a6 gv
  have n:=OG.kept n a6 gw
  have hm1:=kb a6 hm1 (by omega)
  have o:=OG.kept o a6 gx
  have ab:=kb a6 ab (by omega)
  clear f
  have f:=hbr281;clear hbr281
  have l3:=bl f
  refine oS rfl (Yk.fieldAt HN (vr (PQ ah 0) rfl) (oS rfl (Yk.fieldAt LY (vr (PQ ah 0) rfl) ?_)))
  have gz:=OG.off g ab (by decide)
  have g0:=OG.off n ab (by decide)
  refine oS rfl (Yk.storeC (i:=1) (v:=St (c281)) (vr (PQ ah 1) rfl) (vr (St (c281)) rfl) ab (by rw[Bp];decide) Ob rfl rfl fun g1 c7 a7 l4=> ?_)
  have hE:=Af hE a7 (Nat.le_trans b8 (by omega))
  have k:=kb a7 k (by omega)
  have g:=OG.kept g a7 gz
  have n:=OG.kept n a7 g0
  have hm1:=kb a7 hm1 (by omega)
  have o:=OG.kept o a7 b9
  have f:=kb a7 f (by omega)
  clear ab
  have ab:g1.heap[ah]? =some (.cells (entC (⟨0,c281,zid,zid,[]⟩:AM)).toArray 50 (0,0)):=AG c7 (KR (⟨0,[],zid,zid,[]⟩:AM) c281);clear c7
  have l5:=bl ab
  refine oZ (tN (gu _ _ (sk fun l6 g2=>(wt (oM rfl ?_)))))
  have g3:=OG.off g f (by decide)
  have g4:=OG.off n f (by decide)
  have g5:=OG.off o f (by decide)
  refine oS rfl (Yk.callA1 OS y ((E5 _ p v b (i281) k281 f (hr.keep hE) hapr gy hl).mono ?_))
  rintro e l7 ⟨c295,i295,k295,hq295,rfl,hbr295,g6,a8⟩
  refine⟨_,rfl,?_⟩
  have hE:=Af hE a8 (Nat.le_trans ak (by omega))
  have k:=kb a8 k (by omega)
  have g:=OG.kept g a8 g3
  have n:=OG.kept n a8 g4
  have hm1:=kb a8 hm1 (by omega)
  have o:=OG.kept o a8 g5
  have ab:=kb a8 ab (by omega)
  clear f
  have f:=hbr295;clear hbr295
  have l8:=bl f
  refine oS rfl (Yk.fieldAt HN (vr (PQ ah 0) rfl) (oS rfl (Yk.fieldAt HU (vr (PQ ah 0) rfl) ?_)))
  have g7:=OG.off g ab (by decide)
  have g8:=OG.off n ab (by decide)
  refine oS rfl (Yk.storeMid (a:=Ew (⟨0,c281,zid,zid,[]⟩:AM)) (m:=Lib.byteCells zid.1) (z:=FT (⟨0,c281,zid,zid,[]⟩:AM)) (cells:=Lib.byteCells c295.1) (vr (PQ ah 2) rfl) (vr (AB c295.1) rfl) (FU (⟨0,c281,zid,zid,[]⟩:AM)▸ab) (GQ (⟨0,c281,zid,zid,[]⟩:AM)) (by rw[Lib.byteCells_length,Lib.byteCells_length,zid.2,c295.2]) (by rw[Lib.byteCells_length,c295.2];exact Nw) (Ay _) fun g9 c8 a9 l9=> ?_)
  have hE:=Af hE a9 (Nat.le_trans b8 (by omega))
  have k:=kb a9 k (by omega)
  have g:=OG.kept g a9 g7
  have n:=OG.kept n a9 g8
  have hm1:=kb a9 hm1 (by omega)
  have o:=OG.kept o a9 b9
  have f:=kb a9 f (by omega)
  clear ab
  have ab:g9.heap[ah]? =some (.cells (entC (⟨0,c281,c295,zid,[]⟩:AM)).toArray 50 (0,0)):=AG c8 (KS (⟨0,c281,zid,zid,[]⟩:AM) c295);clear c8
  have ma:=bl ab
  refine oZ (tN (g2 _ _ (sk fun mb ha=>(wt (oM rfl ?_)))))
  have hc:=OG.off g f (by decide)
  have hd:=OG.off n f (by decide)
  have he:=OG.off o f (by decide)
  refine oS rfl (Yk.callA1 OS y ((E5 _ p v b (i295) k295 f (hr.keep hE) hapr g6 hl).mono ?_))
  rintro e mc ⟨c309,i309,k309,hq309,rfl,hbr309,hf,ba⟩
  refine⟨_,rfl,?_⟩
  have hE:=Af hE ba (Nat.le_trans ak (by omega))
  have k:=kb ba k (by omega)
  have g:=OG.kept g ba hc
  have n:=OG.kept n ba hd
  have hm1:=kb ba hm1 (by omega)
  have o:=OG.kept o ba he
  have ab:=kb ba ab (by omega)
  clear f
  have f:=hbr309;clear hbr309
  have md:=bl f
  refine oS rfl (Yk.fieldAt HN (vr (PQ ah 0) rfl) (oS rfl (Yk.fieldAt HV (vr (PQ ah 0) rfl) ?_)))
  have hg:=OG.off g ab (by decide)
  have hh:=OG.off n ab (by decide)
  refine oS rfl (Yk.storeMid (a:=Ex (⟨0,c281,c295,zid,[]⟩:AM)) (m:=Lib.byteCells zid.1) (z:=FV (⟨0,c281,c295,zid,[]⟩:AM)) (cells:=Lib.byteCells c309.1) (vr (PQ ah 34) rfl) (vr (AB c309.1) rfl) (FW (⟨0,c281,c295,zid,[]⟩:AM)▸ab) (GR (⟨0,c281,c295,zid,[]⟩:AM)) (by rw[Lib.byteCells_length,Lib.byteCells_length,zid.2,c309.2]) (by rw[Lib.byteCells_length,c309.2];exact Nw) (Ay _) fun hi c9 bb me=> ?_)
  have hE:=Af hE bb (Nat.le_trans b8 (by omega))
  have k:=kb bb k (by omega)
  have g:=OG.kept g bb hg
  have n:=OG.kept n bb hh
  have hm1:=kb bb hm1 (by omega)
  have o:=OG.kept o bb b9
  have f:=kb bb f (by omega)
  clear ab
  have ab:hi.heap[ah]? =some (.cells (entC (⟨0,c281,c295,c309,[]⟩:AM)).toArray 50 (0,0)):=AG c9 (KT (⟨0,c281,c295,zid,[]⟩:AM) c309);clear c9
  have mf:=bl ab
  refine oZ (tN (ha _ _ (sk fun mg hk=>(wt (oM rfl ?_)))))
  have hm:=OG.off g f (by decide)
  have hn:=OG.off n f (by decide)
  have ho:=OG.off o f (by decide)
  refine oS rfl (Yk.callA1 OR y ((D7 _ p v b (i309) k309 f (hr.keep hE) hapr hf hl).mono ?_))
  rintro e mh ⟨c323,i323,k323,hq323,rfl,hbr323,hp,bc⟩
  refine⟨_,rfl,?_⟩
  have hE:=Af hE bc (Nat.le_trans ak (by omega))
  have k:=kb bc k (by omega)
  have g:=OG.kept g bc hm
  have n:=OG.kept n bc hn
  have hm1:=kb bc hm1 (by omega)
  have o:=OG.kept o bc ho
  have ab:=kb bc ab (by omega)
  clear f
  have f:=hbr323;clear hbr323
  have mi:=bl f
  refine oS rfl (Yk.fieldAt LX (vr (PQ ah 0) rfl) ?_)
  have hq:=OG.off g ab (by decide)
  have hs:=OG.off n ab (by decide)
  refine oS rfl (Yk.storeC (i:=66) (v:=St (c323)) (vr (PQ ah 66) rfl) (vr (St (c323)) rfl) ab (by rw[Bp];decide) Ob rfl rfl fun ht da bd mj=> ?_)
  have hE:=Af hE bd (Nat.le_trans b8 (by omega))
  have k:=kb bd k (by omega)
  have g:=OG.kept g bd hq
  have n:=OG.kept n bd hs
  have hm1:=kb bd hm1 (by omega)
  have o:=OG.kept o bd b9
  have f:=kb bd f (by omega)
  clear ab
  have ab:ht.heap[ah]? =some (.cells (entC (⟨0,c281,c295,c309,c323⟩:AM)).toArray 50 (0,0)):=AG da (KU (⟨0,c281,c295,c309,[]⟩:AM) c323);clear da
  have mk:=bl ab
  refine oZ (tN (hk _ _ (wt (oS rfl (Yk.fieldAt Eo T5 (oS rfl (Yk.cell1 EA rfl (vr (PQ ac 35) rfl) (Al hm1 (show(refsC ((⟨l40,l51,c64,c77,ls⟩,⟨q,t,vb1⟩):Ah))[35]? =some (vb1:Value)from Bn ((⟨l40,l51,c64,c77,ls⟩,⟨q,t,vb1⟩):Ah))) (oS rfl (Yk.loadAll (vr (PQ ah 0) rfl) ab (NH).choose_spec rfl (AC (Bp (⟨0,c281,c295,c309,c323⟩:AM)) Iy) (oS rfl (Yk.lit1G (a:=(⟨0,c281,c295,c309,c323⟩:AM)) (enc:=entC) (vr (.agg (entC (⟨0,c281,c295,c309,c323⟩:AM)).toArray) rfl) (Bp _) Ke fun hu hv db be=> ?_)))))))))))
  have hE:=hE.trans be
  have k:=eb be k
  have g:=g.keep be
  have n:=n.keep be
  have hm1:=eb be hm1
  have o:=o.keep be
  have f:=eb be f
  have hw:=OG.off o k (by decide)
  have hx:=OG.apart o g (by decide)
  have hy:=OG.apart o n (by decide)
  have hz:=OG.off o hm1 (by decide)
  have h0:=OG.off o f (by decide)
  refine oS rfl (Yk.appendRG _ _ w.heap.size _ 104 EA wr30_ig50.choose_spec.1 wr30_ig50.choose_spec.2 EA (ls) ([(⟨0,c281,c295,c309,c323⟩:AM)]) (OG.of o (vr vb1 rfl)) (RG.of db (vr hu rfl)) (fun _ _=>C7) (by simp only[List.length_cons,List.length_nil];omega) (by simp only[List.length_cons,List.length_nil];omega) hE.size fun bn h1 bo ap=> ?_)
  have ap:Grew hv h1 vb1 bn:=ap
  have hE:=AZ hE ap o.2 (Nat.le_refl _)
  have k:=AN k ap hw
  have g:=Dr g ap hx
  have n:=Dr n ap hy
  have hm1:=AN hm1 ap hz
  have f:=AN f ap h0
  clear db
  clear o
  refine oS rfl (Yk.fieldAt Eo T5 ?_)
  have h2:=OG.off g hm1 (by decide)
  have h3:=OG.off n hm1 (by decide)
  have h4:=OG.off bo hm1 (by decide)
  refine oS rfl (Yk.storeC (i:=35) (v:=bn) (vr (PQ ac 35) rfl) (vr bn rfl) hm1 (by rw[Ao];decide) Gp (RG.one (RG.ofOwn bo)).1 (RG.one (RG.ofOwn bo)).2 fun h5 dc bp ml=> ?_)
  have hE:=Af hE bp (Nat.le_trans bh (by omega))
  have k:=kb bp k (by omega)
  have g:=OG.kept g bp h2
  have n:=OG.kept n bp h3
  have f:=kb bp f (by omega)
  have bo:=OG.kept bo bp h4
  clear hm1
  have hm1:h5.heap[ac]? =some (.cells (refsC ((⟨l40,l51,c64,c77,(ls)++ [(⟨0,c281,c295,c309,c323⟩:AM)]⟩,⟨q,t,bn⟩):Ah)).toArray 27 (0,0)):=AG dc (D1 ((⟨l40,l51,c64,c77,ls⟩,⟨q,t,vb1⟩):Ah) bn ((ls)++ [(⟨0,c281,c295,c309,c323⟩:AM)]));clear dc
  have mm:=bl hm1
  refine A3 [(0,v),(2,PQ n2 0),(3,NI 0),(4,PQ p 0),(5,PQ ac 0),(6,NI c90),(7,NI j),(8,PQ ah 0),(34, .bool (true)),(43, .bool (false))] ⟨T0,T2,T3,y,T5,T6,T7,rfl,rfl,(congrArg Value.bool (decide_eq_false (by omega))),trivial⟩ fun mn ⟨T0,T2,T3,y,T5,T6,T7,T8,b3,b4,_⟩=>(bN (tN (gl _ _ (wt (oM rfl (oS rfl (Yk.bin (xv:=NI j) (yv:=NI 1) T7 rfl rfl (AA _ _ _ (by omega)) (oA rfl (A3 [(0,v),(2,PQ n2 0),(3,NI 0),(4,PQ p 0),(5,PQ ac 0),(6,NI c90),(7,NI ((j)+(1))),(8,PQ ah 0),(34, .bool (true)),(43, .bool (false))] ⟨T0,T2,T3,y,T5,T6,rfl,T8,b3,b4,trivial⟩ fun h6 ⟨T0,T2,T3,y,T5,T6,T7,T8,b3,b4,_⟩=>(tN (And.intro ⟨j+1,(ls)++ [(⟨0,c281,c295,c309,c323⟩:AM)],i323,k323,bn,T0,T2,T3,y,T5,T6,T7,hE,k,g,n,f,hm1,CR bo (by rfl),(Gj hit).trans (by unfold CW IY;simp only[hqb,hq281,hq295,hq309,hq323]),hp,by rw[List.length_append,hls];rfl,by omega,trivial⟩ ?_)))))))))))
  show c90-(intOf (h6 7)).toNat<c90-(intOf (ct 7)).toNat
  rw[T7,q7]
  simp only[intOf,Int.toNat_natCast];omega
 have hjc:j=c90:=by omega
 rw[hjc]at hit
 cases k1
 ·have hM:=LC hq90 (show itR (CW b) c90 ([],(i90,k90))=(ls,(i1,false))from hit)
  have hR:FD b=(((⟨l40,l51,c64,c77,ls⟩,⟨q,t,vb1⟩):Ah).1,(i1,false)):=by simp only[FD,hq40,hq51,hq64,hq77,hM]
  have hD:=Gt b
  unfold F8 at hD
  rw[hR]at hD
  have hMl:By ((⟨l40,l51,c64,c77,ls⟩,⟨q,t,vb1⟩):Ah).1:=by have:=LK b;rw[hR]at this;exact this
  rw[if_neg (fun h=>Bool.noConfusion h.1)]at hD
  refine sk fun mo mp=>(sk fun mq h7=>(wt (oM rfl (oM rfl (oS rfl (Yk.eqI (a:=(j:Nat)) (b:=(c90:Nat)) T7 T6 (AX _ _ _ _) (oM rfl (oN (d:=29) rfl rfl rfl (vr (.bool (false)) (congrArg Value.bool (decide_eq_false (by omega)))) rfl (oN (d:=29) rfl rfl rfl (vr (.bool (false)) (congrArg Value.bool (decide_eq_false (by omega)))) rfl (oN (d:=29) rfl rfl rfl (vr (.bool (false)) (congrArg Value.bool (decide_eq_false (by omega)))) rfl (oN (d:=29) rfl rfl rfl (vr (.bool (false)) (congrArg Value.bool (decide_eq_false (by omega)))) rfl (oS rfl (Yk.pickF (vr (.bool (false)) (congrArg Value.bool (decide_eq_false (by omega)))) (vr (.bool (false)) rfl) (oZ (tN (h7 _ _ (AH (vr (.bool (false)) rfl) (AP (Ar (Ar (Az ?_)))))))))))))))))))))
  refine tN (b0 _ _ (sk fun mr ms=>(sk fun mt h8=>(wt (oM rfl (oS rfl (Yk.nilCheck y (oS rfl (Yk.fieldAt Bx (vr (PQ p 0) rfl) (oS rfl (Yk.cell1 PA rfl (vr (PQ p 2) rfl) (Al f (show(AQ (AF v b (i1) false))[2]? =some (.bool (false):Value)from CC (AF v b (i1) false))) (oS rfl (Yk.notB (vr (.bool (false)) rfl) (oM rfl (oN (d:=89) rfl rfl rfl (vr (.bool (true)) rfl) rfl (oN (d:=89) rfl rfl rfl (vr (.bool (true)) rfl) rfl (oN (d:=89) rfl rfl rfl (vr (.bool (true)) rfl) rfl (oN (d:=89) rfl rfl rfl (vr (.bool (true)) rfl) rfl (oN (d:=89) rfl rfl rfl (vr (.bool (true)) rfl) rfl (oN (d:=89) rfl rfl rfl (vr (.bool (true)) rfl) rfl ?_))))))))))))))))))))
  refine oN (d:=89) rfl rfl rfl (vr (.bool (true)) rfl) rfl (oS rfl (Yk.pickT (vr (.bool (true)) rfl) (vr (.bool (true)) rfl) (oM rfl (oN (d:=98) rfl rfl rfl (vr (.bool (true)) rfl) rfl (oN (d:=98) rfl rfl rfl (vr (.bool (true)) rfl) rfl (oN (d:=98) rfl rfl rfl (vr (.bool (true)) rfl) rfl (oS rfl (Yk.pickT (vr (.bool (true)) rfl) (vr (.bool (true)) rfl) (oZ (tN (h8 _ _ (wpF_true (vr (.bool (true)) rfl) (sk fun mu h9=>(wt (oS rfl (Yk.run (v:= .agg (refsC ((⟨[],[],[],zid,[]⟩,⟨.slice none 0 0, .slice none 0 0, .slice none 0 0⟩):Ah)).toArray) (by kernel_rfl) ?_))))))))))))))))
  have ia:=OG.off g k (by decide)
  have ib:=OG.off n k (by decide)
  have ic:=OG.off o k (by decide)
  refine oS rfl (Yk.storeAll T2 (vr (.agg (refsC ((⟨[],[],[],zid,[]⟩,⟨.slice none 0 0, .slice none 0 0, .slice none 0 0⟩):Ah)).toArray) rfl) k (by simp only[List.size_toArray,Ao]) (AC (Ao _) Gq) (Br (x:=((⟨[],[],[],zid,[]⟩,⟨.slice none 0 0, .slice none 0 0, .slice none 0 0⟩):Ah)) rfl rfl rfl) fun id dd bq mv=> ?_)
  have hE:=Af hE bq (Nat.le_trans (Nat.le_refl _) (by omega))
  have g:=OG.kept g bq ia
  have n:=OG.kept n bq ib
  have f:=kb bq f (by omega)
  have hm1:=kb bq hm1 (by omega)
  have o:=OG.kept o bq ic
  clear k
  have k:id.heap[n2]? =some (.cells (refsC ((⟨[],[],[],zid,[]⟩,⟨.slice none 0 0, .slice none 0 0, .slice none 0 0⟩):Ah)).toArray 27 (0,0)):=dd;clear dd
  have mw:=bl k
  refine oA rfl (oZ (tN (h9 _ _ (Am (An (Aj (fn:=Tryz.f9) _ rfl [.agg (refsC ((⟨[],[],[],zid,[]⟩,⟨.slice none 0 0, .slice none 0 0, .slice none 0 0⟩):Ah)).toArray,NI 6] (.tuple #[.agg (refsC ((⟨[],[],[],zid,[]⟩,⟨.slice none 0 0, .slice none 0 0, .slice none 0 0⟩):Ah)).toArray,NI 6]) rfl ⟨ResF.row T2 k (JZ).choose_spec rfl (AC (Ao _) Gq),rfl,trivial⟩ ?_))))))
  exact⟨_,6,rfl,⟨RG.nil _ _ _,RG.nil _ _ _,RG.nil _ _ _⟩,by rw[←hD];exact⟨rfl,rfl⟩,hE⟩
 have hM:=LC hq90 (show itR (CW b) c90 ([],(i90,k90))=(ls,(i1,true))from hit)
 have hR:FD b=(((⟨l40,l51,c64,c77,ls⟩,⟨q,t,vb1⟩):Ah).1,(i1,true)):=by simp only[FD,hq40,hq51,hq64,hq77,hM]
 have hD:=Gt b
 unfold F8 at hD
 rw[hR]at hD
 have hMl:By ((⟨l40,l51,c64,c77,ls⟩,⟨q,t,vb1⟩):Ah).1:=by have:=LK b;rw[hR]at this;exact this
 by_cases hj:i1=b.length
 ·cases hRt:AO ((⟨l40,l51,c64,c77,ls⟩,⟨q,t,vb1⟩):Ah).1
  ·rw[if_neg (fun h=>Bool.noConfusion (hRt.symm.trans h.2.2))]at hD
   refine sk fun mx my=>(sk fun mz ie=>(wt (oM rfl (oM rfl (oS rfl (Yk.eqI (a:=(j:Nat)) (b:=(c90:Nat)) T7 T6 (AX _ _ _ _) (oM rfl (oN (d:=29) rfl rfl rfl (vr (.bool (false)) (congrArg Value.bool (decide_eq_false (by omega)))) rfl (oN (d:=29) rfl rfl rfl (vr (.bool (false)) (congrArg Value.bool (decide_eq_false (by omega)))) rfl (oN (d:=29) rfl rfl rfl (vr (.bool (false)) (congrArg Value.bool (decide_eq_false (by omega)))) rfl (oN (d:=29) rfl rfl rfl (vr (.bool (false)) (congrArg Value.bool (decide_eq_false (by omega)))) rfl (oS rfl (Yk.pickF (vr (.bool (false)) (congrArg Value.bool (decide_eq_false (by omega)))) (vr (.bool (false)) rfl) (oZ (tN (ie _ _ (AH (vr (.bool (false)) rfl) (AP (Ar (Ar (Az ?_)))))))))))))))))))))
   refine tN (b0 _ _ (sk fun m0 m1=>(sk fun m2 ig=>(wt (oM rfl (oS rfl (Yk.nilCheck y (oS rfl (Yk.fieldAt Bx (vr (PQ p 0) rfl) (oS rfl (Yk.cell1 PA rfl (vr (PQ p 2) rfl) (Al f (show(AQ (AF v b (i1) true))[2]? =some (.bool (true):Value)from CC (AF v b (i1) true))) (oS rfl (Yk.notB (vr (.bool (true)) rfl) (oM rfl (oY (d:=89) rfl rfl (vr (.bool (false)) rfl) (Yk.move y (oY (d:=89) rfl rfl (vr (.bool (false)) rfl) (Yk.nilCheck (vr (PQ p 0) rfl) (oY (d:=89) rfl rfl (vr (.bool (false)) rfl) (Yk.fieldAt BE (vr (PQ p 0) rfl) (oY (d:=89) rfl rfl (vr (.bool (false)) rfl) (Yk.cell1 Li rfl (vr (PQ p 1) rfl) (Al f (show(AQ (AF v b (i1) true))[1]? =some (NI i1:Value)from Cg (AF v b (i1) true))) (oY (d:=89) rfl rfl (vr (.bool (false)) rfl) (Yk.move T0 (oY (d:=89) rfl rfl (vr (.bool (false)) rfl) (Yk.lenRB Ek (RB.of (hr.keep hE) (vr v rfl)) ?_))))))))))))))))))))))))))
   refine oY (d:=89) rfl rfl (vr (.bool (false)) rfl) (Yk.eqI (a:=(i1:Nat)) (b:=(b.length:Nat)) rfl rfl (BO _ _ _ _) (oS rfl (Yk.pickF (vr (.bool (false)) rfl) (vr (.bool (false)) (congrArg Value.bool (decide_eq_false (by omega)))) (oM rfl (oY (d:=98) rfl rfl (vr (.bool (false)) rfl) (Yk.loadAll T5 hm1 (JZ).choose_spec rfl (AC (Ao ((⟨l40,l51,c64,c77,ls⟩,⟨q,t,vb1⟩):Ah)) Gq) (oY (d:=98) rfl rfl (vr (.bool (false)) rfl) (Yk.callA1 Kf (vr (.agg (refsC ((⟨l40,l51,c64,c77,ls⟩,⟨q,t,vb1⟩):Ah)).toArray) rfl) (((show Calls _ _ _ _ (fun e w2=>e = .returned (.bool false)∧Ext _ w2)from by have h:=Es _ ((⟨l40,l51,c64,c77,ls⟩,⟨q,t,vb1⟩):Ah) ⟨RG.ofOwn g,RG.ofOwn n,RG.ofOwn o⟩ hMl;rw[hRt]at h;exact h)).mono ?_)))))))))
   rintro e m3 ⟨rfl,bf⟩
   refine⟨_,rfl,?_⟩
   have hE:=hE.trans bf
   have k:=eb bf k
   have g:=g.keep bf
   have n:=n.keep bf
   have f:=eb bf f
   have hm1:=eb bf hm1
   have o:=o.keep bf
   refine oY (d:=98) rfl rfl (vr (.bool (false)) rfl) (Yk.notB (vr (.bool (false)) rfl) (oS rfl (Yk.pickF (vr (.bool (false)) rfl) (vr (.bool (true)) rfl) (oZ (tN (ig _ _ (wpF_true (vr (.bool (true)) rfl) (sk fun m4 ih=>(wt (oS rfl (Yk.run (v:= .agg (refsC ((⟨[],[],[],zid,[]⟩,⟨.slice none 0 0, .slice none 0 0, .slice none 0 0⟩):Ah)).toArray) (by kernel_rfl) ?_)))))))))))
   have ii:=OG.off g k (by decide)
   have ij:=OG.off n k (by decide)
   have ik:=OG.off o k (by decide)
   refine oS rfl (Yk.storeAll T2 (vr (.agg (refsC ((⟨[],[],[],zid,[]⟩,⟨.slice none 0 0, .slice none 0 0, .slice none 0 0⟩):Ah)).toArray) rfl) k (by simp only[List.size_toArray,Ao]) (AC (Ao _) Gq) (Br (x:=((⟨[],[],[],zid,[]⟩,⟨.slice none 0 0, .slice none 0 0, .slice none 0 0⟩):Ah)) rfl rfl rfl) fun il de br m5=> ?_)
   have hE:=Af hE br (Nat.le_trans (Nat.le_refl _) (by omega))
   have g:=OG.kept g br ii
   have n:=OG.kept n br ij
   have f:=kb br f (by omega)
   have hm1:=kb br hm1 (by omega)
   have o:=OG.kept o br ik
   clear k
   have k:il.heap[n2]? =some (.cells (refsC ((⟨[],[],[],zid,[]⟩,⟨.slice none 0 0, .slice none 0 0, .slice none 0 0⟩):Ah)).toArray 27 (0,0)):=de;clear de
   have m6:=bl k
   refine oA rfl (oZ (tN (ih _ _ (Am (An (Aj (fn:=Tryz.f9) _ rfl [.agg (refsC ((⟨[],[],[],zid,[]⟩,⟨.slice none 0 0, .slice none 0 0, .slice none 0 0⟩):Ah)).toArray,NI 6] (.tuple #[.agg (refsC ((⟨[],[],[],zid,[]⟩,⟨.slice none 0 0, .slice none 0 0, .slice none 0 0⟩):Ah)).toArray,NI 6]) rfl ⟨ResF.row T2 k (JZ).choose_spec rfl (AC (Ao _) Gq),rfl,trivial⟩ ?_))))))
   exact⟨_,6,rfl,⟨RG.nil _ _ _,RG.nil _ _ _,RG.nil _ _ _⟩,by rw[←hD];exact⟨rfl,rfl⟩,hE⟩
  rw[if_pos ⟨rfl,hj,hRt⟩]at hD
  refine sk fun m7 m8=>(sk fun m9 im=>(wt (oM rfl (oM rfl (oS rfl (Yk.eqI (a:=(j:Nat)) (b:=(c90:Nat)) T7 T6 (AX _ _ _ _) (oM rfl (oN (d:=29) rfl rfl rfl (vr (.bool (false)) (congrArg Value.bool (decide_eq_false (by omega)))) rfl (oN (d:=29) rfl rfl rfl (vr (.bool (false)) (congrArg Value.bool (decide_eq_false (by omega)))) rfl (oN (d:=29) rfl rfl rfl (vr (.bool (false)) (congrArg Value.bool (decide_eq_false (by omega)))) rfl (oN (d:=29) rfl rfl rfl (vr (.bool (false)) (congrArg Value.bool (decide_eq_false (by omega)))) rfl (oS rfl (Yk.pickF (vr (.bool (false)) (congrArg Value.bool (decide_eq_false (by omega)))) (vr (.bool (false)) rfl) (oZ (tN (im _ _ (AH (vr (.bool (false)) rfl) (AP (Ar (Ar (Az ?_)))))))))))))))))))))
  refine tN (b0 _ _ (sk fun na io=>(sk fun nb ip=>(wt (oM rfl (oS rfl (Yk.nilCheck y (oS rfl (Yk.fieldAt Bx (vr (PQ p 0) rfl) (oS rfl (Yk.cell1 PA rfl (vr (PQ p 2) rfl) (Al f (show(AQ (AF v b (i1) true))[2]? =some (.bool (true):Value)from CC (AF v b (i1) true))) (oS rfl (Yk.notB (vr (.bool (true)) rfl) (oM rfl (oY (d:=89) rfl rfl (vr (.bool (false)) rfl) (Yk.move y (oY (d:=89) rfl rfl (vr (.bool (false)) rfl) (Yk.nilCheck (vr (PQ p 0) rfl) (oY (d:=89) rfl rfl (vr (.bool (false)) rfl) (Yk.fieldAt BE (vr (PQ p 0) rfl) (oY (d:=89) rfl rfl (vr (.bool (false)) rfl) (Yk.cell1 Li rfl (vr (PQ p 1) rfl) (Al f (show(AQ (AF v b (i1) true))[1]? =some (NI i1:Value)from Cg (AF v b (i1) true))) (oY (d:=89) rfl rfl (vr (.bool (false)) rfl) (Yk.move T0 (oY (d:=89) rfl rfl (vr (.bool (false)) rfl) (Yk.lenRB Ek (RB.of (hr.keep hE) (vr v rfl)) ?_))))))))))))))))))))))))))
  refine oY (d:=89) rfl rfl (vr (.bool (false)) rfl) (Yk.eqI (a:=(i1:Nat)) (b:=(b.length:Nat)) rfl rfl (BO _ _ _ _) (oS rfl (Yk.pickF (vr (.bool (false)) rfl) (vr (.bool (false)) (congrArg Value.bool (decide_eq_false (by omega)))) (oM rfl (oY (d:=98) rfl rfl (vr (.bool (false)) rfl) (Yk.loadAll T5 hm1 (JZ).choose_spec rfl (AC (Ao ((⟨l40,l51,c64,c77,ls⟩,⟨q,t,vb1⟩):Ah)) Gq) (oY (d:=98) rfl rfl (vr (.bool (false)) rfl) (Yk.callA1 Kf (vr (.agg (refsC ((⟨l40,l51,c64,c77,ls⟩,⟨q,t,vb1⟩):Ah)).toArray) rfl) (((show Calls _ _ _ _ (fun e w2=>e = .returned (.bool true)∧Ext _ w2)from by have h:=Es _ ((⟨l40,l51,c64,c77,ls⟩,⟨q,t,vb1⟩):Ah) ⟨RG.ofOwn g,RG.ofOwn n,RG.ofOwn o⟩ hMl;rw[hRt]at h;exact h)).mono ?_)))))))))
  rintro e nc ⟨rfl,bg⟩
  refine⟨_,rfl,?_⟩
  have hE:=hE.trans bg
  have k:=eb bg k
  have g:=g.keep bg
  have n:=n.keep bg
  have f:=eb bg f
  have hm1:=eb bg hm1
  have o:=o.keep bg
  refine oY (d:=98) rfl rfl (vr (.bool (false)) rfl) (Yk.notB (vr (.bool (true)) rfl) (oS rfl (Yk.pickF (vr (.bool (false)) rfl) (vr (.bool (false)) rfl) (oZ (tN (ip _ _ (AH (vr (.bool (false)) rfl) (Aq (tN (io _ _ (sk fun nd iq=>(wt (oS rfl (Yk.loadAll T5 hm1 (JZ).choose_spec rfl (AC (Ao ((⟨l40,l51,c64,c77,ls⟩,⟨q,t,vb1⟩):Ah)) Gq) ?_))))))))))))))
  have ir:=OG.off g k (by decide)
  have iu:=OG.off n k (by decide)
  have iv:=OG.off o k (by decide)
  refine oS rfl (Yk.storeAll T2 (vr (.agg (refsC ((⟨l40,l51,c64,c77,ls⟩,⟨q,t,vb1⟩):Ah)).toArray) rfl) k (by simp only[List.size_toArray,Ao]) (AC (Ao _) Gq) (Br (x:=((⟨l40,l51,c64,c77,ls⟩,⟨q,t,vb1⟩):Ah)) (RG.one (RG.ofOwn g)).2 (RG.one (RG.ofOwn n)).2 (RG.one (RG.ofOwn o)).2) fun iw df bs ne=> ?_)
  have hE:=Af hE bs (Nat.le_trans (Nat.le_refl _) (by omega))
  have g:=OG.kept g bs ir
  have n:=OG.kept n bs iu
  have f:=kb bs f (by omega)
  have hm1:=kb bs hm1 (by omega)
  have o:=OG.kept o bs iv
  clear k
  have k:iw.heap[n2]? =some (.cells (refsC ((⟨l40,l51,c64,c77,ls⟩,⟨q,t,vb1⟩):Ah)).toArray 27 (0,0)):=df;clear df
  have nf:=bl k
  refine oA rfl (oZ (tN (iq _ _ (Am (Aj (fn:=Tryz.f9) _ rfl [.agg (refsC ((⟨l40,l51,c64,c77,ls⟩,⟨q,t,vb1⟩):Ah)).toArray,NI 0] (.tuple #[.agg (refsC ((⟨l40,l51,c64,c77,ls⟩,⟨q,t,vb1⟩):Ah)).toArray,NI 0]) rfl ⟨ResF.row T2 k (JZ).choose_spec rfl (AC (Ao _) Gq),rfl,trivial⟩ ?_)))))
  exact⟨((⟨l40,l51,c64,c77,ls⟩,⟨q,t,vb1⟩):Ah),0,rfl,⟨RG.ofOwn g,RG.ofOwn n,RG.ofOwn o⟩,by rw[←hD];exact⟨rfl,rfl⟩,hE⟩
 rw[if_neg (fun h=>hj h.2.1)]at hD
 refine sk fun ng nh=>(sk fun ni ix=>(wt (oM rfl (oM rfl (oS rfl (Yk.eqI (a:=(j:Nat)) (b:=(c90:Nat)) T7 T6 (AX _ _ _ _) (oM rfl (oN (d:=29) rfl rfl rfl (vr (.bool (false)) (congrArg Value.bool (decide_eq_false (by omega)))) rfl (oN (d:=29) rfl rfl rfl (vr (.bool (false)) (congrArg Value.bool (decide_eq_false (by omega)))) rfl (oN (d:=29) rfl rfl rfl (vr (.bool (false)) (congrArg Value.bool (decide_eq_false (by omega)))) rfl (oN (d:=29) rfl rfl rfl (vr (.bool (false)) (congrArg Value.bool (decide_eq_false (by omega)))) rfl (oS rfl (Yk.pickF (vr (.bool (false)) (congrArg Value.bool (decide_eq_false (by omega)))) (vr (.bool (false)) rfl) (oZ (tN (ix _ _ (AH (vr (.bool (false)) rfl) (AP (Ar (Ar (Az ?_)))))))))))))))))))))
 refine tN (b0 _ _ (sk fun nj nk=>(sk fun nl iy=>(wt (oM rfl (oS rfl (Yk.nilCheck y (oS rfl (Yk.fieldAt Bx (vr (PQ p 0) rfl) (oS rfl (Yk.cell1 PA rfl (vr (PQ p 2) rfl) (Al f (show(AQ (AF v b (i1) true))[2]? =some (.bool (true):Value)from CC (AF v b (i1) true))) (oS rfl (Yk.notB (vr (.bool (true)) rfl) (oM rfl (oY (d:=89) rfl rfl (vr (.bool (false)) rfl) (Yk.move y (oY (d:=89) rfl rfl (vr (.bool (false)) rfl) (Yk.nilCheck (vr (PQ p 0) rfl) (oY (d:=89) rfl rfl (vr (.bool (false)) rfl) (Yk.fieldAt BE (vr (PQ p 0) rfl) (oY (d:=89) rfl rfl (vr (.bool (false)) rfl) (Yk.cell1 Li rfl (vr (PQ p 1) rfl) (Al f (show(AQ (AF v b (i1) true))[1]? =some (NI i1:Value)from Cg (AF v b (i1) true))) (oY (d:=89) rfl rfl (vr (.bool (false)) rfl) (Yk.move T0 (oY (d:=89) rfl rfl (vr (.bool (false)) rfl) (Yk.lenRB Ek (RB.of (hr.keep hE) (vr v rfl)) ?_))))))))))))))))))))))))))
 refine oY (d:=89) rfl rfl (vr (.bool (false)) rfl) (Yk.eqI (a:=(i1:Nat)) (b:=(b.length:Nat)) rfl rfl (BO _ _ _ _) (oS rfl (Yk.pickF (vr (.bool (false)) rfl) (vr (.bool (true)) (congrArg Value.bool (decide_eq_true (by omega)))) (oM rfl (oN (d:=98) rfl rfl rfl (vr (.bool (true)) rfl) rfl (oN (d:=98) rfl rfl rfl (vr (.bool (true)) rfl) rfl (oN (d:=98) rfl rfl rfl (vr (.bool (true)) rfl) rfl (oS rfl (Yk.pickT (vr (.bool (true)) rfl) (vr (.bool (true)) rfl) (oZ (tN (iy _ _ (wpF_true (vr (.bool (true)) rfl) (sk fun nm iz=>(wt (oS rfl (Yk.run (v:= .agg (refsC ((⟨[],[],[],zid,[]⟩,⟨.slice none 0 0, .slice none 0 0, .slice none 0 0⟩):Ah)).toArray) (by kernel_rfl) ?_)))))))))))))))))
 refine oS rfl (Yk.storeAll T2 (vr (.agg (refsC ((⟨[],[],[],zid,[]⟩,⟨.slice none 0 0, .slice none 0 0, .slice none 0 0⟩):Ah)).toArray) rfl) k (by simp only[List.size_toArray,Ao]) (AC (Ao _) Gq) (Br (x:=((⟨[],[],[],zid,[]⟩,⟨.slice none 0 0, .slice none 0 0, .slice none 0 0⟩):Ah)) rfl rfl rfl) fun i0 dg dh nn=> ?_)
 have hE:=Af hE dh (Nat.le_trans (Nat.le_refl _) (by omega))
 have hm1:=kb dh hm1 (by omega)
 clear k
 have k:i0.heap[n2]? =some (.cells (refsC ((⟨[],[],[],zid,[]⟩,⟨.slice none 0 0, .slice none 0 0, .slice none 0 0⟩):Ah)).toArray 27 (0,0)):=dg;clear dg
 have no:=bl k
 refine oA rfl (oZ (tN (iz _ _ (Am (An (Aj (fn:=Tryz.f9) _ rfl [.agg (refsC ((⟨[],[],[],zid,[]⟩,⟨.slice none 0 0, .slice none 0 0, .slice none 0 0⟩):Ah)).toArray,NI 6] (.tuple #[.agg (refsC ((⟨[],[],[],zid,[]⟩,⟨.slice none 0 0, .slice none 0 0, .slice none 0 0⟩):Ah)).toArray,NI 6]) rfl ⟨ResF.row T2 k (JZ).choose_spec rfl (AC (Ao _) Gq),rfl,trivial⟩ ?_))))))
 exact⟨_,6,rfl,⟨RG.nil _ _ _,RG.nil _ _ _,RG.nil _ _ _⟩,by rw[←hD];exact⟨rfl,rfl⟩,hE⟩
open Go.RowKit
set_option maxRecDepth 100000
set_option linter.unusedSimpArgs false
theorem Hm:AI Tryz.prog 43:=fun _ _=>by kernel_rfl
theorem EI:AI Tryz.prog 44:=fun _ _=>by kernel_rfl
theorem Pf:AI Tryz.prog 21:=fun _ _=>by kernel_rfl
theorem P1:AI Tryz.prog 4:=fun _ _=>by kernel_rfl
theorem Gw:AI Tryz.prog 6:=fun _ _=>by kernel_rfl
theorem Gx:AI Tryz.prog 5:=fun _ _=>by kernel_rfl
theorem Gy:AI Tryz.prog 7:=fun _ _=>by kernel_rfl
theorem EZ(w:World):(Instr.buildSlice 28 0 #[]).run Tryz.prog w = .ok (.slice (some ⟨w.heap.size,0,none⟩) 0 0) (w.alloc (.cells #[] 5)):=by kernel_rfl
theorem Gz:AI Tryz.prog 8:=fun _ _=>by kernel_rfl
theorem GA:AI Tryz.prog 9:=fun _ _=>by kernel_rfl
theorem FF:AI Tryz.prog 11:=fun _ _=>by kernel_rfl
theorem FG:AI Tryz.prog 10:=fun _ _=>by kernel_rfl
theorem FH:AI Tryz.prog 12:=fun _ _=>by kernel_rfl
set_option maxHeartbeats 3200000
theorem Nk(w:World)(z:Ah)(hm:RefsAt w z)(hrt:AO z.1=true):
  Calls Tryz.prog 21 #[.agg (refsC z).toArray] w fun e w' =>∃v',e = .returned v' ∧NewB 5 w w' v' (encR z.1):=by
 have hmt:=hm.branches
 have hmg:=hm.tags
 have hml:=hm.log
 have hR:=J3 hrt
 have hbl_:=hR.bl
 have htl_:=hR.tl
 have hgl_:=hR.ll
 refine As (args:= [.agg (refsC z).toArray]) Tryz.func21 rfl 100 rfl (Nat.le_of_ble_eq_true rfl) ?_
 intro c3 hb
 have o:c3 0=(.agg (refsC z).toArray:Value):=hb.get 0
 clear hb
 have hE:=Ext.refl w
 refine sk fun K1 c4=>(wt (oS rfl (Yk.box (cs:=(refsC z:List Value).toArray) o fun f w3 gg bz c5 gh=> ?_)))
 have hE:=hE.trans c5
 have c:=bz;clear bz
 have gi:f<w3.heap.size:=by omega
 refine oA rfl (oZ (tN (c4 _ _ (sk fun gj c6=>(wt (oA rfl (oZ ?_)))))))
 have hrow0:w3.ownsRow w.heap.size 5 1 (Value.slice none 0 0) ([]:List UInt8).length (Lib.byteCells ([]:List UInt8)):=World.ownsRow_nil _ _ _ 1
 have c7:Value.ownBlock (Value.slice none 0 0)≠some f:=by simp[Value.ownBlock]
 refine tN (c6 _ _ (sk fun gk c8=>(sk fun gl c9=>(wt (oA rfl (A3 [(0, .agg (refsC z).toArray),(1,PQ f 0),(2,(Value.slice none 0 0)),(3,(Value.slice none 0 0)),(4,NI 0)] ⟨o,rfl,rfl,rfl,rfl,trivial⟩ fun gm ⟨o,g,p,h,m,_⟩=>(tN (c9 _ _ (Av (A4 (fun(ρ:Au) (wz:World)=>∃i:Nat,∃vi1:Value,ρ 0=(.agg (refsC z).toArray:Value)∧ρ 1=(PQ f 0:Value)∧ρ 2=((Value.slice none 0 0):Value)∧ρ 4=(NI i:Value)∧ρ 3=(vi1:Value)∧Ext w wz∧wz.heap[f]? =some (.cells (refsC z).toArray 27 (0,0))∧wz.ownsRow w.heap.size 5 1 vi1 (lsB z.1 i:List UInt8).length (Lib.byteCells (lsB z.1 i))∧(i≤2)∧(OB vi1 f)∧True) (fun ρ _=>2-(intOf (ρ 4)).toNat) ⟨0,(Value.slice none 0 0),o,g,p,m,h,hE,c,BW hrow0 ((IT rfl).symm),Nat.zero_le _,c7,trivial⟩ ?_))))))))))
 clear hrow0
 clear hE c
 rintro b0 gn ⟨i,vi1,o,g,p,m,h,hE,c,ho_vi1,hi,hap_vi1_n2,-⟩
 have q4:=m
 have ql3:=Ec ho_vi1
 refine sk fun go b1=>(sk fun gp da=>(wt (oM rfl (oS rfl (Yk.eqI (a:=(i:Nat)) (b:=(2:Nat)) m rfl (AX _ _ _ _) (oZ (tN (da _ _ ?_))))))))
 refine AL ((i)<(2)) (vr (.bool (decide ((i)<(2)))) rfl) (fun db=> ?_) (fun db=> ?_)
 ·have h01:i=0∨i=1:=by omega
  have hll:=Hx hR i
  rcases h01 with h0 | h0
  ·have dc:=Cx (n:=z.1.branches.length) (by have:=hR.bl;omega)
   refine Aq (tN (b1 _ _ (sk fun gq dd=>(Av (sk fun gr de=>(wt (oS rfl (Yk.fieldAt L5 g (oS rfl (Yk.cell1 Fz rfl (vr (PQ f 0) rfl) (Al c (show(refsC z)[0]? =some (z.2.branches:Value)from BN z)) (oA rfl (oZ (tN (de _ _ (sk fun gs df=>(sk fun gt dg=>(wt (oM rfl (oS rfl (Yk.eqI (a:=(i:Nat)) (b:=(1:Nat)) m rfl (A2 _ _ _ _) ?_))))))))))))))))))))
   refine oZ (tN (dg _ _ (AH (vr (.bool (false)) (congrArg Value.bool (decide_eq_false (by omega)))) (Aq (tN (df _ _ (sk fun gu dh=>(wt (oM rfl (oM rfl (oS rfl (Yk.lenRG Fz (RG.of (hmt.keep hE) (vr z.2.branches rfl)) (oS rfl (Yk.callA1 Hm (vr (NI ((z.1.branches).length)) rfl) ((DO _ ((z.1.branches).length) (by omega)).mono ?_)))))))))))))))
   rintro e di ⟨dj,rfl,ag⟩
   refine⟨_,rfl,?_⟩
   have gv:=hE.size
   have hE:=hE.trans ag.ext
   have c:=eb ag.ext c
   have ho_vi1:=Stab.own _ _ _ _ _ _ _ _ ho_vi1 ag.ext
   have b2:=ag.own;clear ag
   refine oS rfl (Yk.appendRB _ _ w.heap.size (.int .u8 0) Ek Ih rfl Ek (lsB z.1 i) (Lib.uvarint ((z.1.branches).length)) (B4 ho_vi1 h) (RB.of (RB.ofOwn b2) (vr dj rfl)) (by(try simp only[List.length_append,List.length_cons,List.length_nil]);omega) hE.size fun a7 dk b3 ah=> ?_)
   have ah:Grew di dk vi1 a7:= .eqv h ah
   have dl:OB a7 f:=AU ah hap_vi1_n2 (bl c)
   have hE:=AZ hE ah ho_vi1 (Nat.le_refl _)
   have c:=AN c ah hap_vi1_n2
   clear ho_vi1
   refine oA rfl (oZ (tN (dh _ _ (sk fun gw dm=>(wt (oA rfl (A3 [(0, .agg (refsC z).toArray),(1,PQ f 0),(2,(Value.slice none 0 0)),(3,a7),(4,NI i),(5,z.2.branches),(6,NI 0),(16, .bool (false))] ⟨o,g,p,rfl,m,rfl,rfl,(congrArg Value.bool (decide_eq_false (by omega))),trivial⟩ fun gx ⟨o,g,p,h,m,t,q,u,_⟩=>(tN (dm _ _ (Av (A4 (fun(ρ:Au) (wz:World)=>∃j:Nat,∃vj1:Value,ρ 0=(.agg (refsC z).toArray:Value)∧ρ 1=(PQ f 0:Value)∧ρ 2=((Value.slice none 0 0):Value)∧ρ 4=(NI i:Value)∧ρ 5=(z.2.branches:Value)∧ρ 16=(.bool (false):Value)∧ρ 6=(NI j:Value)∧ρ 3=(vj1:Value)∧Ext w wz∧wz.heap[f]? =some (.cells (refsC z).toArray 27 (0,0))∧wz.ownsRow w.heap.size 5 1 vj1 ((lsB z.1 i++Lib.uvarint ((z.1.branches).length):List UInt8)++(z.1.branches.take j).flatMap Ci:List UInt8).length (Lib.byteCells ((lsB z.1 i++Lib.uvarint ((z.1.branches).length):List UInt8)++(z.1.branches.take j).flatMap Ci))∧(j≤z.1.branches.length)∧(OB vj1 f)∧True) (fun ρ _=>z.1.branches.length-(intOf (ρ 6)).toNat) ⟨0,a7,o,g,p,m,t,u,q,h,hE,c,BW b3 (by simp),Nat.zero_le _,dl,trivial⟩ ?_)))))))))))
   clear b2
   clear b3
   clear hE c
   rintro dn dp ⟨j,vj1,o,g,p,m,t,u,q,h,hE,c,ho_vj1,hj,hap_vj1_n2,-⟩
   have q6:=q
   have ql3:=Ec ho_vj1
   refine sk fun gy dq=>(sk fun gz dr=>(wt (oM rfl (oM rfl (oS rfl (Yk.lenRG Fz (RG.of (hmt.keep hE) t) (oS rfl (Yk.eqI (a:=(j:Nat)) (b:=((z.1.branches).length:Nat)) q rfl (AX _ _ _ _) (oZ (tN (dr _ _ ?_)))))))))))
   refine AL ((j)<((z.1.branches).length)) (vr (.bool (decide ((j)<((z.1.branches).length)))) rfl) (fun ai=> ?_) (fun ai=> ?_)
   ·have hltj:j<z.1.branches.length:=ai
    have hnl:=hR.bn _ (CB dNmd hltj)
    have htl:=Ca hnl (by omega)
    have hfl:=Gs hR.bl hR.bn j
    have hidl:(z.1.branches.getD j dNmd).id.1.length=32:=(z.1.branches.getD j dNmd).id.2
    refine Aq (tN (dq _ _ (sk fun g0 ds=>(Av (sk fun g1 dt=>(wt (oM rfl (oM rfl (oM rfl ?_)))))))))
    have g2:(nmdC ((z.1.branches).getD (j) dNmd)).length=33:=(RG.elem (hmt.keep hE) dNmd (hltj))
    refine oS rfl (Yk.atRG Fz EX (by decide) dNmd (RG.of (hmt.keep hE) t) q (hltj) fun du dv=>(oS rfl (Yk.fieldPR (n:=1) HW (PR.of dv (vr du rfl)) fun b4 bm=> ?_)))
    have bm:PCell (St (((z.1.branches).getD (j) dNmd).name)) b4 dp:=PR.pcell ((DJ ((z.1.branches).getD (j) dNmd))▸bm)
    refine oS rfl (Yk.loadC DT rfl (PCell.of bm (vr b4 rfl)) (oS rfl (Yk.callA1 EI (vr (St (((z.1.branches).getD (j) dNmd).name)) rfl) ((Fp _ (((z.1.branches).getD (j) dNmd).name) (by omega)).mono ?_))))
    rintro e dw ⟨dx,rfl,aj⟩
    refine⟨_,rfl,?_⟩
    have g3:=hE.size
    have hE:=hE.trans aj.ext
    have c:=eb aj.ext c
    have ho_vj1:=Stab.own _ _ _ _ _ _ _ _ ho_vj1 aj.ext
    have dy:=aj.own;clear aj
    refine oS rfl (Yk.appendRB _ _ w.heap.size (.int .u8 0) Ek Ih rfl Ek ((lsB z.1 i++Lib.uvarint ((z.1.branches).length):List UInt8)++(z.1.branches.take j).flatMap Ci) (Bd (((z.1.branches).getD (j) dNmd).name)) (B4 ho_vj1 h) (RB.of (RB.ofOwn dy) (vr dx rfl)) (by(try simp only[List.length_append,List.length_cons,List.length_nil]);omega) hE.size fun a8 bo bp ak=> ?_)
    have ak:Grew dw bo vj1 a8:= .eqv h ak
    have b5:OB a8 f:=AU ak hap_vj1_n2 (bl c)
    have hE:=AZ hE ak ho_vj1 (Nat.le_refl _)
    have c:=AN c ak hap_vj1_n2
    clear ho_vj1
    refine oA rfl (oZ (tN (dt _ _ (wt (oM rfl (oM rfl (oM rfl ?_)))))))
    have g4:(nmdC ((z.1.branches).getD (j) dNmd)).length=33:=(RG.elem (hmt.keep hE) dNmd (hltj))
    refine oS rfl (Yk.atRG Fz EX (by decide) dNmd (RG.of (hmt.keep hE) t) q (hltj) fun dz b6=> ?_)
    have d0:(Lib.byteCells ((z.1.branches).getD (j) dNmd).id.1).length=32:=by rw[Lib.byteCells_length,((z.1.branches).getD (j) dNmd).id.2]
    refine oS rfl (Yk.fieldPR (n:=32) HX (PR.of b6 (vr dz rfl)) fun b7 a9=> ?_)
    have a9:PR (Lib.byteCells ((z.1.branches).getD (j) dNmd).id.1) b7 bo:=(Ee ((z.1.branches).getD (j) dNmd))▸a9
    refine oS rfl (Yk.slicePR (l:=((z.1.branches).getD (j) dNmd).id.1) P8 MH (PR.of a9 (vr b7 rfl)) (Ct d0) (by decide) fun d1 b8=>(oS rfl (Yk.appendRB _ _ w.heap.size (.int .u8 0) Ek Ih rfl Ek ((lsB z.1 i++Lib.uvarint ((z.1.branches).length):List UInt8)++(z.1.branches.take j).flatMap Ci++Bd (((z.1.branches).getD (j) dNmd).name)) (((z.1.branches).getD (j) dNmd).id.1) (B4 bp (vr a8 rfl)) (RB.of b8 (vr d1 rfl)) (by(try simp only[List.length_append,List.length_cons,List.length_nil]);omega) hE.size fun ba d2 d3 al=> ?_)))
    have al:Grew bo d2 a8 ba:=al
    have d4:OB ba f:=AU al b5 (bl c)
    have hE:=AZ hE al bp (Nat.le_refl _)
    have c:=AN c al b5
    clear b6
    clear a9
    clear b8
    clear bp
    refine oA rfl (oZ (bN (tN (ds _ _ (wt (oM rfl (oS rfl (Yk.bin (xv:=NI j) (yv:=NI 1) q rfl rfl (AA _ _ _ (by omega)) (oA rfl (A3 [(0, .agg (refsC z).toArray),(1,PQ f 0),(2,(Value.slice none 0 0)),(3,ba),(4,NI i),(5,z.2.branches),(6,NI ((j)+(1))),(16, .bool (false))] ⟨o,g,p,rfl,m,t,rfl,u,trivial⟩ fun d5 ⟨o,g,p,h,m,t,q,u,_⟩=>(tN (And.intro ⟨j+1,ba,o,g,p,m,t,u,q,h,hE,c,BW d3 (by rw[CM dNmd hltj];simp only[Ci,List.append_assoc]),by omega,d4,trivial⟩ ?_))))))))))))
    show z.1.branches.length-(intOf (d5 6)).toNat<z.1.branches.length-(intOf (dn 6)).toNat
    rw[q,q6]
    simp only[intOf,Int.toNat_natCast];omega
   have hje:j=z.1.branches.length:=by omega
   refine AP (Ar (Ar (Az (bN (tN (dd _ _ (wt (oM rfl (oS rfl (Yk.bin (xv:=NI i) (yv:=NI 1) m rfl rfl (AA _ _ _ (by omega)) (oA rfl (A3 [(0, .agg (refsC z).toArray),(1,PQ f 0),(2,(Value.slice none 0 0)),(3,vj1),(4,NI ((i)+(1))),(5,z.2.branches),(6,NI j),(16, .bool (false))] ⟨o,g,p,h,rfl,t,q,u,trivial⟩ fun d6 ⟨o,g,p,h,m,t,q,u,_⟩=>(tN (And.intro ⟨i+1,vj1,o,g,p,m,h,hE,c,BW ho_vj1 (by first | (rw[IT h0,Hw (show i+1=1 by omega),hje,List.take_length];simp[Ej];done) | (rw[Hw h0,IU (show i+1=2 by omega),hje,List.take_length];simp only[Ej,List.append_assoc])),by omega,hap_vj1_n2,trivial⟩ ?_))))))))))))))
   show 2-(intOf (d6 4)).toNat<2-(intOf (b0 4)).toNat
   rw[m,q4]
   simp only[intOf,Int.toNat_natCast];omega
  have dc:=Cx (n:=z.1.tags.length) (by have:=hR.tl;omega)
  refine Aq (tN (b1 _ _ (sk fun g5 d7=>(Av (sk fun g6 d8=>(wt (oS rfl (Yk.fieldAt L5 g (oS rfl (Yk.cell1 Fz rfl (vr (PQ f 0) rfl) (Al c (show(refsC z)[0]? =some (z.2.branches:Value)from BN z)) (oA rfl (oZ (tN (d8 _ _ (sk fun g7 d9=>(sk fun g8 ea=>(wt (oM rfl (oS rfl (Yk.eqI (a:=(i:Nat)) (b:=(1:Nat)) m rfl (A2 _ _ _ _) ?_))))))))))))))))))))
  refine oZ (tN (ea _ _ (wpF_true (vr (.bool (true)) (congrArg Value.bool (decide_eq_true (by omega)))) (wt (oS rfl (Yk.fieldAt L6 g (oS rfl (Yk.cell1 Fz rfl (vr (PQ f 1) rfl) (Al c (show(refsC z)[1]? =some (z.2.tags:Value)from B6 z)) (oA rfl (oZ (tN (d9 _ _ (sk fun g9 ec=>(wt (oM rfl (oM rfl (oS rfl (Yk.lenRG Fz (RG.of (hmg.keep hE) (vr z.2.tags rfl)) (oS rfl (Yk.callA1 Hm (vr (NI ((z.1.tags).length)) rfl) ((DO _ ((z.1.tags).length) (by omega)).mono ?_)))))))))))))))))))))
  rintro e ed ⟨ee,rfl,am⟩
  refine⟨_,rfl,?_⟩
  have ha:=hE.size
  have hE:=hE.trans am.ext
  have c:=eb am.ext c
  have ho_vi1:=Stab.own _ _ _ _ _ _ _ _ ho_vi1 am.ext
  have b9:=am.own;clear am
  refine oS rfl (Yk.appendRB _ _ w.heap.size (.int .u8 0) Ek Ih rfl Ek (lsB z.1 i) (Lib.uvarint ((z.1.tags).length)) (B4 ho_vi1 h) (RB.of (RB.ofOwn b9) (vr ee rfl)) (by(try simp only[List.length_append,List.length_cons,List.length_nil]);omega) hE.size fun bb ef ca an=> ?_)
  have an:Grew ed ef vi1 bb:= .eqv h an
  have eg:OB bb f:=AU an hap_vi1_n2 (bl c)
  have hE:=AZ hE an ho_vi1 (Nat.le_refl _)
  have c:=AN c an hap_vi1_n2
  clear ho_vi1
  refine oA rfl (oZ (tN (ec _ _ (sk fun hc eh=>(wt (oA rfl (A3 [(0, .agg (refsC z).toArray),(1,PQ f 0),(2,(Value.slice none 0 0)),(3,bb),(4,NI i),(5,z.2.tags),(6,NI 0),(16, .bool (true))] ⟨o,g,p,rfl,m,rfl,rfl,(congrArg Value.bool (decide_eq_true (by omega))),trivial⟩ fun he ⟨o,g,p,h,m,t,q,u,_⟩=>(tN (eh _ _ (Av (A4 (fun(ρ:Au) (wz:World)=>∃j:Nat,∃vj1:Value,ρ 0=(.agg (refsC z).toArray:Value)∧ρ 1=(PQ f 0:Value)∧ρ 2=((Value.slice none 0 0):Value)∧ρ 4=(NI i:Value)∧ρ 5=(z.2.tags:Value)∧ρ 16=(.bool (true):Value)∧ρ 6=(NI j:Value)∧ρ 3=(vj1:Value)∧Ext w wz∧wz.heap[f]? =some (.cells (refsC z).toArray 27 (0,0))∧wz.ownsRow w.heap.size 5 1 vj1 ((lsB z.1 i++Lib.uvarint ((z.1.tags).length):List UInt8)++(z.1.tags.take j).flatMap Ci:List UInt8).length (Lib.byteCells ((lsB z.1 i++Lib.uvarint ((z.1.tags).length):List UInt8)++(z.1.tags.take j).flatMap Ci))∧(j≤z.1.tags.length)∧(OB vj1 f)∧True) (fun ρ _=>z.1.tags.length-(intOf (ρ 6)).toNat) ⟨0,bb,o,g,p,m,t,u,q,h,hE,c,BW ca (by simp),Nat.zero_le _,eg,trivial⟩ ?_)))))))))))
  clear b9
  clear ca
  clear hE c
  rintro ei ej ⟨j,vj1,o,g,p,m,t,u,q,h,hE,c,ho_vj1,hj,hap_vj1_n2,-⟩
  have q6:=q
  have ql3:=Ec ho_vj1
  refine sk fun hf el=>(sk fun hg em=>(wt (oM rfl (oM rfl (oS rfl (Yk.lenRG Fz (RG.of (hmg.keep hE) t) (oS rfl (Yk.eqI (a:=(j:Nat)) (b:=((z.1.tags).length:Nat)) q rfl (AX _ _ _ _) (oZ (tN (em _ _ ?_)))))))))))
  refine AL ((j)<((z.1.tags).length)) (vr (.bool (decide ((j)<((z.1.tags).length)))) rfl) (fun ai=> ?_) (fun ai=> ?_)
  ·have hltj:j<z.1.tags.length:=ai
   have hnl:=hR.tn _ (CB dNmd hltj)
   have htl:=Ca hnl (by omega)
   have hfl:=Gs hR.tl hR.tn j
   have hidl:(z.1.tags.getD j dNmd).id.1.length=32:=(z.1.tags.getD j dNmd).id.2
   refine Aq (tN (el _ _ (sk fun hh en=>(Av (sk fun hl eo=>(wt (oM rfl (oM rfl (oM rfl ?_)))))))))
   have hn:(nmdC ((z.1.tags).getD (j) dNmd)).length=33:=(RG.elem (hmg.keep hE) dNmd (hltj))
   refine oS rfl (Yk.atRG Fz EX (by decide) dNmd (RG.of (hmg.keep hE) t) q (hltj) fun ep eq=>(oS rfl (Yk.fieldPR (n:=1) HW (PR.of eq (vr ep rfl)) fun cb bq=> ?_)))
   have bq:PCell (St (((z.1.tags).getD (j) dNmd).name)) cb ej:=PR.pcell ((DJ ((z.1.tags).getD (j) dNmd))▸bq)
   refine oS rfl (Yk.loadC DT rfl (PCell.of bq (vr cb rfl)) (oS rfl (Yk.callA1 EI (vr (St (((z.1.tags).getD (j) dNmd).name)) rfl) ((Fp _ (((z.1.tags).getD (j) dNmd).name) (by omega)).mono ?_))))
   rintro e er ⟨es,rfl,ao⟩
   refine⟨_,rfl,?_⟩
   have ho:=hE.size
   have hE:=hE.trans ao.ext
   have c:=eb ao.ext c
   have ho_vj1:=Stab.own _ _ _ _ _ _ _ _ ho_vj1 ao.ext
   have et:=ao.own;clear ao
   refine oS rfl (Yk.appendRB _ _ w.heap.size (.int .u8 0) Ek Ih rfl Ek ((lsB z.1 i++Lib.uvarint ((z.1.tags).length):List UInt8)++(z.1.tags.take j).flatMap Ci) (Bd (((z.1.tags).getD (j) dNmd).name)) (B4 ho_vj1 h) (RB.of (RB.ofOwn et) (vr es rfl)) (by(try simp only[List.length_append,List.length_cons,List.length_nil]);omega) hE.size fun bc br bs ap=> ?_)
   have ap:Grew er br vj1 bc:= .eqv h ap
   have cc:OB bc f:=AU ap hap_vj1_n2 (bl c)
   have hE:=AZ hE ap ho_vj1 (Nat.le_refl _)
   have c:=AN c ap hap_vj1_n2
   clear ho_vj1
   refine oA rfl (oZ (tN (eo _ _ (wt (oM rfl (oM rfl (oM rfl ?_)))))))
   have hp:(nmdC ((z.1.tags).getD (j) dNmd)).length=33:=(RG.elem (hmg.keep hE) dNmd (hltj))
   refine oS rfl (Yk.atRG Fz EX (by decide) dNmd (RG.of (hmg.keep hE) t) q (hltj) fun eu cd=> ?_)
   have ew:(Lib.byteCells ((z.1.tags).getD (j) dNmd).id.1).length=32:=by rw[Lib.byteCells_length,((z.1.tags).getD (j) dNmd).id.2]
   refine oS rfl (Yk.fieldPR (n:=32) HX (PR.of cd (vr eu rfl)) fun ce bd=> ?_)
   have bd:PR (Lib.byteCells ((z.1.tags).getD (j) dNmd).id.1) ce br:=(Ee ((z.1.tags).getD (j) dNmd))▸bd
   refine oS rfl (Yk.slicePR (l:=((z.1.tags).getD (j) dNmd).id.1) P8 MH (PR.of bd (vr ce rfl)) (Ct ew) (by decide) fun ex cf=>(oS rfl (Yk.appendRB _ _ w.heap.size (.int .u8 0) Ek Ih rfl Ek ((lsB z.1 i++Lib.uvarint ((z.1.tags).length):List UInt8)++(z.1.tags.take j).flatMap Ci++Bd (((z.1.tags).getD (j) dNmd).name)) (((z.1.tags).getD (j) dNmd).id.1) (B4 bs (vr bc rfl)) (RB.of cf (vr ex rfl)) (by(try simp only[List.length_append,List.length_cons,List.length_nil]);omega) hE.size fun be ey ez aq=> ?_)))
   have aq:Grew br ey bc be:=aq
   have e0:OB be f:=AU aq cc (bl c)
   have hE:=AZ hE aq bs (Nat.le_refl _)
   have c:=AN c aq cc
   clear cd
   clear bd
   clear cf
   clear bs
   refine oA rfl (oZ (bN (tN (en _ _ (wt (oM rfl (oS rfl (Yk.bin (xv:=NI j) (yv:=NI 1) q rfl rfl (AA _ _ _ (by omega)) (oA rfl (A3 [(0, .agg (refsC z).toArray),(1,PQ f 0),(2,(Value.slice none 0 0)),(3,be),(4,NI i),(5,z.2.tags),(6,NI ((j)+(1))),(16, .bool (true))] ⟨o,g,p,rfl,m,t,rfl,u,trivial⟩ fun e1 ⟨o,g,p,h,m,t,q,u,_⟩=>(tN (And.intro ⟨j+1,be,o,g,p,m,t,u,q,h,hE,c,BW ez (by rw[CM dNmd hltj];simp only[Ci,List.append_assoc]),by omega,e0,trivial⟩ ?_))))))))))))
   show z.1.tags.length-(intOf (e1 6)).toNat<z.1.tags.length-(intOf (ei 6)).toNat
   rw[q,q6]
   simp only[intOf,Int.toNat_natCast];omega
  have hje:j=z.1.tags.length:=by omega
  refine AP (Ar (Ar (Az (bN (tN (d7 _ _ (wt (oM rfl (oS rfl (Yk.bin (xv:=NI i) (yv:=NI 1) m rfl rfl (AA _ _ _ (by omega)) (oA rfl (A3 [(0, .agg (refsC z).toArray),(1,PQ f 0),(2,(Value.slice none 0 0)),(3,vj1),(4,NI ((i)+(1))),(5,z.2.tags),(6,NI j),(16, .bool (true))] ⟨o,g,p,h,rfl,t,q,u,trivial⟩ fun e2 ⟨o,g,p,h,m,t,q,u,_⟩=>(tN (And.intro ⟨i+1,vj1,o,g,p,m,h,hE,c,BW ho_vj1 (by first | (rw[IT h0,Hw (show i+1=1 by omega),hje,List.take_length];simp[Ej];done) | (rw[Hw h0,IU (show i+1=2 by omega),hje,List.take_length];simp only[Ej,List.append_assoc])),by omega,hap_vj1_n2,trivial⟩ ?_))))))))))))))
  show 2-(intOf (e2 4)).toNat<2-(intOf (b0 4)).toNat
  rw[m,q4]
  simp only[intOf,Int.toNat_natCast];omega
 have hie:i=2:=by omega
 have hll:=Hx hR i
 have hhd:=hR.hd
 have htl:=Ca hhd (by omega)
 have hul:=Cx (n:=z.1.log.length) (by have:=hR.ll;omega)
 have hal:z.1.at_.1.length=32:=z.1.at_.2
 refine AP (Ar (Ar (Az (tN (c8 _ _ (sk fun hq e3=>(wt (oM rfl (oS rfl (Yk.fieldAt HY g (oS rfl (Yk.cell1 DT rfl (vr (PQ f 2) rfl) (Al c (show(refsC z)[2]? =some (St (z.1.head):Value)from Cq z)) (oS rfl (Yk.callA1 EI (vr (St (z.1.head)) rfl) ((Fp _ z.1.head (by omega)).mono ?_)))))))))))))))
 rintro e e4 ⟨e5,rfl,ar⟩
 refine⟨_,rfl,?_⟩
 have hr:=hE.size
 have hE:=hE.trans ar.ext
 have c:=eb ar.ext c
 have ho_vi1:=Stab.own _ _ _ _ _ _ _ _ ho_vi1 ar.ext
 have cg:=ar.own;clear ar
 refine oS rfl (Yk.appendRB _ _ w.heap.size (.int .u8 0) Ek Ih rfl Ek (lsB z.1 i) (Bd z.1.head) (B4 ho_vi1 h) (RB.of (RB.ofOwn cg) (vr e5 rfl)) (by(try simp only[List.length_append,List.length_cons,List.length_nil]);omega) hE.size fun bf ch bt au=> ?_)
 have au:Grew e4 ch vi1 bf:= .eqv h au
 have ci:OB bf f:=AU au hap_vi1_n2 (bl c)
 have hE:=AZ hE au ho_vi1 (Nat.le_refl _)
 have c:=AN c au hap_vi1_n2
 clear ho_vi1
 refine oA rfl (oZ (tN (e3 _ _ (sk fun hs e6=>(wt (oM rfl (oS rfl (Yk.fieldAt H0 g (oS rfl (Yk.slicePR (l:=z.1.at_.1) P8 MH (PR.blk c (B7 z) (Cm z) (vr (PQ f 3) rfl)) z.1.at_.2 (by decide) fun e7 cj=>(oS rfl (Yk.appendRB _ _ w.heap.size (.int .u8 0) Ek Ih rfl Ek (lsB z.1 i++Bd z.1.head) (z.1.at_.1) (B4 bt (vr bf rfl)) (RB.of cj (vr e7 rfl)) (by(try simp only[List.length_append,List.length_cons,List.length_nil]);omega) hE.size fun bg e8 av aw=> ?_))))))))))))
 have aw:Grew ch e8 bf bg:=aw
 have ck:OB bg f:=AU aw ci (bl c)
 have hE:=AZ hE aw bt (Nat.le_refl _)
 have c:=AN c aw ci
 clear cj
 clear bt
 refine oA rfl (oZ (tN (e6 _ _ (sk fun ht e9=>(wt (oM rfl (oS rfl (Yk.fieldAt Eo g (oS rfl (Yk.cell1 EA rfl (vr (PQ f 35) rfl) (Al c (show(refsC z)[35]? =some (z.2.log:Value)from Bn z)) (oS rfl (Yk.lenRG EA (RG.of (hml.keep hE) (vr z.2.log rfl)) (oS rfl (Yk.callA1 Hm (vr (NI ((z.1.log).length)) rfl) ((DO _ ((z.1.log).length) (by omega)).mono ?_)))))))))))))))
 rintro e fa ⟨fb,rfl,ax⟩
 refine⟨_,rfl,?_⟩
 have hu:=hE.size
 have hE:=hE.trans ax.ext
 have c:=eb ax.ext c
 have av:=Stab.own _ _ _ _ _ _ _ _ av ax.ext
 have cl:=ax.own;clear ax
 refine oS rfl (Yk.appendRB _ _ w.heap.size (.int .u8 0) Ek Ih rfl Ek (lsB z.1 i++Bd z.1.head++z.1.at_.1) (Lib.uvarint ((z.1.log).length)) (B4 av (vr bg rfl)) (RB.of (RB.ofOwn cl) (vr fb rfl)) (by(try simp only[List.length_append,List.length_cons,List.length_nil]);omega) hE.size fun bh fc cm ay=> ?_)
 have ay:Grew fa fc bg bh:=ay
 have fd:OB bh f:=AU ay ck (bl c)
 have hE:=AZ hE ay av (Nat.le_refl _)
 have c:=AN c ay ck
 clear av
 refine oA rfl (oZ (tN (e9 _ _ (sk fun hv fe=>(sk fun hw ff=>(wt (oA rfl (A3 [(0, .agg (refsC z).toArray),(1,PQ f 0),(2,(Value.slice none 0 0)),(3,bh),(4,NI i),(7,NI 0)] ⟨o,g,p,rfl,m,rfl,trivial⟩ fun hx ⟨o,g,p,h,m,v,_⟩=>(tN (ff _ _ (Av (A4 (fun(ρ:Au) (wz:World)=>∃k:Nat,∃vk1:Value,ρ 0=(.agg (refsC z).toArray:Value)∧ρ 1=(PQ f 0:Value)∧ρ 2=((Value.slice none 0 0):Value)∧ρ 4=(NI i:Value)∧ρ 7=(NI k:Value)∧ρ 3=(vk1:Value)∧Ext w wz∧wz.heap[f]? =some (.cells (refsC z).toArray 27 (0,0))∧wz.ownsRow w.heap.size 5 1 vk1 ((lsB z.1 i++Bd z.1.head++z.1.at_.1++Lib.uvarint ((z.1.log).length):List UInt8)++(z.1.log.take k).flatMap Co:List UInt8).length (Lib.byteCells ((lsB z.1 i++Bd z.1.head++z.1.at_.1++Lib.uvarint ((z.1.log).length):List UInt8)++(z.1.log.take k).flatMap Co))∧(k≤z.1.log.length)∧(OB vk1 f)∧True) (fun ρ _=>z.1.log.length-(intOf (ρ 7)).toNat) ⟨0,bh,o,g,p,m,v,h,hE,c,BW cm (by simp),Nat.zero_le _,fd,trivial⟩ ?_))))))))))))
 clear cg
 clear cl
 clear cm
 clear hE c
 rintro fg fh ⟨k,vk1,o,g,p,m,v,h,hE,c,ho_vk1,hk,hap_vk1_n2,-⟩
 have q7:=v
 have ql3:=Ec ho_vk1
 refine sk fun hy fi=>(sk fun hz fj=>(wt (oM rfl (oS rfl (Yk.fieldAt Eo g (oS rfl (Yk.cell1 EA rfl (vr (PQ f 35) rfl) (Al c (show(refsC z)[35]? =some (z.2.log:Value)from Bn z)) (oS rfl (Yk.lenRG EA (RG.of (hml.keep hE) (vr z.2.log rfl)) (oS rfl (Yk.eqI (a:=(k:Nat)) (b:=((z.1.log).length:Nat)) v rfl (AX _ _ _ _) (oZ (tN (fj _ _ ?_))))))))))))))
 refine AL ((k)<((z.1.log).length)) (vr (.bool (decide ((k)<((z.1.log).length)))) rfl) (fun cn=> ?_) (fun cn=> ?_)
 ·have hltk:k<z.1.log.length:=cn
  have hnn:=hR.ln _ (CB Ad hltk)
  have hkn:=hnn.1
  have hkm:=hnn.2
  have ht1:=Ca hkn (by omega)
  have ht2:=Ca hkm (by omega)
  have hfl:=Ly hR k
  have hol:(z.1.log.getD k Ad).old.1.length=32:=(z.1.log.getD k Ad).old.2
  have hnl:(z.1.log.getD k Ad).new.1.length=32:=(z.1.log.getD k Ad).new.2
  refine Aq (tN (fi _ _ (sk fun h1 fk=>(Av (sk fun h2 fl=>(wt (oS rfl (Yk.fieldAt Eo g (oS rfl (Yk.cell1 EA rfl (vr (PQ f 35) rfl) (Al c (show(refsC z)[35]? =some (z.2.log:Value)from Bn z)) (oM rfl ?_)))))))))))
  have h3:(entC ((z.1.log).getD (k) Ad)).length=67:=(RG.elem (hml.keep hE) Ad (hltk))
  refine oS rfl (Yk.atRG EA MM (by decide) Ad (RG.of (hml.keep hE) (vr z.2.log rfl)) v (hltk) fun fm co=>(oS rfl (Yk.loadPR (PR.of co (vr fm rfl)) (NH).choose_spec rfl (by rw[Bp];exact Iy) (oS rfl (Yk.alloc (cs:=(entC (⟨0,[],zid,zid,[]⟩:AM)).toArray) NJ fun s fo fp cp bi h4=> ?_)))))
  have ac:=Ext.refl fh
  have fq:=hE.size
  have h5:=Bc (bl c) fp
  have bu:OB vk1 s:=CY ho_vk1 (by omega)
  have hE:=hE.trans bi
  have c:=eb bi c
  have ho_vk1:=Stab.own _ _ _ _ _ _ _ _ ho_vk1 bi
  have ac:=ac.trans bi
  have r:=cp;clear cp
  have h6:s<fo.heap.size:=by omega
  refine oS rfl (Yk.storeAll (vr (PQ s 0) rfl) (vr (.agg (entC ((z.1.log).getD (k) Ad)).toArray) rfl) r (by simp only[List.size_toArray,Bp]) (AC (Bp _) Iy) (C7 (x:=((z.1.log).getD (k) Ad))) fun fr cq bj h7=> ?_)
  have hE:=Af hE bj (Nat.le_trans fq (by omega))
  have c:=kb bj c (by omega)
  have ho_vk1:=Df ho_vk1 bj bu
  have ac:=Af ac bj (Nat.le_trans (Nat.le_refl _) (by omega))
  clear r
  have r:fr.heap[s]? =some (.cells (entC ((z.1.log).getD (k) Ad)).toArray 50 (0,0)):=cq;clear cq
  have h8:=bl r
  refine oZ ?_
  clear co
  refine tN (fl _ _ (sk fun h9 fs=>(wt (oM rfl (oS rfl (Yk.fieldAt HN (vr (PQ s 0) rfl) (oS rfl (Yk.fieldAt LW (vr (PQ s 0) rfl) (oS rfl (Yk.cell1 u5 rfl (vr (PQ s 0) rfl) (Al r (show(entC ((z.1.log).getD (k) Ad))[0]? =some (B8 ((((z.1.log).getD (k) Ad)).kind):Value)from GP ((z.1.log).getD (k) Ad))) (oS rfl (Yk.lit1 (b:=(((z.1.log).getD (k) Ad)).kind) M7 (vr (B8 ((((z.1.log).getD (k) Ad)).kind)) rfl) fun ft fu ad=> ?_))))))))))))
  have ia:=hE.size
  have ib:=ac.size
  have hE:=hE.trans ad.ext
  have c:=eb ad.ext c
  have ho_vk1:=Stab.own _ _ _ _ _ _ _ _ ho_vk1 ad.ext
  have r:=eb ad.ext r
  have fv:=ad.own;clear ad
  refine oS rfl (Yk.appendRB _ _ w.heap.size (.int .u8 0) Ek Ih rfl Ek ((lsB z.1 i++Bd z.1.head++z.1.at_.1++Lib.uvarint ((z.1.log).length):List UInt8)++(z.1.log.take k).flatMap Co) ([((((z.1.log).getD (k) Ad)).kind:UInt8)]) (B4 ho_vk1 h) (RB.of (RB.ofOwn fv) (vr ft rfl)) (by(try simp only[List.length_append,List.length_cons,List.length_nil]);omega) hE.size fun az fw a0 y=> ?_)
  have y:Grew fu fw vk1 az:= .eqv h y
  have cr:OB az f:=AU y hap_vk1_n2 (bl c)
  have ct:OB az s:=AU y bu (bl r)
  have hE:=AZ hE y ho_vk1 (Nat.le_refl _)
  have c:=AN c y hap_vk1_n2
  clear ac
  have r:=AN r y bu
  clear ho_vk1
  refine oA rfl (oZ (tN (fs _ _ (sk fun ic fx=>(wt (oM rfl (oS rfl (Yk.fieldAt HN (vr (PQ s 0) rfl) (oS rfl (Yk.fieldAt LY (vr (PQ s 0) rfl) (oS rfl (Yk.cell1 DT rfl (vr (PQ s 1) rfl) (Al r (show(entC ((z.1.log).getD (k) Ad))[1]? =some (St ((((z.1.log).getD (k) Ad)).name):Value)from Il ((z.1.log).getD (k) Ad))) (oS rfl (Yk.callA1 EI (vr (St ((((z.1.log).getD (k) Ad)).name)) rfl) ((Fp _ ((((z.1.log).getD (k) Ad)).name) (by omega)).mono ?_)))))))))))))))
  rintro e fy ⟨fz,rfl,ae⟩
  refine⟨_,rfl,?_⟩
  have ie:=hE.size
  have hE:=hE.trans ae.ext
  have c:=eb ae.ext c
  have r:=eb ae.ext r
  have a0:=Stab.own _ _ _ _ _ _ _ _ a0 ae.ext
  have f0:=ae.own;clear ae
  refine oS rfl (Yk.appendRB _ _ w.heap.size (.int .u8 0) Ek Ih rfl Ek ((lsB z.1 i++Bd z.1.head++z.1.at_.1++Lib.uvarint ((z.1.log).length):List UInt8)++(z.1.log.take k).flatMap Co++ [((((z.1.log).getD (k) Ad)).kind:UInt8)]) (Bd ((((z.1.log).getD (k) Ad)).name)) (B4 a0 (vr az rfl)) (RB.of (RB.ofOwn f0) (vr fz rfl)) (by(try simp only[List.length_append,List.length_cons,List.length_nil]);omega) hE.size fun a1 cu bv aa=> ?_)
  have aa:Grew fy cu az a1:=aa
  have cv:OB a1 f:=AU aa cr (bl c)
  have cw:OB a1 s:=AU aa ct (bl r)
  have hE:=AZ hE aa a0 (Nat.le_refl _)
  have c:=AN c aa cr
  have r:=AN r aa ct
  clear a0
  refine oA rfl (oZ (tN (fx _ _ (sk fun ig f1=>(wt (oM rfl (oS rfl (Yk.fieldAt HN (vr (PQ s 0) rfl) (oS rfl (Yk.fieldAt HU (vr (PQ s 0) rfl) (oS rfl (Yk.slicePR (l:=(((z.1.log).getD (k) Ad)).old.1) P8 MH (PR.blk r (FU ((z.1.log).getD (k) Ad)) (GQ ((z.1.log).getD (k) Ad)) (vr (PQ s 2) rfl)) (((z.1.log).getD (k) Ad)).old.2 (by decide) fun f2 cx=>(oS rfl (Yk.appendRB _ _ w.heap.size (.int .u8 0) Ek Ih rfl Ek ((lsB z.1 i++Bd z.1.head++z.1.at_.1++Lib.uvarint ((z.1.log).length):List UInt8)++(z.1.log.take k).flatMap Co++ [((((z.1.log).getD (k) Ad)).kind:UInt8)]++Bd ((((z.1.log).getD (k) Ad)).name)) ((((z.1.log).getD (k) Ad)).old.1) (B4 bv (vr a1 rfl)) (RB.of cx (vr f2 rfl)) (by(try simp only[List.length_append,List.length_cons,List.length_nil]);omega) hE.size fun a2 cy bw ab=> ?_))))))))))))))
  have ab:Grew cu cy a1 a2:=ab
  have cz:OB a2 f:=AU ab cv (bl c)
  have f3:OB a2 s:=AU ab cw (bl r)
  have hE:=AZ hE ab bv (Nat.le_refl _)
  have c:=AN c ab cv
  have r:=AN r ab cw
  clear cx
  clear bv
  refine oA rfl (oZ (tN (f1 _ _ (sk fun ih f4=>(wt (oM rfl (oS rfl (Yk.fieldAt HN (vr (PQ s 0) rfl) (oS rfl (Yk.fieldAt HV (vr (PQ s 0) rfl) (oS rfl (Yk.slicePR (l:=(((z.1.log).getD (k) Ad)).new.1) P8 MH (PR.blk r (FW ((z.1.log).getD (k) Ad)) (GR ((z.1.log).getD (k) Ad)) (vr (PQ s 34) rfl)) (((z.1.log).getD (k) Ad)).new.2 (by decide) fun f5 c0=>(oS rfl (Yk.appendRB _ _ w.heap.size (.int .u8 0) Ek Ih rfl Ek ((lsB z.1 i++Bd z.1.head++z.1.at_.1++Lib.uvarint ((z.1.log).length):List UInt8)++(z.1.log.take k).flatMap Co++ [((((z.1.log).getD (k) Ad)).kind:UInt8)]++Bd ((((z.1.log).getD (k) Ad)).name)++(((z.1.log).getD (k) Ad)).old.1) ((((z.1.log).getD (k) Ad)).new.1) (B4 bw (vr a2 rfl)) (RB.of c0 (vr f5 rfl)) (by(try simp only[List.length_append,List.length_cons,List.length_nil]);omega) hE.size fun bk f6 a3 af=> ?_))))))))))))))
  have af:Grew cy f6 a2 bk:=af
  have c1:OB bk f:=AU af cz (bl c)
  have hE:=AZ hE af bw (Nat.le_refl _)
  have c:=AN c af cz
  have r:=AN r af f3
  clear c0
  clear bw
  refine oA rfl (oZ (tN (f4 _ _ (wt (oM rfl (oS rfl (Yk.fieldAt LX (vr (PQ s 0) rfl) (oS rfl (Yk.cell1 DT rfl (vr (PQ s 66) rfl) (Al r (show(entC ((z.1.log).getD (k) Ad))[66]? =some (St ((((z.1.log).getD (k) Ad)).note):Value)from Fg ((z.1.log).getD (k) Ad))) (oS rfl (Yk.callA1 EI (vr (St ((((z.1.log).getD (k) Ad)).note)) rfl) ((Fp _ ((((z.1.log).getD (k) Ad)).note) (by omega)).mono ?_))))))))))))
  rintro e f7 ⟨f8,rfl,a4⟩
  refine⟨_,rfl,?_⟩
  have ii:=hE.size
  have hE:=hE.trans a4.ext
  have c:=eb a4.ext c
  have a3:=Stab.own _ _ _ _ _ _ _ _ a3 a4.ext
  have f9:=a4.own;clear a4
  refine oS rfl (Yk.appendRB _ _ w.heap.size (.int .u8 0) Ek Ih rfl Ek ((lsB z.1 i++Bd z.1.head++z.1.at_.1++Lib.uvarint ((z.1.log).length):List UInt8)++(z.1.log.take k).flatMap Co++ [((((z.1.log).getD (k) Ad)).kind:UInt8)]++Bd ((((z.1.log).getD (k) Ad)).name)++(((z.1.log).getD (k) Ad)).old.1++(((z.1.log).getD (k) Ad)).new.1) (Bd ((((z.1.log).getD (k) Ad)).note)) (B4 a3 (vr bk rfl)) (RB.of (RB.ofOwn f9) (vr f8 rfl)) (by(try simp only[List.length_append,List.length_cons,List.length_nil]);omega) hE.size fun a5 ga gb a6=> ?_)
  have a6:Grew f7 ga bk a5:=a6
  have gc:OB a5 f:=AU a6 c1 (bl c)
  have hE:=AZ hE a6 a3 (Nat.le_refl _)
  have c:=AN c a6 c1
  clear a3
  refine oA rfl (A3 [(0, .agg (refsC z).toArray),(1,PQ f 0),(2,(Value.slice none 0 0)),(3,a5),(4,NI i),(7,NI k),(8,PQ s 0)] ⟨o,g,p,rfl,m,v,rfl,trivial⟩ fun ij ⟨o,g,p,h,m,v,T8,_⟩=>(bN (tN (fk _ _ (wt (oM rfl (oS rfl (Yk.bin (xv:=NI k) (yv:=NI 1) v rfl rfl (AA _ _ _ (by omega)) (oA rfl (A3 [(0, .agg (refsC z).toArray),(1,PQ f 0),(2,(Value.slice none 0 0)),(3,a5),(4,NI i),(7,NI ((k)+(1))),(8,PQ s 0)] ⟨o,g,p,h,m,rfl,T8,trivial⟩ fun gd ⟨o,g,p,h,m,v,T8,_⟩=>(tN (And.intro ⟨k+1,a5,o,g,p,m,v,h,hE,c,BW gb (by rw[CM Ad hltk];simp only[Co,List.append_assoc]),by omega,gc,trivial⟩ ?_))))))))))))
  show z.1.log.length-(intOf (gd 7)).toNat<z.1.log.length-(intOf (fg 7)).toNat
  rw[v,q7]
  simp only[intOf,Int.toNat_natCast];omega
 have hke:k=z.1.log.length:=by omega
 refine AP (Ar (Ar (Az (tN (fe _ _ (sk fun ik ge=>(wt (oM rfl (oA rfl (oZ (tN (ge _ _ (Am (Aj (fn:=Tryz.f21) _ rfl [vk1] (vk1) rfl ⟨h,trivial⟩ ?_))))))))))))))
 have hen:(lsB z.1 i++Bd z.1.head++z.1.at_.1++Lib.uvarint ((z.1.log).length):List UInt8)++(z.1.log.take k).flatMap Co=encR z.1:=by rw[IU hie,hke,List.take_length];simp only[encR,List.append_assoc]
 exact⟨_,rfl,hen▸(⟨Bg ho_vk1 (by omega),hE.grown⟩:NewB _ w _ _ _)⟩

theorem H4(w:World)(z:Ah)(hm:RefsAt w z)(hL:By z.1):
  Calls Tryz.prog 7 #[.agg (refsC z).toArray] w fun e w' =>∃v,e = .returned (.tuple #[v,NI (if AO z.1=true then 0 else 1)])∧RB w' v (if AO z.1=true then encR z.1 else [])∧Ext w w' :=by
 have hmt:=hm.branches
 have hmg:=hm.tags
 have hml:=hm.log
 refine As (args:= [.agg (refsC z).toArray]) Tryz.func7 rfl 9 rfl (Nat.le_of_ble_eq_true rfl) ?_
 intro m hb
 have n:m 0=(.agg (refsC z).toArray:Value):=hb.get 0
 clear hb
 have hE:=Ext.refl w
 refine sk fun y g=>(wt (oS rfl (Yk.box (cs:=(refsC z:List Value).toArray) n fun b o aa i p ab=> ?_)))
 have hE:=hE.trans p
 have a:=i;clear i
 have ac:b<o.heap.size:=by omega
 refine oA rfl (oA rfl (oZ ?_))
 cases hR:AO z.1
 ·refine tN (g _ _ (sk fun ad ae=>(sk fun af q=>(wt (oS rfl (Yk.loadAll (vr (PQ b 0) rfl) a (JZ).choose_spec rfl (AC (Ao z) Gq) (oS rfl (Yk.callA1 Kf (vr (.agg (refsC z).toArray) rfl) (((show Calls _ _ _ _ (fun e c=>e = .returned (.bool false)∧Ext _ c)from by have h:=Es _ z ⟨(hmt.keep hE),(hmg.keep hE),(hml.keep hE)⟩ hL;rw[hR]at h;exact h)).mono ?_)))))))))
  rintro e ag ⟨rfl,j⟩
  refine⟨_,rfl,?_⟩
  have hE:=hE.trans j
  have a:=eb j a
  refine oS rfl (Yk.notB (vr (.bool (false)) rfl) (oZ (tN (q _ _ (wpF_true (vr (.bool (true)) rfl) (sk fun ah r=>(wt (oA rfl (oA rfl (oZ (tN (r _ _ (Am (An (Aj (fn:=Tryz.f7) _ rfl [(Value.slice none 0 0),NI 1] (.tuple #[(Value.slice none 0 0),NI 1]) rfl ⟨rfl,rfl,trivial⟩ ?_)))))))))))))))
  exact⟨_,by rw[if_neg (by rw[hR];decide)],by rw[if_neg (by rw[hR];decide)];exact RB.nil _,hE⟩
 refine tN (g _ _ (sk fun ai s=>(sk fun aj t=>(wt (oS rfl (Yk.loadAll (vr (PQ b 0) rfl) a (JZ).choose_spec rfl (AC (Ao z) Gq) (oS rfl (Yk.callA1 Kf (vr (.agg (refsC z).toArray) rfl) (((show Calls _ _ _ _ (fun e c=>e = .returned (.bool true)∧Ext _ c)from by have h:=Es _ z ⟨(hmt.keep hE),(hmg.keep hE),(hml.keep hE)⟩ hL;rw[hR]at h;exact h)).mono ?_)))))))))
 rintro e ak ⟨rfl,k⟩
 refine⟨_,rfl,?_⟩
 have hE:=hE.trans k
 have a:=eb k a
 refine oS rfl (Yk.notB (vr (.bool (true)) rfl) (oZ (tN (t _ _ (AH (vr (.bool (false)) rfl) (Aq (tN (s _ _ (sk fun al u=>(wt (oS rfl (Yk.loadAll (vr (PQ b 0) rfl) a (JZ).choose_spec rfl (AC (Ao z) Gq) (oS rfl (Yk.callA1 Pf (vr (.agg (refsC z).toArray) rfl) ((Nk _ z ⟨(hmt.keep hE),(hmg.keep hE),(hml.keep hE)⟩ hR).mono ?_)))))))))))))))
 rintro e am ⟨l,rfl,f⟩
 refine⟨_,rfl,?_⟩
 have an:=hE.size
 have hE:=hE.trans f.ext
 have x:=f.own;clear f
 refine oA rfl (oA rfl (oZ (tN (u _ _ (Am (Aj (fn:=Tryz.f7) _ rfl [l,NI 0] (.tuple #[l,NI 0]) rfl ⟨rfl,rfl,trivial⟩ ?_))))))
 exact⟨_,by rw[if_pos hR],by rw[if_pos hR];exact RB.ofOwn x,hE⟩

theorem H5(w:World)(z:Ah)(hm:RefsAt w z)(hL:By z.1)(hR:AO z.1=true):
  Calls Tryz.prog 7 #[.agg (refsC z).toArray] w fun e w' =>∃v,e = .returned (.tuple #[v,NI 0])∧RB w' v (encR z.1)∧Ext w w' :=
 (H4 w z hm hL).mono fun e w' h=>by
  obtain⟨v,rfl,h1,h2⟩:=h
  rw[if_pos hR]at h1
  exact⟨v,by rw[if_pos hR],h1,h2⟩
theorem I4(w:World)(z:Ah)(hm:RefsAt w z)(hL:By z.1)(hR:AO z.1=false):
  Calls Tryz.prog 7 #[.agg (refsC z).toArray] w fun e w' =>∃v,e = .returned (.tuple #[v,NI 1])∧RB w' v []∧Ext w w' :=
 (H4 w z hm hL).mono fun e w' h=>by
  obtain⟨v,rfl,h1,h2⟩:=h
  rw[if_neg (by rw[hR];decide)]at h1
  exact⟨v,by rw[if_neg (by rw[hR];decide)],h1,h2⟩

theorem Jn(w:World)(y:Ah)(hm:RefsAt w y)(hN:Jb y.1)(vb:Value)(b:Bs)(hrb:RB w vb b):
  Calls Tryz.prog 3 #[.agg (refsC y).toArray,vb] w fun e w' =>e = .returned (.bool true)∧Ext w w' :=by
 have hmt:=hm.branches
 have hmg:=hm.tags
 have hml:=hm.log
 refine As (args:= [.agg (refsC y).toArray,vb]) Tryz.func3 rfl 68 rfl (Nat.le_of_ble_eq_true rfl) ?_
 intro ec hb
 have p:ec 0=(.agg (refsC y).toArray:Value):=hb.get 0
 have f:ec 1=(vb:Value):=hb.get 1
 clear hb
 have hE:=Ext.refl w
 refine sk fun K1 fm=>(wt (oS rfl (Yk.box (cs:=(refsC y:List Value).toArray) p fun o w3 jp ed fp jq=> ?_)))
 have hE:=hE.trans fp
 have c:=ed;clear ed
 have jr:o<w3.heap.size:=by omega
 refine oA rfl (oZ (tN (fm _ _ (sk fun js ct=>(sk fun jt fq=>(wt (oS rfl (Yk.loadAll (vr (PQ o 0) rfl) c (JZ).choose_spec rfl (AC (Ao y) Gq) (oS rfl (Yk.callA1 P1 (vr (.agg (refsC y).toArray) rfl) ((L8 _ y (RefsAt.mk (hmt.keep hE) (hmg.keep hE) (hml.keep hE))).mono ?_)))))))))))
 rintro e ju ⟨rfl,ee⟩
 refine⟨_,rfl,?_⟩
 have hE:=hE.trans ee
 have c:=eb ee c
 refine oS rfl (Yk.notB (vr (.bool (Cp y.1)) rfl) (oM rfl (Ac (vb) rfl rfl (gF (vr (.bool (!(Cp y.1))) rfl)) (fun hG14=>Yk.move f ⟨rfl,rfl⟩) (Ac (NI b.length) rfl rfl (gF (vr (.bool (!(Cp y.1))) rfl)) (fun hG15=>Yk.lenRB Ek (RB.of (hrb.keep hE) (Ak (vr (cond (!(!(Cp y.1))) (vb) undef) rfl) hG15)) ⟨rfl,rfl⟩) (Ac (.bool (decide ((6000)<(b.length)))) rfl rfl (gF (vr (.bool (!(Cp y.1))) rfl)) (fun hG16=>Yk.eqI (a:=((b.length:Nat):Int)) (b:=((6000:Nat):Int)) (Ak (vr (cond (!(!(Cp y.1))) (NI b.length) undef) rfl) hG16) (vr (NI 6000) rfl) (BA _ .i64 (b.length) (6000)) ⟨rfl,rfl⟩) (oS rfl (Yk.pickOrN (vr (.bool (!(Cp y.1))) rfl) (vr (.bool (true)) rfl) (fun hA=>(Ak (vr (cond (!(!(Cp y.1))) (.bool (decide ((6000)<(b.length)))) undef) rfl) (Bb hA))) fun bb17 hbb18=>(oZ (tN (fq _ _ ?_))))))))))
 refine AW (bb17) (vr (.bool (bb17)) rfl) (fun ef=> ?_) (fun ef=> ?_)
 ·refine sk fun jv fr=>(wt (oA rfl (oZ (tN (fr _ _ (Am (An (Aj (fn:=Tryz.f3) _ rfl [.bool (true)] (.bool (true)) rfl ⟨rfl,trivial⟩ ?_))))))))
  exact⟨rfl,hE⟩
 subst hbb18
 have h0:Cp y.1=true∧b.length≤6000:=by simpa using ef
 have hc:=M6 h0.1
 have hL:By y.1:=Rx hN hc
 rcases hD:B2 b with _ | m
 ·have hLm:By zeroR:=PM
  have hcm:=OE
  cases hR:AO y.1
  ·refine Aq (tN (ct _ _ (sk fun jw fs=>(wt (oS rfl (Yk.loadAll (vr (PQ o 0) rfl) c (JZ).choose_spec rfl (AC (Ao y) Gq) (oS rfl (Yk.callA1 Gw (vr (.agg (refsC y).toArray) rfl) ((EY _ y (RefsAt.mk (hmt.keep hE) (hmg.keep hE) (hml.keep hE)) hc).mono ?_)))))))))
   rintro e jx ⟨eg,rfl,ca,eh⟩
   refine⟨_,rfl,?_⟩
   have hE:=hE.trans eh
   have c:=eb eh c
   refine oS rfl (Yk.callA1 Gx (vr (.agg (refsC (y.1,eg)).toArray) rfl) ((I1 _ (y.1,eg) ca hL hR).mono ?_))
   rintro e jy ⟨au,rfl,dr,ds⟩
   refine⟨_,rfl,?_⟩
   have hE:=hE.trans ds
   have c:=eb ds c
   have ca:=ca.keep ds
   refine oM rfl (oS rfl (Yk.extract (vs:= [au,NI 1]) (vr (.tuple #[au,NI 1]) rfl) (show _=some (au:Value)from rfl) (oS rfl (Yk.extract (vs:= [au,NI 1]) (vr (.tuple #[au,NI 1]) rfl) (show _=some (NI 1:Value)from rfl) (oA rfl (oA rfl (oZ (tN (fs _ _ (sk fun jz ft=>(wt (oS rfl (Yk.loadAll (vr (PQ o 0) rfl) c (JZ).choose_spec rfl (AC (Ao y) Gq) (oS rfl (Yk.callA1 Gy (vr (.agg (refsC y).toArray) rfl) ((I4 _ y (RefsAt.mk (hmt.keep hE) (hmg.keep hE) (hml.keep hE)) hL hR).mono ?_))))))))))))))))
   rintro e ei ⟨av,rfl,fu,cu⟩
   refine⟨_,rfl,?_⟩
   have hE:=hE.trans cu
   have c:=eb cu c
   have ca:=ca.keep cu
   have dr:=dr.keep cu
   refine oM rfl (oS rfl (Yk.extract (vs:= [av,NI 1]) (vr (.tuple #[av,NI 1]) rfl) (show _=some (av:Value)from rfl) (oS rfl (Yk.extract (vs:= [av,NI 1]) (vr (.tuple #[av,NI 1]) rfl) (show _=some (NI 1:Value)from rfl) (oA rfl (oA rfl (oZ (tN (ft _ _ (sk fun j0 fv=>(wt (oS rfl (Yk.lit0 EZ fun dt fw b0=> ?_)))))))))))))
   have g:=Ext.refl ei
   have fx:=hE.size
   have fy:OB dt o:=Be b0.own (bl c)
   have hE:=hE.trans b0.ext
   have c:=eb b0.ext c
   have g:=g.trans b0.ext
   have cv:=b0.own;clear b0
   refine oM rfl (oS rfl (Yk.appendRB _ _ ei.heap.size (.int .u8 0) Ek Ih rfl Ek (([]:List UInt8)) (b) (B4 cv (vr dt rfl)) (RB.of (hrb.keep hE) f) (by simp only[List.length_nil];omega) g.size fun du fz f0 cb=> ?_))
   have cb:Grew fw fz dt du:=cb
   have hE:=AZ hE cb cv fx
   have c:=AN c cb fy
   have g:=AZ g cb cv (Nat.le_refl _)
   clear cv
   refine oS rfl (Yk.callA1 Gz (vr du rfl) ((Er _ du (([]:List UInt8)++b) (RB.ofOwn f0) (by simp only[List.nil_append];omega)).mono ?_))
   rintro e cw ⟨X48,c48,rfl,hX48,hd48,dv⟩
   refine⟨_,rfl,?_⟩
   have hE:=hE.trans dv
   have c:=eb dv c
   have g:=g.trans dv
   have f1:RG 33 nmdC cw X48.2.branches X48.1.branches:=hX48.branches
   have f2:RG 33 nmdC cw X48.2.tags X48.1.tags:=hX48.tags
   have f4:RG 67 entC cw X48.2.log X48.1.log:=hX48.log
   have hd48:Fo X48.1 c48 (B2 b):=hd48
   rw[hD]at hd48
   obtain⟨f5,hm48⟩:=hd48
   subst f5
   refine oM rfl (oS rfl (Yk.extract (vs:= [.agg (refsC X48).toArray,NI 6]) (vr (.tuple #[.agg (refsC X48).toArray,NI 6]) rfl) (show _=some (.agg (refsC X48).toArray:Value)from rfl) (oS rfl (Yk.extract (vs:= [.agg (refsC X48).toArray,NI 6]) (vr (.tuple #[.agg (refsC X48).toArray,NI 6]) rfl) (show _=some (NI 6:Value)from rfl) (oS rfl (Yk.alloc (cs:=(refsC ((⟨[],[],[],zid,[]⟩,⟨.slice none 0 0, .slice none 0 0, .slice none 0 0⟩):Ah)).toArray) N8 fun cx f6 f7 ej cy j1=> ?_))))))
   have r:=Ext.refl cw
   have f8:=hE.size
   have f9:=g.size
   have j2:=Bc (bl c) f7
   have hE:=hE.trans cy
   have c:=eb cy c
   have g:=g.trans cy
   have r:=r.trans cy
   have ah:=ej;clear ej
   have j3:cx<f6.heap.size:=by omega
   refine oS rfl (Yk.storeAll (vr (PQ cx 0) rfl) (vr (.agg (refsC X48).toArray) rfl) ah (by simp only[List.size_toArray,Ao]) (AC (Ao _) IJ) (Br (x:=X48) (RG.one (f1.keep r)).2 (RG.one (f2.keep r)).2 (RG.one (f4.keep r)).2) fun ga el cz j4=> ?_)
   have hE:=Af hE cz (Nat.le_trans f8 (by omega))
   have c:=kb cz c (by omega)
   have g:=Af g cz (Nat.le_trans f9 (by omega))
   have r:=Af r cz (Nat.le_trans (Nat.le_refl _) (by omega))
   clear ah
   have ah:ga.heap[cx]? =some (.cells (refsC X48).toArray 35 (0,0)):=el;clear el
   have j5:=bl ah
   refine oA rfl (oZ (tN (fv _ _ (sk fun j6 gb=>(wt (oM rfl (oS rfl (Yk.callA1 GA f ((Et _ vb (b) (hrb.keep hE) (by omega)).mono ?_)))))))))
   rintro e c0 ⟨X74,c74,rfl,hX74,hd74,cc⟩
   refine⟨_,rfl,?_⟩
   have hE:=hE.trans cc
   have c:=eb cc c
   have g:=g.trans cc
   have r:=r.trans cc
   have ah:=eb cc ah
   have gc:RG 33 nmdC c0 X74.2.branches X74.1.branches:=hX74.branches
   have gd:RG 33 nmdC c0 X74.2.tags X74.1.tags:=hX74.tags
   have ge:RG 67 entC c0 X74.2.log X74.1.log:=hX74.log
   have hd74:Fo X74.1 c74 (B2 b):=hd74
   rw[hD]at hd74
   obtain⟨gf,hm74⟩:=hd74
   subst gf
   refine oM rfl (oS rfl (Yk.extract (vs:= [.agg (refsC X74).toArray,NI 6]) (vr (.tuple #[.agg (refsC X74).toArray,NI 6]) rfl) (show _=some (.agg (refsC X74).toArray:Value)from rfl) (oS rfl (Yk.extract (vs:= [.agg (refsC X74).toArray,NI 6]) (vr (.tuple #[.agg (refsC X74).toArray,NI 6]) rfl) (show _=some (NI 6:Value)from rfl) (oS rfl (Yk.alloc (cs:=(refsC ((⟨[],[],[],zid,[]⟩,⟨.slice none 0 0, .slice none 0 0, .slice none 0 0⟩):Ah)).toArray) JX fun c1 gg em en b1 j7=> ?_))))))
   have ao:=Ext.refl c0
   have gh:=hE.size
   have gi:=g.size
   have gj:=r.size
   have j8:=Bc (bl c) em
   have j9:=Bc (bl ah) em
   have hE:=hE.trans b1
   have c:=eb b1 c
   have g:=g.trans b1
   have r:=r.trans b1
   have ah:=eb b1 ah
   have ao:=ao.trans b1
   have cd:=en;clear en
   have ka:c1<gg.heap.size:=by omega
   refine oS rfl (Yk.storeAll (vr (PQ c1 0) rfl) (vr (.agg (refsC X74).toArray) rfl) cd (by simp only[List.size_toArray,Ao]) (AC (Ao _) Gq) (Br (x:=X74) (RG.one (gc.keep ao)).2 (RG.one (gd.keep ao)).2 (RG.one (ge.keep ao)).2) fun gk eo b2 kc=> ?_)
   have hE:=Af hE b2 (Nat.le_trans gh (by omega))
   have c:=kb b2 c (by omega)
   have g:=Af g b2 (Nat.le_trans gi (by omega))
   have r:=Af r b2 (Nat.le_trans gj (by omega))
   have ah:=kb b2 ah (by omega)
   have ao:=Af ao b2 (Nat.le_trans (Nat.le_refl _) (by omega))
   clear cd
   have cd:gk.heap[c1]? =some (.cells (refsC X74).toArray 27 (0,0)):=eo;clear eo
   have kd:=bl cd
   refine oA rfl (A3 [(0, .agg (refsC y).toArray),(1,vb),(2,PQ o 0),(4, .bool (false)),(5,au),(6,NI 1),(7,av),(8,NI 1),(9,PQ cx 0),(10,NI 6),(11,PQ c1 0),(12,NI 6)] ⟨p,f,rfl,rfl,rfl,rfl,rfl,rfl,rfl,rfl,rfl,rfl,trivial⟩ fun ke ⟨p,f,T2,T4,s,t,u,z,T9,ab,ac,ad,_⟩=>(tN (gb _ _ (sk fun kf gl=> ?_))))
   refine Bw [Is (au),Is (St (([]:List UInt8))),Is (av),Is (St (([]:List UInt8))),Is (.bool (true)),Is (.bool (true)),Is (NI 1),Is (NI 1),Is (.bool (true)),Is (.bool (true)),Is (.bool (true)),Is (.agg (refsC X48).toArray),fun x w' =>∃v,x = .agg (refsC (X48.1,v)).toArray∧RefsAt w' (X48.1,v),Is (.agg (refsC X74).toArray),Is (.bool (true)),Is (.bool (true)),Is (.bool (true)),Is (NI 6),Is (NI 6),Is (.bool (true)),Is (.bool (true)),Is (.bool (true)),Is (.bool (true)),Is (.bool (true)),Is (.bool (true))] (by kernel_rfl) [44,45,46,47,48,49,50,51,52,53,54,55,56,57,58,59,60,61,62,63,64,65,66,67,4] (by kernel_rfl) (by kernel_rfl) (CG ⟨(fun _ _ _ ⟨v,h1,h2⟩ k=>⟨v,h1,h2.keep k⟩),(CG trivial)⟩) ?gm ?hQ1007
   case gm=>
    refine⟨?_,?_,?_,?_,?_,?_,?_,?_,?_,?_,?_,?_,?_,?_,?_,?_,?_,?_,?_,?_,?_,?_,?_,?_,?_,trivial⟩
    ·refine Aa rfl fun σ w1 hC h=> ?_
     have e5:=(Ae (h 5 (by decide))).trans s
     exact Yk.move e5 ⟨Ext.refl _,rfl⟩
    ·refine Aa rfl fun σ w1 hC h=> ?_
     have ax:=Ae (h 44 (by decide))
     exact Yk.convRB Ek u5 DT (RB.of (dr.keep (g.trans hC)) ax) ⟨Ext.refl _,rfl⟩
    ·refine Aa rfl fun σ w1 hC h=> ?_
     have e7:=(Ae (h 7 (by decide))).trans u
     exact Yk.move e7 ⟨Ext.refl _,rfl⟩
    ·refine Aa rfl fun σ w1 hC h=> ?_
     have az:=Ae (h 46 (by decide))
     exact Yk.convRB Ek u5 DT (RB.of (fu.keep (g.trans hC)) az) ⟨Ext.refl _,rfl⟩
    ·refine Aa rfl fun σ w1 hC h=> ?_
     have a0:=Ae (h 45 (by decide))
     have a1:=Ae (h 47 (by decide))
     exact Yk.eqSt (l:=([]:List UInt8)) (m:=([]:List UInt8)) (.inl rfl) a0 a1 (decide (([]:List UInt8)=(([]:List UInt8):List UInt8))) rfl ⟨Ext.refl _,(congrArg Value.bool (decide_eq_true (rfl)))⟩
    ·refine Aa rfl fun σ w1 hC h=> ?_
     have a2:=Ae (h 48 (by decide))
     exact Yk.move a2 ⟨Ext.refl _,rfl⟩
    ·refine Bi 5 true 49 rfl rfl (fun _ _ h=>h) fun σ w1 hC h=> ?_
     have e6:=(Ae (h 6 (by decide))).trans t
     exact Yk.move e6 ⟨Ext.refl _,rfl⟩
    ·refine Bi 5 true 49 rfl rfl (fun _ _ h=>h) fun σ w1 hC h=> ?_
     have e8:=(Ae (h 8 (by decide))).trans z
     exact Yk.move e8 ⟨Ext.refl _,rfl⟩
    ·refine Bi 5 true 49 rfl rfl (fun _ _ h=>h) fun σ w1 hC h=> ?_
     have a5:=Ae (h 50 (by decide))
     have a6:=Ae (h 51 (by decide))
     exact Yk.eqI (a:=(1:Nat)) (b:=(1:Nat)) a5 a6 (A2 _ _ _ _) ⟨Ext.refl _,(congrArg Value.bool (decide_eq_true (rfl)))⟩
    ·refine Aa rfl fun σ w1 hC h=> ?_
     have a7:=Ae (h 49 (by decide))
     have a8:=Ae (h 52 (by decide))
     exact Yk.pickT a7 a8 ⟨Ext.refl _,rfl⟩
    ·refine Aa rfl fun σ w1 hC h=> ?_
     have a9:=Ae (h 53 (by decide))
     exact Yk.move a9 ⟨Ext.refl _,rfl⟩
    ·refine Bi 10 true 54 rfl rfl (fun _ _ h=>h) fun σ w1 hC h=> ?_
     have e9:=(Ae (h 9 (by decide))).trans T9
     exact Yk.loadAll e9 (eb hC ah) (N9).choose_spec rfl (AC (Ao X48) IJ) ⟨Ext.refl _,rfl⟩
    ·refine Bi 10 true 54 rfl rfl (fun _ _ h=>h) fun σ w1 hC h=> ?_
     have bb:=Ae (h 55 (by decide))
     refine Yk.callA1 FF bb ((Gr _ X48 (hX48.keep (r.trans hC)) (by rw[hm48];exact hcm)).mono ?_)
     rintro e w2 ⟨v,rfl,hR,hx⟩
     exact⟨_,rfl,hx,v,rfl,hR⟩
    ·refine Bi 10 true 54 rfl rfl (fun _ _ h=>h) fun σ w1 hC h=> ?_
     have bc:=(Ae (h 11 (by decide))).trans ac
     exact Yk.loadAll bc (eb hC cd) (JZ).choose_spec rfl (AC (Ao X74) Gq) ⟨Ext.refl _,rfl⟩
    ·refine Bi 10 true 54 rfl rfl (fun _ _ h=>h) fun σ w1 hC h=> ?_
     have bd:(fun x w' =>∃v,x = .agg (refsC (X48.1,v)).toArray∧RefsAt w' (X48.1,v)) (σ 56) w1:=h 56 (by decide)
     have be:=Ae (h 57 (by decide))
     obtain⟨q,hqe,hq⟩:=bd
     refine Yk.callA2 FG hqe be ((Ep _ (X48.1,q) X74 hq (hX74.keep (ao.trans hC)) (show X74.1=X48.1 from hm74.trans hm48.symm) (by show By X48.1;rw[hm48];exact hLm)).mono ?_)
     rintro e w2 ⟨rfl,hx⟩
     exact⟨_,rfl,hx,rfl⟩
    ·refine Aa rfl fun σ w1 hC h=> ?_
     have bf:=Ae (h 54 (by decide))
     have bg:=Ae (h 58 (by decide))
     exact Yk.pickT bf bg ⟨Ext.refl _,rfl⟩
    ·refine Aa rfl fun σ w1 hC h=> ?_
     have bh:=Ae (h 59 (by decide))
     exact Yk.move bh ⟨Ext.refl _,rfl⟩
    ·refine Bi 16 true 60 rfl rfl (fun _ _ h=>h) fun σ w1 hC h=> ?_
     have bi:=(Ae (h 10 (by decide))).trans ab
     exact Yk.move bi ⟨Ext.refl _,rfl⟩
    ·refine Bi 16 true 60 rfl rfl (fun _ _ h=>h) fun σ w1 hC h=> ?_
     have bj:=(Ae (h 12 (by decide))).trans ad
     exact Yk.move bj ⟨Ext.refl _,rfl⟩
    ·refine Bi 16 true 60 rfl rfl (fun _ _ h=>h) fun σ w1 hC h=> ?_
     have bk:=Ae (h 61 (by decide))
     have bm:=Ae (h 62 (by decide))
     exact Yk.eqI (a:=(6:Nat)) (b:=(6:Nat)) bk bm (A2 _ _ _ _) ⟨Ext.refl _,(congrArg Value.bool (decide_eq_true (rfl)))⟩
    ·refine Aa rfl fun σ w1 hC h=> ?_
     have bn:=Ae (h 60 (by decide))
     have bo:=Ae (h 63 (by decide))
     exact Yk.pickT bn bo ⟨Ext.refl _,rfl⟩
    ·refine Aa rfl fun σ w1 hC h=> ?_
     have bp:=Ae (h 64 (by decide))
     exact Yk.move bp ⟨Ext.refl _,rfl⟩
    ·refine Bi 21 true 65 rfl rfl (fun _ _ h=>h) fun σ w1 hC h=>(Yk.callA0 FH ((Hv _).mono ?_))
     rintro e w2 ⟨rfl,hx⟩
     exact⟨_,rfl,hx,rfl⟩
    ·refine Aa rfl fun σ w1 hC h=> ?_
     have bq:=Ae (h 65 (by decide))
     have br:=Ae (h 66 (by decide))
     exact Yk.pickT bq br ⟨Ext.refl _,rfl⟩
    ·refine Aa rfl fun σ w1 hC h=> ?_
     have bs:=Ae (h 67 (by decide))
     exact Yk.assign bs ⟨Ext.refl _,rfl⟩
   intro gn kg ep he hf
   obtain⟨-,-,-,-,-,-,-,-,-,-,-,-,-,-,-,-,-,-,-,-,-,-,-,-,k4,-⟩:=hf
   obtain⟨p,f,T2,s,t,u,z,T9,ab,ac,ad,-⟩:=he.hold [(0,_),(1,_),(2,_),(5,_),(6,_),(7,_),(8,_),(9,_),(10,_),(11,_),(12,_)] ⟨p,f,T2,s,t,u,z,T9,ab,ac,ad,trivial⟩ rfl
   clear he
   have hE:=hE.trans ep
   have c:=eb ep c
   have T4:gn 4 = .bool (true):=k4
   clear k4
   refine tN (gl _ _ (Am (Aj (fn:=Tryz.f3) _ rfl [.bool (true)] (.bool (true)) rfl ⟨T4,trivial⟩ ?_)))
   exact⟨rfl,hE⟩
  refine Aq (tN (ct _ _ (sk fun kh go=>(wt (oS rfl (Yk.loadAll (vr (PQ o 0) rfl) c (JZ).choose_spec rfl (AC (Ao y) Gq) (oS rfl (Yk.callA1 Gw (vr (.agg (refsC y).toArray) rfl) ((EY _ y (RefsAt.mk (hmt.keep hE) (hmg.keep hE) (hml.keep hE)) hc).mono ?_)))))))))
  rintro e ki ⟨eq,rfl,ce,er⟩
  refine⟨_,rfl,?_⟩
  have hE:=hE.trans er
  have c:=eb er c
  refine oS rfl (Yk.callA1 Gx (vr (.agg (refsC (y.1,eq)).toArray) rfl) ((H3 _ (y.1,eq) ce hL hR).mono ?_))
  rintro e kj ⟨bt,rfl,dw,dx⟩
  refine⟨_,rfl,?_⟩
  have hE:=hE.trans dx
  have c:=eb dx c
  have ce:=ce.keep dx
  refine oM rfl (oS rfl (Yk.extract (vs:= [bt,NI 0]) (vr (.tuple #[bt,NI 0]) rfl) (show _=some (bt:Value)from rfl) (oS rfl (Yk.extract (vs:= [bt,NI 0]) (vr (.tuple #[bt,NI 0]) rfl) (show _=some (NI 0:Value)from rfl) (oA rfl (oA rfl (oZ (tN (go _ _ (sk fun kk gp=>(wt (oS rfl (Yk.loadAll (vr (PQ o 0) rfl) c (JZ).choose_spec rfl (AC (Ao y) Gq) (oS rfl (Yk.callA1 Gy (vr (.agg (refsC y).toArray) rfl) ((H5 _ y (RefsAt.mk (hmt.keep hE) (hmg.keep hE) (hml.keep hE)) hL hR).mono ?_))))))))))))))))
  rintro e es ⟨bu,rfl,gq,c2⟩
  refine⟨_,rfl,?_⟩
  have hE:=hE.trans c2
  have c:=eb c2 c
  have ce:=ce.keep c2
  have dw:=dw.keep c2
  refine oM rfl (oS rfl (Yk.extract (vs:= [bu,NI 0]) (vr (.tuple #[bu,NI 0]) rfl) (show _=some (bu:Value)from rfl) (oS rfl (Yk.extract (vs:= [bu,NI 0]) (vr (.tuple #[bu,NI 0]) rfl) (show _=some (NI 0:Value)from rfl) (oA rfl (oA rfl (oZ (tN (gp _ _ (sk fun kl gr=>(wt (oS rfl (Yk.lit0 EZ fun dy gs b3=> ?_)))))))))))))
  have i:=Ext.refl es
  have gt:=hE.size
  have gu:OB dy o:=Be b3.own (bl c)
  have hE:=hE.trans b3.ext
  have c:=eb b3.ext c
  have i:=i.trans b3.ext
  have c3:=b3.own;clear b3
  refine oM rfl (oS rfl (Yk.appendRB _ _ es.heap.size (.int .u8 0) Ek Ih rfl Ek (([]:List UInt8)) (b) (B4 c3 (vr dy rfl)) (RB.of (hrb.keep hE) f) (by simp only[List.length_nil];omega) i.size fun dz gv gw cf=> ?_))
  have cf:Grew gs gv dy dz:=cf
  have hE:=AZ hE cf c3 gt
  have c:=AN c cf gu
  have i:=AZ i cf c3 (Nat.le_refl _)
  clear c3
  refine oS rfl (Yk.callA1 Gz (vr dz rfl) ((Er _ dz (([]:List UInt8)++b) (RB.ofOwn gw) (by simp only[List.nil_append];omega)).mono ?_))
  rintro e c4 ⟨X135,c135,rfl,hX135,hd135,d0⟩
  refine⟨_,rfl,?_⟩
  have hE:=hE.trans d0
  have c:=eb d0 c
  have i:=i.trans d0
  have gx:RG 33 nmdC c4 X135.2.branches X135.1.branches:=hX135.branches
  have gy:RG 33 nmdC c4 X135.2.tags X135.1.tags:=hX135.tags
  have gz:RG 67 entC c4 X135.2.log X135.1.log:=hX135.log
  have hd135:Fo X135.1 c135 (B2 b):=hd135
  rw[hD]at hd135
  obtain⟨g0,hm135⟩:=hd135
  subst g0
  refine oM rfl (oS rfl (Yk.extract (vs:= [.agg (refsC X135).toArray,NI 6]) (vr (.tuple #[.agg (refsC X135).toArray,NI 6]) rfl) (show _=some (.agg (refsC X135).toArray:Value)from rfl) (oS rfl (Yk.extract (vs:= [.agg (refsC X135).toArray,NI 6]) (vr (.tuple #[.agg (refsC X135).toArray,NI 6]) rfl) (show _=some (NI 6:Value)from rfl) (oS rfl (Yk.alloc (cs:=(refsC ((⟨[],[],[],zid,[]⟩,⟨.slice none 0 0, .slice none 0 0, .slice none 0 0⟩):Ah)).toArray) N8 fun c5 g1 g2 et c6 km=> ?_))))))
  have ae:=Ext.refl c4
  have g3:=hE.size
  have g4:=i.size
  have kn:=Bc (bl c) g2
  have hE:=hE.trans c6
  have c:=eb c6 c
  have i:=i.trans c6
  have ae:=ae.trans c6
  have ai:=et;clear et
  have ko:c5<g1.heap.size:=by omega
  refine oS rfl (Yk.storeAll (vr (PQ c5 0) rfl) (vr (.agg (refsC X135).toArray) rfl) ai (by simp only[List.size_toArray,Ao]) (AC (Ao _) IJ) (Br (x:=X135) (RG.one (gx.keep ae)).2 (RG.one (gy.keep ae)).2 (RG.one (gz.keep ae)).2) fun g5 eu c7 kp=> ?_)
  have hE:=Af hE c7 (Nat.le_trans g3 (by omega))
  have c:=kb c7 c (by omega)
  have i:=Af i c7 (Nat.le_trans g4 (by omega))
  have ae:=Af ae c7 (Nat.le_trans (Nat.le_refl _) (by omega))
  clear ai
  have ai:g5.heap[c5]? =some (.cells (refsC X135).toArray 35 (0,0)):=eu;clear eu
  have kq:=bl ai
  refine oA rfl (oZ (tN (gr _ _ (sk fun kr g6=>(wt (oM rfl (oS rfl (Yk.callA1 GA f ((Et _ vb (b) (hrb.keep hE) (by omega)).mono ?_)))))))))
  rintro e c8 ⟨X161,c161,rfl,hX161,hd161,cg⟩
  refine⟨_,rfl,?_⟩
  have hE:=hE.trans cg
  have c:=eb cg c
  have i:=i.trans cg
  have ae:=ae.trans cg
  have ai:=eb cg ai
  have g7:RG 33 nmdC c8 X161.2.branches X161.1.branches:=hX161.branches
  have g8:RG 33 nmdC c8 X161.2.tags X161.1.tags:=hX161.tags
  have g9:RG 67 entC c8 X161.2.log X161.1.log:=hX161.log
  have hd161:Fo X161.1 c161 (B2 b):=hd161
  rw[hD]at hd161
  obtain⟨ha,hm161⟩:=hd161
  subst ha
  refine oM rfl (oS rfl (Yk.extract (vs:= [.agg (refsC X161).toArray,NI 6]) (vr (.tuple #[.agg (refsC X161).toArray,NI 6]) rfl) (show _=some (.agg (refsC X161).toArray:Value)from rfl) (oS rfl (Yk.extract (vs:= [.agg (refsC X161).toArray,NI 6]) (vr (.tuple #[.agg (refsC X161).toArray,NI 6]) rfl) (show _=some (NI 6:Value)from rfl) (oS rfl (Yk.alloc (cs:=(refsC ((⟨[],[],[],zid,[]⟩,⟨.slice none 0 0, .slice none 0 0, .slice none 0 0⟩):Ah)).toArray) JX fun c9 hd ew ex b4 ks=> ?_))))))
  have ap:=Ext.refl c8
  have hg:=hE.size
  have hh:=i.size
  have hi:=ae.size
  have kt:=Bc (bl c) ew
  have ku:=Bc (bl ai) ew
  have hE:=hE.trans b4
  have c:=eb b4 c
  have i:=i.trans b4
  have ae:=ae.trans b4
  have ai:=eb b4 ai
  have ap:=ap.trans b4
  have ch:=ex;clear ex
  have kv:c9<hd.heap.size:=by omega
  refine oS rfl (Yk.storeAll (vr (PQ c9 0) rfl) (vr (.agg (refsC X161).toArray) rfl) ch (by simp only[List.size_toArray,Ao]) (AC (Ao _) Gq) (Br (x:=X161) (RG.one (g7.keep ap)).2 (RG.one (g8.keep ap)).2 (RG.one (g9.keep ap)).2) fun hj ey b5 kw=> ?_)
  have hE:=Af hE b5 (Nat.le_trans hg (by omega))
  have c:=kb b5 c (by omega)
  have i:=Af i b5 (Nat.le_trans hh (by omega))
  have ae:=Af ae b5 (Nat.le_trans hi (by omega))
  have ai:=kb b5 ai (by omega)
  have ap:=Af ap b5 (Nat.le_trans (Nat.le_refl _) (by omega))
  clear ch
  have ch:hj.heap[c9]? =some (.cells (refsC X161).toArray 27 (0,0)):=ey;clear ey
  have kx:=bl ch
  refine oA rfl (A3 [(0, .agg (refsC y).toArray),(1,vb),(2,PQ o 0),(4, .bool (false)),(5,bt),(6,NI 0),(7,bu),(8,NI 0),(9,PQ c5 0),(10,NI 6),(11,PQ c9 0),(12,NI 6)] ⟨p,f,rfl,rfl,rfl,rfl,rfl,rfl,rfl,rfl,rfl,rfl,trivial⟩ fun ky ⟨p,f,T2,T4,s,t,u,z,T9,ab,ac,ad,_⟩=>(tN (g6 _ _ (sk fun kz hk=> ?_))))
  refine Bw [Is (bt),Is (St (encR y.1)),Is (bu),Is (St (encR y.1)),Is (.bool (true)),Is (.bool (true)),Is (NI 0),Is (NI 0),Is (.bool (true)),Is (.bool (true)),Is (.bool (true)),Is (.agg (refsC X135).toArray),fun x w' =>∃v,x = .agg (refsC (X135.1,v)).toArray∧RefsAt w' (X135.1,v),Is (.agg (refsC X161).toArray),Is (.bool (true)),Is (.bool (true)),Is (.bool (true)),Is (NI 6),Is (NI 6),Is (.bool (true)),Is (.bool (true)),Is (.bool (true)),Is (.bool (true)),Is (.bool (true)),Is (.bool (true))] (by kernel_rfl) [44,45,46,47,48,49,50,51,52,53,54,55,56,57,58,59,60,61,62,63,64,65,66,67,4] (by kernel_rfl) (by kernel_rfl) (CG ⟨(fun _ _ _ ⟨v,h1,h2⟩ k=>⟨v,h1,h2.keep k⟩),(CG trivial)⟩) ?hl ?hQ2007
  case hl=>
   refine⟨?_,?_,?_,?_,?_,?_,?_,?_,?_,?_,?_,?_,?_,?_,?_,?_,?_,?_,?_,?_,?_,?_,?_,?_,?_,trivial⟩
   ·refine Aa rfl fun σ w1 hC h=> ?_
    have e5:=(Ae (h 5 (by decide))).trans s
    exact Yk.move e5 ⟨Ext.refl _,rfl⟩
   ·refine Aa rfl fun σ w1 hC h=> ?_
    have ax:=Ae (h 44 (by decide))
    exact Yk.convRB Ek u5 DT (RB.of (dw.keep (i.trans hC)) ax) ⟨Ext.refl _,rfl⟩
   ·refine Aa rfl fun σ w1 hC h=> ?_
    have e7:=(Ae (h 7 (by decide))).trans u
    exact Yk.move e7 ⟨Ext.refl _,rfl⟩
   ·refine Aa rfl fun σ w1 hC h=> ?_
    have az:=Ae (h 46 (by decide))
    exact Yk.convRB Ek u5 DT (RB.of (gq.keep (i.trans hC)) az) ⟨Ext.refl _,rfl⟩
   ·refine Aa rfl fun σ w1 hC h=> ?_
    have a0:=Ae (h 45 (by decide))
    have a1:=Ae (h 47 (by decide))
    exact Yk.eqSt (l:=encR y.1) (m:=encR y.1) (.inl rfl) a0 a1 (decide ((encR y.1:List UInt8)=(encR y.1:List UInt8))) rfl ⟨Ext.refl _,(congrArg Value.bool (decide_eq_true (rfl)))⟩
   ·refine Aa rfl fun σ w1 hC h=> ?_
    have a2:=Ae (h 48 (by decide))
    exact Yk.move a2 ⟨Ext.refl _,rfl⟩
   ·refine Bi 5 true 49 rfl rfl (fun _ _ h=>h) fun σ w1 hC h=> ?_
    have e6:=(Ae (h 6 (by decide))).trans t
    exact Yk.move e6 ⟨Ext.refl _,rfl⟩
   ·refine Bi 5 true 49 rfl rfl (fun _ _ h=>h) fun σ w1 hC h=> ?_
    have e8:=(Ae (h 8 (by decide))).trans z
    exact Yk.move e8 ⟨Ext.refl _,rfl⟩
   ·refine Bi 5 true 49 rfl rfl (fun _ _ h=>h) fun σ w1 hC h=> ?_
    have a5:=Ae (h 50 (by decide))
    have a6:=Ae (h 51 (by decide))
    exact Yk.eqI (a:=(0:Nat)) (b:=(0:Nat)) a5 a6 (A2 _ _ _ _) ⟨Ext.refl _,(congrArg Value.bool (decide_eq_true (rfl)))⟩
   ·refine Aa rfl fun σ w1 hC h=> ?_
    have a7:=Ae (h 49 (by decide))
    have a8:=Ae (h 52 (by decide))
    exact Yk.pickT a7 a8 ⟨Ext.refl _,rfl⟩
   ·refine Aa rfl fun σ w1 hC h=> ?_
    have a9:=Ae (h 53 (by decide))
    exact Yk.move a9 ⟨Ext.refl _,rfl⟩
   ·refine Bi 10 true 54 rfl rfl (fun _ _ h=>h) fun σ w1 hC h=> ?_
    have e9:=(Ae (h 9 (by decide))).trans T9
    exact Yk.loadAll e9 (eb hC ai) (N9).choose_spec rfl (AC (Ao X135) IJ) ⟨Ext.refl _,rfl⟩
   ·refine Bi 10 true 54 rfl rfl (fun _ _ h=>h) fun σ w1 hC h=> ?_
    have bb:=Ae (h 55 (by decide))
    refine Yk.callA1 FF bb ((Gr _ X135 (hX135.keep (ae.trans hC)) (by rw[hm135];exact hcm)).mono ?_)
    rintro e w2 ⟨v,rfl,hR,hx⟩
    exact⟨_,rfl,hx,v,rfl,hR⟩
   ·refine Bi 10 true 54 rfl rfl (fun _ _ h=>h) fun σ w1 hC h=> ?_
    have bc:=(Ae (h 11 (by decide))).trans ac
    exact Yk.loadAll bc (eb hC ch) (JZ).choose_spec rfl (AC (Ao X161) Gq) ⟨Ext.refl _,rfl⟩
   ·refine Bi 10 true 54 rfl rfl (fun _ _ h=>h) fun σ w1 hC h=> ?_
    have bd:(fun x w' =>∃v,x = .agg (refsC (X135.1,v)).toArray∧RefsAt w' (X135.1,v)) (σ 56) w1:=h 56 (by decide)
    have be:=Ae (h 57 (by decide))
    obtain⟨q,hqe,hq⟩:=bd
    refine Yk.callA2 FG hqe be ((Ep _ (X135.1,q) X161 hq (hX161.keep (ap.trans hC)) (show X161.1=X135.1 from hm161.trans hm135.symm) (by show By X135.1;rw[hm135];exact hLm)).mono ?_)
    rintro e w2 ⟨rfl,hx⟩
    exact⟨_,rfl,hx,rfl⟩
   ·refine Aa rfl fun σ w1 hC h=> ?_
    have bf:=Ae (h 54 (by decide))
    have bg:=Ae (h 58 (by decide))
    exact Yk.pickT bf bg ⟨Ext.refl _,rfl⟩
   ·refine Aa rfl fun σ w1 hC h=> ?_
    have bh:=Ae (h 59 (by decide))
    exact Yk.move bh ⟨Ext.refl _,rfl⟩
   ·refine Bi 16 true 60 rfl rfl (fun _ _ h=>h) fun σ w1 hC h=> ?_
    have bi:=(Ae (h 10 (by decide))).trans ab
    exact Yk.move bi ⟨Ext.refl _,rfl⟩
   ·refine Bi 16 true 60 rfl rfl (fun _ _ h=>h) fun σ w1 hC h=> ?_
    have bj:=(Ae (h 12 (by decide))).trans ad
    exact Yk.move bj ⟨Ext.refl _,rfl⟩
   ·refine Bi 16 true 60 rfl rfl (fun _ _ h=>h) fun σ w1 hC h=> ?_
    have bk:=Ae (h 61 (by decide))
    have bm:=Ae (h 62 (by decide))
    exact Yk.eqI (a:=(6:Nat)) (b:=(6:Nat)) bk bm (A2 _ _ _ _) ⟨Ext.refl _,(congrArg Value.bool (decide_eq_true (rfl)))⟩
   ·refine Aa rfl fun σ w1 hC h=> ?_
    have bn:=Ae (h 60 (by decide))
    have bo:=Ae (h 63 (by decide))
    exact Yk.pickT bn bo ⟨Ext.refl _,rfl⟩
   ·refine Aa rfl fun σ w1 hC h=> ?_
    have bp:=Ae (h 64 (by decide))
    exact Yk.move bp ⟨Ext.refl _,rfl⟩
   ·refine Bi 21 true 65 rfl rfl (fun _ _ h=>h) fun σ w1 hC h=>(Yk.callA0 FH ((Hv _).mono ?_))
    rintro e w2 ⟨rfl,hx⟩
    exact⟨_,rfl,hx,rfl⟩
   ·refine Aa rfl fun σ w1 hC h=> ?_
    have bq:=Ae (h 65 (by decide))
    have br:=Ae (h 66 (by decide))
    exact Yk.pickT bq br ⟨Ext.refl _,rfl⟩
   ·refine Aa rfl fun σ w1 hC h=> ?_
    have bs:=Ae (h 67 (by decide))
    exact Yk.assign bs ⟨Ext.refl _,rfl⟩
  intro hn k0 ez he hf
  obtain⟨-,-,-,-,-,-,-,-,-,-,-,-,-,-,-,-,-,-,-,-,-,-,-,-,k4,-⟩:=hf
  obtain⟨p,f,T2,s,t,u,z,T9,ab,ac,ad,-⟩:=he.hold [(0,_),(1,_),(2,_),(5,_),(6,_),(7,_),(8,_),(9,_),(10,_),(11,_),(12,_)] ⟨p,f,T2,s,t,u,z,T9,ab,ac,ad,trivial⟩ rfl
  clear he
  have hE:=hE.trans ez
  have c:=eb ez c
  have T4:hn 4 = .bool (true):=k4
  clear k4
  refine tN (hk _ _ (Am (Aj (fn:=Tryz.f3) _ rfl [.bool (true)] (.bool (true)) rfl ⟨T4,trivial⟩ ?_)))
  exact⟨rfl,hE⟩
 obtain⟨hRm,hem⟩:=OM hD
 have hLm:By m:=PN hRm
 have hcm:=OF hRm
 cases hR:AO y.1
 ·refine Aq (tN (ct _ _ (sk fun k1 ho=>(wt (oS rfl (Yk.loadAll (vr (PQ o 0) rfl) c (JZ).choose_spec rfl (AC (Ao y) Gq) (oS rfl (Yk.callA1 Gw (vr (.agg (refsC y).toArray) rfl) ((EY _ y (RefsAt.mk (hmt.keep hE) (hmg.keep hE) (hml.keep hE)) hc).mono ?_)))))))))
  rintro e k2 ⟨e0,rfl,ci,e1⟩
  refine⟨_,rfl,?_⟩
  have hE:=hE.trans e1
  have c:=eb e1 c
  refine oS rfl (Yk.callA1 Gx (vr (.agg (refsC (y.1,e0)).toArray) rfl) ((I1 _ (y.1,e0) ci hL hR).mono ?_))
  rintro e k3 ⟨bv,rfl,d1,d2⟩
  refine⟨_,rfl,?_⟩
  have hE:=hE.trans d2
  have c:=eb d2 c
  have ci:=ci.keep d2
  refine oM rfl (oS rfl (Yk.extract (vs:= [bv,NI 1]) (vr (.tuple #[bv,NI 1]) rfl) (show _=some (bv:Value)from rfl) (oS rfl (Yk.extract (vs:= [bv,NI 1]) (vr (.tuple #[bv,NI 1]) rfl) (show _=some (NI 1:Value)from rfl) (oA rfl (oA rfl (oZ (tN (ho _ _ (sk fun k5 hp=>(wt (oS rfl (Yk.loadAll (vr (PQ o 0) rfl) c (JZ).choose_spec rfl (AC (Ao y) Gq) (oS rfl (Yk.callA1 Gy (vr (.agg (refsC y).toArray) rfl) ((I4 _ y (RefsAt.mk (hmt.keep hE) (hmg.keep hE) (hml.keep hE)) hL hR).mono ?_))))))))))))))))
  rintro e e2 ⟨bw,rfl,hr,da⟩
  refine⟨_,rfl,?_⟩
  have hE:=hE.trans da
  have c:=eb da c
  have ci:=ci.keep da
  have d1:=d1.keep da
  refine oM rfl (oS rfl (Yk.extract (vs:= [bw,NI 1]) (vr (.tuple #[bw,NI 1]) rfl) (show _=some (bw:Value)from rfl) (oS rfl (Yk.extract (vs:= [bw,NI 1]) (vr (.tuple #[bw,NI 1]) rfl) (show _=some (NI 1:Value)from rfl) (oA rfl (oA rfl (oZ (tN (hp _ _ (sk fun k6 hs=>(wt (oS rfl (Yk.lit0 EZ fun d3 ht b6=> ?_)))))))))))))
  have j:=Ext.refl e2
  have hu:=hE.size
  have hv:OB d3 o:=Be b6.own (bl c)
  have hE:=hE.trans b6.ext
  have c:=eb b6.ext c
  have j:=j.trans b6.ext
  have db:=b6.own;clear b6
  refine oM rfl (oS rfl (Yk.appendRB _ _ e2.heap.size (.int .u8 0) Ek Ih rfl Ek (([]:List UInt8)) (b) (B4 db (vr d3 rfl)) (RB.of (hrb.keep hE) f) (by simp only[List.length_nil];omega) j.size fun d4 hw hy cj=> ?_))
  have cj:Grew ht hw d3 d4:=cj
  have hE:=AZ hE cj db hu
  have c:=AN c cj hv
  have j:=AZ j cj db (Nat.le_refl _)
  clear db
  refine oS rfl (Yk.callA1 Gz (vr d4 rfl) ((Er _ d4 (([]:List UInt8)++b) (RB.ofOwn hy) (by simp only[List.nil_append];omega)).mono ?_))
  rintro e dc ⟨X222,c222,rfl,hX222,hd222,d5⟩
  refine⟨_,rfl,?_⟩
  have hE:=hE.trans d5
  have c:=eb d5 c
  have j:=j.trans d5
  have hz:RG 33 nmdC dc X222.2.branches X222.1.branches:=hX222.branches
  have h3:RG 33 nmdC dc X222.2.tags X222.1.tags:=hX222.tags
  have h4:RG 67 entC dc X222.2.log X222.1.log:=hX222.log
  have hd222:Fo X222.1 c222 (B2 b):=hd222
  rw[hD]at hd222
  obtain⟨h5,hm222⟩:=hd222
  subst h5
  refine oM rfl (oS rfl (Yk.extract (vs:= [.agg (refsC X222).toArray,NI 0]) (vr (.tuple #[.agg (refsC X222).toArray,NI 0]) rfl) (show _=some (.agg (refsC X222).toArray:Value)from rfl) (oS rfl (Yk.extract (vs:= [.agg (refsC X222).toArray,NI 0]) (vr (.tuple #[.agg (refsC X222).toArray,NI 0]) rfl) (show _=some (NI 0:Value)from rfl) (oS rfl (Yk.alloc (cs:=(refsC ((⟨[],[],[],zid,[]⟩,⟨.slice none 0 0, .slice none 0 0, .slice none 0 0⟩):Ah)).toArray) N8 fun dd h6 h7 e3 de k7=> ?_))))))
  have af:=Ext.refl dc
  have h8:=hE.size
  have h9:=j.size
  have k8:=Bc (bl c) h7
  have hE:=hE.trans de
  have c:=eb de c
  have j:=j.trans de
  have af:=af.trans de
  have aj:=e3;clear e3
  have k9:dd<h6.heap.size:=by omega
  refine oS rfl (Yk.storeAll (vr (PQ dd 0) rfl) (vr (.agg (refsC X222).toArray) rfl) aj (by simp only[List.size_toArray,Ao]) (AC (Ao _) IJ) (Br (x:=X222) (RG.one (hz.keep af)).2 (RG.one (h3.keep af)).2 (RG.one (h4.keep af)).2) fun ia e4 df la=> ?_)
  have hE:=Af hE df (Nat.le_trans h8 (by omega))
  have c:=kb df c (by omega)
  have j:=Af j df (Nat.le_trans h9 (by omega))
  have af:=Af af df (Nat.le_trans (Nat.le_refl _) (by omega))
  clear aj
  have aj:ia.heap[dd]? =some (.cells (refsC X222).toArray 35 (0,0)):=e4;clear e4
  have lb:=bl aj
  refine oA rfl (oZ (tN (hs _ _ (sk fun lc ib=>(wt (oM rfl (oS rfl (Yk.callA1 GA f ((Et _ vb (b) (hrb.keep hE) (by omega)).mono ?_)))))))))
  rintro e dg ⟨X248,c248,rfl,hX248,hd248,ck⟩
  refine⟨_,rfl,?_⟩
  have hE:=hE.trans ck
  have c:=eb ck c
  have j:=j.trans ck
  have af:=af.trans ck
  have aj:=eb ck aj
  have ic:RG 33 nmdC dg X248.2.branches X248.1.branches:=hX248.branches
  have id:RG 33 nmdC dg X248.2.tags X248.1.tags:=hX248.tags
  have ie:RG 67 entC dg X248.2.log X248.1.log:=hX248.log
  have hd248:Fo X248.1 c248 (B2 b):=hd248
  rw[hD]at hd248
  obtain⟨ig,hm248⟩:=hd248
  subst ig
  refine oM rfl (oS rfl (Yk.extract (vs:= [.agg (refsC X248).toArray,NI 0]) (vr (.tuple #[.agg (refsC X248).toArray,NI 0]) rfl) (show _=some (.agg (refsC X248).toArray:Value)from rfl) (oS rfl (Yk.extract (vs:= [.agg (refsC X248).toArray,NI 0]) (vr (.tuple #[.agg (refsC X248).toArray,NI 0]) rfl) (show _=some (NI 0:Value)from rfl) (oS rfl (Yk.alloc (cs:=(refsC ((⟨[],[],[],zid,[]⟩,⟨.slice none 0 0, .slice none 0 0, .slice none 0 0⟩):Ah)).toArray) JX fun dh ih fa fb b7 ld=> ?_))))))
  have aq:=Ext.refl dg
  have ii:=hE.size
  have ij:=j.size
  have ik:=af.size
  have le:=Bc (bl c) fa
  have lf:=Bc (bl aj) fa
  have hE:=hE.trans b7
  have c:=eb b7 c
  have j:=j.trans b7
  have af:=af.trans b7
  have aj:=eb b7 aj
  have aq:=aq.trans b7
  have cl:=fb;clear fb
  have lg:dh<ih.heap.size:=by omega
  refine oS rfl (Yk.storeAll (vr (PQ dh 0) rfl) (vr (.agg (refsC X248).toArray) rfl) cl (by simp only[List.size_toArray,Ao]) (AC (Ao _) Gq) (Br (x:=X248) (RG.one (ic.keep aq)).2 (RG.one (id.keep aq)).2 (RG.one (ie.keep aq)).2) fun il fc b8 lh=> ?_)
  have hE:=Af hE b8 (Nat.le_trans ii (by omega))
  have c:=kb b8 c (by omega)
  have j:=Af j b8 (Nat.le_trans ij (by omega))
  have af:=Af af b8 (Nat.le_trans ik (by omega))
  have aj:=kb b8 aj (by omega)
  have aq:=Af aq b8 (Nat.le_trans (Nat.le_refl _) (by omega))
  clear cl
  have cl:il.heap[dh]? =some (.cells (refsC X248).toArray 27 (0,0)):=fc;clear fc
  have li:=bl cl
  refine oA rfl (A3 [(0, .agg (refsC y).toArray),(1,vb),(2,PQ o 0),(4, .bool (false)),(5,bv),(6,NI 1),(7,bw),(8,NI 1),(9,PQ dd 0),(10,NI 0),(11,PQ dh 0),(12,NI 0)] ⟨p,f,rfl,rfl,rfl,rfl,rfl,rfl,rfl,rfl,rfl,rfl,trivial⟩ fun lj ⟨p,f,T2,T4,s,t,u,z,T9,ab,ac,ad,_⟩=>(tN (ib _ _ (sk fun lk im=> ?_))))
  refine Bw [Is (bv),Is (St (([]:List UInt8))),Is (bw),Is (St (([]:List UInt8))),Is (.bool (true)),Is (.bool (true)),Is (NI 1),Is (NI 1),Is (.bool (true)),Is (.bool (true)),Is (.bool (true)),Is (.agg (refsC X222).toArray),fun x w' =>∃v,x = .agg (refsC (X222.1,v)).toArray∧RefsAt w' (X222.1,v),Is (.agg (refsC X248).toArray),Is (.bool (true)),Is (.bool (true)),Is (.bool (true)),Is (NI 0),Is (NI 0),Is (.bool (true)),Is (.bool (true)),Is (.bool (true)),Is (.bool (true)),Is (.bool (true)),Is (.bool (true))] (by kernel_rfl) [44,45,46,47,48,49,50,51,52,53,54,55,56,57,58,59,60,61,62,63,64,65,66,67,4] (by kernel_rfl) (by kernel_rfl) (CG ⟨(fun _ _ _ ⟨v,h1,h2⟩ k=>⟨v,h1,h2.keep k⟩),(CG trivial)⟩) ?io ?hQ3007
  case io=>
   refine⟨?_,?_,?_,?_,?_,?_,?_,?_,?_,?_,?_,?_,?_,?_,?_,?_,?_,?_,?_,?_,?_,?_,?_,?_,?_,trivial⟩
   ·refine Aa rfl fun σ w1 hC h=> ?_
    have e5:=(Ae (h 5 (by decide))).trans s
    exact Yk.move e5 ⟨Ext.refl _,rfl⟩
   ·refine Aa rfl fun σ w1 hC h=> ?_
    have ax:=Ae (h 44 (by decide))
    exact Yk.convRB Ek u5 DT (RB.of (d1.keep (j.trans hC)) ax) ⟨Ext.refl _,rfl⟩
   ·refine Aa rfl fun σ w1 hC h=> ?_
    have e7:=(Ae (h 7 (by decide))).trans u
    exact Yk.move e7 ⟨Ext.refl _,rfl⟩
   ·refine Aa rfl fun σ w1 hC h=> ?_
    have az:=Ae (h 46 (by decide))
    exact Yk.convRB Ek u5 DT (RB.of (hr.keep (j.trans hC)) az) ⟨Ext.refl _,rfl⟩
   ·refine Aa rfl fun σ w1 hC h=> ?_
    have a0:=Ae (h 45 (by decide))
    have a1:=Ae (h 47 (by decide))
    exact Yk.eqSt (l:=([]:List UInt8)) (m:=([]:List UInt8)) (.inl rfl) a0 a1 (decide (([]:List UInt8)=(([]:List UInt8):List UInt8))) rfl ⟨Ext.refl _,(congrArg Value.bool (decide_eq_true (rfl)))⟩
   ·refine Aa rfl fun σ w1 hC h=> ?_
    have a2:=Ae (h 48 (by decide))
    exact Yk.move a2 ⟨Ext.refl _,rfl⟩
   ·refine Bi 5 true 49 rfl rfl (fun _ _ h=>h) fun σ w1 hC h=> ?_
    have e6:=(Ae (h 6 (by decide))).trans t
    exact Yk.move e6 ⟨Ext.refl _,rfl⟩
   ·refine Bi 5 true 49 rfl rfl (fun _ _ h=>h) fun σ w1 hC h=> ?_
    have e8:=(Ae (h 8 (by decide))).trans z
    exact Yk.move e8 ⟨Ext.refl _,rfl⟩
   ·refine Bi 5 true 49 rfl rfl (fun _ _ h=>h) fun σ w1 hC h=> ?_
    have a5:=Ae (h 50 (by decide))
    have a6:=Ae (h 51 (by decide))
    exact Yk.eqI (a:=(1:Nat)) (b:=(1:Nat)) a5 a6 (A2 _ _ _ _) ⟨Ext.refl _,(congrArg Value.bool (decide_eq_true (rfl)))⟩
   ·refine Aa rfl fun σ w1 hC h=> ?_
    have a7:=Ae (h 49 (by decide))
    have a8:=Ae (h 52 (by decide))
    exact Yk.pickT a7 a8 ⟨Ext.refl _,rfl⟩
   ·refine Aa rfl fun σ w1 hC h=> ?_
    have a9:=Ae (h 53 (by decide))
    exact Yk.move a9 ⟨Ext.refl _,rfl⟩
   ·refine Bi 10 true 54 rfl rfl (fun _ _ h=>h) fun σ w1 hC h=> ?_
    have e9:=(Ae (h 9 (by decide))).trans T9
    exact Yk.loadAll e9 (eb hC aj) (N9).choose_spec rfl (AC (Ao X222) IJ) ⟨Ext.refl _,rfl⟩
   ·refine Bi 10 true 54 rfl rfl (fun _ _ h=>h) fun σ w1 hC h=> ?_
    have bb:=Ae (h 55 (by decide))
    refine Yk.callA1 FF bb ((Gr _ X222 (hX222.keep (af.trans hC)) (by rw[hm222];exact hcm)).mono ?_)
    rintro e w2 ⟨v,rfl,hR,hx⟩
    exact⟨_,rfl,hx,v,rfl,hR⟩
   ·refine Bi 10 true 54 rfl rfl (fun _ _ h=>h) fun σ w1 hC h=> ?_
    have bc:=(Ae (h 11 (by decide))).trans ac
    exact Yk.loadAll bc (eb hC cl) (JZ).choose_spec rfl (AC (Ao X248) Gq) ⟨Ext.refl _,rfl⟩
   ·refine Bi 10 true 54 rfl rfl (fun _ _ h=>h) fun σ w1 hC h=> ?_
    have bd:(fun x w' =>∃v,x = .agg (refsC (X222.1,v)).toArray∧RefsAt w' (X222.1,v)) (σ 56) w1:=h 56 (by decide)
    have be:=Ae (h 57 (by decide))
    obtain⟨q,hqe,hq⟩:=bd
    refine Yk.callA2 FG hqe be ((Ep _ (X222.1,q) X248 hq (hX248.keep (aq.trans hC)) (show X248.1=X222.1 from hm248.trans hm222.symm) (by show By X222.1;rw[hm222];exact hLm)).mono ?_)
    rintro e w2 ⟨rfl,hx⟩
    exact⟨_,rfl,hx,rfl⟩
   ·refine Aa rfl fun σ w1 hC h=> ?_
    have bf:=Ae (h 54 (by decide))
    have bg:=Ae (h 58 (by decide))
    exact Yk.pickT bf bg ⟨Ext.refl _,rfl⟩
   ·refine Aa rfl fun σ w1 hC h=> ?_
    have bh:=Ae (h 59 (by decide))
    exact Yk.move bh ⟨Ext.refl _,rfl⟩
   ·refine Bi 16 true 60 rfl rfl (fun _ _ h=>h) fun σ w1 hC h=> ?_
    have bi:=(Ae (h 10 (by decide))).trans ab
    exact Yk.move bi ⟨Ext.refl _,rfl⟩
   ·refine Bi 16 true 60 rfl rfl (fun _ _ h=>h) fun σ w1 hC h=> ?_
    have bj:=(Ae (h 12 (by decide))).trans ad
    exact Yk.move bj ⟨Ext.refl _,rfl⟩
   ·refine Bi 16 true 60 rfl rfl (fun _ _ h=>h) fun σ w1 hC h=> ?_
    have bk:=Ae (h 61 (by decide))
    have bm:=Ae (h 62 (by decide))
    exact Yk.eqI (a:=(0:Nat)) (b:=(0:Nat)) bk bm (A2 _ _ _ _) ⟨Ext.refl _,(congrArg Value.bool (decide_eq_true (rfl)))⟩
   ·refine Aa rfl fun σ w1 hC h=> ?_
    have bn:=Ae (h 60 (by decide))
    have bo:=Ae (h 63 (by decide))
    exact Yk.pickT bn bo ⟨Ext.refl _,rfl⟩
   ·refine Aa rfl fun σ w1 hC h=> ?_
    have bp:=Ae (h 64 (by decide))
    exact Yk.move bp ⟨Ext.refl _,rfl⟩
   ·refine Bi 21 true 65 rfl rfl (fun _ _ h=>h) fun σ w1 hC h=>(Yk.callA0 FH ((Hv _).mono ?_))
    rintro e w2 ⟨rfl,hx⟩
    exact⟨_,rfl,hx,rfl⟩
   ·refine Aa rfl fun σ w1 hC h=> ?_
    have bq:=Ae (h 65 (by decide))
    have br:=Ae (h 66 (by decide))
    exact Yk.pickT bq br ⟨Ext.refl _,rfl⟩
   ·refine Aa rfl fun σ w1 hC h=> ?_
    have bs:=Ae (h 67 (by decide))
    exact Yk.assign bs ⟨Ext.refl _,rfl⟩
  intro ip ll fd he hf
  obtain⟨-,-,-,-,-,-,-,-,-,-,-,-,-,-,-,-,-,-,-,-,-,-,-,-,k4,-⟩:=hf
  obtain⟨p,f,T2,s,t,u,z,T9,ab,ac,ad,-⟩:=he.hold [(0,_),(1,_),(2,_),(5,_),(6,_),(7,_),(8,_),(9,_),(10,_),(11,_),(12,_)] ⟨p,f,T2,s,t,u,z,T9,ab,ac,ad,trivial⟩ rfl
  clear he
  have hE:=hE.trans fd
  have c:=eb fd c
  have T4:ip 4 = .bool (true):=k4
  clear k4
  refine tN (im _ _ (Am (Aj (fn:=Tryz.f3) _ rfl [.bool (true)] (.bool (true)) rfl ⟨T4,trivial⟩ ?_)))
  exact⟨rfl,hE⟩
 refine Aq (tN (ct _ _ (sk fun lm iq=>(wt (oS rfl (Yk.loadAll (vr (PQ o 0) rfl) c (JZ).choose_spec rfl (AC (Ao y) Gq) (oS rfl (Yk.callA1 Gw (vr (.agg (refsC y).toArray) rfl) ((EY _ y (RefsAt.mk (hmt.keep hE) (hmg.keep hE) (hml.keep hE)) hc).mono ?_)))))))))
 rintro e ln ⟨fe,rfl,cm,ff⟩
 refine⟨_,rfl,?_⟩
 have hE:=hE.trans ff
 have c:=eb ff c
 refine oS rfl (Yk.callA1 Gx (vr (.agg (refsC (y.1,fe)).toArray) rfl) ((H3 _ (y.1,fe) cm hL hR).mono ?_))
 rintro e lo ⟨bx,rfl,d6,d7⟩
 refine⟨_,rfl,?_⟩
 have hE:=hE.trans d7
 have c:=eb d7 c
 have cm:=cm.keep d7
 refine oM rfl (oS rfl (Yk.extract (vs:= [bx,NI 0]) (vr (.tuple #[bx,NI 0]) rfl) (show _=some (bx:Value)from rfl) (oS rfl (Yk.extract (vs:= [bx,NI 0]) (vr (.tuple #[bx,NI 0]) rfl) (show _=some (NI 0:Value)from rfl) (oA rfl (oA rfl (oZ (tN (iq _ _ (sk fun lp ir=>(wt (oS rfl (Yk.loadAll (vr (PQ o 0) rfl) c (JZ).choose_spec rfl (AC (Ao y) Gq) (oS rfl (Yk.callA1 Gy (vr (.agg (refsC y).toArray) rfl) ((H5 _ y (RefsAt.mk (hmt.keep hE) (hmg.keep hE) (hml.keep hE)) hL hR).mono ?_))))))))))))))))
 rintro e fg ⟨bz,rfl,iu,di⟩
 refine⟨_,rfl,?_⟩
 have hE:=hE.trans di
 have c:=eb di c
 have cm:=cm.keep di
 have d6:=d6.keep di
 refine oM rfl (oS rfl (Yk.extract (vs:= [bz,NI 0]) (vr (.tuple #[bz,NI 0]) rfl) (show _=some (bz:Value)from rfl) (oS rfl (Yk.extract (vs:= [bz,NI 0]) (vr (.tuple #[bz,NI 0]) rfl) (show _=some (NI 0:Value)from rfl) (oA rfl (oA rfl (oZ (tN (ir _ _ (sk fun lq iv=>(wt (oS rfl (Yk.lit0 EZ fun d8 iw b9=> ?_)))))))))))))
 have n:=Ext.refl fg
 have ix:=hE.size
 have iy:OB d8 o:=Be b9.own (bl c)
 have hE:=hE.trans b9.ext
 have c:=eb b9.ext c
 have n:=n.trans b9.ext
 have dj:=b9.own;clear b9
 refine oM rfl (oS rfl (Yk.appendRB _ _ fg.heap.size (.int .u8 0) Ek Ih rfl Ek (([]:List UInt8)) (b) (B4 dj (vr d8 rfl)) (RB.of (hrb.keep hE) f) (by simp only[List.length_nil];omega) n.size fun d9 iz i0 cn=> ?_))
 have cn:Grew iw iz d8 d9:=cn
 have hE:=AZ hE cn dj ix
 have c:=AN c cn iy
 have n:=AZ n cn dj (Nat.le_refl _)
 clear dj
 refine oS rfl (Yk.callA1 Gz (vr d9 rfl) ((Er _ d9 (([]:List UInt8)++b) (RB.ofOwn i0) (by simp only[List.nil_append];omega)).mono ?_))
 rintro e dk ⟨X309,c309,rfl,hX309,hd309,ea⟩
 refine⟨_,rfl,?_⟩
 have hE:=hE.trans ea
 have c:=eb ea c
 have n:=n.trans ea
 have i1:RG 33 nmdC dk X309.2.branches X309.1.branches:=hX309.branches
 have i2:RG 33 nmdC dk X309.2.tags X309.1.tags:=hX309.tags
 have i3:RG 67 entC dk X309.2.log X309.1.log:=hX309.log
 have hd309:Fo X309.1 c309 (B2 b):=hd309
 rw[hD]at hd309
 obtain⟨i4,hm309⟩:=hd309
 subst i4
 refine oM rfl (oS rfl (Yk.extract (vs:= [.agg (refsC X309).toArray,NI 0]) (vr (.tuple #[.agg (refsC X309).toArray,NI 0]) rfl) (show _=some (.agg (refsC X309).toArray:Value)from rfl) (oS rfl (Yk.extract (vs:= [.agg (refsC X309).toArray,NI 0]) (vr (.tuple #[.agg (refsC X309).toArray,NI 0]) rfl) (show _=some (NI 0:Value)from rfl) (oS rfl (Yk.alloc (cs:=(refsC ((⟨[],[],[],zid,[]⟩,⟨.slice none 0 0, .slice none 0 0, .slice none 0 0⟩):Ah)).toArray) N8 fun dl i5 i6 fh dm lr=> ?_))))))
 have ag:=Ext.refl dk
 have i7:=hE.size
 have i8:=n.size
 have ls:=Bc (bl c) i6
 have hE:=hE.trans dm
 have c:=eb dm c
 have n:=n.trans dm
 have ag:=ag.trans dm
 have ak:=fh;clear fh
 have lt:dl<i5.heap.size:=by omega
 refine oS rfl (Yk.storeAll (vr (PQ dl 0) rfl) (vr (.agg (refsC X309).toArray) rfl) ak (by simp only[List.size_toArray,Ao]) (AC (Ao _) IJ) (Br (x:=X309) (RG.one (i1.keep ag)).2 (RG.one (i2.keep ag)).2 (RG.one (i3.keep ag)).2) fun i9 fi dn lu=> ?_)
 have hE:=Af hE dn (Nat.le_trans i7 (by omega))
 have c:=kb dn c (by omega)
 have n:=Af n dn (Nat.le_trans i8 (by omega))
 have ag:=Af ag dn (Nat.le_trans (Nat.le_refl _) (by omega))
 clear ak
 have ak:i9.heap[dl]? =some (.cells (refsC X309).toArray 35 (0,0)):=fi;clear fi
 have lv:=bl ak
 refine oA rfl (oZ (tN (iv _ _ (sk fun lw ja=>(wt (oM rfl (oS rfl (Yk.callA1 GA f ((Et _ vb (b) (hrb.keep hE) (by omega)).mono ?_)))))))))
 rintro e dp ⟨X335,c335,rfl,hX335,hd335,co⟩
 refine⟨_,rfl,?_⟩
 have hE:=hE.trans co
 have c:=eb co c
 have n:=n.trans co
 have ag:=ag.trans co
 have ak:=eb co ak
 have jb:RG 33 nmdC dp X335.2.branches X335.1.branches:=hX335.branches
 have jc:RG 33 nmdC dp X335.2.tags X335.1.tags:=hX335.tags
 have jd:RG 67 entC dp X335.2.log X335.1.log:=hX335.log
 have hd335:Fo X335.1 c335 (B2 b):=hd335
 rw[hD]at hd335
 obtain⟨je,hm335⟩:=hd335
 subst je
 refine oM rfl (oS rfl (Yk.extract (vs:= [.agg (refsC X335).toArray,NI 0]) (vr (.tuple #[.agg (refsC X335).toArray,NI 0]) rfl) (show _=some (.agg (refsC X335).toArray:Value)from rfl) (oS rfl (Yk.extract (vs:= [.agg (refsC X335).toArray,NI 0]) (vr (.tuple #[.agg (refsC X335).toArray,NI 0]) rfl) (show _=some (NI 0:Value)from rfl) (oS rfl (Yk.alloc (cs:=(refsC ((⟨[],[],[],zid,[]⟩,⟨.slice none 0 0, .slice none 0 0, .slice none 0 0⟩):Ah)).toArray) JX fun dq jf fj fk cp lx=> ?_))))))
 have ar:=Ext.refl dp
 have jg:=hE.size
 have jh:=n.size
 have ji:=ag.size
 have ly:=Bc (bl c) fj
 have lz:=Bc (bl ak) fj
 have hE:=hE.trans cp
 have n:=n.trans cp
 have ag:=ag.trans cp
 have ak:=eb cp ak
 have ar:=ar.trans cp
 have cq:=fk;clear fk
 have l0:dq<jf.heap.size:=by omega
 refine oS rfl (Yk.storeAll (vr (PQ dq 0) rfl) (vr (.agg (refsC X335).toArray) rfl) cq (by simp only[List.size_toArray,Ao]) (AC (Ao _) Gq) (Br (x:=X335) (RG.one (jb.keep ar)).2 (RG.one (jc.keep ar)).2 (RG.one (jd.keep ar)).2) fun jj fl cr l1=> ?_)
 have hE:=Af hE cr (Nat.le_trans jg (by omega))
 have n:=Af n cr (Nat.le_trans jh (by omega))
 have ag:=Af ag cr (Nat.le_trans ji (by omega))
 have ak:=kb cr ak (by omega)
 have ar:=Af ar cr (Nat.le_trans (Nat.le_refl _) (by omega))
 clear cq
 have cq:jj.heap[dq]? =some (.cells (refsC X335).toArray 27 (0,0)):=fl;clear fl
 have l2:=bl cq
 refine oA rfl (A3 [(0, .agg (refsC y).toArray),(1,vb),(2,PQ o 0),(4, .bool (false)),(5,bx),(6,NI 0),(7,bz),(8,NI 0),(9,PQ dl 0),(10,NI 0),(11,PQ dq 0),(12,NI 0)] ⟨p,f,rfl,rfl,rfl,rfl,rfl,rfl,rfl,rfl,rfl,rfl,trivial⟩ fun l3 ⟨p,f,T2,T4,s,t,u,z,T9,ab,ac,ad,_⟩=>(tN (ja _ _ (sk fun l4 jk=> ?_))))
 refine Bw [Is (bx),Is (St (encR y.1)),Is (bz),Is (St (encR y.1)),Is (.bool (true)),Is (.bool (true)),Is (NI 0),Is (NI 0),Is (.bool (true)),Is (.bool (true)),Is (.bool (true)),Is (.agg (refsC X309).toArray),fun x w' =>∃v,x = .agg (refsC (X309.1,v)).toArray∧RefsAt w' (X309.1,v),Is (.agg (refsC X335).toArray),Is (.bool (true)),Is (.bool (true)),Is (.bool (true)),Is (NI 0),Is (NI 0),Is (.bool (true)),Is (.bool (true)),Is (.bool (true)),Is (.bool (true)),Is (.bool (true)),Is (.bool (true))] (by kernel_rfl) [44,45,46,47,48,49,50,51,52,53,54,55,56,57,58,59,60,61,62,63,64,65,66,67,4] (by kernel_rfl) (by kernel_rfl) (CG ⟨(fun _ _ _ ⟨v,h1,h2⟩ k=>⟨v,h1,h2.keep k⟩),(CG trivial)⟩) ?jl ?hQ4007
 case jl=>
  refine⟨?_,?_,?_,?_,?_,?_,?_,?_,?_,?_,?_,?_,?_,?_,?_,?_,?_,?_,?_,?_,?_,?_,?_,?_,?_,trivial⟩
  ·refine Aa rfl fun σ w1 hC h=> ?_
   have e5:=(Ae (h 5 (by decide))).trans s
   exact Yk.move e5 ⟨Ext.refl _,rfl⟩
  ·refine Aa rfl fun σ w1 hC h=> ?_
   have ax:=Ae (h 44 (by decide))
   exact Yk.convRB Ek u5 DT (RB.of (d6.keep (n.trans hC)) ax) ⟨Ext.refl _,rfl⟩
  ·refine Aa rfl fun σ w1 hC h=> ?_
   have e7:=(Ae (h 7 (by decide))).trans u
   exact Yk.move e7 ⟨Ext.refl _,rfl⟩
  ·refine Aa rfl fun σ w1 hC h=> ?_
   have az:=Ae (h 46 (by decide))
   exact Yk.convRB Ek u5 DT (RB.of (iu.keep (n.trans hC)) az) ⟨Ext.refl _,rfl⟩
  ·refine Aa rfl fun σ w1 hC h=> ?_
   have a0:=Ae (h 45 (by decide))
   have a1:=Ae (h 47 (by decide))
   exact Yk.eqSt (l:=encR y.1) (m:=encR y.1) (.inl rfl) a0 a1 (decide ((encR y.1:List UInt8)=(encR y.1:List UInt8))) rfl ⟨Ext.refl _,(congrArg Value.bool (decide_eq_true (rfl)))⟩
  ·refine Aa rfl fun σ w1 hC h=> ?_
   have a2:=Ae (h 48 (by decide))
   exact Yk.move a2 ⟨Ext.refl _,rfl⟩
  ·refine Bi 5 true 49 rfl rfl (fun _ _ h=>h) fun σ w1 hC h=> ?_
   have e6:=(Ae (h 6 (by decide))).trans t
   exact Yk.move e6 ⟨Ext.refl _,rfl⟩
  ·refine Bi 5 true 49 rfl rfl (fun _ _ h=>h) fun σ w1 hC h=> ?_
   have e8:=(Ae (h 8 (by decide))).trans z
   exact Yk.move e8 ⟨Ext.refl _,rfl⟩
  ·refine Bi 5 true 49 rfl rfl (fun _ _ h=>h) fun σ w1 hC h=> ?_
   have a5:=Ae (h 50 (by decide))
   have a6:=Ae (h 51 (by decide))
   exact Yk.eqI (a:=(0:Nat)) (b:=(0:Nat)) a5 a6 (A2 _ _ _ _) ⟨Ext.refl _,(congrArg Value.bool (decide_eq_true (rfl)))⟩
  ·refine Aa rfl fun σ w1 hC h=> ?_
   have a7:=Ae (h 49 (by decide))
   have a8:=Ae (h 52 (by decide))
   exact Yk.pickT a7 a8 ⟨Ext.refl _,rfl⟩
  ·refine Aa rfl fun σ w1 hC h=> ?_
   have a9:=Ae (h 53 (by decide))
   exact Yk.move a9 ⟨Ext.refl _,rfl⟩
  ·refine Bi 10 true 54 rfl rfl (fun _ _ h=>h) fun σ w1 hC h=> ?_
   have e9:=(Ae (h 9 (by decide))).trans T9
   exact Yk.loadAll e9 (eb hC ak) (N9).choose_spec rfl (AC (Ao X309) IJ) ⟨Ext.refl _,rfl⟩
  ·refine Bi 10 true 54 rfl rfl (fun _ _ h=>h) fun σ w1 hC h=> ?_
   have bb:=Ae (h 55 (by decide))
   refine Yk.callA1 FF bb ((Gr _ X309 (hX309.keep (ag.trans hC)) (by rw[hm309];exact hcm)).mono ?_)
   rintro e w2 ⟨v,rfl,hR,hx⟩
   exact⟨_,rfl,hx,v,rfl,hR⟩
  ·refine Bi 10 true 54 rfl rfl (fun _ _ h=>h) fun σ w1 hC h=> ?_
   have bc:=(Ae (h 11 (by decide))).trans ac
   exact Yk.loadAll bc (eb hC cq) (JZ).choose_spec rfl (AC (Ao X335) Gq) ⟨Ext.refl _,rfl⟩
  ·refine Bi 10 true 54 rfl rfl (fun _ _ h=>h) fun σ w1 hC h=> ?_
   have bd:(fun x w' =>∃v,x = .agg (refsC (X309.1,v)).toArray∧RefsAt w' (X309.1,v)) (σ 56) w1:=h 56 (by decide)
   have be:=Ae (h 57 (by decide))
   obtain⟨q,hqe,hq⟩:=bd
   refine Yk.callA2 FG hqe be ((Ep _ (X309.1,q) X335 hq (hX335.keep (ar.trans hC)) (show X335.1=X309.1 from hm335.trans hm309.symm) (by show By X309.1;rw[hm309];exact hLm)).mono ?_)
   rintro e w2 ⟨rfl,hx⟩
   exact⟨_,rfl,hx,rfl⟩
  ·refine Aa rfl fun σ w1 hC h=> ?_
   have bf:=Ae (h 54 (by decide))
   have bg:=Ae (h 58 (by decide))
   exact Yk.pickT bf bg ⟨Ext.refl _,rfl⟩
  ·refine Aa rfl fun σ w1 hC h=> ?_
   have bh:=Ae (h 59 (by decide))
   exact Yk.move bh ⟨Ext.refl _,rfl⟩
  ·refine Bi 16 true 60 rfl rfl (fun _ _ h=>h) fun σ w1 hC h=> ?_
   have bi:=(Ae (h 10 (by decide))).trans ab
   exact Yk.move bi ⟨Ext.refl _,rfl⟩
  ·refine Bi 16 true 60 rfl rfl (fun _ _ h=>h) fun σ w1 hC h=> ?_
   have bj:=(Ae (h 12 (by decide))).trans ad
   exact Yk.move bj ⟨Ext.refl _,rfl⟩
  ·refine Bi 16 true 60 rfl rfl (fun _ _ h=>h) fun σ w1 hC h=> ?_
   have bk:=Ae (h 61 (by decide))
   have bm:=Ae (h 62 (by decide))
   exact Yk.eqI (a:=(0:Nat)) (b:=(0:Nat)) bk bm (A2 _ _ _ _) ⟨Ext.refl _,(congrArg Value.bool (decide_eq_true (rfl)))⟩
  ·refine Aa rfl fun σ w1 hC h=> ?_
   have bn:=Ae (h 60 (by decide))
   have bo:=Ae (h 63 (by decide))
   exact Yk.pickT bn bo ⟨Ext.refl _,rfl⟩
  ·refine Aa rfl fun σ w1 hC h=> ?_
   have bp:=Ae (h 64 (by decide))
   exact Yk.move bp ⟨Ext.refl _,rfl⟩
  ·refine Bi 21 true 65 rfl rfl (fun _ _ h=>h) fun σ w1 hC h=>(Yk.callA0 FH ((Hv _).mono ?_))
   rintro e w2 ⟨rfl,hx⟩
   exact⟨_,rfl,hx,rfl⟩
  ·refine Aa rfl fun σ w1 hC h=> ?_
   have bq:=Ae (h 65 (by decide))
   have br:=Ae (h 66 (by decide))
   exact Yk.pickT bq br ⟨Ext.refl _,rfl⟩
  ·refine Aa rfl fun σ w1 hC h=> ?_
   have bs:=Ae (h 67 (by decide))
   exact Yk.assign bs ⟨Ext.refl _,rfl⟩
 intro jm l5 jn he hf
 obtain⟨-,-,-,-,-,-,-,-,-,-,-,-,-,-,-,-,-,-,-,-,-,-,-,-,k4,-⟩:=hf
 obtain⟨p,f,T2,s,t,u,z,T9,ab,ac,ad,-⟩:=he.hold [(0,_),(1,_),(2,_),(5,_),(6,_),(7,_),(8,_),(9,_),(10,_),(11,_),(12,_)] ⟨p,f,T2,s,t,u,z,T9,ab,ac,ad,trivial⟩ rfl
 clear he
 have hE:=hE.trans jn
 have T4:jm 4 = .bool (true):=k4
 clear k4
 refine tN (jk _ _ (Am (Aj (fn:=Tryz.f3) _ rfl [.bool (true)] (.bool (true)) rfl ⟨T4,trivial⟩ ?_)))
 exact⟨rfl,hE⟩
end Go.Proofs.YtmonlobfofkbdaaGreatDoor
