/- Part 5 of what stands behind these statements: laws and walks of the functions that are reached. Conditions: those that each theorem names. -/
import Derived.Test.YtcegdjpdnlaleaaDoorQ4
set_option linter.unusedVariables false
namespace Go.Proofs.YtcegdjpdnlaleaaDoor
open Go.RowKit
set_option maxRecDepth 100000
theorem F6(z0:Int)(z1:Bool)(w:World):(Instr.build 116 #[(0, .int .i64 z0),(1, .bool z1)]).run Tryd.prog w = .ok (.agg (Value.int .i64 z0 :: Value.bool z1 :: (Lib.byteCells (List.replicate 32 0)++ [Value.slice none 0 0])).toArray) w:=by kernel_rfl
theorem F7{d:Option Tmp}{ty:TypeId}{pos:String}{af:Array Edge}{gd:Option (Nat × Bool)}(σ:Operand→Value)(w:World):(execOp σ ⟨d, .alloc 116,ty,pos,af,gd⟩).run Tryd.prog w = .ok (.value (PQ w.heap.size 0)) (w.alloc (.cells (entC dEnt).toArray 116)):=by kernel_rfl
theorem D2:(Tryd.prog.info? 116).map (·.size)=some 35:=by kernel_rfl
theorem E6:BK Tryd.prog 116 1 1:=fun b o w=>by simp[go_sem]
theorem Hu:Tryd.prog.underlying 4=some (.bool):=by kernel_rfl
theorem IP:A2 Tryd.prog 75:=fun _ _=>by kernel_rfl
theorem JW:BK Tryd.prog 116 2 2:=fun b o w=>by simp[go_sem]
theorem IQ:A2 Tryd.prog 76:=fun _ _=>by kernel_rfl
theorem GK:BK Tryd.prog 116 3 34:=fun b o w=>by simp[go_sem]
theorem HY:∃fs,Tryd.prog.underlying 116=some (.struct fs):=Eg (by kernel_rfl)
theorem LK(c0 c1 c2 c3 c4 c5 c6 c7 c8 c9 c10 c11 c12 c13 c14 c15 c16 c17 c18 c19 c20 c21 c22 c23 c24 c25 c26 c27 c28 c29 c30 c31 c32 c33 c34:Value)(w:World):(Instr.buildSlice 110 1 #[(0, .agg #[c0,c1,c2,c3,c4,c5,c6,c7,c8,c9,c10,c11,c12,c13,c14,c15,c16,c17,c18,c19,c20,c21,c22,c23,c24,c25,c26,c27,c28,c29,c30,c31,c32,c33,c34])]).run Tryd.prog w = .ok (.slice (some ⟨w.heap.size,0,none⟩) 1 1) (w.alloc (.cells #[c0,c1,c2,c3,c4,c5,c6,c7,c8,c9,c10,c11,c12,c13,c14,c15,c16,c17,c18,c19,c20,c21,c22,c23,c24,c25,c26,c27,c28,c29,c30,c31,c32,c33,c34] 116)):=by kernel_rfl
theorem H0:∀(cs:Array Value),cs.size=35→∀w:World,(Instr.buildSlice 110 1 #[(0, .agg cs)]).run Tryd.prog w = .ok (.slice (some ⟨w.heap.size,0,none⟩) 1 1) (w.alloc (.cells cs 116))
 | ⟨c0 :: c1 :: c2 :: c3 :: c4 :: c5 :: c6 :: c7 :: c8 :: c9 :: c10 :: c11 :: c12 :: c13 :: c14 :: c15 :: c16 :: c17 :: c18 :: c19 :: c20 :: c21 :: c22 :: c23 :: c24 :: c25 :: c26 :: c27 :: c28 :: c29 :: c30 :: c31 :: c32 :: c33 :: c34 :: []⟩,_,w=>LK c0 c1 c2 c3 c4 c5 c6 c7 c8 c9 c10 c11 c12 c13 c14 c15 c16 c17 c18 c19 c20 c21 c22 c23 c24 c25 c26 c27 c28 c29 c30 c31 c32 c33 c34 w
theorem pk12_ig116:∃z,(Tryd.prog.info? 116).map (fun i=>(i.zero,i.size,i.bytes))=some (some z,35,72)∧z.cells.size=35:=G1 (by kernel_rfl)
theorem EO:Tryd.prog.underlying 110=some (.slice 116):=by kernel_rfl
theorem KD(w:World)(v:Value)(b:Bs)(hr:RB w v b)(n first fin:Nat)(hff:first≤fin)(hf:fin≤b.length)(hn:n≤1048576)(hb:b.length≤1048576):
  Calls Tryd.prog 65 #[v,NI n,NI first,NI fin] w fun r w' =>(∃x,r = .returned x∧∃es:List Av,Cq b n first fin=some (es.map Prod.fst)∧RG 35 entC w' x es∧EntsOk w' es∧Ext w w')∨∃ch,r = .panicked ch∧Cq b n first fin=none∧ch= [CF 6]∧Ext w w' :=by
 refine CX (args:= [v,NI n,NI first,NI fin]) Tryd.func65 rfl 77 rfl (Nat.le_of_ble_eq_true rfl) ?_
 intro bd hb
 have j:bd 0=(v:Value):=hb.get 0
 have u:bd 1=(NI n:Value):=hb.get 1
 have f:bd 2=(NI first:Value):=hb.get 2
 have m:bd 3=(NI fin:Value):=hb.get 3
 clear hb
 have hE:=Ext.refl w
 refine sk fun K1 da=>(wt (oA rfl (oZ (tN (da _ _ (sk fun K2 db=>(wt (oA rfl (oZ ?_)))))))))
 have hen0:OG w.heap.size 116 35 entC w (Value.slice none 0 0) ([]:List Av):=OG.nil _ _ _ _ _
 refine tN (db _ _ (sk fun K3 dc=>(sk fun K4 dd=>(wt (oM rfl (oM rfl (AH [(0,v),(1,NI n),(2,NI first),(3,NI fin),(8,(Value.slice none 0 0)),(9,(Value.slice none 0 0)),(16,NI n),(17,NI 0)] ⟨j,u,f,m,rfl,rfl,u,rfl,trivial⟩ fun fj ⟨j,u,f,m,T8,z,ae,t,_⟩=>(tN (dd _ _ (Aj (AX (fun(ρ:Aq) (wz:World)=>∃i:Nat,∃es:List Av,∃p:Nat,∃va:Value,ρ 0=(v:Value)∧ρ 1=(NI n:Value)∧ρ 3=(NI fin:Value)∧ρ 8=((Value.slice none 0 0):Value)∧ρ 16=(NI n:Value)∧ρ 17=(NI i:Value)∧ρ 2=(NI p:Value)∧ρ 9=(va:Value)∧Ext w wz∧EntsIn wz va es∧OG w.heap.size 116 35 (entC) wz va (es)∧(CZ b fin first i=some (es.map Prod.fst,p))∧(i≤n)∧(p≤fin)∧(es.length=i)∧True) (fun ρ _=>n-(intOf (ρ 17)).toNat) ⟨0,[],first,(Value.slice none 0 0),j,u,m,T8,ae,t,f,z,hE,EntsIn.nil _ _,B5 hen0 (rfl),rfl,Nat.zero_le _,by omega,rfl,trivial⟩ ?_)))))))))))
 clear hen0
 clear hE
 rintro cb w7 ⟨i,es,p,va,j,u,m,T8,ae,t,f,z,hE,hEn,hr_va,hs,hi,hp,hil,-⟩
 have q17:=t
 refine sk fun K8 de=>(wt (oS rfl (Yk.eqI (a:=(i:Nat)) (b:=(n:Nat)) t ae (AN _ _ _ _) (oZ (tN (de _ _ (sk fun K9 az=> ?_)))))))
 refine AO ((i)<(n)) (vr (.bool (decide ((i)<(n)))) rfl) (fun cc=> ?_) (fun cc=> ?_)
 ·have hil0:i<n:=cc
  have hst:=F5 hs
  have hlen:(b.take fin).length=fin:=by rw[List.length_take];omega
  by_cases hlt:p<fin
  ·by_cases hle:(b.getD p 0).toNat≤1
   ·have hO1:=MT ⟨hlt,hle⟩
    by_cases h1:b.getD p 0=1
    ·rw[if_pos h1]at hO1
     have h1n:(b.getD p 0).toNat=1:=by rw[h1];rfl
     by_cases hg:fin-(p+1)<32
     ·rw[if_pos hg]at hO1
      refine Ah (tN (az _ _ (sk fun fo fp=>(Aj (sk fun fq df=>(wt (oM rfl (oM rfl (oS rfl (Yk.eqI (a:=(p:Nat)) (b:=(fin:Nat)) f m (AN _ _ _ _) (oM rfl (oY (d:=22) rfl rfl (vr (.bool (true)) (congrArg Value.bool (decide_eq_true (hlt)))) (Yk.move j (oY (d:=22) rfl rfl (vr (.bool (true)) (congrArg Value.bool (decide_eq_true (hlt)))) (Yk.move f (oY (d:=22) rfl rfl (vr (.bool (true)) (congrArg Value.bool (decide_eq_true (hlt)))) (Yk.atRB (l:=b) (i:=p) DT Ls (RB.of (hr.keep hE) (vr v rfl)) (vr (NI p) rfl) (by omega) fun dg be=>(oY (d:=22) rfl rfl (vr (.bool (true)) (congrArg Value.bool (decide_eq_true (hlt)))) (Yk.loadC u5 rfl (PCell.of be (vr dg rfl)) (oY (d:=22) rfl rfl (vr (.bool (true)) (congrArg Value.bool (decide_eq_true (hlt)))) (Yk.eqI (a:=((b.getD (p) 0).toNat:Nat)) (b:=(1:Nat)) rfl rfl (C5 _ _ _ _) (oS rfl (Yk.pickT (vr (.bool (true)) (congrArg Value.bool (decide_eq_true (hlt)))) (vr (.bool (true)) (congrArg Value.bool (decide_eq_true (hle)))) ?_)))))))))))))))))))))))
      refine oP rfl (Yp.callA2 Fo (vr (.bool (true)) rfl) (vr (NI 6) rfl) ?_)
      refine AG (Bc _ (true) 6) ?_ ?_
      rotate_left
      ·
       rintro ch fr ⟨rfl,hb,hx⟩
       refine Af (Aw (Af (Af (Aw (Af (AK ?_))))))
       cases hb
      rintro v_ cd ⟨rfl,fs,bf⟩
      have hE:=hE.trans bf
      have hEn:EntsIn cd va es:=(hEn.keep bf)
      have hr_va:=hr_va.keep bf
      have be:=be.keep bf
      refine oZ ?_
      clear be
      refine tN (df _ _ (sk fun ft dh=>(wt (oM rfl (oM rfl (oM rfl (oS rfl (Yk.atRB (l:=b) (i:=p) DT Ls (RB.of (hr.keep hE) j) f (by omega) fun di ce=>(oS rfl (Yk.loadC u5 rfl (PCell.of ce (vr di rfl)) (oS rfl (Yk.eqI (a:=((b.getD (p) 0).toNat:Nat)) (b:=(1:Nat)) rfl rfl (Br _ _ _ _) (oS rfl (Yk.build2 f (vr (.bool (true)) (congrArg Value.bool (decide_eq_true (h1n)))) (fun w=>F6 (p:Int) true w) (oS rfl (Yk.alloc (cs:=(entC dEnt).toArray) F7 fun a0 dj fu cf bt fv=> ?_))))))))))))))))
      have ag:=Ext.refl cd
      have fw:=hE
      have dk:=hE.size
      have dl:OB va a0:=AV hr_va.2 (by omega)
      have hE:=hE.trans bt
      have hr_va:=hr_va.keep bt
      have ag:=ag.trans bt
      have ah:=cf;clear cf
      have fx:a0<dj.heap.size:=by omega
      refine oS rfl (Yk.storeAll (vr (PQ a0 0) rfl) (vr (.agg (entC ((⟨p,true,List.replicate 32 0,[]⟩, .slice none 0 0))).toArray) rfl) ah (BA (x:=((⟨p,true,List.replicate 32 0,[]⟩, .slice none 0 0):Av)) (y:=dEnt) (by simp) (by simp[dEnt])) (Bx (x:=((⟨p,true,List.replicate 32 0,[]⟩, .slice none 0 0):Av)) D2 (by simp)) (BD (x:=((⟨p,true,List.replicate 32 0,[]⟩, .slice none 0 0):Av)) rfl) fun fy cg bu fz=> ?_)
      have hE:=Ac hE bu (Nat.le_trans dk (by omega))
      have hr_va:=OG.kept hr_va bu dl
      have ag:=Ac ag bu (Nat.le_trans (Nat.le_refl _) (by omega))
      clear ah
      have ah:=cg;clear cg
      have f0:=bl ah
      refine oZ ?_
      clear ce
      refine tN (dh _ _ (sk fun f1 dm=>(wt (oM rfl (oS rfl (Yk.bin (xv:=NI p) (yv:=NI 1) f rfl rfl (Ak _ _ _ (by omega)) (oA rfl (oZ (tN (dm _ _ (sk fun f2 f3=>(sk fun f4 dn=>(wt (oS rfl (Yk.fieldAt E6 (vr (PQ a0 0) rfl) (oS rfl (Yk.cell1 Hu rfl (vr (PQ a0 1) rfl) (Ai ah (show(entC ((⟨p,true,List.replicate 32 0,[]⟩, .slice none 0 0)))[1]? =some (.bool (true):Value)from rfl)) (oZ (tN (dn _ _ (AE (vr (.bool (true)) rfl) ?_)))))))))))))))))))))
      refine sk fun f5 dp=>(wt (oM rfl (oM rfl (oS rfl (Yk.sliceHi (xs:=b) (n:=fin) DT Ls j (hr.keep hE) m (by omega) fun ci bv ha45=>(oM rfl (oS rfl (Yk.callA2 IP (vr ci rfl) (vr (NI ((p)+(1))) rfl) ?_))))))))
      refine((show Calls _ _ _ _ (fun e w2=>e = .returned (.tuple #[AB zero32,NI 0,NI 6])∧Ext _ w2)from(Hk _ ci (b.take fin) bv (p+1) (by omega)).mono fun e w2 ⟨h1,h2⟩=>by subst h1;refine⟨?_,h2⟩;unfold DF;rw[hlen];rw[if_pos (by omega)];rfl)).mono ?_
      rintro e dq ⟨rfl,a2⟩
      refine⟨_,rfl,?_⟩
      have hE:=hE.trans a2
      have hr_va:=hr_va.keep a2
      have ag:=ag.trans a2
      have ah:=eb a2 ah
      have bv:=bv.keep a2
      refine oM rfl (oS rfl (Yk.extract (vs:= [AB zero32,NI 0,NI 6]) (vr (.tuple #[AB zero32,NI 0,NI 6]) rfl) (show _=some (AB zero32:Value)from rfl) (oS rfl (Yk.extract (vs:= [AB zero32,NI 0,NI 6]) (vr (.tuple #[AB zero32,NI 0,NI 6]) rfl) (show _=some (NI 0:Value)from rfl) (oS rfl (Yk.extract (vs:= [AB zero32,NI 0,NI 6]) (vr (.tuple #[AB zero32,NI 0,NI 6]) rfl) (show _=some (NI 6:Value)from rfl) (oS rfl (Yk.alloc (cs:=(Lib.byteCells (List.replicate 32 0)).toArray) NH fun bw dr ds cj a3 f6=> ?_))))))))
      have bg:=Ext.refl dq
      have f7:=hE
      have f8:=ag
      have dt:=hE.size
      have du:=ag.size
      have f9:=AT (bl ah) ds
      have dv:OB va bw:=AV hr_va.2 (by omega)
      have hE:=hE.trans a3
      have hr_va:=hr_va.keep a3
      have ag:=ag.trans a3
      have ah:=eb a3 ah
      have bg:=bg.trans a3
      have bh:=cj;clear cj
      have ga:bw<dr.heap.size:=by omega
      refine oS rfl (Yk.storeAll (vr (PQ bw 0) rfl) (vr (AB zero32) rfl) bh (by exact C6 (by decide) List.length_replicate) (by exact AM (by decide)) (AF _) fun gb ck a4 gc=> ?_)
      have hE:=Ac hE a4 (Nat.le_trans dt (by omega))
      have hr_va:=OG.kept hr_va a4 dv
      have ag:=Ac ag a4 (Nat.le_trans du (by omega))
      have ah:=kb a4 ah (by omega)
      have bg:=Ac bg a4 (Nat.le_trans (Nat.le_refl _) (by omega))
      clear bh
      have bh:=ck;clear ck
      have gd:=bl bh
      refine oA rfl (oA rfl (oZ (tN (dp _ _ (sk fun ge gf=>(wt (oM rfl (oS rfl (Yk.eqI (a:=(6:Nat)) (b:=(0:Nat)) rfl rfl (Br _ _ _ _) (oP rfl (Yp.callA2 Fo (vr (.bool (false)) (congrArg Value.bool (decide_eq_false (by decide)))) (vr (NI 6) rfl) ?_)))))))))))
      refine AG (Bc _ (false) 6) ?_ ?_
      rotate_left
      ·
       rintro ch gg ⟨rfl,hb,hx⟩
       refine Af (Af (Aw (Af (Af (Aw (Af (AK ?_)))))))
       have ab:=Dq (show CZ b fin first (i+1)=none by rw[hst,hO1];rfl) (n-(i+1))
       rw[show i+1+(n-(i+1))=n by omega]at ab
       exact .inr ⟨_,rfl,by unfold Cq;rw[ab];rfl,rfl,hE.trans hx⟩
      rintro v_ gh ⟨rfl,dw,gi⟩
      cases dw
     rw[if_neg hg]at hO1
     have ak:(((b.take fin).drop (p+1)).take 32).length=32:=by rw[List.length_take,List.length_drop,hlen];omega
     refine Ah (tN (az _ _ (sk fun gj dx=>(Aj (sk fun gk dy=>(wt (oM rfl (oM rfl (oS rfl (Yk.eqI (a:=(p:Nat)) (b:=(fin:Nat)) f m (AN _ _ _ _) (oM rfl (oY (d:=22) rfl rfl (vr (.bool (true)) (congrArg Value.bool (decide_eq_true (hlt)))) (Yk.move j (oY (d:=22) rfl rfl (vr (.bool (true)) (congrArg Value.bool (decide_eq_true (hlt)))) (Yk.move f (oY (d:=22) rfl rfl (vr (.bool (true)) (congrArg Value.bool (decide_eq_true (hlt)))) (Yk.atRB (l:=b) (i:=p) DT Ls (RB.of (hr.keep hE) (vr v rfl)) (vr (NI p) rfl) (by omega) fun dz bi=>(oY (d:=22) rfl rfl (vr (.bool (true)) (congrArg Value.bool (decide_eq_true (hlt)))) (Yk.loadC u5 rfl (PCell.of bi (vr dz rfl)) (oY (d:=22) rfl rfl (vr (.bool (true)) (congrArg Value.bool (decide_eq_true (hlt)))) (Yk.eqI (a:=((b.getD (p) 0).toNat:Nat)) (b:=(1:Nat)) rfl rfl (C5 _ _ _ _) (oS rfl (Yk.pickT (vr (.bool (true)) (congrArg Value.bool (decide_eq_true (hlt)))) (vr (.bool (true)) (congrArg Value.bool (decide_eq_true (hle)))) ?_)))))))))))))))))))))))
     refine oP rfl (Yp.callA2 Fo (vr (.bool (true)) rfl) (vr (NI 6) rfl) ?_)
     refine AG (Bc _ (true) 6) ?_ ?_
     rotate_left
     ·
      rintro ch gl ⟨rfl,hb,hx⟩
      refine Af (Aw (Af (Af (Aw (Af (AK ?_))))))
      cases hb
     rintro v_ cl ⟨rfl,gm,bj⟩
     have hE:=hE.trans bj
     have hEn:EntsIn cl va es:=(hEn.keep bj)
     have hr_va:=hr_va.keep bj
     have bi:=bi.keep bj
     refine oZ ?_
     clear bi
     refine tN (dy _ _ (sk fun gn d0=>(wt (oM rfl (oM rfl (oM rfl (oS rfl (Yk.atRB (l:=b) (i:=p) DT Ls (RB.of (hr.keep hE) j) f (by omega) fun d1 cm=>(oS rfl (Yk.loadC u5 rfl (PCell.of cm (vr d1 rfl)) (oS rfl (Yk.eqI (a:=((b.getD (p) 0).toNat:Nat)) (b:=(1:Nat)) rfl rfl (Br _ _ _ _) (oS rfl (Yk.build2 f (vr (.bool (true)) (congrArg Value.bool (decide_eq_true (h1n)))) (fun w=>F6 (p:Int) true w) (oS rfl (Yk.alloc (cs:=(entC dEnt).toArray) F7 fun aj d2 go cn bx gp=> ?_))))))))))))))))
     have g:=Ext.refl cl
     have gq:=hE
     have bz:=hE.size
     have a5:OB va aj:=AV hr_va.2 (by omega)
     have hE:=hE.trans bx
     have hr_va:=hr_va.keep bx
     have g:=g.trans bx
     have c:=cn;clear cn
     have gr:aj<d2.heap.size:=by omega
     refine oS rfl (Yk.storeAll (vr (PQ aj 0) rfl) (vr (.agg (entC ((⟨p,true,List.replicate 32 0,[]⟩, .slice none 0 0))).toArray) rfl) c (BA (x:=((⟨p,true,List.replicate 32 0,[]⟩, .slice none 0 0):Av)) (y:=dEnt) (by simp) (by simp[dEnt])) (Bx (x:=((⟨p,true,List.replicate 32 0,[]⟩, .slice none 0 0):Av)) D2 (by simp)) (BD (x:=((⟨p,true,List.replicate 32 0,[]⟩, .slice none 0 0):Av)) rfl) fun gs co b0 gt=> ?_)
     have hE:=Ac hE b0 (Nat.le_trans bz (by omega))
     have hr_va:=OG.kept hr_va b0 a5
     have g:=Ac g b0 (Nat.le_trans (Nat.le_refl _) (by omega))
     clear c
     have c:=co;clear co
     have gu:=bl c
     refine oZ ?_
     clear cm
     refine tN (d0 _ _ (sk fun gv d3=>(wt (oM rfl (oS rfl (Yk.bin (xv:=NI p) (yv:=NI 1) f rfl rfl (Ak _ _ _ (by omega)) (oA rfl (oZ (tN (d3 _ _ (sk fun gw d4=>(sk fun gx d5=>(wt (oS rfl (Yk.fieldAt E6 (vr (PQ aj 0) rfl) (oS rfl (Yk.cell1 Hu rfl (vr (PQ aj 1) rfl) (Ai c (show(entC ((⟨p,true,List.replicate 32 0,[]⟩, .slice none 0 0)))[1]? =some (.bool (true):Value)from rfl)) (oZ (tN (d5 _ _ (AE (vr (.bool (true)) rfl) ?_)))))))))))))))))))))
     refine sk fun gy d6=>(wt (oM rfl (oM rfl (oS rfl (Yk.sliceHi (xs:=b) (n:=fin) DT Ls j (hr.keep hE) m (by omega) fun cp b1 ha109=>(oM rfl (oS rfl (Yk.callA2 IP (vr cp rfl) (vr (NI ((p)+(1))) rfl) ?_))))))))
     refine((show Calls _ _ _ _ (fun e w2=>e = .returned (.tuple #[AB (((b.take fin).drop (p+1)).take 32),NI (p+1+32),NI 0])∧Ext _ w2)from(Hk _ cp (b.take fin) b1 (p+1) (by omega)).mono fun e w2 ⟨h1,h2⟩=>by subst h1;refine⟨?_,h2⟩;unfold DF;rw[hlen];rw[if_neg (by omega)];rfl)).mono ?_
     rintro e d7 ⟨rfl,a6⟩
     refine⟨_,rfl,?_⟩
     have hE:=hE.trans a6
     have hr_va:=hr_va.keep a6
     have g:=g.trans a6
     have c:=eb a6 c
     have b1:=b1.keep a6
     refine oM rfl (oS rfl (Yk.extract (vs:= [AB (((b.take fin).drop (p+1)).take 32),NI (p+1+32),NI 0]) (vr (.tuple #[AB (((b.take fin).drop (p+1)).take 32),NI (p+1+32),NI 0]) rfl) (show _=some (AB (((b.take fin).drop (p+1)).take 32):Value)from rfl) (oS rfl (Yk.extract (vs:= [AB (((b.take fin).drop (p+1)).take 32),NI (p+1+32),NI 0]) (vr (.tuple #[AB (((b.take fin).drop (p+1)).take 32),NI (p+1+32),NI 0]) rfl) (show _=some (NI (p+1+32):Value)from rfl) (oS rfl (Yk.extract (vs:= [AB (((b.take fin).drop (p+1)).take 32),NI (p+1+32),NI 0]) (vr (.tuple #[AB (((b.take fin).drop (p+1)).take 32),NI (p+1+32),NI 0]) rfl) (show _=some (NI 0:Value)from rfl) (oS rfl (Yk.alloc (cs:=(Lib.byteCells (List.replicate 32 0)).toArray) NH fun ap d8 d9 cq a7 gz=> ?_))))))))
     have aq:=Ext.refl d7
     have g0:=hE
     have g1:=g
     have ea:=hE.size
     have ec:=g.size
     have g2:=AT (bl c) d9
     have b2:OB va ap:=AV hr_va.2 (by omega)
     have hE:=hE.trans a7
     have hr_va:=hr_va.keep a7
     have g:=g.trans a7
     have c:=eb a7 c
     have aq:=aq.trans a7
     have o:=cq;clear cq
     have g3:ap<d8.heap.size:=by omega
     refine oS rfl (Yk.storeAll (vr (PQ ap 0) rfl) (vr (AB (((b.take fin).drop (p+1)).take 32)) rfl) o (by exact C6 ak List.length_replicate) (by exact AM ak) (AF _) fun g4 cr a8 g5=> ?_)
     have hE:=Ac hE a8 (Nat.le_trans ea (by omega))
     have hr_va:=OG.kept hr_va a8 b2
     have g:=Ac g a8 (Nat.le_trans ec (by omega))
     have c:=kb a8 c (by omega)
     have aq:=Ac aq a8 (Nat.le_trans (Nat.le_refl _) (by omega))
     clear o
     have o:=cr;clear cr
     have g6:=bl o
     refine oA rfl (oA rfl (oZ (tN (d6 _ _ (sk fun g7 ed=>(wt (oM rfl (oS rfl (Yk.eqI (a:=(0:Nat)) (b:=(0:Nat)) rfl rfl (Br _ _ _ _) (oP rfl (Yp.callA2 Fo (vr (.bool (true)) (congrArg Value.bool (decide_eq_true (rfl)))) (vr (NI 6) rfl) ?_)))))))))))
     refine AG (Bc _ (true) 6) ?_ ?_
     rotate_left
     ·
      rintro ch g8 ⟨rfl,hb,hx⟩
      refine Af (Af (Aw (Af (Af (Aw (Af (AK ?_)))))))
      cases hb
     rintro v_ g9 ⟨rfl,ha,au⟩
     have hE:=hE.trans au
     have hr_va:=hr_va.keep au
     have g:=g.trans au
     have c:=eb au c
     have aq:=aq.trans au
     have o:=eb au o
     refine AH [(0,v),(1,NI n),(2,NI ((p)+(1))),(3,NI fin),(8,(Value.slice none 0 0)),(9,va),(10,PQ aj 0),(11,PQ ap 0),(12,NI (p+1+32)),(13,NI 0),(16,NI n),(17,NI i),(40, .bool (true))] ⟨j,u,rfl,m,T8,z,rfl,rfl,rfl,rfl,ae,t,rfl,trivial⟩ fun hc ⟨j,u,f,m,T8,z,al,b3,b4,ct,ae,t,a9,_⟩=>(tN (ed _ _ (wt (oS rfl (Yk.loadAll b3 o Ow rfl (by exact AM ak) (oM rfl (oS rfl (Yk.fieldAt JW al (oS rfl (Yk.entBase (B:=List.replicate 32 0) (B' :=((b.take fin).drop (p+1)).take 32) (vr (PQ aj 2) rfl) (vr (AB (((b.take fin).drop (p+1)).take 32)) rfl) c (by simp) ak L9 fun hd cu bk he=> ?_))))))))))
     have hE:=Ac hE bk (Nat.le_trans bz (by omega))
     have hr_va:=OG.kept hr_va bk a5
     have g:=Ac g bk (Nat.le_trans (Nat.le_refl _) (by omega))
     clear c
     clear aq
     have o:=kb bk o (by omega)
     have c:=cu;clear cu
     have hh:=bl c
     refine oA rfl (oZ (tN (d4 _ _ (sk fun hj ee=>(wt (oM rfl (oM rfl (oM rfl (oP rfl (Yp.callA3 IQ j b4 m ?_))))))))))
     refine AG (JU _ v b (hr.keep hE) (p+33) fin (by omega) hf) ?_ ?_
     rotate_left
     ·
      rintro ch hl ⟨hT,rfl,hx⟩
      refine Af (Aw (Af (Af (Aw (Af (AK ?_))))))
      have hO1:entOne b fin p=none:=by rw[hO1,show BY b (p+33) fin=none from hT];rfl
      have ab:=Dq (show CZ b fin first (i+1)=none by rw[hst,hO1];rfl) (n-(i+1))
      rw[show i+1+(n-(i+1))=n by omega]at ab
      exact .inr ⟨_,rfl,by unfold Cq;rw[ab];rfl,rfl,hE.trans hx⟩
     rintro v_ ef ⟨ts,tn,hT,rfl,ba⟩
     have hE:=hE.trans ba
     have hr_va:=hr_va.keep ba
     have g:=g.trans ba
     have o:=eb ba o
     have c:=eb ba c
     have hO:entOne b fin p=some (⟨p,true,((b.take fin).drop (p+1)).take 32,ts⟩,tn):=by rw[hO1,show BY b (p+33) fin=some (ts,tn)from hT];rfl
     refine oM rfl (oS rfl (Yk.extract (vs:= [St (ts),NI tn]) (vr (.tuple #[St (ts),NI tn]) rfl) (show _=some (St (ts):Value)from rfl) (oS rfl (Yk.extract (vs:= [St (ts),NI tn]) (vr (.tuple #[St (ts),NI tn]) rfl) (show _=some (NI tn:Value)from rfl) (oA rfl (oA rfl (oZ (tN (ee _ _ (sk fun hm eg=>(wt (oM rfl (oS rfl (Yk.convStr Lg DT u5 (vr (St (ts)) rfl) (by have:=Fp hT hf;omega) fun aa eh am bb bm=> ?_))))))))))))))
     have ho:OB aa ap:=fun e=>by have h1:=(bm _ e).1;have h2:=(bl o);omega
     have ei:OB aa aj:=fun e=>by have h1:=(bm _ e).1;have h2:=(bl c);omega
     have hva:∀k,Value.ownBlock va=some k→k<ef.heap.size:=fun k hk=>((hr_va).2.lt k hk).2
     have hkv:∀k,Value.ownBlock aa=some k→k<eh.heap.size∧OB va k:=fun k hk=>⟨(bm k hk).2,fun e=>by have h1:=hva k e;have h2:=(bm k hk).1;omega⟩
     have hE:=hE.trans bb
     have hr_va:=hr_va.keep bb
     have g:=g.trans bb
     have o:=eb bb o
     have c:=eb bb c
     refine oM rfl (oS rfl (Yk.fieldAt GK al (oS rfl (Yk.entVal (s:= []) (s' :=ts) (vr (PQ aj 34) rfl) (vr aa rfl) c ak HK am fun cv cw bc hq=> ?_))))
     have hE:=Ac hE bc (Nat.le_trans bz (by omega))
     have hr_va:=OG.kept hr_va bc a5
     have g:=Ac g bc (Nat.le_trans (Nat.le_refl _) (by omega))
     have o:=kb bc o (by omega)
     clear c
     have am:=am.kept bc (.inr ei)
     have c:=cw;clear cw
     have ht:=bl c
     refine oA rfl (oZ (tN (eg _ _ (wt (oM rfl ?_)))))
     have hkv2:∀k,Value.ownBlock aa=some k→k<cv.heap.size∧OB va k:=fun k hk=>⟨by have:=(hkv k hk).1;omega,(hkv k hk).2⟩
     have hEn:EntsIn cv va (es++ [((⟨p,true,((b.take fin).drop (p+1)).take 32,ts⟩,aa):Av)]):=EntsIn.snoc (hEn.keep g) am ak hkv2
     have hone_:=BD (x:=((⟨p,true,((b.take fin).drop (p+1)).take 32,ts⟩,aa):Av)) (RB.one am).2
     refine oS rfl (Yk.loadAll al c (HY).choose_spec rfl (Bx (x:=((⟨p,true,((b.take fin).drop (p+1)).take 32,ts⟩,aa):Av)) D2 ak) (oS rfl (Yk.lit1G (a:=((⟨p,true,((b.take fin).drop (p+1)).take 32,ts⟩,aa))) (enc:=entC) (vr (.agg (entC ((⟨p,true,((b.take fin).drop (p+1)).take 32,ts⟩,aa))).toArray) rfl) ((Et (x:=((⟨p,true,((b.take fin).drop (p+1)).take 32,ts⟩,aa):Av)) ak)) H0 fun ej cx cy ar=> ?_)))
     have hE:=hE.trans ar
     have hEn:EntsIn cx va (es++ [((⟨p,true,((b.take fin).drop (p+1)).take 32,ts⟩,aa):Av)]):=(hEn.keep ar)
     have hr_va:=hr_va.keep ar
     have g:=g.trans ar
     have o:=eb ar o
     have am:=am.keep ar
     have c:=eb ar c
     refine oS rfl (Yk.appendRG _ _ w.heap.size _ 72 EO pk12_ig116.choose_spec.1 pk12_ig116.choose_spec.2 EO (es) ([((⟨p,true,((b.take fin).drop (p+1)).take 32,ts⟩,aa))]) (OG.of hr_va z) (RG.of cy (vr ej rfl)) (fun y hy=>by rw[List.mem_singleton.1 hy];exact hone_) (by simp only[List.length_cons,List.length_nil];omega) (by simp only[List.length_cons,List.length_nil];omega) hE.size fun av cz el an=> ?_)
     have hEn_:=hEn
     have an:Grew cx cz va av:= .eqv z an
     have hu:OB av aj:=Ax an a5 (bl c)
     have hv:OB av ap:=Ax an b2 (bl o)
     have hE:=AC hE an hr_va.2 (Nat.le_refl _)
     clear hr_va
     clear g
     have o:=AP o an b2
     clear am
     have c:=AP c an a5
     clear cy
     have hEn:EntsIn cz av (es++ [((⟨p,true,((b.take fin).drop (p+1)).take 32,ts⟩,aa):Av)]):=EntsIn.grew hEn_ an;clear hEn_
     refine oA rfl (oZ (bN (tN (dx _ _ (wt (oS rfl (Yk.bin (xv:=NI i) (yv:=NI 1) t rfl rfl (Ak _ _ _ (by omega)) (oM rfl (AH [(0,v),(1,NI n),(2,NI tn),(3,NI fin),(8,(Value.slice none 0 0)),(9,av),(10,PQ aj 0),(11,PQ ap 0),(12,NI (p+1+32)),(13,NI 0),(14,St (ts)),(15,NI tn),(16,NI n),(17,NI ((i)+(1))),(40, .bool (true))] ⟨j,u,rfl,m,T8,rfl,al,b3,b4,ct,rfl,rfl,ae,rfl,a9,trivial⟩ fun em ⟨j,u,f,m,T8,z,al,b3,b4,ct,b5,b6,ae,t,a9,_⟩=>(tN (And.intro ⟨i+1,es++ [(⟨p,true,((b.take fin).drop (p+1)).take 32,ts⟩,aa)],tn,av,j,u,m,T8,ae,t,f,z,hE,hEn,B5 el (rfl),by rw[hst,hO,List.map_append];rfl,by omega,(HX hO hf).1,by rw[List.length_append,hil];rfl,trivial⟩ ?_)))))))))))
     show n-(intOf (em 17)).toNat<n-(intOf (cb 17)).toNat
     rw[t,q17]
     simp only[intOf,Int.toNat_natCast];omega
    rw[if_neg h1]at hO1
    have h1n:¬(b.getD p 0).toNat=1:=fun h=>h1 (UInt8.toNat_inj.1 (by rw[h];rfl))
    refine Ah (tN (az _ _ (sk fun hw en=>(Aj (sk fun hz eo=>(wt (oM rfl (oM rfl (oS rfl (Yk.eqI (a:=(p:Nat)) (b:=(fin:Nat)) f m (AN _ _ _ _) (oM rfl (oY (d:=22) rfl rfl (vr (.bool (true)) (congrArg Value.bool (decide_eq_true (hlt)))) (Yk.move j (oY (d:=22) rfl rfl (vr (.bool (true)) (congrArg Value.bool (decide_eq_true (hlt)))) (Yk.move f (oY (d:=22) rfl rfl (vr (.bool (true)) (congrArg Value.bool (decide_eq_true (hlt)))) (Yk.atRB (l:=b) (i:=p) DT Ls (RB.of (hr.keep hE) (vr v rfl)) (vr (NI p) rfl) (by omega) fun ep bn=>(oY (d:=22) rfl rfl (vr (.bool (true)) (congrArg Value.bool (decide_eq_true (hlt)))) (Yk.loadC u5 rfl (PCell.of bn (vr ep rfl)) (oY (d:=22) rfl rfl (vr (.bool (true)) (congrArg Value.bool (decide_eq_true (hlt)))) (Yk.eqI (a:=((b.getD (p) 0).toNat:Nat)) (b:=(1:Nat)) rfl rfl (C5 _ _ _ _) (oS rfl (Yk.pickT (vr (.bool (true)) (congrArg Value.bool (decide_eq_true (hlt)))) (vr (.bool (true)) (congrArg Value.bool (decide_eq_true (hle)))) ?_)))))))))))))))))))))))
    refine oP rfl (Yp.callA2 Fo (vr (.bool (true)) rfl) (vr (NI 6) rfl) ?_)
    refine AG (Bc _ (true) 6) ?_ ?_
    rotate_left
    ·
     rintro ch h0 ⟨rfl,hb,hx⟩
     refine Af (Aw (Af (Af (Aw (Af (AK ?_))))))
     cases hb
    rintro v_ c0 ⟨rfl,h3,bo⟩
    have hE:=hE.trans bo
    have hEn:EntsIn c0 va es:=(hEn.keep bo)
    have hr_va:=hr_va.keep bo
    have bn:=bn.keep bo
    refine oZ ?_
    clear bn
    refine tN (eo _ _ (sk fun h4 eq=>(wt (oM rfl (oM rfl (oM rfl (oS rfl (Yk.atRB (l:=b) (i:=p) DT Ls (RB.of (hr.keep hE) j) f (by omega) fun er c1=>(oS rfl (Yk.loadC u5 rfl (PCell.of c1 (vr er rfl)) (oS rfl (Yk.eqI (a:=((b.getD (p) 0).toNat:Nat)) (b:=(1:Nat)) rfl rfl (Br _ _ _ _) (oS rfl (Yk.build2 f (vr (.bool (false)) (congrArg Value.bool (decide_eq_false (h1n)))) (fun w=>F6 (p:Int) false w) (oS rfl (Yk.alloc (cs:=(entC dEnt).toArray) F7 fun ai et h5 c2 b7 h6=> ?_))))))))))))))))
    have ac:=Ext.refl c0
    have h7:=hE
    have c3:=hE.size
    have bp:OB va ai:=AV hr_va.2 (by omega)
    have hE:=hE.trans b7
    have hr_va:=hr_va.keep b7
    have ac:=ac.trans b7
    have q:=c2;clear c2
    have h8:ai<et.heap.size:=by omega
    refine oS rfl (Yk.storeAll (vr (PQ ai 0) rfl) (vr (.agg (entC ((⟨p,false,List.replicate 32 0,[]⟩, .slice none 0 0))).toArray) rfl) q (BA (x:=((⟨p,false,List.replicate 32 0,[]⟩, .slice none 0 0):Av)) (y:=dEnt) (by simp) (by simp[dEnt])) (Bx (x:=((⟨p,false,List.replicate 32 0,[]⟩, .slice none 0 0):Av)) D2 (by simp)) (BD (x:=((⟨p,false,List.replicate 32 0,[]⟩, .slice none 0 0):Av)) rfl) fun h9 c4 b8 ia=> ?_)
    have hE:=Ac hE b8 (Nat.le_trans c3 (by omega))
    have hr_va:=OG.kept hr_va b8 bp
    have ac:=Ac ac b8 (Nat.le_trans (Nat.le_refl _) (by omega))
    clear q
    have q:=c4;clear c4
    have ib:=bl q
    refine oZ ?_
    clear c1
    refine tN (eq _ _ (sk fun ic eu=>(wt (oM rfl (oS rfl (Yk.bin (xv:=NI p) (yv:=NI 1) f rfl rfl (Ak _ _ _ (by omega)) (oA rfl (oZ (tN (eu _ _ (sk fun id ew=>(sk fun ie ex=>(wt (oS rfl (Yk.fieldAt E6 (vr (PQ ai 0) rfl) (oS rfl (Yk.cell1 Hu rfl (vr (PQ ai 1) rfl) (Ai q (show(entC ((⟨p,false,List.replicate 32 0,[]⟩, .slice none 0 0)))[1]? =some (.bool (false):Value)from rfl)) (oZ (tN (ex _ _ (Ar (vr (.bool (false)) rfl) ?_)))))))))))))))))))))
    refine Ah (tN (ew _ _ (sk fun ig ey=>(wt (oM rfl (oM rfl (oM rfl (oP rfl (Yp.callA3 IQ j (vr (NI ((p)+(1))) rfl) m ?_)))))))))
    refine AG (JU _ v b (hr.keep hE) (p+1) fin (by omega) hf) ?_ ?_
    rotate_left
    ·
     rintro ch ih ⟨hT,rfl,hx⟩
     refine Af (Aw (Af (Af (Aw (Af (AK ?_))))))
     have hO1:entOne b fin p=none:=by rw[hO1,show BY b (p+1) fin=none from hT];rfl
     have ab:=Dq (show CZ b fin first (i+1)=none by rw[hst,hO1];rfl) (n-(i+1))
     rw[show i+1+(n-(i+1))=n by omega]at ab
     exact .inr ⟨_,rfl,by unfold Cq;rw[ab];rfl,rfl,hE.trans hx⟩
    rintro v_ ez ⟨ts,tn,hT,rfl,bq⟩
    have hE:=hE.trans bq
    have hr_va:=hr_va.keep bq
    have ac:=ac.trans bq
    have q:=eb bq q
    have hO:entOne b fin p=some (⟨p,false,List.replicate 32 0,ts⟩,tn):=by rw[hO1,show BY b (p+1) fin=some (ts,tn)from hT];rfl
    refine oM rfl (oS rfl (Yk.extract (vs:= [St (ts),NI tn]) (vr (.tuple #[St (ts),NI tn]) rfl) (show _=some (St (ts):Value)from rfl) (oS rfl (Yk.extract (vs:= [St (ts),NI tn]) (vr (.tuple #[St (ts),NI tn]) rfl) (show _=some (NI tn:Value)from rfl) (oA rfl (oA rfl (oZ (tN (ey _ _ (sk fun ii e0=>(wt (oM rfl (oS rfl (Yk.convStr Lg DT u5 (vr (St (ts)) rfl) (by have:=Fp hT hf;omega) fun ad e1 ao br b9=> ?_))))))))))))))
    have e2:OB ad ai:=fun e=>by have h1:=(b9 _ e).1;have h2:=(bl q);omega
    have hva:∀k,Value.ownBlock va=some k→k<ez.heap.size:=fun k hk=>((hr_va).2.lt k hk).2
    have hkv:∀k,Value.ownBlock ad=some k→k<e1.heap.size∧OB va k:=fun k hk=>⟨(b9 k hk).2,fun e=>by have h1:=hva k e;have h2:=(b9 k hk).1;omega⟩
    have hE:=hE.trans br
    have hr_va:=hr_va.keep br
    have ac:=ac.trans br
    have q:=eb br q
    refine oM rfl (oS rfl (Yk.fieldAt GK (vr (PQ ai 0) rfl) (oS rfl (Yk.entVal (s:= []) (s' :=ts) (vr (PQ ai 34) rfl) (vr ad rfl) q (by simp) HK ao fun c5 c6 bs ij=> ?_))))
    have hE:=Ac hE bs (Nat.le_trans c3 (by omega))
    have hr_va:=OG.kept hr_va bs bp
    have ac:=Ac ac bs (Nat.le_trans (Nat.le_refl _) (by omega))
    clear q
    have ao:=ao.kept bs (.inr e2)
    have q:=c6;clear c6
    have ik:=bl q
    refine oA rfl (oZ (tN (e0 _ _ (wt (oM rfl ?_)))))
    have hkv2:∀k,Value.ownBlock ad=some k→k<c5.heap.size∧OB va k:=fun k hk=>⟨by have:=(hkv k hk).1;omega,(hkv k hk).2⟩
    have hEn:EntsIn c5 va (es++ [((⟨p,false,List.replicate 32 0,ts⟩,ad):Av)]):=EntsIn.snoc (hEn.keep ac) ao (by simp) hkv2
    have hone_:=BD (x:=((⟨p,false,List.replicate 32 0,ts⟩,ad):Av)) (RB.one ao).2
    refine oS rfl (Yk.loadAll (vr (PQ ai 0) rfl) q (HY).choose_spec rfl (Bx (x:=((⟨p,false,List.replicate 32 0,ts⟩,ad):Av)) D2 (by simp)) (oS rfl (Yk.lit1G (a:=((⟨p,false,List.replicate 32 0,ts⟩,ad))) (enc:=entC) (vr (.agg (entC ((⟨p,false,List.replicate 32 0,ts⟩,ad))).toArray) rfl) ((Et (x:=((⟨p,false,List.replicate 32 0,ts⟩,ad):Av)) (by simp))) H0 fun e3 c7 c8 aw=> ?_)))
    have hE:=hE.trans aw
    have hEn:EntsIn c7 va (es++ [((⟨p,false,List.replicate 32 0,ts⟩,ad):Av)]):=(hEn.keep aw)
    have hr_va:=hr_va.keep aw
    have ac:=ac.trans aw
    have ao:=ao.keep aw
    have q:=eb aw q
    refine oS rfl (Yk.appendRG _ _ w.heap.size _ 72 EO pk12_ig116.choose_spec.1 pk12_ig116.choose_spec.2 EO (es) ([((⟨p,false,List.replicate 32 0,ts⟩,ad))]) (OG.of hr_va z) (RG.of c8 (vr e3 rfl)) (fun y hy=>by rw[List.mem_singleton.1 hy];exact hone_) (by simp only[List.length_cons,List.length_nil];omega) (by simp only[List.length_cons,List.length_nil];omega) hE.size fun ax c9 e4 ay=> ?_)
    have hEn_:=hEn
    have ay:Grew c7 c9 va ax:= .eqv z ay
    have il:OB ax ai:=Ax ay bp (bl q)
    have hE:=AC hE ay hr_va.2 (Nat.le_refl _)
    clear hr_va
    clear ac
    clear ao
    have q:=AP q ay bp
    clear c8
    have hEn:EntsIn c9 ax (es++ [((⟨p,false,List.replicate 32 0,ts⟩,ad):Av)]):=EntsIn.grew hEn_ ay;clear hEn_
    refine oA rfl (AH [(0,v),(1,NI n),(2,NI tn),(3,NI fin),(8,(Value.slice none 0 0)),(9,ax),(10,PQ ai 0),(14,St (ts)),(15,NI tn),(16,NI n),(17,NI i),(40, .bool (false))] ⟨j,u,rfl,m,T8,rfl,rfl,rfl,rfl,ae,t,rfl,trivial⟩ fun im ⟨j,u,f,m,T8,z,al,b5,b6,ae,t,a9,_⟩=>(bN (tN (en _ _ (wt (oS rfl (Yk.bin (xv:=NI i) (yv:=NI 1) t rfl rfl (Ak _ _ _ (by omega)) (oM rfl (AH [(0,v),(1,NI n),(2,NI tn),(3,NI fin),(8,(Value.slice none 0 0)),(9,ax),(10,PQ ai 0),(14,St (ts)),(15,NI tn),(16,NI n),(17,NI ((i)+(1))),(40, .bool (false))] ⟨j,u,f,m,T8,z,al,b5,b6,ae,rfl,a9,trivial⟩ fun e5 ⟨j,u,f,m,T8,z,al,b5,b6,ae,t,a9,_⟩=>(tN (And.intro ⟨i+1,es++ [(⟨p,false,List.replicate 32 0,ts⟩,ad)],tn,ax,j,u,m,T8,ae,t,f,z,hE,hEn,B5 e4 (rfl),by rw[hst,hO,List.map_append];rfl,by omega,(HX hO hf).1,by rw[List.length_append,hil];rfl,trivial⟩ ?_)))))))))))
    show n-(intOf (e5 17)).toNat<n-(intOf (cb 17)).toNat
    rw[t,q17]
    simp only[intOf,Int.toNat_natCast];omega
   have hO1:entOne b fin p=none:=by unfold entOne;rw[if_neg (fun h=>hle h.2)]
   refine Ah (tN (az _ _ (sk fun io ip=>(Aj (sk fun iq ir=>(wt (oM rfl (oM rfl (oS rfl (Yk.eqI (a:=(p:Nat)) (b:=(fin:Nat)) f m (AN _ _ _ _) (oM rfl (oY (d:=22) rfl rfl (vr (.bool (true)) (congrArg Value.bool (decide_eq_true (hlt)))) (Yk.move j (oY (d:=22) rfl rfl (vr (.bool (true)) (congrArg Value.bool (decide_eq_true (hlt)))) (Yk.move f (oY (d:=22) rfl rfl (vr (.bool (true)) (congrArg Value.bool (decide_eq_true (hlt)))) (Yk.atRB (l:=b) (i:=p) DT Ls (RB.of (hr.keep hE) (vr v rfl)) (vr (NI p) rfl) (by omega) fun e6 e7=>(oY (d:=22) rfl rfl (vr (.bool (true)) (congrArg Value.bool (decide_eq_true (hlt)))) (Yk.loadC u5 rfl (PCell.of e7 (vr e6 rfl)) (oY (d:=22) rfl rfl (vr (.bool (true)) (congrArg Value.bool (decide_eq_true (hlt)))) (Yk.eqI (a:=((b.getD (p) 0).toNat:Nat)) (b:=(1:Nat)) rfl rfl (C5 _ _ _ _) (oS rfl (Yk.pickT (vr (.bool (true)) (congrArg Value.bool (decide_eq_true (hlt)))) (vr (.bool (false)) (congrArg Value.bool (decide_eq_false (hle)))) ?_)))))))))))))))))))))))
   refine oP rfl (Yp.callA2 Fo (vr (.bool (false)) rfl) (vr (NI 6) rfl) ?_)
   refine AG (Bc _ (false) 6) ?_ ?_
   rotate_left
   ·
    rintro ch iu ⟨rfl,hb,hx⟩
    refine Af (Aw (Af (Af (Aw (Af (AK ?_))))))
    have ab:=Dq (show CZ b fin first (i+1)=none by rw[hst,hO1];rfl) (n-(i+1))
    rw[show i+1+(n-(i+1))=n by omega]at ab
    exact .inr ⟨_,rfl,by unfold Cq;rw[ab];rfl,rfl,hE.trans hx⟩
   rintro v_ iv ⟨rfl,e8,iw⟩
   cases e8
  have hO1:entOne b fin p=none:=by unfold entOne;rw[if_neg (fun h=>hlt h.1)]
  refine Ah (tN (az _ _ (sk fun ix iy=>(Aj (sk fun iz i0=>(wt (oM rfl (oM rfl (oS rfl (Yk.eqI (a:=(p:Nat)) (b:=(fin:Nat)) f m (AN _ _ _ _) (oM rfl (oN (d:=22) rfl rfl rfl (vr (.bool (false)) (congrArg Value.bool (decide_eq_false (hlt)))) rfl (oN (d:=22) rfl rfl rfl (vr (.bool (false)) (congrArg Value.bool (decide_eq_false (hlt)))) rfl (oN (d:=22) rfl rfl rfl (vr (.bool (false)) (congrArg Value.bool (decide_eq_false (hlt)))) rfl (oN (d:=22) rfl rfl rfl (vr (.bool (false)) (congrArg Value.bool (decide_eq_false (hlt)))) rfl (oN (d:=22) rfl rfl rfl (vr (.bool (false)) (congrArg Value.bool (decide_eq_false (hlt)))) rfl (oS rfl (Yk.pickF (vr (.bool (false)) (congrArg Value.bool (decide_eq_false (hlt)))) (vr (.bool (false)) rfl) ?_))))))))))))))))))
  refine oP rfl (Yp.callA2 Fo (vr (.bool (false)) rfl) (vr (NI 6) rfl) ?_)
  refine AG (Bc _ (false) 6) ?_ ?_
  rotate_left
  ·
   rintro ch i1 ⟨rfl,hb,hx⟩
   refine Af (Aw (Af (Af (Aw (Af (AK ?_))))))
   have ab:=Dq (show CZ b fin first (i+1)=none by rw[hst,hO1];rfl) (n-(i+1))
   rw[show i+1+(n-(i+1))=n by omega]at ab
   exact .inr ⟨_,rfl,by unfold Cq;rw[ab];rfl,rfl,hE.trans hx⟩
  rintro v_ i2 ⟨rfl,e9,i3⟩
  cases e9
 have hin:i=n:=by omega
 refine AJ (Ag (Ag (Ap (tN (dc _ _ (sk fun i4 fa=>(wt (oM rfl (oM rfl (oS rfl (Yk.eqI (a:=(p:Nat)) (b:=(fin:Nat)) f m (Br _ _ _ _) (oP rfl (Yp.callA2 Fo (vr (.bool (decide ((p:Nat)=(fin)))) rfl) (vr (NI 6) rfl) ?_)))))))))))))
 refine AG (Bc _ (decide ((p:Nat)=(fin))) 6) ?_ ?_
 rotate_left
 ·
  rintro ch i5 ⟨rfl,hb,hx⟩
  refine Af (AK ?_)
  have hno:=of_decide_eq_false hb
  exact .inr ⟨_,rfl,by unfold Cq;rw[←hin,hs];exact if_neg hno,rfl,hE.trans hx⟩
 rintro v_ fb ⟨rfl,fc,ca⟩
 have hE:=hE.trans ca
 have hEn:EntsIn fb va es:=(hEn.keep ca)
 have hr_va:=hr_va.keep ca
 have fd:=of_decide_eq_true fc
 refine oZ (tN (fa _ _ (sk fun i6 fe=>(wt (oM rfl (oA rfl (oZ (tN (fe _ _ (As (Ca (fn:=Tryd.f65) _ rfl [va] (va) rfl ⟨z,trivial⟩ ?_)))))))))))
 exact .inl ⟨_,rfl,es,by unfold Cq;rw[←hin,hs];exact if_pos fd,RG.ofOwn hr_va,hEn.ok,hE⟩
open Go.RowKit
section
variable {P : Program} {n : Nat} {ρ : Aq} {w : World} {Q : B9}
theorem Fq{l:List Oper}(L:Nat)(oL:Oper)(r:Option Nat)(cs es:List Nat)(ks ls:Nat→List Nat)(Φs:List Bn){id:Nat}(hm:P.follows .mixedOrders=true)(ds:List Tmp)(hg:B7 l n=true)(hn:C3 l L=true)(hkl:BW l ks=true)(hds:slotsW l=ds) 
    (hls:lsOk l cs ks ls=true) (hes:Ly l cs es=true) (hgc:(cs.all fun m=>((l[m]?).bind (·.guard)).isNone)=true) (hoL:l[L]? =some oL) (hgL:oL.guard=none) (hdL:oL.dst=none) (hL:es.contains L=false) (hst:AllStab Ext Φs) (hsB:AllCh (BX w.heap.size r) ls Φs cs)
    (hs:StepsFL P l L (EN w r es) (DR w.heap.size r cs) (AQ Φs) ρ 0 l)
    (hQ:∀(ρ' :Aq) w1,BX w.heap.size r w w1→EndF ds ρ ρ' →Bb l ks (AQ Φs) ρ' w1 ds→Yp P (fun _ w' =>Q .normal ρ' w') (fun ch w' =>Q (.panic ch) ρ' w') ((execOp (Ad ρ') oL).run P w1)):B2 P n (.region id l.toArray true) Q ρ w:=by
  have stepR:∀m a b,BX w.heap.size r w a→DR w.heap.size r cs m a b→BX w.heap.size r w b:=fun m a b h k=>by
    unfold DR at k
    cases hc:cs.contains m <;> rw[hc]at k
    · exact h.trans (BX.ofExt k h.size)
    · exact h.trans k
  refine Ih L oL ks (EN w r es) (DR w.heap.size r cs) Φs hm ds hg hn hkl hds hoL hgL hdL (fun m i _ _ hne hbit w1 w' hc hr=> ?_) (fun m i hm' hi hni hne hbit v w1 w' h hr=> ?_) (fun m o w1 ho hgo=> ?_) (fun m _=> ?_) hs (fun ρ' w1 hc he hf=>hQ ρ' w1 (by unfold EN at hc;rw[hL]at hc;exact hc) he hf)
  · unfold EN at hc ⊢
    cases he:es.contains i <;> rw[he]at hc
    · exact stepR m _ _ hc hr
    · unfold DR at hr
      cases hcm:cs.contains m <;> rw[hcm]at hr
      · exact Ext.trans hc hr
      · unfold Ly at hes
        have:=List.all_eq_true.1 (List.all_eq_true.1 hes m (by simpa using hcm)) i (by simpa using he)
        rw[this]at hbit
        cases hbit
  · unfold DR at hr
    cases hc:cs.contains m <;> rw[hc]at hr
    · exact hst.get Φs i v w1 w' h hr
    · refine(AllCh.get cs hsB m hc).get Φs 0 i ?_ v w1 w' h hr
      rw[Nat.zero_add]
      intro hmem
      unfold lsOk at hls
      have h1:=List.all_eq_true.1 (List.all_eq_true.1 hls m (by simpa using hc)) i hmem
      simp only[Bool.or_eq_true]at h1
      rcases h1 with (h1 | h1) | h1
      · exact hni (by simpa using h1)
      · exact hne (Nat.eq_of_beq_eq_true h1)
      · rw[h1]at hbit
        cases hbit
  · unfold DR
    cases hc:cs.contains m
    · exact Ext.refl w1
    · have:=List.all_eq_true.1 hgc m (by simpa using hc)
      rw[ho]at this
      simp only[Option.bind_some,Option.isNone_iff_eq_none]at this
      rw[this]at hgo
      cases hgo
  · unfold EN
    cases es.contains m
    · exact BX.ofExt (Below.refl _ _).drew (Nat.le_refl _)
    · exact(Below.refl _ _).drew
end
open Go.RowKit
abbrev BH(x:Av):Value:= .agg (entC x).toArray
theorem E7:KL Tryd.prog 3 (MapKept.IsKey (.int .i64)):=KL.ofKey (by kernel_rfl)
theorem E8:∀n:Nat,True→MapKept.IsKey (.int .i64) (NI n):=fun n _=>by first | exact⟨_,rfl⟩ | simp[MapKept.IsKey]
theorem FN{a b:Nat}(h:NI a=NI b):a=b:=by injection h with _ h;exact Int.ofNat.inj h
theorem C1:∀u:World,(zeroValue 116).run Tryd.prog u = .ok (BH dEnt) u:=fun _=>by kernel_rfl
structure IxS (α : Type) where
  ids:List Bs
  G:Nat→Option α
  M:Bs→Option α
section
variable {α : Type} (at_ : α → Nat) (d : α) (t : Bs) (es : List α)
def DB:Nat→Nat→Option α
  | 0=>fun _=>none
  | i+1=>updM (DB i) (at_ (es.getD i d)) (some (es.getD i d))
def Bi(i:Nat):Bs:=(t.drop (36*i)).take 32
def De(i:Nat):Nat:=DD ((t.drop (36*i)).drop 32)
def Dv(i:Nat)(s:IxS α)(c:α):IxS α:=⟨s.ids++ [Bi t i],updM s.G (at_ c) none,updM s.M (Bi t i) (some c)⟩
def C9(i:Nat)(s:IxS α):Option (IxS α):=
  match s.G (De t i)with
  | none=>none
  | some c=>if i=0∨Lib.compareBytes (s.ids.getD (i-1) []) (Bi t i)<0 then some (Dv at_ t i s c)else none
def Dh:Nat→Option (IxS α)
  | 0=>some ⟨[],DB at_ d es es.length,fun _=>none⟩
  | i+1=>(Dh i).bind (C9 at_ t i)
variable {at_ d t es}
theorem Eh{i:Nat}(h:Dh at_ d t es i=none):∀k,Dh at_ d t es (i+k)=none
  | 0=>h
  | k+1=>by
    show(Dh at_ d t es (i+k)).bind _=none
    rw[Eh h k]
    rfl
theorem EE{i:Nat}{s:IxS α}(h:Dh at_ d t es i=some s):Dh at_ d t es (i+1)=C9 at_ t i s:=by
  show(Dh at_ d t es i).bind _=_
  rw[h]
  rfl
theorem He:∀i,i≤es.length→∀k c,DB at_ d es i k=some c→c∈es∧at_ c=k
  | 0,_,_,_,h=>by cases h
  | i+1,hi,k,c,h=>by
    unfold DB updM at h
    split at h
    · rename_i hk
      cases h
      refine⟨?_,hk.symm⟩
      rw[List.getD_eq_getElem?_getD,List.getElem?_eq_getElem (by omega)]
      exact List.getElem_mem _
    · exact He i (by omega) k c h
structure O6 (t : Bs) (es : List α) (i : Nat) (s : IxS α) : Prop where
  len:s.ids.length=i
  ids:∀x∈s.ids,∃j,j<i∧x=Bi t j
  G:∀k c,s.G k=some c→c∈es
  M:∀k c,s.M k=some c→c∈es
  all:∀x∈s.ids,(s.M x).isSome=true
theorem Il:∀i s,Dh at_ d t es i=some s→O6 t es i s
  | 0,s,h=>by
    cases h
    exact⟨rfl,(fun x hx=>by cases hx),(fun k c hk=>(He _ (Nat.le_refl _) k c hk).1),(fun k c hk=>by cases hk),(fun x hx=>by cases hx)⟩
  | i+1,s,h=>by
    cases h1:Dh at_ d t es i with
    | none=>rw[Eh h1 1]at h;cases h
    | some s0=>
      have ih:=Il i s0 h1
      rw[EE h1]at h
      unfold C9 at h
      split at h
      · cases h
      · rename_i c hc
        split at h
        · cases h
          have hcm:=ih.G _ c hc
          refine⟨?_,fun x hx=> ?_,fun k c' hk=> ?_,fun k c' hk=> ?_,fun x hx=> ?_⟩
          · show(s0.ids++ [Bi t i]).length=i+1
            rw[List.length_append,ih.len]
            rfl
          · rcases List.mem_append.1 hx with hx | hx
            · obtain⟨j,hj,e⟩:=ih.ids x hx
              exact⟨j,by omega,e⟩
            · exact⟨i,by omega,List.mem_singleton.1 hx⟩
          · unfold Dv updM at hk
            dsimp only at hk
            split at hk
            · cases hk
            · exact ih.G k c' hk
          · unfold Dv updM at hk
            dsimp only at hk
            split at hk
            · cases hk;exact hcm
            · exact ih.M k c' hk
          · unfold Dv updM
            dsimp only
            split
            · rfl
            · rename_i hne
              rcases List.mem_append.1 hx with hx | hx
              · exact ih.all x hx
              · exact absurd (List.mem_singleton.1 hx) hne
        · cases h
end
theorem rowId_len{t:Bs}{i n:Nat}(h:t.length=36*n)(hi:i<n):(Bi t i).length=32:=by
  unfold Bi
  rw[List.length_take,List.length_drop]
  omega
open Go.RowKit
section
variable {P : Program} {l : List Oper} {kill : Nat → List Nat} {C : Nat → World → Prop} {R : Nat → World → World → Prop} {Φ : Nat → Bn} {a0 : Act}
theorem NY(g:Fv l a0.tmps.size)(hkl:BW l kill=true){L:Nat}{oL:Oper}(hn:C3 l L=true)(hoL:l[L]? =some oL)(hgL:oL.guard=none) 
    (hC:∀n m,n<l.length→m<l.length→n≠m→((Ba l []).getD n 0).testBit m=false→∀w w',C m w→R n w w' →C m w') (hΦ:∀n i,n<l.length→i<l.length→i∉kill n→i≠n→((Ba l []).getD i 0).testBit n=false→∀v w w',Φ i v w→R n w w' →Φ i v w') (hRr:∀n o w,l[n]? =some o→o.guard.isSome=true→R n w w) (hs:∀i o,l[i]? =some o→i≠L→Ez P l C R Φ a0.tmps i o) {Q:Exit→Act→World→Prop}
    (hQ:∀listed a' w',(∀i,i<l.length→i≠L→On listed i)→¬On listed L→Inv l kill C (fun _ _=>True) Φ a0 listed a' w' →Yp P (fun v w'' =>Q .normal (a'.put oL.dst v) w'') (fun ch w'' =>Q (.panic ch) a' w'') ((execOp a'.eval oL).run P w')):
    ∀(fuel:Nat) (listed:Array Bool) (a:Act) (w:World),(listed.toList.filter (!·)).length=fuel→¬On listed L→Inv l kill C (fun _ _=>True) Φ a0 listed a w→wpAny P .any l.toArray Q fuel listed a w:=by
  obtain⟨hlen,hb⟩:=CO hn
  have rdy:∀(listed:Array Bool),listed.size=l.length→(∀i,i<l.length→On listed i)→Region.ready .any l.toArray listed= []:=by
    intro listed hsz hon
    cases hr:Region.ready .any l.toArray listed with
    | nil=>rfl
    | cons x xs=>
      exfalso
      have hm:x∈Region.ready .any l.toArray listed:=by rw[hr];simp
      obtain⟨h1,o,ho,_⟩:=mem_ready.1 hm
      have hx:x<l.length:=by simpa using (Array.getElem?_eq_some_iff.1 ho).1
      have h2:=hon x hx
      have hx' :x<listed.size:=h2.lt
      unfold On at h2
      simp[hx']at h1 h2
      rw[h1]at h2
      cases h2
  intro fuel
  induction fuel with
  | zero=>
    intro listed a w hf hoff h
    exfalso
    have:=DP _ hf L (by rw[Array.length_toList,h.size];omega)
    exact hoff (by unfold On;simp at this;simp[this])
  | succ fuel ih=>
    intro listed a w hf hoff h
    have hstep:∀i∈Region.ready .any l.toArray listed,∃o,l[i]? =some o∧¬On listed i∧(∀e∈o.after,Region.binds .any e=true→On listed e.on)∧((listed.setIfInBounds i true).toList.filter (!·)).length=fuel:=by
      intro i hi
      obtain⟨h1,o,ho,hall⟩:=mem_ready.1 hi
      have ho' :l[i]? =some o:=by simpa using ho
      have hil:i<listed.size:=by rw[h.size];exact(List.getElem?_eq_some_iff.1 ho').1
      refine⟨o,ho',?_,fun e he hb=>hall e he hb,?_⟩
      · unfold On
        simp[hil]at h1 ⊢
        exact h1
      · rw[Array.toList_setIfInBounds]
        have:=Ee listed.toList i (by
          simp[hil]at h1
          simp[hil,h1])
        omega
    refine⟨fun hr=> ?_,fun i hi=> ?_⟩
    · exfalso
      have full:∀i,i<l.length→On listed i:=by
        intro i
        induction i using Nat.strongRecOn with
        | _ i ih=>
          intro hi
          refine Classical.byContradiction fun hno=> ?_
          have ho:l[i]? =some l[i]:=List.getElem?_eq_getElem hi
          have:i∈Region.ready .any l.toArray listed:=by
            refine mem_ready.2 ⟨?_,l[i],by rw[List.getElem?_toArray];exact ho,fun e he hb=> ?_⟩
            · have hi' :i<listed.size:=by rw[h.size];exact hi
              unfold On at hno
              simp[hi']at hno ⊢
              exact hno
            · have hlt:=g.back i _ ho e he hb
              exact ih e.on hlt (by omega)
          rw[hr]at this
          cases this
      exact hoff (full L (by omega))
    · obtain⟨o,ho,hno,hall,hcnt⟩:=hstep i hi
      by_cases hiL:i=L
      · subst hiL
        obtain rfl:oL=o:=by rw[hoL]at ho;exact Option.some.inj ho
        have hon:∀j,j<l.length→j≠i→On listed j:=fun j hj hne=>h.maskReady ho hall (hb j (by omega))
        have hst:=hQ listed a w hon hno h
        have hall' :∀j,j<l.length→On (listed.setIfInBounds i true) j:=fun j hj=>by
          by_cases hji:j=i
          · exact(on_set (by rw[h.size];omega)).2 (.inl hji)
          · exact(on_set (by rw[h.size];omega)).2 (.inr (hon j hj hji))
        have hr:=rdy (listed.setIfInBounds i true) (by simpa using h.size) hall'
        have fin:∀v w',Q .normal (a.put oL.dst v) w' →wpAny P .any l.toArray Q fuel (listed.setIfInBounds i true) (a.put oL.dst v) w' :=fun v w' hq=>by
          cases fuel with
          | zero=>exact⟨hr,hq⟩
          | succ m=>exact⟨fun _=>hq,fun j hj=>by rw[hr]at hj;cases hj⟩
        unfold wpOp
        simp only[List.getElem?_toArray,ho]
        have hw:Region.wanted oL (yielded l.toArray a.tmps)=true:=by unfold Region.wanted;rw[hgL]
        rw[if_pos hw]
        refine .inl ?_
        unfold Oper.wp
        generalize (execOp a.eval oL).run P w=r at hst ⊢
        match r,hst with
        | .ok (.value v) w',hst=>exact fin _ _ hst
        | .ok .skip w',hst=>exact fin _ _ hst
        | .halt (.panic v) w',hst=>exact hst
        | .ok (.enter f args) w',hst=>
          refine Calls.mono hst fun e w'' hx=> ?_
          match e,hx with
          | .returned v,hx=>exact fin _ _ hx
          | .panicked ch,hx=>exact hx
      · refine h.step g hkl hC (fun _ _ _ _ _ _ _ _ _ _=>trivial) hΦ hRr ho hno hall (hs i o ho hiL) fun a' w' h' =>ih _ _ _ hcnt (fun hx=> ?_) h'
        exact((on_set (by rw[h.size];exact(List.getElem?_eq_some_iff.1 ho).1)).1 hx).elim (fun e=>hiL e.symm) hoff
end
section
variable {P : Program} {n : Nat} {ρ : Aq} {w : World} {Q : B9}
theorem Im{l:List Oper}(L:Nat)(oL:Oper)(ks:Nat→List Nat)(C:Nat→World→Prop)(R:Nat→World→World→Prop)(Φs:List Bn){id:Nat}(hm:P.follows .mixedOrders=true)(ds:List Tmp)(hg:B7 l n=true)(hn:C3 l L=true)(hkl:BW l ks=true)(hds:slotsW l=ds)(hoL:l[L]? =some oL)(hgL:oL.guard=none)(hd:(match oL.dst with | some d=>Nat.blt d n | none=>true)=true)(hΦL:∀v w,AQ Φs L v w) 
    (hC:∀n m,n<l.length→m<l.length→n≠m→((Ba l []).getD n 0).testBit m=false→∀w w',C m w→R n w w' →C m w')
    (hΦ:∀n i,n<l.length→i<l.length→i∉ks n→i≠n→((Ba l []).getD i 0).testBit n=false→∀v w w',AQ Φs i v w→R n w w' →AQ Φs i v w')
    (hRr:∀n o w,l[n]? =some o→o.guard.isSome=true→R n w w) (h0:∀n,n<l.length→C n { w with drawn:=w.drawn+1 })
    (hs:StepsFL P l L C R (AQ Φs) ρ 0 l)
    (hQ:∀(ρ' :Aq) w1,C L w1→EndF ds ρ ρ' →Bb l ks (AQ Φs) ρ' w1 ds→Yp P (fun v w' =>Q .normal (Cb ρ' oL.dst v) w') (fun ch w' =>Q (.panic ch) ρ' w') ((execOp (Ad ρ') oL).run P w1)):B2 P n (.region id l.toArray true) Q ρ w:=by
  intro a ha
  obtain⟨T,df⟩:=a
  have hz:T.size=n:=ha.size
  subst hz
  obtain⟨hl,hb⟩:=CO hn
  have g:=ET hg
  refine wp_region_any hm (NY (a0:= { tmps:=T,defers:=df }) (C:=C) (R:=R) (Φ:=AQ Φs) g hkl hn hoL hgL hC hΦ hRr (fun i o ho hi=> ?_) (fun listed a' w' hon hoff h=> ?_) _ _ _ _ (by simp) ?_ ?_)
  · have hst:=StepsFL.get l 0 hs i o ho (by omega)
    rw[Nat.zero_add]at hst
    have h2:=StepsF.ok (P:=P) (l:=l) (C:=C) (R:=R) (Φ:=AQ Φs) (T:=T) ha.get [o] i ⟨hst,trivial⟩
    exact h2.1
  · -- what the slots hold
    have hw:∀d k,CH l d l.length=some k→(List.range l.length).all (fun n=> !(ks n).contains k)=true→AQ Φs k (a'.tmps.getD d undef) w' :=fun d k hk hall=>by
      obtain⟨h1,⟨o,ho,hd'⟩,h3⟩:=Da _ hk
      by_cases hkL:k=L
      · rw[hkL];exact hΦL _ _
      refine h.new d k o ho hd' (hon k h1 hkL) (fun k' o' hkk ho' hd'' _=>h3 k' o' hkk (List.getElem?_eq_some_iff.1 ho').1 ho' hd'') (fun n hn hkn=> ?_)
      have hnl:n<l.length:=by have:=hn.lt;rw[h.size]at this;exact this
      have:=List.all_eq_true.1 hall n (by simpa using hnl)
      simp at this
      exact this hkn
    have hget:∀t,a'.tmps.getD t undef=if t∈ds then a'.tmps.getD t undef else ρ t:=fun t=>by
      by_cases hn:t∈ds
      · rw[if_pos hn]
      · rw[if_neg hn,←ha.get]
        exact h.old t fun k o ho hd _=>hn (by
          rw[←hds]
          unfold slotsW
          rw[List.mem_eraseDups,List.mem_filterMap]
          exact⟨o,List.mem_of_getElem? ho,hd⟩)
    have hcl:=h.cls L (by omega) hoff
    have hend:EndF ds ρ (fun t=>a'.tmps.getD t undef):=⟨fun t ht=>by rw[hget t,if_neg (by simpa using ht)]⟩
    have:=hQ (fun t=>a'.tmps.getD t undef) w' hcl hend (Dx hw ds)
    rw[evalR_eq]at this
    have hfit:Fits _ (fun t=>a'.tmps.getD t undef) a' :=⟨h.tmps,h.defers.trans ha.defers,fun t=>rfl⟩
    have hdn:∀t,oL.dst=some t→t<_:=fun t ht=>by rw[ht]at hd;exact Nat.le_of_ble_eq_true hd
    exact Yp.mono' this (fun v w'' hq=>⟨_,hfit.put oL.dst hdn v,hq⟩) (fun ch w'' hq=>⟨_,⟨h.tmps,h.defers.trans ha.defers,fun t=>rfl⟩,hq⟩)
  · intro h
    unfold On at h
    rw[Array.getD_eq_getD_getElem?,Array.getElem?_replicate]at h
    split at h <;> simp at h
  · have hno:∀i,¬On (Array.replicate l.toArray.size false) i:=fun i h=>by
      unfold On at h
      rw[Array.getD_eq_getD_getElem?,Array.getElem?_replicate]at h
      split at h <;> simp at h
    exact⟨Array.size_replicate,fun i o _ h=>absurd h (hno i),rfl,rfl,fun n hn _=>h0 n hn,trivial,fun t _=>rfl,fun t k o _ _ h=>absurd h (hno k)⟩
theorem Jh{l:List Oper}(L:Nat)(oL:Oper)(Φs:List Bn){id:Nat}(hm:P.follows .mixedOrders=true)(ds:List Tmp)(hg:B7 l n=true)(hn:C3 l L=true)(hds:slotsW l=ds) 
    (hoL:l[L]? =some oL) (hgL:oL.guard=none) (hd:(match oL.dst with | some d=>Nat.blt d n | none=>true)=true) (hΦL:∀v w,AQ Φs L v w) (hst:AllStab Ext Φs)
    (hs:StepsFL P l L (fun _=>Ext w) (fun _=>Ext) (AQ Φs) ρ 0 l)
    (hQ:∀(ρ' :Aq) w1,Ext w w1→EndF ds ρ ρ' →Bb l (fun _=> []) (AQ Φs) ρ' w1 ds→Yp P (fun v w' =>Q .normal (Cb ρ' oL.dst v) w') (fun ch w' =>Q (.panic ch) ρ' w') ((execOp (Ad ρ') oL).run P w1)):B2 P n (.region id l.toArray true) Q ρ w:=
  Im L oL (fun _=> []) (fun _=>Ext w) (fun _=>Ext) Φs hm ds hg hn (by unfold BW;simp) hds hoL hgL hd hΦL (fun _ _ _ _ _ _ _ _ hc hr=>hc.trans hr) (fun _ i _ _ _ _ _ v w1 w' =>hst.get Φs i v w1 w') (fun _ _ w1 _ _=>Ext.refl w1) (fun _ _=>(Below.refl _ _).drew) hs hQ
theorem LL{ρ:Aq}{d:Option Tmp}{v:Value}{t:Tmp}(h:some t≠d):Cb ρ d v t=ρ t:=by
  cases d with
  | none=>rfl
  | some d=>
    show(bif Nat.beq t d then v else ρ t)=ρ t
    cases e:Nat.beq t d with
    | false=>rfl
    | true=>exact absurd (congrArg some (Nat.eq_of_beq_eq_true e)) h
theorem D7{l:List Oper}(L:Nat)(oL:Oper)(Φs:List Bn){id:Nat}(hm:P.follows .mixedOrders=true)(ds:List Tmp)(hg:B7 l n=true)(hn:C3 l L=true)(hds:slotsW l=ds) 
    (hoL:l[L]? =some oL) (hgL:oL.guard=none) (hd:(match oL.dst with | some d=>Nat.blt d n | none=>true)=true) (hΦL:∀v w,AQ Φs L v w) (hst:AllStab Ext Φs)
    (hs:StepsFL P l L (fun _=>Ext w) (fun _=>Ext) (AQ Φs) ρ 0 l)
    (hQ:∀(ρ' :Aq) w1,Ext w w1→EndF ds ρ ρ' →Bb l (fun _=> []) (AQ Φs) ρ' w1 ds→Yp P (fun _ w' =>∀ρ'' :Aq,(∀t,some t≠oL.dst→ρ'' t=ρ' t)→Q .normal ρ'' w') (fun ch w' =>Q (.panic ch) ρ' w') ((execOp (Ad ρ') oL).run P w1)):B2 P n (.region id l.toArray true) Q ρ w:=
  Jh L oL Φs hm ds hg hn hds hoL hgL hd hΦL hst hs fun ρ' w1 h1 h2 h3=>Yp.mono' (hQ ρ' w1 h1 h2 h3) (fun _ _ h=>h _ fun _ ht=>LL ht) (fun _ _ h=>h)
end
open Go.RowKit
set_option maxRecDepth 100000
theorem KE:∀w' :World,(sizeOf 116).run Tryd.prog w' = .ok 35 w' :=fun _=>by kernel_rfl
theorem E9:BK Tryd.prog 116 0 0:=fun b o w=>by simp[go_sem]
theorem Dr:Tryd.prog.underlying 140=some (.map 3 116):=by kernel_rfl
theorem Fr:A2 Tryd.prog 62:=fun _ _=>by kernel_rfl
theorem IR:∀(cs:Array Value),cs.size=32→∀w:World,(Instr.buildSlice 47 1 #[(0, .agg cs)]).run Tryd.prog w = .ok (.slice (some ⟨w.heap.size,0,none⟩) 1 1) (w.alloc (.cells cs 38))
 | ⟨[c0,c1,c2,c3,c4,c5,c6,c7,c8,c9,c10,c11,c12,c13,c14,c15,c16,c17,c18,c19,c20,c21,c22,c23,c24,c25,c26,c27,c28,c29,c30,c31]⟩,_,w=>NK c0 c1 c2 c3 c4 c5 c6 c7 c8 c9 c10 c11 c12 c13 c14 c15 c16 c17 c18 c19 c20 c21 c22 c23 c24 c25 c26 c27 c28 c29 c30 c31 w
theorem H2:Tryd.prog.underlying 112=some (.map 38 116):=by kernel_rfl
theorem LM(w:World)(v:Value)(t:Bs)(hr:RB w v t)(ve:Value)(es:List Av)(hg:RG 35 entC w ve es)(hok:EntsOk w es)(htl:t.length=36*es.length)(hn:es.length≤1048576):
  Calls Tryd.prog 66 #[v,ve] w fun r w' =>(∃x,r = .returned x∧∃s vi b,Dh (fun x:Av=>x.1.pos) dEnt t es es.length=some s∧x = .tuple #[vi, .map (some b)]∧RG 32 Lib.byteCells w' vi s.ids∧MapF rk BH (fun id:List UInt8=>id.length=32) w' b s.M∧Ext w w')∨∃ch,r = .panicked ch∧Dh (fun x:Av=>x.1.pos) dEnt t es es.length=none∧ch= [CF 6]∧Ext w w' :=by
 refine CX (args:= [v,ve]) Tryd.func66 rfl 83 rfl (Nat.le_of_ble_eq_true rfl) ?_
 intro ds hb
 have q:ds 0=(v:Value):=hb.get 0
 have o:ds 1=(ve:Value):=hb.get 1
 clear hb
 have hE:=Ext.refl w
 refine sk fun K1 et=>(wt (oA rfl (oA rfl (oZ (tN (et _ _ (sk fun K2 eu=>(wt (oS rfl (Yk.mkMap NI BH (fun _:Nat=>True) fun n3 w4 g6 dt ex g7=> ?_))))))))))
 have hE:=hE.trans ex
 have g8:n3<w4.heap.size:=by omega
 refine oA rfl (oZ (tN (eu _ _ (sk fun g9 ey=>(sk fun ha ez=>(wt (oM rfl (oS rfl (Yk.lenRG EO (RG.of (hg.keep hE) o) (oM rfl (AH [(0,v),(1,ve),(4,(Value.slice none 0 0)),(5,(Value.map none)),(6, .map (some n3)),(19,ve),(20,NI es.length),(21,NI 0)] ⟨q,o,rfl,rfl,rfl,o,rfl,rfl,trivial⟩ fun hc ⟨q,o,T4,T5,j,u,aa,p,_⟩=>(tN (ez _ _ (Aj (AX (fun(ρ:Aq) (wz:World)=>∃m:Nat,ρ 0=(v:Value)∧ρ 1=(ve:Value)∧ρ 4=((Value.slice none 0 0):Value)∧ρ 5=((Value.map none):Value)∧ρ 6=(.map (some n3):Value)∧ρ 19=(ve:Value)∧ρ 20=(NI es.length:Value)∧ρ 21=(NI m:Value)∧Ext w wz∧MapF NI BH (fun _:Nat=>True) wz n3 (DB (fun x:Av=>x.1.pos) dEnt es m)∧(m≤es.length)∧True) (fun ρ _=>es.length-(intOf (ρ 21)).toNat) ⟨0,q,o,T4,T5,j,u,aa,p,hE,CY dt (rfl),Nat.zero_le _,trivial⟩ ?_)))))))))))))))
 clear dt
 clear hE
 rintro e0 cx ⟨m,q,o,T4,T5,j,u,aa,p,hE,hb6l,hm,-⟩
 have q21:=p
 refine sk fun hd e1=>(wt (oS rfl (Yk.eqI (a:=(m:Nat)) (b:=(es.length:Nat)) p aa (AN _ _ _ _) (oZ (tN (e1 _ _ (sk fun hh e2=> ?_)))))))
 refine AO ((m)<(es.length)) (vr (.bool (decide ((m)<(es.length)))) rfl) (fun du=> ?_) (fun du=> ?_)
 ·have hmi:=A6 dEnt (l:=es) (i:=m) du
  have hel:=hok _ hmi
  refine Ah (tN (e2 _ _ (sk fun hj e3=>(Aj (sk fun hl e4=>(wt ?_))))))
  have e5:(entC (es.getD (m) dEnt)).length=35:=(RG.elem (hg.keep hE) dEnt (by omega))
  refine oS rfl (Yk.atRG EO KE (by decide) dEnt (RG.of (hg.keep hE) u) p (by omega) fun e6 dv=>(oS rfl (Yk.loadPR (PR.of dv (vr e6 rfl)) (HY).choose_spec rfl (by rw[e5];exact D2) (oS rfl (Yk.alloc (cs:=(entC dEnt).toArray) F7 fun b5 e7 e8 dw cy hp=> ?_)))))
  have ca:=Ext.refl cx
  have hq:=hE
  have fa:=hE.size
  have ht:=AT hb6l.lt e8
  have hE:=hE.trans cy
  have hb6l:=hb6l.keep cy
  have ca:=ca.trans cy
  have a7:=dw;clear dw
  have hu:b5<e7.heap.size:=by omega
  refine oS rfl (Yk.storeAll (vr (PQ b5 0) rfl) (vr (.agg (entC (es.getD (m) dEnt)).toArray) rfl) a7 (BA (x:=((es.getD (m) dEnt):Av)) (y:=(dEnt:Av)) hel.2 (by simp[dEnt])) (Bx (x:=((es.getD (m) dEnt):Av)) D2 hel.2) (BD (x:=((es.getD (m) dEnt):Av)) (RB.one hel.1).2) fun hv dx cz hw=> ?_)
  have hE:=Ac hE cz (Nat.le_trans fa (by omega))
  have hb6l:=MapF.other hb6l cz (AL (by omega))
  have ca:=Ac ca cz (Nat.le_trans (Nat.le_refl _) (by omega))
  clear a7
  have a7:=dx;clear dx
  have hy:=bl a7
  refine oZ ?_
  clear dv
  refine tN (e4 _ _ (wt (oM rfl (oS rfl (Yk.fieldAt E9 (vr (PQ b5 0) rfl) (oS rfl (Yk.cell1 NA rfl (vr (PQ b5 0) rfl) (Ai a7 ((show(entC ((es.getD (m) dEnt)))[0]? =some (NI (((es.getD (m) dEnt)).1.pos):Value)from rfl))) (oS rfl (Yk.loadAll (vr (PQ b5 0) rfl) a7 (HY).choose_spec rfl (Bx (x:=((es.getD (m) dEnt):Av)) D2 hel.2) (oS rfl (Yk.putM (ek:=NI) (ev:=BH) (D:=(fun _:Nat=>True)) (c:=((es.getD (m) dEnt))) E7 E8 Dr j (vr (NI (((es.getD (m) dEnt)).1.pos)) rfl) (vr (.agg (entC ((es.getD (m) dEnt))).toArray) rfl) hb6l trivial fun fb dy dz hz=> ?_)))))))))))
  have hE:=Ac hE dz (Nat.le_trans (Nat.le_refl _) (by omega))
  clear hb6l
  clear ca
  have a7:=kb dz a7 (by omega)
  have h3:n3<fb.heap.size:=dy.lt
  refine oZ (bN (tN (e3 _ _ (wt (oS rfl (Yk.bin (xv:=NI m) (yv:=NI 1) p rfl rfl (Ak _ _ _ (by omega)) (oM rfl (AH [(0,v),(1,ve),(4,(Value.slice none 0 0)),(5,(Value.map none)),(6, .map (some n3)),(8,PQ b5 0),(19,ve),(20,NI es.length),(21,NI ((m)+(1)))] ⟨q,o,T4,T5,j,rfl,u,aa,rfl,trivial⟩ fun fc ⟨q,o,T4,T5,j,T8,u,aa,p,_⟩=>(tN (And.intro ⟨m+1,q,o,T4,T5,j,u,aa,p,hE,CY dy (rfl),by omega,trivial⟩ ?_))))))))))
  show es.length-(intOf (fc 21)).toNat<es.length-(intOf (e0 21)).toNat
  rw[p,q21]
  simp only[intOf,Int.toNat_natCast];omega
 have hie:m=es.length:=by omega
 refine AJ (Ag (Ag (Ap (tN (ey _ _ (sk fun h5 fd=>(wt (oA rfl (oZ ?_)))))))))
 have hids0:OG w.heap.size 38 32 Lib.byteCells cx (Value.slice none 0 0) ([]:List Bs):=OG.nil _ _ _ _ _
 have fe:Value.ownBlock (Value.slice none 0 0)≠some n3:=fun h=>by cases h
 refine tN (fd _ _ (sk fun h6 ff=>(wt (oS rfl (Yk.mkMap rk BH (fun id:List UInt8=>id.length=32) fun ai fg fh d0 cq h7=> ?_)))))
 have c0:=Ext.refl cx
 have h8:=hE
 have d1:=hE.size
 have h9:=AT hb6l.lt fh
 have fi:Value.ownBlock (Value.slice none 0 0)≠some ai:=AV hids0.2 (by omega)
 have hE:=hE.trans cq
 have hb6l:=hb6l.keep cq
 have hids0:=hids0.keep cq
 have c0:=c0.trans cq
 have ia:ai<fg.heap.size:=by omega
 refine oA rfl (oZ (tN (ff _ _ (sk fun ib fj=>(sk fun ic fk=>(wt (oM rfl (oS rfl (Yk.lenRG EO (RG.of (hg.keep hE) o) (oM rfl (AH [(0,v),(1,ve),(4,(Value.slice none 0 0)),(5,(Value.map none)),(6, .map (some n3)),(9,(Value.slice none 0 0)),(10, .map (some ai)),(19,ve),(20,NI es.length),(21,NI m),(32,NI es.length),(33,NI 0)] ⟨q,o,T4,T5,j,rfl,rfl,u,aa,p,rfl,rfl,trivial⟩ fun ie ⟨q,o,T4,T5,j,T9,ae,u,aa,p,ah,n,_⟩=>(tN (fk _ _ (Aj (AX (fun(ρ:Aq) (wz:World)=>∃i:Nat,∃s:IxS Av,∃vi:Value,ρ 0=(v:Value)∧ρ 1=(ve:Value)∧ρ 4=((Value.slice none 0 0):Value)∧ρ 5=((Value.map none):Value)∧ρ 6=(.map (some n3):Value)∧ρ 10=(.map (some ai):Value)∧ρ 19=(ve:Value)∧ρ 20=(NI es.length:Value)∧ρ 21=(NI m:Value)∧ρ 32=(NI es.length:Value)∧ρ 33=(NI i:Value)∧ρ 9=(vi:Value)∧Ext w wz∧OG w.heap.size 38 32 (Lib.byteCells) wz vi (s.ids)∧MapF NI BH (fun _:Nat=>True) wz n3 (s.G)∧MapF rk BH (fun id:List UInt8=>id.length=32) wz ai (s.M)∧(Dh (fun x:Av=>x.1.pos) dEnt t es i=some s)∧(i≤es.length)∧(OB vi n3)∧(OB vi ai)∧True) (fun ρ _=>es.length-(intOf (ρ 33)).toNat) ⟨0,⟨[],DB (fun x:Av=>x.1.pos) dEnt es es.length,fun _=>none⟩,(Value.slice none 0 0),q,o,T4,T5,j,ae,u,aa,p,ah,n,T9,hE,B5 hids0 (rfl),CY hb6l (by rw[hie]),CY d0 (rfl),rfl,Nat.zero_le _,fe,fi,trivial⟩ ?_)))))))))))))))
 clear hb6l
 clear hids0
 clear c0
 clear d0
 clear hE
 rintro d2 ig ⟨i,s,vi,q,o,T4,T5,j,ae,u,aa,p,ah,n,T9,hE,hr_vi,hb6ll,hb51l,hs,hi,hap_vi_n3,hap_vi_n48,-⟩
 have q33:=n
 refine sk fun ih fl=>(wt (oS rfl (Yk.eqI (a:=(i:Nat)) (b:=(es.length:Nat)) n ah (AN _ _ _ _) (oZ (tN (fl _ _ (sk fun ii fm=> ?_)))))))
 refine AO ((i)<(es.length)) (vr (.bool (decide ((i)<(es.length)))) rfl) (fun d3=> ?_) (fun d3=> ?_)
 ·have hil:i<es.length:=d3
  have hI:=Il i s hs
  have hIl:=hI.len
  have hst:=EE hs
  have h32:=rowId_len htl hil
  refine Ah (tN (fm _ _ (sk fun ij d4=>(Aj (sk fun ik fo=>(wt (oM rfl (oA rfl (oZ (tN (fo _ _ (sk fun il fp=>(wt (oM rfl (oM rfl (oS rfl (Yk.bin (xv:=NI 36) (yv:=NI i) rfl n rfl (BG _ _ _ (by omega)) (oS rfl (Yk.sliceLo (xs:=t) (l:=(36)*(i)) DT Ls q (hr.keep hE) (vr (NI ((36)*(i))) rfl) (by omega) fun az bg ha72=> ?_)))))))))))))))))))
  refine oA rfl (oZ (tN (fp _ _ (sk fun im cr=>(wt (oM rfl (oS rfl (Yk.callA2 IP (vr az rfl) (vr (NI 0) rfl) ?_))))))))
  refine((show Calls _ _ _ _ (fun e w2=>e = .returned (.tuple #[AB (Bi t i),NI 32,NI 0])∧Ext _ w2)from(Hk _ az (t.drop ((36)*(i))) bg 0 (Nat.zero_le _)).mono fun e w2 ⟨h1,h2⟩=>by subst h1;refine⟨?_,h2⟩;unfold DF Bi;rw[if_neg (by simp only[List.length_drop];omega),List.drop_zero];rfl)).mono ?_
  rintro e fq ⟨rfl,cb⟩
  refine⟨_,rfl,?_⟩
  have hE:=hE.trans cb
  have hr_vi:=hr_vi.keep cb
  have hb6ll:=hb6ll.keep cb
  have hb51l:=hb51l.keep cb
  have bg:=bg.keep cb
  refine oM rfl (oS rfl (Yk.extract (vs:= [AB (Bi t i),NI 32,NI 0]) (vr (.tuple #[AB (Bi t i),NI 32,NI 0]) rfl) (show _=some (AB (Bi t i):Value)from rfl) (oS rfl (Yk.extract (vs:= [AB (Bi t i),NI 32,NI 0]) (vr (.tuple #[AB (Bi t i),NI 32,NI 0]) rfl) (show _=some (NI 32:Value)from rfl) (oS rfl (Yk.extract (vs:= [AB (Bi t i),NI 32,NI 0]) (vr (.tuple #[AB (Bi t i),NI 32,NI 0]) rfl) (show _=some (NI 0:Value)from rfl) (oS rfl (Yk.alloc (cs:=(Lib.byteCells (List.replicate 32 0)).toArray) NH fun av fr d5 d6 cc io=> ?_))))))))
  have g:=Ext.refl fq
  have ip:=hE
  have fs:=hE.size
  have iq:=AT hb6ll.lt d5
  have ir:=AT hb51l.lt d5
  have a1:OB vi av:=AV hr_vi.2 (by omega)
  have hE:=hE.trans cc
  have hr_vi:=hr_vi.keep cc
  have hb6ll:=hb6ll.keep cc
  have hb51l:=hb51l.keep cc
  have g:=g.trans cc
  have f:=d6;clear d6
  have iu:av<fr.heap.size:=by omega
  refine oS rfl (Yk.storeAll (vr (PQ av 0) rfl) (vr (AB (Bi t i)) rfl) f (by exact C6 h32 List.length_replicate) (by exact AM h32) (AF _) fun iv d7 cd iw=> ?_)
  have hE:=Ac hE cd (Nat.le_trans fs (by omega))
  have hr_vi:=OG.kept hr_vi cd a1
  have hb6ll:=MapF.other hb6ll cd (AL (by omega))
  have hb51l:=MapF.other hb51l cd (AL (by omega))
  have g:=Ac g cd (Nat.le_trans (Nat.le_refl _) (by omega))
  clear f
  have f:=d7;clear d7
  have ix:=bl f
  refine oA rfl (oA rfl (oZ ?_))
  rcases hG:s.G (De t i)with _ | c
  ·have hO:C9 (fun x:Av=>x.1.pos) t i s=none:=by unfold C9;rw[hG]
   refine tN (cr _ _ (sk fun iy ft=>(wt (oM rfl (oM rfl (oS rfl (Yk.sliceLo (xs:=t.drop ((36)*(i))) (l:=32) DT Ls (vr az rfl) (bg.keep g) (vr (NI 32) rfl) (by simp only[List.length_drop];omega) fun d8 c1 ha98=>(oS rfl (Yk.callA1 Fr (vr d8 rfl) (((show Calls _ _ _ _ (fun e w2=>e = .returned (NI (De t i))∧Ext _ w2)from Dz _ d8 ((t.drop ((36)*(i)):List UInt8).drop (32)) c1 (by simp only[List.length_drop];omega))).mono ?_))))))))))
   rintro e fu ⟨rfl,bh⟩
   refine⟨_,rfl,?_⟩
   have hE:=hE.trans bh
   have hr_vi:=hr_vi.keep bh
   have hb6ll:=hb6ll.keep bh
   have hb51l:=hb51l.keep bh
   have g:=g.trans bh
   have f:=eb bh f
   have c1:=c1.keep bh
   refine oS rfl (Yk.lookOkN (ek:=NI) (ev:=BH) (D:=(fun _:Nat=>True)) E7 E8 (fun _ _=>FN) Dr (z:=BH dEnt) C1 j (vr (NI (De t i)) rfl) hb6ll trivial hG (oM rfl (oS rfl (Yk.extract (vs:= [.agg (entC (dEnt)).toArray, .bool (false)]) (vr (.tuple #[.agg (entC (dEnt)).toArray, .bool (false)]) rfl) (show _=some (.agg (entC (dEnt)).toArray:Value)from rfl) (oS rfl (Yk.extract (vs:= [.agg (entC (dEnt)).toArray, .bool (false)]) (vr (.tuple #[.agg (entC (dEnt)).toArray, .bool (false)]) rfl) (show _=some (.bool (false):Value)from rfl) (oS rfl (Yk.alloc (cs:=(entC dEnt).toArray) F7 fun ct fv c2 d9 bi iz=> ?_))))))))
   have b6:=Ext.refl fu
   have i0:=hE
   have i1:=g
   have fw:=hE.size
   have fx:=g.size
   have i2:=AT hb6ll.lt c2
   have i3:=AT hb51l.lt c2
   have i4:=AT (bl f) c2
   have fy:OB vi ct:=AV hr_vi.2 (by omega)
   have hE:=hE.trans bi
   have hr_vi:=hr_vi.keep bi
   have hb6ll:=hb6ll.keep bi
   have hb51l:=hb51l.keep bi
   have g:=g.trans bi
   have f:=eb bi f
   have b6:=b6.trans bi
   have b7:=d9;clear d9
   have i5:ct<fv.heap.size:=by omega
   refine oS rfl (Yk.storeAll (vr (PQ ct 0) rfl) (vr (.agg (entC (dEnt)).toArray) rfl) b7 (BA (x:=((dEnt):Av)) (y:=(dEnt:Av)) (by simp[dEnt]) (by simp[dEnt])) (Bx (x:=((dEnt):Av)) D2 (by simp[dEnt])) (BD (x:=((dEnt):Av)) rfl) fun i6 ea bj i7=> ?_)
   have hE:=Ac hE bj (Nat.le_trans fw (by omega))
   have hr_vi:=OG.kept hr_vi bj fy
   have hb6ll:=MapF.other hb6ll bj (AL (by omega))
   have hb51l:=MapF.other hb51l bj (AL (by omega))
   have g:=Ac g bj (Nat.le_trans fx (by omega))
   have f:=kb bj f (by omega)
   have b6:=Ac b6 bj (Nat.le_trans (Nat.le_refl _) (by omega))
   clear b7
   have b7:=ea;clear ea
   have i8:=bl b7
   refine oA rfl (oZ (tN (ft _ _ (sk fun i9 ja=> ?_))))
   refine D7 15 _ [Is (.bool (false)),Is (.bool (false)),Is undef,Is undef,Is undef,Is undef,Is undef,Is undef,Is undef,Is undef,Is undef,Is undef,Is undef,Is undef,Is (.bool (false))] (by kernel_rfl) [54,55,56,57,58,59,60,61,62,63,64,65,66,67,68,69] (by kernel_rfl) (by kernel_rfl) (by kernel_rfl) rfl rfl rfl (fun _ _=>trivial) (DV (Ct trivial)) ?fz ?hQ4015
   case fz=>
    refine⟨?_,?_,?_,?_,?_,?_,?_,?_,?_,?_,?_,?_,?_,?_,?_,?_,trivial⟩
    ·refine AD (Aa rfl fun σ w1 hC h=> ?_)
     have bk:σ 17 = .bool (false):=(Ab (h 17 (by decide))).trans rfl
     exact Yk.move bk ⟨Ext.refl _,rfl⟩
    ·refine AD (Aa rfl fun σ w1 hC h=> ?_)
     have bm:=Ab (h 54 (by decide))
     exact Yk.move bm ⟨Ext.refl _,rfl⟩
    ·refine AD (AS 1 true 55 rfl rfl (fun x _ (h:x = .bool false)=>by rw[h];intro h;cases h) fun _=>rfl)
    ·refine AD (AS 1 true 55 rfl rfl (fun x _ (h:x = .bool false)=>by rw[h];intro h;cases h) fun _=>rfl)
    ·refine AD (AS 1 true 55 rfl rfl (fun x _ (h:x = .bool false)=>by rw[h];intro h;cases h) fun _=>rfl)
    ·refine AD (AS 4 false 58 rfl rfl (fun x _ (h:x=undef)=>by rw[h];intro h;cases h) fun _=>rfl)
    ·refine AD (AS 4 false 58 rfl rfl (fun x _ (h:x=undef)=>by rw[h];intro h;cases h) fun _=>rfl)
    ·refine AD (AS 4 false 58 rfl rfl (fun x _ (h:x=undef)=>by rw[h];intro h;cases h) fun _=>rfl)
    ·refine AD (AS 4 false 58 rfl rfl (fun x _ (h:x=undef)=>by rw[h];intro h;cases h) fun _=>rfl)
    ·refine AD (AS 4 false 58 rfl rfl (fun x _ (h:x=undef)=>by rw[h];intro h;cases h) fun _=>rfl)
    ·refine AD (AS 4 false 58 rfl rfl (fun x _ (h:x=undef)=>by rw[h];intro h;cases h) fun _=>rfl)
    ·refine AD (AS 4 false 58 rfl rfl (fun x _ (h:x=undef)=>by rw[h];intro h;cases h) fun _=>rfl)
    ·refine AD (AS 4 false 58 rfl rfl (fun x _ (h:x=undef)=>by rw[h];intro h;cases h) fun _=>rfl)
    ·refine AD (AS 1 true 55 rfl rfl (fun x _ (h:x = .bool false)=>by rw[h];intro h;cases h) fun _=>rfl)
    ·refine AD (Aa rfl fun σ w1 hC h=> ?_)
     have bn:=Ab (h 55 (by decide))
     exact Yk.pickF bn (vr (.bool (false)) rfl) ⟨Ext.refl _,rfl⟩
    ·exact trivial
   intro f0 jb a8 he hf
   obtain⟨-,-,-,-,-,-,-,-,-,-,-,-,-,-,k68,-⟩:=hf
   obtain⟨q,o,T4,T5,j,T9,ae,aw,ax,ak,al,ay,u,aa,p,ah,n,-⟩:=he.hold [(0,_),(1,_),(4,_),(5,_),(6,_),(9,_),(10,_),(11,_),(12,az),(13,PQ av 0),(16,PQ ct 0),(17, .bool (false)),(19,_),(20,_),(21,_),(32,_),(33,_)] ⟨q,o,T4,T5,j,T9,ae,n,rfl,rfl,rfl,rfl,u,aa,p,ah,n,trivial⟩ rfl
   clear he
   have hE:=hE.trans a8
   have hr_vi:=hr_vi.keep a8
   have hb6ll:=hb6ll.keep a8
   have hb51l:=hb51l.keep a8
   have g:=g.trans a8
   have f:=eb a8 f
   have b6:=b6.trans a8
   have b7:=eb a8 b7
   have bo:f0 68 = .bool (false):=k68
   clear k68
   refine Yp.callA2 Fo bo (vr (NI 6) rfl) ?_
   refine AG (Bc _ (false) 6) ?_ ?_
   rotate_left
   ·
    rintro ch jc ⟨rfl,hb,hx⟩
    refine Af (Aw (Af (Af (Aw (Af (AK ?_))))))
    rw[hO]at hst
    have ce:=Eh hst (es.length-(i+1))
    rw[show i+1+(es.length-(i+1))=es.length by omega]at ce
    exact .inr ⟨_,rfl,ce,rfl,hE.trans hx⟩
   rintro v_ jd ⟨rfl,f1,je⟩
   cases f1
  have hcm:=hI.G _ c hG
  have hcl:=hok _ hcm
  by_cases h0:i=0
  ·have hO:C9 (fun x:Av=>x.1.pos) t i s=some (Dv (fun x:Av=>x.1.pos) t i s c):=by unfold C9;rw[hG];exact if_pos (.inl h0)
   rw[hO]at hst
   refine tN (cr _ _ (sk fun jf f2=>(wt (oM rfl (oM rfl (oS rfl (Yk.sliceLo (xs:=t.drop ((36)*(i))) (l:=32) DT Ls (vr az rfl) (bg.keep g) (vr (NI 32) rfl) (by simp only[List.length_drop];omega) fun ec c3 ha134=>(oS rfl (Yk.callA1 Fr (vr ec rfl) (((show Calls _ _ _ _ (fun e w2=>e = .returned (NI (De t i))∧Ext _ w2)from Dz _ ec ((t.drop ((36)*(i)):List UInt8).drop (32)) c3 (by simp only[List.length_drop];omega))).mono ?_))))))))))
   rintro e f3 ⟨rfl,bp⟩
   refine⟨_,rfl,?_⟩
   have hE:=hE.trans bp
   have hr_vi:=hr_vi.keep bp
   have hb6ll:=hb6ll.keep bp
   have hb51l:=hb51l.keep bp
   have g:=g.trans bp
   have f:=eb bp f
   have c3:=c3.keep bp
   refine oS rfl (Yk.lookOkS (ek:=NI) (ev:=BH) (D:=(fun _:Nat=>True)) E7 E8 (fun _ _=>FN) Dr (z:=BH dEnt) C1 j (vr (NI (De t i)) rfl) hb6ll trivial hG (oM rfl (oS rfl (Yk.extract (vs:= [.agg (entC (c)).toArray, .bool (true)]) (vr (.tuple #[.agg (entC (c)).toArray, .bool (true)]) rfl) (show _=some (.agg (entC (c)).toArray:Value)from rfl) (oS rfl (Yk.extract (vs:= [.agg (entC (c)).toArray, .bool (true)]) (vr (.tuple #[.agg (entC (c)).toArray, .bool (true)]) rfl) (show _=some (.bool (true):Value)from rfl) (oS rfl (Yk.alloc (cs:=(entC dEnt).toArray) F7 fun a9 f4 c4 ed bq jg=> ?_))))))))
   have a2:=Ext.refl f3
   have jh:=hE
   have ji:=g
   have f5:=hE.size
   have f6:=g.size
   have jj:=AT hb6ll.lt c4
   have jk:=AT hb51l.lt c4
   have jl:=AT (bl f) c4
   have cu:OB vi a9:=AV hr_vi.2 (by omega)
   have hE:=hE.trans bq
   have hr_vi:=hr_vi.keep bq
   have hb6ll:=hb6ll.keep bq
   have hb51l:=hb51l.keep bq
   have g:=g.trans bq
   have f:=eb bq f
   have a2:=a2.trans bq
   have am:=ed;clear ed
   have jm:a9<f4.heap.size:=by omega
   refine oS rfl (Yk.storeAll (vr (PQ a9 0) rfl) (vr (.agg (entC (c)).toArray) rfl) am (BA (x:=((c):Av)) (y:=(dEnt:Av)) hcl.2 (by simp[dEnt])) (Bx (x:=((c):Av)) D2 hcl.2) (BD (x:=((c):Av)) (RB.one hcl.1).2) fun jn ee br jo=> ?_)
   have hE:=Ac hE br (Nat.le_trans f5 (by omega))
   have hr_vi:=OG.kept hr_vi br cu
   have hb6ll:=MapF.other hb6ll br (AL (by omega))
   have hb51l:=MapF.other hb51l br (AL (by omega))
   have g:=Ac g br (Nat.le_trans f6 (by omega))
   have f:=kb br f (by omega)
   have a2:=Ac a2 br (Nat.le_trans (Nat.le_refl _) (by omega))
   clear am
   have am:=ee;clear ee
   have jp:=bl am
   refine oA rfl (oZ (tN (f2 _ _ (sk fun jq f7=> ?_))))
   refine D7 15 _ [Is (.bool (true)),Is (.bool (true)),Is (NI i),Is (.bool (true)),Is (.bool (true)),Is undef,Is undef,Is undef,Is undef,Is undef,Is undef,Is undef,Is undef,Is (.bool (true)),Is (.bool (true))] (by kernel_rfl) [54,55,56,57,58,59,60,61,62,63,64,65,66,67,68,69] (by kernel_rfl) (by kernel_rfl) (by kernel_rfl) rfl rfl rfl (fun _ _=>trivial) (DV (Ct trivial)) ?f8 ?hQ5015
   case f8=>
    refine⟨?_,?_,?_,?_,?_,?_,?_,?_,?_,?_,?_,?_,?_,?_,?_,?_,trivial⟩
    ·refine AD (Aa rfl fun σ w1 hC h=> ?_)
     have bk:σ 17 = .bool (true):=(Ab (h 17 (by decide))).trans rfl
     exact Yk.move bk ⟨Ext.refl _,rfl⟩
    ·refine AD (Aa rfl fun σ w1 hC h=> ?_)
     have bm:=Ab (h 54 (by decide))
     exact Yk.move bm ⟨Ext.refl _,rfl⟩
    ·refine AD (Ay 1 true 55 rfl rfl (fun _ _ h=>h) fun σ w1 hC h=> ?_)
     have a3:=(Ab (h 11 (by decide))).trans n
     exact Yk.move a3 ⟨Ext.refl _,rfl⟩
    ·refine AD (Ay 1 true 55 rfl rfl (fun _ _ h=>h) fun σ w1 hC h=> ?_)
     have cf:=Ab (h 56 (by decide))
     exact Yk.eqI (a:=(i:Nat)) (b:=(0:Nat)) cf rfl (Br _ _ _ _) ⟨Ext.refl _,(congrArg Value.bool (decide_eq_true (h0)))⟩
    ·refine AD (Ay 1 true 55 rfl rfl (fun _ _ h=>h) fun σ w1 hC h=> ?_)
     have cg:=Ab (h 57 (by decide))
     exact Yk.move cg ⟨Ext.refl _,rfl⟩
    ·refine AD (AS 4 false 58 rfl rfl (fun x _ (h:x = .bool true)=>by rw[h];intro h;cases h) fun _=>rfl)
    ·refine AD (AS 4 false 58 rfl rfl (fun x _ (h:x = .bool true)=>by rw[h];intro h;cases h) fun _=>rfl)
    ·refine AD (AS 4 false 58 rfl rfl (fun x _ (h:x = .bool true)=>by rw[h];intro h;cases h) fun _=>rfl)
    ·refine AD (AS 4 false 58 rfl rfl (fun x _ (h:x = .bool true)=>by rw[h];intro h;cases h) fun _=>rfl)
    ·refine AD (AS 4 false 58 rfl rfl (fun x _ (h:x = .bool true)=>by rw[h];intro h;cases h) fun _=>rfl)
    ·refine AD (AS 4 false 58 rfl rfl (fun x _ (h:x = .bool true)=>by rw[h];intro h;cases h) fun _=>rfl)
    ·refine AD (AS 4 false 58 rfl rfl (fun x _ (h:x = .bool true)=>by rw[h];intro h;cases h) fun _=>rfl)
    ·refine AD (AS 4 false 58 rfl rfl (fun x _ (h:x = .bool true)=>by rw[h];intro h;cases h) fun _=>rfl)
    ·refine AD (Ay 1 true 55 rfl rfl (fun _ _ h=>h) fun σ w1 hC h=> ?_)
     have ci:=Ab (h 58 (by decide))
     exact Yk.pickT ci (vr (.bool (true)) rfl) ⟨Ext.refl _,rfl⟩
    ·refine AD (Aa rfl fun σ w1 hC h=> ?_)
     have bn:=Ab (h 55 (by decide))
     have cj:=Ab (h 67 (by decide))
     exact Yk.pickT bn cj ⟨Ext.refl _,rfl⟩
    ·exact trivial
   intro f9 jr ba he hf
   obtain⟨-,-,-,-,-,-,-,-,-,-,-,-,-,-,k68,-⟩:=hf
   obtain⟨q,o,T4,T5,j,T9,ae,aw,ax,ak,al,ay,u,aa,p,ah,n,-⟩:=he.hold [(0,_),(1,_),(4,_),(5,_),(6,_),(9,_),(10,_),(11,_),(12,az),(13,PQ av 0),(16,PQ a9 0),(17, .bool (true)),(19,_),(20,_),(21,_),(32,_),(33,_)] ⟨q,o,T4,T5,j,T9,ae,n,rfl,rfl,rfl,rfl,u,aa,p,ah,n,trivial⟩ rfl
   clear he
   have hE:=hE.trans ba
   have hr_vi:=hr_vi.keep ba
   have hb6ll:=hb6ll.keep ba
   have hb51l:=hb51l.keep ba
   have g:=g.trans ba
   have f:=eb ba f
   have a2:=a2.trans ba
   have am:=eb ba am
   have bo:f9 68 = .bool (true):=k68
   clear k68
   refine Yp.callA2 Fo bo (vr (NI 6) rfl) ?_
   refine AG (Bc _ (true) 6) ?_ ?_
   rotate_left
   ·
    rintro ch js ⟨rfl,hb,hx⟩
    refine Af (Aw (Af (Af (Aw (Af (AK ?_))))))
    cases hb
   rintro v_ jt ⟨rfl,ju,bb⟩
   have hE:=hE.trans bb
   have hr_vi:=hr_vi.keep bb
   have hb6ll:=hb6ll.keep bb
   have hb51l:=hb51l.keep bb
   have g:=g.trans bb
   have f:=eb bb f
   have a2:=a2.trans bb
   have am:=eb bb am
   intro an ao
   have q:an 0=(v:Value):=(ao 0 (by decide)).trans q
   have o:an 1=(ve:Value):=(ao 1 (by decide)).trans o
   have T4:an 4=((Value.slice none 0 0):Value):=(ao 4 (by decide)).trans T4
   have T5:an 5=((Value.map none):Value):=(ao 5 (by decide)).trans T5
   have j:an 6=(.map (some n3):Value):=(ao 6 (by decide)).trans j
   have T9:an 9=(vi:Value):=(ao 9 (by decide)).trans T9
   have ae:an 10=(.map (some ai):Value):=(ao 10 (by decide)).trans ae
   have aw:an 11=(NI i:Value):=(ao 11 (by decide)).trans aw
   have ax:an 12=(az:Value):=(ao 12 (by decide)).trans ax
   have ak:an 13=(PQ av 0:Value):=(ao 13 (by decide)).trans ak
   have al:an 16=(PQ a9 0:Value):=(ao 16 (by decide)).trans al
   have ay:an 17=(.bool (true):Value):=(ao 17 (by decide)).trans ay
   have u:an 19=(ve:Value):=(ao 19 (by decide)).trans u
   have aa:an 20=(NI es.length:Value):=(ao 20 (by decide)).trans aa
   have p:an 21=(NI m:Value):=(ao 21 (by decide)).trans p
   have ah:an 32=(NI es.length:Value):=(ao 32 (by decide)).trans ah
   have n:an 33=(NI i:Value):=(ao 33 (by decide)).trans n
   refine tN (f7 _ _ (sk fun jv ga=>(wt (oM rfl (oS rfl (Yk.fieldAt E9 al (oS rfl (Yk.cell1 NA rfl (vr (PQ a9 0) rfl) (Ai am ((show(entC ((c)))[0]? =some (NI (((c)).1.pos):Value)from rfl))) (oS rfl (Yk.delM (ek:=NI) (ev:=BH) (D:=(fun _:Nat=>True)) E7 E8 (fun _ _=>FN) Dr j (vr (NI (((c)).1.pos)) rfl) hb6ll trivial fun af bs ck jw=> ?_))))))))))
   have hE:=Ac hE ck (Nat.le_trans (Nat.le_refl _) (by omega))
   have hr_vi:=OG.kept hr_vi ck hap_vi_n3
   clear hb6ll
   have hb51l:=MapF.other hb51l ck (AL (by omega))
   clear g
   have f:=kb ck f (by omega)
   clear a2
   have am:=kb ck am (by omega)
   have jx:n3<af.heap.size:=bs.lt
   refine oZ (tN (ga _ _ ?_))
   have jy:∀k,Value.ownBlock vi=some k→w.heap.size≤k:=fun k hk=>(hr_vi.2.lt k hk).1
   have hsz_:w.heap.size≤af.heap.size:=hE.size
   refine Fq 8 _ (Value.ownBlock vi) [5] [2] (fun m=>if m=5 then [2,4]else []) (fun m=>if m=5 then [2,4,5,7]else []) [Is (.map (some ai)),Is (AB (Bi t i)),fun x w' =>CK w.heap.size af.heap.size 38 32 (Lib.byteCells) (Value.ownBlock vi) (s.ids) x w',Is (AB (Bi t i)),fun x w' =>RG 32 (Lib.byteCells) w' x ([(Bi t i)]),fun x w' =>CK w.heap.size af.heap.size 38 32 (Lib.byteCells) (Value.ownBlock vi) ((s.ids)++ [(Bi t i)]) x w',Is (.agg (entC ((c))).toArray),fun x w' =>CK w.heap.size af.heap.size 38 32 (Lib.byteCells) (Value.ownBlock vi) ((s.ids)++ [(Bi t i)]) x w'] (by kernel_rfl) [73,74,75,76,77,78,79,9] (by kernel_rfl) (by kernel_rfl) (by kernel_rfl) (by kernel_rfl) (by kernel_rfl) (by kernel_rfl) rfl rfl rfl rfl rfl (Ef ⟨(fun _ _ _ h k=>⟨OG.keep h.1 k,h.2⟩),Stab.is _,(fun _ _ _ h k=>RG.keep h k),(fun _ _ _ h k=>⟨OG.keep h.1 k,h.2⟩),Stab.is _,(fun _ _ _ h k=>⟨OG.keep h.1 k,h.2⟩),trivial⟩) ⟨⟨.inr (Stab.is _), .inr (Stab.is _), .inl rfl, .inr (Stab.is _), .inl rfl, .inl rfl, .inr (Stab.is _), .inl rfl,trivial⟩,trivial⟩ ?gb ?hQ6017
   case gb=>
    refine⟨?_,?_,?_,?_,?_,?_,?_,?_,?_,trivial⟩
    ·refine AD (Aa rfl fun σ w1 hC h=> ?_)
     have hC:BX af.heap.size (Value.ownBlock vi) af w1:=hC
     have c5:=(Ab (h 10 (by decide))).trans ae
     exact Yk.move c5 ⟨Ext.refl _,rfl⟩
    ·refine AD (Aa rfl fun σ w1 hC h=> ?_)
     have hC:BX af.heap.size (Value.ownBlock vi) af w1:=hC
     have a0:=(Ab (h 13 (by decide))).trans ak
     exact Yk.loadAll a0 (BX.blk hC f a1) Ow rfl (by exact AM h32) ⟨Ext.refl _,rfl⟩
    ·refine AD (Aa rfl fun σ w1 hC h=> ?_)
     have hX:Ext af w1:=hC
     have hC:BX af.heap.size (Value.ownBlock vi) af w1:=BX.ofExt hX (Nat.le_refl _)
     have e9:=(Ab (h 9 (by decide))).trans T9
     exact Yk.move e9 ⟨Ext.refl _,OG.keep hr_vi hX,fun k hk=> .inl hk⟩
    ·refine AD (Aa rfl fun σ w1 hC h=> ?_)
     have hC:BX af.heap.size (Value.ownBlock vi) af w1:=hC
     have a0:=(Ab (h 13 (by decide))).trans ak
     exact Yk.loadAll a0 (BX.blk hC f a1) Ow rfl (by exact AM h32) ⟨Ext.refl _,rfl⟩
    ·refine AD (Aa rfl fun σ w1 hC h=> ?_)
     have hC:BX af.heap.size (Value.ownBlock vi) af w1:=hC
     have c6:=Ab (h 76 (by decide))
     exact Yk.lit1G (a:=(Bi t i)) (enc:=Lib.byteCells) c6 (by rw[Lib.byteCells_length];exact h32) IR fun v w2 h hx=>⟨hx,h⟩
    ·refine AD (Aa rfl fun σ w1 hC h=> ?_)
     have hC:BX af.heap.size (Value.ownBlock vi) af w1:=hC
     have bu:(fun x w' =>CK w.heap.size af.heap.size 38 32 (Lib.byteCells) (Value.ownBlock vi) (s.ids) x w') (σ 75) w1:=h 75 (by decide)
     have c7:(fun x w' =>RG 32 (Lib.byteCells) w' x ([(Bi t i)])) (σ 77) w1:=h 77 (by decide)
     exact Yk.appendRG _ _ w.heap.size _ 32 JD pk6_ig38.choose_spec.1 pk6_ig38.choose_spec.2 JD (s.ids) ([(Bi t i)]) bu.1 c7 (fun _ _=>AF _) (by simp only[List.length_cons,List.length_nil];omega) (by simp only[List.length_cons,List.length_nil];omega) (Nat.le_trans hsz_ hC.size) fun v w2 ho hg=>⟨BX.ofGrown hg.by_ hC.size bu.2,ho,fun k hk=>(hg.fresh k hk).elim (bu.2 k) (fun x=> .inr (Nat.le_trans hC.size x))⟩
    ·refine AD (Aa rfl fun σ w1 hC h=> ?_)
     have hC:BX af.heap.size (Value.ownBlock vi) af w1:=hC
     have c8:=(Ab (h 16 (by decide))).trans al
     exact Yk.loadAll c8 (BX.blk hC am cu) (HY).choose_spec rfl (Bx (x:=((c):Av)) D2 hcl.2) ⟨Ext.refl _,rfl⟩
    ·refine AD (Aa rfl fun σ w1 hC h=> ?_)
     have hC:BX af.heap.size (Value.ownBlock vi) af w1:=hC
     have c9:(fun x w' =>CK w.heap.size af.heap.size 38 32 (Lib.byteCells) (Value.ownBlock vi) ((s.ids)++ [(Bi t i)]) x w') (σ 78) w1:=h 78 (by decide)
     exact Yk.assign rfl ⟨Ext.refl _,c9⟩
    ·exact trivial
   intro cl ef gc he hf
   obtain⟨k73,k74,-,-,-,-,k79,k9,-⟩:=hf
   obtain⟨q,o,T4,T5,j,ae,aw,ax,ak,al,ay,u,aa,p,ah,n,-⟩:=he.hold [(0,_),(1,_),(4,_),(5,_),(6,_),(10,_),(11,_),(12,_),(13,_),(16,_),(17,_),(19,_),(20,_),(21,_),(32,_),(33,_)] ⟨q,o,T4,T5,j,ae,aw,ax,ak,al,ay,u,aa,p,ah,n,trivial⟩ rfl
   clear he
   have k9:(fun x w' =>CK w.heap.size af.heap.size 38 32 (Lib.byteCells) (Value.ownBlock vi) ((s.ids)++ [(Bi t i)]) x w') (cl 9) ef:=k9
   obtain⟨bv,T9⟩:∃v,cl 9=v:=⟨_,rfl⟩
   rw[T9]at k9
   have a4:Grew af ef vi bv:=⟨gc.grown,k9.2⟩
   have da:=k9.1;clear k9
   have gd:OB bv n3:=Ax a4 hap_vi_n3 bs.lt
   have eg:OB bv ai:=Ax a4 hap_vi_n48 hb51l.lt
   have jz:OB bv av:=Ax a4 a1 (bl f)
   have j0:OB bv a9:=Ax a4 cu (bl am)
   have hE:=AC hE a4 hr_vi.2 (Nat.le_refl _)
   clear hr_vi
   have hb51l:=MapF.grew hb51l a4 hap_vi_n48
   have f:=AP f a4 a1
   have am:=AP am a4 cu
   have bs:=MapF.grew bs a4 hap_vi_n3
   have db:cl 73 = .map (some ai):=k73
   have dc:cl 74=AB (Bi t i):=k74
   have dd:cl 79 = .agg (entC ((c))).toArray:=k79
   clear k73 k74 k79
   refine Yp.ofK (Yk.putM (ek:=rk) (ev:=BH) (D:=(fun id:List UInt8=>id.length=32)) (c:=((c))) Cf Cg H2 db dc dd hb51l h32 fun ge eh cm j1=> ?_)
   have hE:=Ac hE cm (Nat.le_trans d1 (by omega))
   clear hb51l
   have f:=kb cm f (by omega)
   have am:=kb cm am (by omega)
   have bs:=MapF.other bs cm (AL (by omega))
   have da:=OG.kept da cm eg
   have j2:ai<ge.heap.size:=eh.lt
   refine bN (tN (d4 _ _ (wt (oS rfl (Yk.bin (xv:=NI i) (yv:=NI 1) n rfl rfl (Ak _ _ _ (by omega)) (oM rfl (AH [(0,v),(1,ve),(4,(Value.slice none 0 0)),(5,(Value.map none)),(6, .map (some n3)),(9,bv),(10, .map (some ai)),(11,NI i),(12,az),(13,PQ av 0),(16,PQ a9 0),(17, .bool (true)),(19,ve),(20,NI es.length),(21,NI m),(32,NI es.length),(33,NI ((i)+(1)))] ⟨q,o,T4,T5,j,T9,ae,aw,ax,ak,al,ay,u,aa,p,ah,rfl,trivial⟩ fun gf ⟨q,o,T4,T5,j,T9,ae,aw,ax,ak,al,ay,u,aa,p,ah,n,_⟩=>(tN (And.intro ⟨i+1,Dv (fun x:Av=>x.1.pos) t i s c,bv,q,o,T4,T5,j,ae,u,aa,p,ah,n,T9,hE,B5 da (rfl),CY bs (rfl),CY eh (rfl),hst,by omega,gd,eg,trivial⟩ ?_)))))))))
   show es.length-(intOf (gf 33)).toNat<es.length-(intOf (d2 33)).toNat
   rw[n,q33]
   simp only[intOf,Int.toNat_natCast];omega
  by_cases hlt:Lib.compareBytes (s.ids.getD (i-1) []) (Bi t i)<0
  ·have hO:C9 (fun x:Av=>x.1.pos) t i s=some (Dv (fun x:Av=>x.1.pos) t i s c):=by unfold C9;rw[hG];exact if_pos (.inr hlt)
   rw[hO]at hst
   refine tN (cr _ _ (sk fun j3 gg=>(wt (oM rfl (oM rfl (oS rfl (Yk.sliceLo (xs:=t.drop ((36)*(i))) (l:=32) DT Ls (vr az rfl) (bg.keep g) (vr (NI 32) rfl) (by simp only[List.length_drop];omega) fun ei de ha195=>(oS rfl (Yk.callA1 Fr (vr ei rfl) (((show Calls _ _ _ _ (fun e w2=>e = .returned (NI (De t i))∧Ext _ w2)from Dz _ ei ((t.drop ((36)*(i)):List UInt8).drop (32)) de (by simp only[List.length_drop];omega))).mono ?_))))))))))
   rintro e gh ⟨rfl,bw⟩
   refine⟨_,rfl,?_⟩
   have hE:=hE.trans bw
   have hr_vi:=hr_vi.keep bw
   have hb6ll:=hb6ll.keep bw
   have hb51l:=hb51l.keep bw
   have g:=g.trans bw
   have f:=eb bw f
   have de:=de.keep bw
   refine oS rfl (Yk.lookOkS (ek:=NI) (ev:=BH) (D:=(fun _:Nat=>True)) E7 E8 (fun _ _=>FN) Dr (z:=BH dEnt) C1 j (vr (NI (De t i)) rfl) hb6ll trivial hG (oM rfl (oS rfl (Yk.extract (vs:= [.agg (entC (c)).toArray, .bool (true)]) (vr (.tuple #[.agg (entC (c)).toArray, .bool (true)]) rfl) (show _=some (.agg (entC (c)).toArray:Value)from rfl) (oS rfl (Yk.extract (vs:= [.agg (entC (c)).toArray, .bool (true)]) (vr (.tuple #[.agg (entC (c)).toArray, .bool (true)]) rfl) (show _=some (.bool (true):Value)from rfl) (oS rfl (Yk.alloc (cs:=(entC dEnt).toArray) F7 fun bc gi df ej bx j4=> ?_))))))))
   have a5:=Ext.refl gh
   have j5:=hE
   have j6:=g
   have gj:=hE.size
   have gk:=g.size
   have j7:=AT hb6ll.lt df
   have j8:=AT hb51l.lt df
   have j9:=AT (bl f) df
   have cv:OB vi bc:=AV hr_vi.2 (by omega)
   have hE:=hE.trans bx
   have hr_vi:=hr_vi.keep bx
   have hb6ll:=hb6ll.keep bx
   have hb51l:=hb51l.keep bx
   have g:=g.trans bx
   have f:=eb bx f
   have a5:=a5.trans bx
   have ap:=ej;clear ej
   have ka:bc<gi.heap.size:=by omega
   refine oS rfl (Yk.storeAll (vr (PQ bc 0) rfl) (vr (.agg (entC (c)).toArray) rfl) ap (BA (x:=((c):Av)) (y:=(dEnt:Av)) hcl.2 (by simp[dEnt])) (Bx (x:=((c):Av)) D2 hcl.2) (BD (x:=((c):Av)) (RB.one hcl.1).2) fun kc el bz kd=> ?_)
   have hE:=Ac hE bz (Nat.le_trans gj (by omega))
   have hr_vi:=OG.kept hr_vi bz cv
   have hb6ll:=MapF.other hb6ll bz (AL (by omega))
   have hb51l:=MapF.other hb51l bz (AL (by omega))
   have g:=Ac g bz (Nat.le_trans gk (by omega))
   have f:=kb bz f (by omega)
   have a5:=Ac a5 bz (Nat.le_trans (Nat.le_refl _) (by omega))
   clear ap
   have ap:=el;clear el
   have ke:=bl ap
   refine oA rfl (oZ (tN (gg _ _ (sk fun kf gl=> ?_))))
   refine D7 15 _ [Is (.bool (true)),Is (.bool (true)),Is (NI i),Is (.bool (false)),Is (.bool (false)),Is (vi),Is (NI i),Is (NI ((i)-(1))),fun x w' =>PR (Lib.byteCells ((s.ids).getD ((i)-(1)) ([]:List UInt8))) x w',Is (AB ((s.ids).getD ((i)-(1)) ([]:List UInt8))),Is (AB (Bi t i)),Is (.int .i64 (Lib.compareBytes ((s.ids).getD ((i)-(1)) ([]:List UInt8)) (Bi t i):Int)),Is (.bool (true)),Is (.bool (true)),Is (.bool (true))] (by kernel_rfl) [54,55,56,57,58,59,60,61,62,63,64,65,66,67,68,69] (by kernel_rfl) (by kernel_rfl) (by kernel_rfl) rfl rfl rfl (fun _ _=>trivial) (KS ⟨(fun _ _ _ h k=>PR.keep h k),(Gd trivial)⟩) ?gm ?hQ7015
   case gm=>
    refine⟨?_,?_,?_,?_,?_,?_,?_,?_,?_,?_,?_,?_,?_,?_,?_,?_,trivial⟩
    ·refine AD (Aa rfl fun σ w1 hC h=> ?_)
     have bk:σ 17 = .bool (true):=(Ab (h 17 (by decide))).trans rfl
     exact Yk.move bk ⟨Ext.refl _,rfl⟩
    ·refine AD (Aa rfl fun σ w1 hC h=> ?_)
     have bm:=Ab (h 54 (by decide))
     exact Yk.move bm ⟨Ext.refl _,rfl⟩
    ·refine AD (Ay 1 true 55 rfl rfl (fun _ _ h=>h) fun σ w1 hC h=> ?_)
     have a3:=(Ab (h 11 (by decide))).trans n
     exact Yk.move a3 ⟨Ext.refl _,rfl⟩
    ·refine AD (Ay 1 true 55 rfl rfl (fun _ _ h=>h) fun σ w1 hC h=> ?_)
     have cf:=Ab (h 56 (by decide))
     exact Yk.eqI (a:=(i:Nat)) (b:=(0:Nat)) cf rfl (Br _ _ _ _) ⟨Ext.refl _,(congrArg Value.bool (decide_eq_false (h0)))⟩
    ·refine AD (Ay 1 true 55 rfl rfl (fun _ _ h=>h) fun σ w1 hC h=> ?_)
     have cg:=Ab (h 57 (by decide))
     exact Yk.move cg ⟨Ext.refl _,rfl⟩
    ·refine AD (Ay 4 false 58 rfl rfl (fun _ _ h=>h) fun σ w1 hC h=> ?_)
     have e9:=(Ab (h 9 (by decide))).trans T9
     exact Yk.move e9 ⟨Ext.refl _,rfl⟩
    ·refine AD (Ay 4 false 58 rfl rfl (fun _ _ h=>h) fun σ w1 hC h=> ?_)
     have a3:=(Ab (h 11 (by decide))).trans n
     exact Yk.move a3 ⟨Ext.refl _,rfl⟩
    ·refine AD (Ay 4 false 58 rfl rfl (fun _ _ h=>h) fun σ w1 hC h=> ?_)
     have dg:=Ab (h 60 (by decide))
     exact Yk.bin (xv:=NI i) (yv:=NI 1) dg rfl rfl (Bj _ _ _ (by omega) (by omega)) ⟨Ext.refl _,rfl⟩
    ·refine AD (Ay 4 false 58 rfl rfl (fun _ _ h=>h) fun σ w1 hC h=> ?_)
     have dh:=Ab (h 59 (by decide))
     have di:=Ab (h 61 (by decide))
     exact Yk.atRG JD Mn (by decide) ([]:List UInt8) (RG.of (RG.ofOwn (hr_vi.keep hC)) dh) di (by omega) fun v h=>⟨Ext.refl _,h⟩
    ·refine AD (Ay 4 false 58 rfl rfl (fun _ _ h=>h) fun σ w1 hC h=> ?_)
     have dj:(fun x w' =>PR (Lib.byteCells ((s.ids).getD ((i)-(1)) ([]:List UInt8))) x w') (σ 62) w1:=h 62 (by decide)
     exact Yk.loadPR dj Ow rfl (by rw[RG.elem (RG.ofOwn hr_vi) ([]:List UInt8) (by omega)];exact L9) ⟨Ext.refl _,rfl⟩
    ·refine AD (Ay 4 false 58 rfl rfl (fun _ _ h=>h) fun σ w1 hC h=> ?_)
     have a0:σ 13=PQ av 0:=(Ab (h 13 (by decide))).trans rfl
     exact Yk.loadAll a0 (eb hC f) Ow rfl (by exact AM h32) ⟨Ext.refl _,rfl⟩
    ·refine AD (Ay 4 false 58 rfl rfl (fun _ _ h=>h) fun σ w1 hC h=> ?_)
     have dk:=Ab (h 63 (by decide))
     have dl:=Ab (h 64 (by decide))
     refine Yk.callA2 NJ dk dl ((Fx _ ((s.ids).getD ((i)-(1)) ([]:List UInt8)) (Bi t i) ((A5 (RG.elem (RG.ofOwn hr_vi) ([]:List UInt8) (by omega)))) (h32)).mono ?_)
     rintro e w2 ⟨rfl,hx⟩
     exact⟨_,rfl,hx,rfl⟩
    ·refine AD (Ay 4 false 58 rfl rfl (fun _ _ h=>h) fun σ w1 hC h=> ?_)
     have dm:=Ab (h 65 (by decide))
     exact Yk.eqI dm (vr (NI 0) rfl) (Ej _ .i64 (Lib.compareBytes ((s.ids).getD ((i)-(1)) ([]:List UInt8)) (Bi t i):Int) ((0:Nat):Int)) ⟨Ext.refl _,(congrArg Value.bool (decide_eq_true (hlt)))⟩
    ·refine AD (Ay 1 true 55 rfl rfl (fun _ _ h=>h) fun σ w1 hC h=> ?_)
     have ci:=Ab (h 58 (by decide))
     have dn:=Ab (h 66 (by decide))
     exact Yk.pickF ci dn ⟨Ext.refl _,rfl⟩
    ·refine AD (Aa rfl fun σ w1 hC h=> ?_)
     have bn:=Ab (h 55 (by decide))
     have cj:=Ab (h 67 (by decide))
     exact Yk.pickT bn cj ⟨Ext.refl _,rfl⟩
    ·exact trivial
   intro gn kg bd he hf
   obtain⟨-,-,-,-,-,-,-,-,-,-,-,-,-,-,k68,-⟩:=hf
   obtain⟨q,o,T4,T5,j,T9,ae,aw,ax,ak,al,ay,u,aa,p,ah,n,-⟩:=he.hold [(0,_),(1,_),(4,_),(5,_),(6,_),(9,_),(10,_),(11,_),(12,az),(13,PQ av 0),(16,PQ bc 0),(17, .bool (true)),(19,_),(20,_),(21,_),(32,_),(33,_)] ⟨q,o,T4,T5,j,T9,ae,n,rfl,rfl,rfl,rfl,u,aa,p,ah,n,trivial⟩ rfl
   clear he
   have hE:=hE.trans bd
   have hr_vi:=hr_vi.keep bd
   have hb6ll:=hb6ll.keep bd
   have hb51l:=hb51l.keep bd
   have g:=g.trans bd
   have f:=eb bd f
   have a5:=a5.trans bd
   have ap:=eb bd ap
   have bo:gn 68 = .bool (true):=k68
   clear k68
   refine Yp.callA2 Fo bo (vr (NI 6) rfl) ?_
   refine AG (Bc _ (true) 6) ?_ ?_
   rotate_left
   ·
    rintro ch kh ⟨rfl,hb,hx⟩
    refine Af (Aw (Af (Af (Aw (Af (AK ?_))))))
    cases hb
   rintro v_ ki ⟨rfl,kj,be⟩
   have hE:=hE.trans be
   have hr_vi:=hr_vi.keep be
   have hb6ll:=hb6ll.keep be
   have hb51l:=hb51l.keep be
   have g:=g.trans be
   have f:=eb be f
   have a5:=a5.trans be
   have ap:=eb be ap
   intro aq ar
   have q:aq 0=(v:Value):=(ar 0 (by decide)).trans q
   have o:aq 1=(ve:Value):=(ar 1 (by decide)).trans o
   have T4:aq 4=((Value.slice none 0 0):Value):=(ar 4 (by decide)).trans T4
   have T5:aq 5=((Value.map none):Value):=(ar 5 (by decide)).trans T5
   have j:aq 6=(.map (some n3):Value):=(ar 6 (by decide)).trans j
   have T9:aq 9=(vi:Value):=(ar 9 (by decide)).trans T9
   have ae:aq 10=(.map (some ai):Value):=(ar 10 (by decide)).trans ae
   have aw:aq 11=(NI i:Value):=(ar 11 (by decide)).trans aw
   have ax:aq 12=(az:Value):=(ar 12 (by decide)).trans ax
   have ak:aq 13=(PQ av 0:Value):=(ar 13 (by decide)).trans ak
   have al:aq 16=(PQ bc 0:Value):=(ar 16 (by decide)).trans al
   have ay:aq 17=(.bool (true):Value):=(ar 17 (by decide)).trans ay
   have u:aq 19=(ve:Value):=(ar 19 (by decide)).trans u
   have aa:aq 20=(NI es.length:Value):=(ar 20 (by decide)).trans aa
   have p:aq 21=(NI m:Value):=(ar 21 (by decide)).trans p
   have ah:aq 32=(NI es.length:Value):=(ar 32 (by decide)).trans ah
   have n:aq 33=(NI i:Value):=(ar 33 (by decide)).trans n
   refine tN (gl _ _ (sk fun kk go=>(wt (oM rfl (oS rfl (Yk.fieldAt E9 al (oS rfl (Yk.cell1 NA rfl (vr (PQ bc 0) rfl) (Ai ap ((show(entC ((c)))[0]? =some (NI (((c)).1.pos):Value)from rfl))) (oS rfl (Yk.delM (ek:=NI) (ev:=BH) (D:=(fun _:Nat=>True)) E7 E8 (fun _ _=>FN) Dr j (vr (NI (((c)).1.pos)) rfl) hb6ll trivial fun ag b0 cn kl=> ?_))))))))))
   have hE:=Ac hE cn (Nat.le_trans (Nat.le_refl _) (by omega))
   have hr_vi:=OG.kept hr_vi cn hap_vi_n3
   clear hb6ll
   have hb51l:=MapF.other hb51l cn (AL (by omega))
   clear g
   have f:=kb cn f (by omega)
   clear a5
   have ap:=kb cn ap (by omega)
   have km:n3<ag.heap.size:=b0.lt
   refine oZ (tN (go _ _ ?_))
   have kn:∀k,Value.ownBlock vi=some k→w.heap.size≤k:=fun k hk=>(hr_vi.2.lt k hk).1
   have hsz_:w.heap.size≤ag.heap.size:=hE.size
   refine Fq 8 _ (Value.ownBlock vi) [5] [2] (fun m=>if m=5 then [2,4]else []) (fun m=>if m=5 then [2,4,5,7]else []) [Is (.map (some ai)),Is (AB (Bi t i)),fun x w' =>CK w.heap.size ag.heap.size 38 32 (Lib.byteCells) (Value.ownBlock vi) (s.ids) x w',Is (AB (Bi t i)),fun x w' =>RG 32 (Lib.byteCells) w' x ([(Bi t i)]),fun x w' =>CK w.heap.size ag.heap.size 38 32 (Lib.byteCells) (Value.ownBlock vi) ((s.ids)++ [(Bi t i)]) x w',Is (.agg (entC ((c))).toArray),fun x w' =>CK w.heap.size ag.heap.size 38 32 (Lib.byteCells) (Value.ownBlock vi) ((s.ids)++ [(Bi t i)]) x w'] (by kernel_rfl) [73,74,75,76,77,78,79,9] (by kernel_rfl) (by kernel_rfl) (by kernel_rfl) (by kernel_rfl) (by kernel_rfl) (by kernel_rfl) rfl rfl rfl rfl rfl (Ef ⟨(fun _ _ _ h k=>⟨OG.keep h.1 k,h.2⟩),Stab.is _,(fun _ _ _ h k=>RG.keep h k),(fun _ _ _ h k=>⟨OG.keep h.1 k,h.2⟩),Stab.is _,(fun _ _ _ h k=>⟨OG.keep h.1 k,h.2⟩),trivial⟩) ⟨⟨.inr (Stab.is _), .inr (Stab.is _), .inl rfl, .inr (Stab.is _), .inl rfl, .inl rfl, .inr (Stab.is _), .inl rfl,trivial⟩,trivial⟩ ?gp ?hQ8017
   case gp=>
    refine⟨?_,?_,?_,?_,?_,?_,?_,?_,?_,trivial⟩
    ·refine AD (Aa rfl fun σ w1 hC h=> ?_)
     have hC:BX ag.heap.size (Value.ownBlock vi) ag w1:=hC
     have c5:=(Ab (h 10 (by decide))).trans ae
     exact Yk.move c5 ⟨Ext.refl _,rfl⟩
    ·refine AD (Aa rfl fun σ w1 hC h=> ?_)
     have hC:BX ag.heap.size (Value.ownBlock vi) ag w1:=hC
     have a0:=(Ab (h 13 (by decide))).trans ak
     exact Yk.loadAll a0 (BX.blk hC f a1) Ow rfl (by exact AM h32) ⟨Ext.refl _,rfl⟩
    ·refine AD (Aa rfl fun σ w1 hC h=> ?_)
     have hX:Ext ag w1:=hC
     have hC:BX ag.heap.size (Value.ownBlock vi) ag w1:=BX.ofExt hX (Nat.le_refl _)
     have e9:=(Ab (h 9 (by decide))).trans T9
     exact Yk.move e9 ⟨Ext.refl _,OG.keep hr_vi hX,fun k hk=> .inl hk⟩
    ·refine AD (Aa rfl fun σ w1 hC h=> ?_)
     have hC:BX ag.heap.size (Value.ownBlock vi) ag w1:=hC
     have a0:=(Ab (h 13 (by decide))).trans ak
     exact Yk.loadAll a0 (BX.blk hC f a1) Ow rfl (by exact AM h32) ⟨Ext.refl _,rfl⟩
    ·refine AD (Aa rfl fun σ w1 hC h=> ?_)
     have hC:BX ag.heap.size (Value.ownBlock vi) ag w1:=hC
     have c6:=Ab (h 76 (by decide))
     exact Yk.lit1G (a:=(Bi t i)) (enc:=Lib.byteCells) c6 (by rw[Lib.byteCells_length];exact h32) IR fun v w2 h hx=>⟨hx,h⟩
    ·refine AD (Aa rfl fun σ w1 hC h=> ?_)
     have hC:BX ag.heap.size (Value.ownBlock vi) ag w1:=hC
     have bu:(fun x w' =>CK w.heap.size ag.heap.size 38 32 (Lib.byteCells) (Value.ownBlock vi) (s.ids) x w') (σ 75) w1:=h 75 (by decide)
     have c7:(fun x w' =>RG 32 (Lib.byteCells) w' x ([(Bi t i)])) (σ 77) w1:=h 77 (by decide)
     exact Yk.appendRG _ _ w.heap.size _ 32 JD pk6_ig38.choose_spec.1 pk6_ig38.choose_spec.2 JD (s.ids) ([(Bi t i)]) bu.1 c7 (fun _ _=>AF _) (by simp only[List.length_cons,List.length_nil];omega) (by simp only[List.length_cons,List.length_nil];omega) (Nat.le_trans hsz_ hC.size) fun v w2 ho hg=>⟨BX.ofGrown hg.by_ hC.size bu.2,ho,fun k hk=>(hg.fresh k hk).elim (bu.2 k) (fun x=> .inr (Nat.le_trans hC.size x))⟩
    ·refine AD (Aa rfl fun σ w1 hC h=> ?_)
     have hC:BX ag.heap.size (Value.ownBlock vi) ag w1:=hC
     have c8:=(Ab (h 16 (by decide))).trans al
     exact Yk.loadAll c8 (BX.blk hC ap cv) (HY).choose_spec rfl (Bx (x:=((c):Av)) D2 hcl.2) ⟨Ext.refl _,rfl⟩
    ·refine AD (Aa rfl fun σ w1 hC h=> ?_)
     have hC:BX ag.heap.size (Value.ownBlock vi) ag w1:=hC
     have c9:(fun x w' =>CK w.heap.size ag.heap.size 38 32 (Lib.byteCells) (Value.ownBlock vi) ((s.ids)++ [(Bi t i)]) x w') (σ 78) w1:=h 78 (by decide)
     exact Yk.assign rfl ⟨Ext.refl _,c9⟩
    ·exact trivial
   intro co em gq he hf
   obtain⟨k73,k74,-,-,-,-,k79,k9,-⟩:=hf
   obtain⟨q,o,T4,T5,j,ae,aw,ax,ak,al,ay,u,aa,p,ah,n,-⟩:=he.hold [(0,_),(1,_),(4,_),(5,_),(6,_),(10,_),(11,_),(12,_),(13,_),(16,_),(17,_),(19,_),(20,_),(21,_),(32,_),(33,_)] ⟨q,o,T4,T5,j,ae,aw,ax,ak,al,ay,u,aa,p,ah,n,trivial⟩ rfl
   clear he
   have k9:(fun x w' =>CK w.heap.size ag.heap.size 38 32 (Lib.byteCells) (Value.ownBlock vi) ((s.ids)++ [(Bi t i)]) x w') (co 9) em:=k9
   obtain⟨b1,T9⟩:∃v,co 9=v:=⟨_,rfl⟩
   rw[T9]at k9
   have a6:Grew ag em vi b1:=⟨gq.grown,k9.2⟩
   have dp:=k9.1;clear k9
   have gr:OB b1 n3:=Ax a6 hap_vi_n3 b0.lt
   have en:OB b1 ai:=Ax a6 hap_vi_n48 hb51l.lt
   have ko:OB b1 av:=Ax a6 a1 (bl f)
   have kp:OB b1 bc:=Ax a6 cv (bl ap)
   have hE:=AC hE a6 hr_vi.2 (Nat.le_refl _)
   clear hr_vi
   have hb51l:=MapF.grew hb51l a6 hap_vi_n48
   have f:=AP f a6 a1
   have ap:=AP ap a6 cv
   have b0:=MapF.grew b0 a6 hap_vi_n3
   have db:co 73 = .map (some ai):=k73
   have dc:co 74=AB (Bi t i):=k74
   have dd:co 79 = .agg (entC ((c))).toArray:=k79
   clear k73 k74 k79
   refine Yp.ofK (Yk.putM (ek:=rk) (ev:=BH) (D:=(fun id:List UInt8=>id.length=32)) (c:=((c))) Cf Cg H2 db dc dd hb51l h32 fun gs eo cp kq=> ?_)
   have hE:=Ac hE cp (Nat.le_trans d1 (by omega))
   clear hb51l
   have f:=kb cp f (by omega)
   have ap:=kb cp ap (by omega)
   have b0:=MapF.other b0 cp (AL (by omega))
   have dp:=OG.kept dp cp en
   have kr:ai<gs.heap.size:=eo.lt
   refine bN (tN (d4 _ _ (wt (oS rfl (Yk.bin (xv:=NI i) (yv:=NI 1) n rfl rfl (Ak _ _ _ (by omega)) (oM rfl (AH [(0,v),(1,ve),(4,(Value.slice none 0 0)),(5,(Value.map none)),(6, .map (some n3)),(9,b1),(10, .map (some ai)),(11,NI i),(12,az),(13,PQ av 0),(16,PQ bc 0),(17, .bool (true)),(19,ve),(20,NI es.length),(21,NI m),(32,NI es.length),(33,NI ((i)+(1)))] ⟨q,o,T4,T5,j,T9,ae,aw,ax,ak,al,ay,u,aa,p,ah,rfl,trivial⟩ fun gt ⟨q,o,T4,T5,j,T9,ae,aw,ax,ak,al,ay,u,aa,p,ah,n,_⟩=>(tN (And.intro ⟨i+1,Dv (fun x:Av=>x.1.pos) t i s c,b1,q,o,T4,T5,j,ae,u,aa,p,ah,n,T9,hE,B5 dp (rfl),CY b0 (rfl),CY eo (rfl),hst,by omega,gr,en,trivial⟩ ?_)))))))))
   show es.length-(intOf (gt 33)).toNat<es.length-(intOf (d2 33)).toNat
   rw[n,q33]
   simp only[intOf,Int.toNat_natCast];omega
  have hO:C9 (fun x:Av=>x.1.pos) t i s=none:=by unfold C9;rw[hG];exact if_neg (fun h=>h.elim h0 hlt)
  refine tN (cr _ _ (sk fun ks gu=>(wt (oM rfl (oM rfl (oS rfl (Yk.sliceLo (xs:=t.drop ((36)*(i))) (l:=32) DT Ls (vr az rfl) (bg.keep g) (vr (NI 32) rfl) (by simp only[List.length_drop];omega) fun ep dq ha256=>(oS rfl (Yk.callA1 Fr (vr ep rfl) (((show Calls _ _ _ _ (fun e w2=>e = .returned (NI (De t i))∧Ext _ w2)from Dz _ ep ((t.drop ((36)*(i)):List UInt8).drop (32)) dq (by simp only[List.length_drop];omega))).mono ?_))))))))))
  rintro e gv ⟨rfl,b2⟩
  refine⟨_,rfl,?_⟩
  have hE:=hE.trans b2
  have hr_vi:=hr_vi.keep b2
  have hb6ll:=hb6ll.keep b2
  have hb51l:=hb51l.keep b2
  have g:=g.trans b2
  have f:=eb b2 f
  have dq:=dq.keep b2
  refine oS rfl (Yk.lookOkS (ek:=NI) (ev:=BH) (D:=(fun _:Nat=>True)) E7 E8 (fun _ _=>FN) Dr (z:=BH dEnt) C1 j (vr (NI (De t i)) rfl) hb6ll trivial hG (oM rfl (oS rfl (Yk.extract (vs:= [.agg (entC (c)).toArray, .bool (true)]) (vr (.tuple #[.agg (entC (c)).toArray, .bool (true)]) rfl) (show _=some (.agg (entC (c)).toArray:Value)from rfl) (oS rfl (Yk.extract (vs:= [.agg (entC (c)).toArray, .bool (true)]) (vr (.tuple #[.agg (entC (c)).toArray, .bool (true)]) rfl) (show _=some (.bool (true):Value)from rfl) (oS rfl (Yk.alloc (cs:=(entC dEnt).toArray) F7 fun cw gw dr eq b3 kt=> ?_))))))))
  have b8:=Ext.refl gv
  have ku:=hE
  have kv:=g
  have gx:=hE.size
  have gy:=g.size
  have kw:=AT hb6ll.lt dr
  have kx:=AT hb51l.lt dr
  have ky:=AT (bl f) dr
  have gz:OB vi cw:=AV hr_vi.2 (by omega)
  have hE:=hE.trans b3
  have hr_vi:=hr_vi.keep b3
  have hb6ll:=hb6ll.keep b3
  have hb51l:=hb51l.keep b3
  have g:=g.trans b3
  have f:=eb b3 f
  have b8:=b8.trans b3
  have b9:=eq;clear eq
  have kz:cw<gw.heap.size:=by omega
  refine oS rfl (Yk.storeAll (vr (PQ cw 0) rfl) (vr (.agg (entC (c)).toArray) rfl) b9 (BA (x:=((c):Av)) (y:=(dEnt:Av)) hcl.2 (by simp[dEnt])) (Bx (x:=((c):Av)) D2 hcl.2) (BD (x:=((c):Av)) (RB.one hcl.1).2) fun k0 er b4 k1=> ?_)
  have hE:=Ac hE b4 (Nat.le_trans gx (by omega))
  have hr_vi:=OG.kept hr_vi b4 gz
  have hb6ll:=MapF.other hb6ll b4 (AL (by omega))
  have hb51l:=MapF.other hb51l b4 (AL (by omega))
  have g:=Ac g b4 (Nat.le_trans gy (by omega))
  have f:=kb b4 f (by omega)
  have b8:=Ac b8 b4 (Nat.le_trans (Nat.le_refl _) (by omega))
  clear b9
  have b9:=er;clear er
  have k2:=bl b9
  refine oA rfl (oZ (tN (gu _ _ (sk fun k3 k4=> ?_))))
  refine D7 15 _ [Is (.bool (true)),Is (.bool (true)),Is (NI i),Is (.bool (false)),Is (.bool (false)),Is (vi),Is (NI i),Is (NI ((i)-(1))),fun x w' =>PR (Lib.byteCells ((s.ids).getD ((i)-(1)) ([]:List UInt8))) x w',Is (AB ((s.ids).getD ((i)-(1)) ([]:List UInt8))),Is (AB (Bi t i)),Is (.int .i64 (Lib.compareBytes ((s.ids).getD ((i)-(1)) ([]:List UInt8)) (Bi t i):Int)),Is (.bool (false)),Is (.bool (false)),Is (.bool (false))] (by kernel_rfl) [54,55,56,57,58,59,60,61,62,63,64,65,66,67,68,69] (by kernel_rfl) (by kernel_rfl) (by kernel_rfl) rfl rfl rfl (fun _ _=>trivial) (KS ⟨(fun _ _ _ h k=>PR.keep h k),(Gd trivial)⟩) ?g0 ?hQ9015
  case g0=>
   refine⟨?_,?_,?_,?_,?_,?_,?_,?_,?_,?_,?_,?_,?_,?_,?_,?_,trivial⟩
   ·refine AD (Aa rfl fun σ w1 hC h=> ?_)
    have bk:σ 17 = .bool (true):=(Ab (h 17 (by decide))).trans rfl
    exact Yk.move bk ⟨Ext.refl _,rfl⟩
   ·refine AD (Aa rfl fun σ w1 hC h=> ?_)
    have bm:=Ab (h 54 (by decide))
    exact Yk.move bm ⟨Ext.refl _,rfl⟩
   ·refine AD (Ay 1 true 55 rfl rfl (fun _ _ h=>h) fun σ w1 hC h=> ?_)
    have a3:=(Ab (h 11 (by decide))).trans n
    exact Yk.move a3 ⟨Ext.refl _,rfl⟩
   ·refine AD (Ay 1 true 55 rfl rfl (fun _ _ h=>h) fun σ w1 hC h=> ?_)
    have cf:=Ab (h 56 (by decide))
    exact Yk.eqI (a:=(i:Nat)) (b:=(0:Nat)) cf rfl (Br _ _ _ _) ⟨Ext.refl _,(congrArg Value.bool (decide_eq_false (h0)))⟩
   ·refine AD (Ay 1 true 55 rfl rfl (fun _ _ h=>h) fun σ w1 hC h=> ?_)
    have cg:=Ab (h 57 (by decide))
    exact Yk.move cg ⟨Ext.refl _,rfl⟩
   ·refine AD (Ay 4 false 58 rfl rfl (fun _ _ h=>h) fun σ w1 hC h=> ?_)
    have e9:=(Ab (h 9 (by decide))).trans T9
    exact Yk.move e9 ⟨Ext.refl _,rfl⟩
   ·refine AD (Ay 4 false 58 rfl rfl (fun _ _ h=>h) fun σ w1 hC h=> ?_)
    have a3:=(Ab (h 11 (by decide))).trans n
    exact Yk.move a3 ⟨Ext.refl _,rfl⟩
   ·refine AD (Ay 4 false 58 rfl rfl (fun _ _ h=>h) fun σ w1 hC h=> ?_)
    have dg:=Ab (h 60 (by decide))
    exact Yk.bin (xv:=NI i) (yv:=NI 1) dg rfl rfl (Bj _ _ _ (by omega) (by omega)) ⟨Ext.refl _,rfl⟩
   ·refine AD (Ay 4 false 58 rfl rfl (fun _ _ h=>h) fun σ w1 hC h=> ?_)
    have dh:=Ab (h 59 (by decide))
    have di:=Ab (h 61 (by decide))
    exact Yk.atRG JD Mn (by decide) ([]:List UInt8) (RG.of (RG.ofOwn (hr_vi.keep hC)) dh) di (by omega) fun v h=>⟨Ext.refl _,h⟩
   ·refine AD (Ay 4 false 58 rfl rfl (fun _ _ h=>h) fun σ w1 hC h=> ?_)
    have dj:(fun x w' =>PR (Lib.byteCells ((s.ids).getD ((i)-(1)) ([]:List UInt8))) x w') (σ 62) w1:=h 62 (by decide)
    exact Yk.loadPR dj Ow rfl (by rw[RG.elem (RG.ofOwn hr_vi) ([]:List UInt8) (by omega)];exact L9) ⟨Ext.refl _,rfl⟩
   ·refine AD (Ay 4 false 58 rfl rfl (fun _ _ h=>h) fun σ w1 hC h=> ?_)
    have a0:σ 13=PQ av 0:=(Ab (h 13 (by decide))).trans rfl
    exact Yk.loadAll a0 (eb hC f) Ow rfl (by exact AM h32) ⟨Ext.refl _,rfl⟩
   ·refine AD (Ay 4 false 58 rfl rfl (fun _ _ h=>h) fun σ w1 hC h=> ?_)
    have dk:=Ab (h 63 (by decide))
    have dl:=Ab (h 64 (by decide))
    refine Yk.callA2 NJ dk dl ((Fx _ ((s.ids).getD ((i)-(1)) ([]:List UInt8)) (Bi t i) ((A5 (RG.elem (RG.ofOwn hr_vi) ([]:List UInt8) (by omega)))) (h32)).mono ?_)
    rintro e w2 ⟨rfl,hx⟩
    exact⟨_,rfl,hx,rfl⟩
   ·refine AD (Ay 4 false 58 rfl rfl (fun _ _ h=>h) fun σ w1 hC h=> ?_)
    have dm:=Ab (h 65 (by decide))
    exact Yk.eqI dm (vr (NI 0) rfl) (Ej _ .i64 (Lib.compareBytes ((s.ids).getD ((i)-(1)) ([]:List UInt8)) (Bi t i):Int) ((0:Nat):Int)) ⟨Ext.refl _,(congrArg Value.bool (decide_eq_false (hlt)))⟩
   ·refine AD (Ay 1 true 55 rfl rfl (fun _ _ h=>h) fun σ w1 hC h=> ?_)
    have ci:=Ab (h 58 (by decide))
    have dn:=Ab (h 66 (by decide))
    exact Yk.pickF ci dn ⟨Ext.refl _,rfl⟩
   ·refine AD (Aa rfl fun σ w1 hC h=> ?_)
    have bn:=Ab (h 55 (by decide))
    have cj:=Ab (h 67 (by decide))
    exact Yk.pickT bn cj ⟨Ext.refl _,rfl⟩
   ·exact trivial
  intro g1 k5 bf he hf
  obtain⟨-,-,-,-,-,-,-,-,-,-,-,-,-,-,k68,-⟩:=hf
  obtain⟨q,o,T4,T5,j,T9,ae,aw,ax,ak,al,ay,u,aa,p,ah,n,-⟩:=he.hold [(0,_),(1,_),(4,_),(5,_),(6,_),(9,_),(10,_),(11,_),(12,az),(13,PQ av 0),(16,PQ cw 0),(17, .bool (true)),(19,_),(20,_),(21,_),(32,_),(33,_)] ⟨q,o,T4,T5,j,T9,ae,n,rfl,rfl,rfl,rfl,u,aa,p,ah,n,trivial⟩ rfl
  clear he
  have hE:=hE.trans bf
  have hr_vi:=hr_vi.keep bf
  have hb6ll:=hb6ll.keep bf
  have hb51l:=hb51l.keep bf
  have g:=g.trans bf
  have f:=eb bf f
  have b8:=b8.trans bf
  have b9:=eb bf b9
  have bo:g1 68 = .bool (false):=k68
  clear k68
  refine Yp.callA2 Fo bo (vr (NI 6) rfl) ?_
  refine AG (Bc _ (false) 6) ?_ ?_
  rotate_left
  ·
   rintro ch k6 ⟨rfl,hb,hx⟩
   refine Af (Aw (Af (Af (Aw (Af (AK ?_))))))
   rw[hO]at hst
   have ce:=Eh hst (es.length-(i+1))
   rw[show i+1+(es.length-(i+1))=es.length by omega]at ce
   exact .inr ⟨_,rfl,ce,rfl,hE.trans hx⟩
  rintro v_ k7 ⟨rfl,g2,k8⟩
  cases g2
 have hie1:i=es.length:=by omega
 refine AJ (Ag (Ag (Ap (tN (fj _ _ (sk fun la g3=>(wt (oM rfl (oM rfl (oA rfl (oA rfl (oZ (tN (g3 _ _ (As (Ca (fn:=Tryd.f66) _ rfl [vi, .map (some ai)] (.tuple #[vi, .map (some ai)]) rfl ⟨T9,ae,trivial⟩ ?_))))))))))))))))
 exact .inl ⟨_,rfl,s,_,_,by rw[←hie1];exact hs,rfl,RG.ofOwn hr_vi,hb51l,hE⟩
open Go.RowKit
def G2(l:List Oper)(k:Nat):Bool:=(List.range l.length).all fun i=>Nat.blt i k||(List.range i).all fun m=>((Ba l []).getD i 0).testBit m
theorem MU{l:List Oper}{k:Nat}(h:G2 l k=true):∀i,k≤i→i<l.length→∀m,m<i→((Ba l []).getD i 0).testBit m=true:=fun i hi hl m hm=>by
  unfold G2 at h
  have h1:=List.all_eq_true.1 h i (by simpa using hl)
  rcases Bool.or_eq_true _ _▸h1 with h2 | h2
  · have:=Nat.le_of_ble_eq_true h2
    omega
  · exact List.all_eq_true.1 h2 m (by simpa using hm)
section
variable {P : Program} {l : List Oper} {kill : Nat → List Nat} {C : Nat → World → Prop} {R : Nat → World → World → Prop} {Φ : Nat → Bn} {a0 : Act}
def StepsFC(P:Program)(l:List Oper)(L:Nat)(C:Nat→World→Prop)(R:Nat→World→World→Prop)(Φ:Nat→Bn)(ρ:Aq):Nat→List Oper→Prop
  | _,[]=>True
  | n,o :: r=>(bif Nat.ble L n then True else D4 P l C R Φ ρ n o)∧StepsFC P l L C R Φ ρ (n+1) r
theorem An{L n:Nat}{ρ:Aq}{o:Oper}(h:D4 P l C R Φ ρ n o):bif Nat.ble L n then True else D4 P l C R Φ ρ n o:=by
  cases Nat.ble L n
  · exact h
  · trivial
theorem StepsFC.get{L:Nat}{ρ:Aq}:∀(r:List Oper) (n:Nat),StepsFC P l L C R Φ ρ n r→∀k o,r[k]? =some o→n+k<L→D4 P l C R Φ ρ (n+k) o
  | [],_,_,k,o,h,_=>by simp at h
  | o' :: r,n,hs,0,o,h,hne=>by
    simp only[List.getElem?_cons_zero,Option.some.injEq]at h
    subst h
    have h1:=hs.1
    rw[show Nat.ble L n=false by rw[←Bool.not_eq_true];exact fun x=>by have:=Nat.le_of_ble_eq_true x;omega]at h1
    exact h1
  | o' :: r,n,hs,k+1,o,h,hne=>by
    rw[List.getElem?_cons_succ]at h
    have:=StepsFC.get r (n+1) hs.2 k o h (by omega)
    rwa [show n+1+k=n+(k+1) by omega]at this
theorem JX{z:Nat}(g:Fv l z){k:Nat}(ht:∀i,k≤i→i<l.length→∀m,m<i→((Ba l []).getD i 0).testBit m=true){Q:Exit→Act→World→Prop}:
    ∀(fuel m:Nat) (listed:Array Bool) (a:Act) (w:World),listed.size=l.length→(∀i,On listed i↔i<m)→k≤m→m≤l.length→l.length≤m+fuel→wpList P l.toArray Q (l.drop m) a w→wpAny P .any l.toArray Q fuel listed a w:=by
  have noReady:∀(m:Nat) (listed:Array Bool),listed.size=l.length→(∀i,On listed i↔i<m)→l.length≤m→Region.ready .any l.toArray listed= []:=by
    intro m listed hsz hon hm
    cases hr:Region.ready .any l.toArray listed with
    | nil=>rfl
    | cons x xs=>
      exfalso
      have hmem:x∈Region.ready .any l.toArray listed:=by rw[hr];simp
      obtain⟨h1,o,ho,_⟩:=mem_ready.1 hmem
      have hx:x<l.length:=by simpa using (Array.getElem?_eq_some_iff.1 ho).1
      have h2:=(hon x).2 (by omega)
      have hx' :x<listed.size:=h2.lt
      unfold On at h2
      simp[hx']at h1 h2
      rw[h1]at h2
      cases h2
  intro fuel
  induction fuel with
  | zero=>
    intro m listed a w hsz hon hk hm hf hw
    rw[List.drop_of_length_le (by omega)]at hw
    exact⟨noReady m listed hsz hon (by omega),hw⟩
  | succ fuel ih=>
    intro m listed a w hsz hon hk hm hf hw
    by_cases hml:m=l.length
    · have hr:=noReady m listed hsz hon (by omega)
      rw[List.drop_of_length_le (by omega)]at hw
      exact⟨fun _=>hw,fun i hi=>by rw[hr]at hi;cases hi⟩
    · have hlt:m<l.length:=by omega
      have hoff:¬On listed m:=fun x=>by have:=(hon m).1 x;omega
      have hI:Inv l (fun _=> []) (fun _ _=>True) (fun _ _=>True) (fun _ _ _=>True) a listed a w:=
        ⟨hsz,fun i o ho hi e he hb=>(hon _).2 (by have:=g.back i o ho e he hb;have:=(hon i).1 hi;omega),rfl,rfl,fun _ _ _=>trivial,trivial,fun _ _=>rfl,fun _ _ _ _ _ _ _ _=>trivial⟩
      refine⟨fun hr=> ?_,fun i hi=> ?_⟩
      · exfalso
        have ho:l[m]? =some l[m]:=List.getElem?_eq_getElem hlt
        have:m∈Region.ready .any l.toArray listed:=by
          refine mem_ready.2 ⟨?_,l[m],by rw[List.getElem?_toArray];exact ho,fun e he hb=>(hon _).2 (g.back m _ ho e he hb)⟩
          have hm' :m<listed.size:=by omega
          unfold On at hoff
          simp[hm']at hoff ⊢
          exact hoff
        rw[hr]at this
        cases this
      · obtain⟨h1,o,ho,hall⟩:=mem_ready.1 hi
        have ho' :l[i]? =some o:=by simpa using ho
        have hil:i<l.length:=(List.getElem?_eq_some_iff.1 ho').1
        have hno:¬On listed i:=fun x=>by
          have hx:i<listed.size:=by omega
          unfold On at x
          simp[hx]at h1 x
          rw[h1]at x
          cases x
        have him:i=m:=by
          by_cases h2:i<m
          · exact absurd ((hon i).2 h2) hno
          · by_cases h3:i=m
            · exact h3
            · exact absurd (hI.maskReady ho' (fun e he hb=>hall e he hb) (ht i (by omega) hil m (by omega))) hoff
        subst him
        rw[List.drop_eq_getElem_cons hlt]at hw
        obtain rfl:l[i]=o:=by rw[List.getElem?_eq_getElem hlt]at ho';exact Option.some.inj ho'
        have nxt:∀a' w',wpList P l.toArray Q (l.drop (i+1)) a' w' →wpAny P .any l.toArray Q fuel (listed.setIfInBounds i true) a' w' :=fun a' w' hw' =>
          ih (i+1) _ a' w' (by simpa using hsz) (fun j=>by rw[on_set (by omega),hon j];omega) (by omega) (by omega) (by omega) hw'
        unfold wpOp
        simp only[List.getElem?_toArray,ho']
        unfold wpList at hw
        split at hw
        · rename_i hwt
          rw[if_pos hwt]
          exact hw.imp (fun h=>Oper.wp_mono nxt h) (fun h=>h)
        · rename_i hwt
          rw[if_neg hwt]
          exact nxt _ _ hw
theorem OM{E:Array Bool→World→Prop}(hE:∀n listed w w',n<l.length→listed.size=l.length→¬On listed n→(∀i k,On listed i∨i=n→((Ba l []).getD i 0).testBit k=true→On listed k)→E listed w→R n w w' →E (listed.setIfInBounds n true) w')(g:Fv l a0.tmps.size)(hkl:BW l kill=true){k:Nat}(ht:∀i,k≤i→i<l.length→∀m,m<i→((Ba l []).getD i 0).testBit m=true)(hk:k≤l.length) 
    (hC:∀n m,n<l.length→m<l.length→n≠m→((Ba l []).getD n 0).testBit m=false→∀w w',C m w→R n w w' →C m w') (hΦ:∀n i,n<l.length→i<l.length→i∉kill n→i≠n→((Ba l []).getD i 0).testBit n=false→∀v w w',Φ i v w→R n w w' →Φ i v w') (hRr:∀n o w,l[n]? =some o→o.guard.isSome=true→R n w w) (hs:∀i o,l[i]? =some o→i<k→Ez P l C R Φ a0.tmps i o) {Q:Exit→Act→World→Prop}
    (hQ:∀listed a' w',(∀i,On listed i↔i<k)→Inv l kill C E Φ a0 listed a' w' →wpList P l.toArray Q (l.drop k) a' w'):
    ∀(fuel:Nat) (listed:Array Bool) (a:Act) (w:World),(listed.toList.filter (!·)).length=fuel→(∀i,On listed i→i<k)→Inv l kill C E Φ a0 listed a w→wpAny P .any l.toArray Q fuel listed a w:=by
  intro fuel
  induction fuel with
  | zero=>
    intro listed a w hf hoff h
    have full:∀i,i<l.length→On listed i:=fun i hi=>by
      have:=DP _ hf i (by rw[Array.length_toList,h.size];omega)
      unfold On
      simp at this
      simp[this]
    have hkl' :k=l.length:=by
      by_cases e:k=l.length
      · exact e
      · have:=hoff k (full k (by omega));omega
    exact JX g ht 0 k listed a w h.size (fun i=>⟨hoff i,fun hi=>full i (by omega)⟩) (Nat.le_refl _) hk (by omega) (hQ listed a w (fun i=>⟨hoff i,fun hi=>full i (by omega)⟩) h)
  | succ fuel ih=>
    intro listed a w hf hoff h
    by_cases hfull:∀i,i<k→On listed i
    · have hon:∀i,On listed i↔i<k:=fun i=>⟨hoff i,hfull i⟩
      refine JX g ht (fuel+1) k listed a w h.size hon (Nat.le_refl _) hk ?_ (hQ listed a w hon h)
      have e:=List.take_append_drop k listed.toList
      rw[←e,List.filter_append,List.length_append]at hf
      have c:(listed.toList.drop k).filter (!·)=listed.toList.drop k:=List.filter_eq_self.2 fun b hb=>by
        obtain⟨j,hj,rfl⟩:=List.getElem_of_mem hb
        rw[List.getElem_drop]
        have hno:¬On listed (k+j):=fun x=>by have:=hoff _ x;omega
        rw[List.length_drop]at hj
        have hlt:k+j<listed.size:=by rw[←Array.length_toList];omega
        unfold On at hno
        simp[hlt]at hno
        simp[hno]
      rw[c,List.length_drop]at hf
      have hz:listed.toList.length=l.length:=by rw[Array.length_toList];exact h.size
      omega
    · have hlow:∃j,j<k∧¬On listed j:=by
        refine Classical.byContradiction fun hn=>hfull fun i hi=>Classical.byContradiction fun hx=>hn ⟨i,hi,hx⟩
      obtain⟨j0,hj0,hoff0⟩:=hlow
      refine⟨fun hr=> ?_,fun i hi=> ?_⟩
      · exfalso
        have full:∀i,i<l.length→On listed i:=by
          intro i
          induction i using Nat.strongRecOn with
          | _ i ih2=>
            intro hi
            refine Classical.byContradiction fun hno=> ?_
            have ho:l[i]? =some l[i]:=List.getElem?_eq_getElem hi
            have:i∈Region.ready .any l.toArray listed:=by
              refine mem_ready.2 ⟨?_,l[i],by rw[List.getElem?_toArray];exact ho,fun e he hb=> ?_⟩
              · have hi' :i<listed.size:=by rw[h.size];exact hi
                unfold On at hno
                simp[hi']at hno ⊢
                exact hno
              · have hlt:=g.back i _ ho e he hb
                exact ih2 e.on hlt (by omega)
            rw[hr]at this
            cases this
        exact hoff0 (full j0 (by omega))
      · obtain⟨h1,o,ho,hall0⟩:=mem_ready.1 hi
        have ho' :l[i]? =some o:=by simpa using ho
        have hilt:i<l.length:=(List.getElem?_eq_some_iff.1 ho').1
        have hil:i<listed.size:=by rw[h.size];exact hilt
        have hno:¬On listed i:=by
          unfold On
          simp[hil]at h1 ⊢
          exact h1
        have hall:∀e∈o.after,Region.binds .any e=true→On listed e.on:=fun e he hb=>hall0 e he hb
        have hik:i<k:=by
          by_cases h2:i<k
          · exact h2
          · exact absurd (h.maskReady ho' hall (ht i (by omega) hilt j0 (by omega))) hoff0
        have hcnt:((listed.setIfInBounds i true).toList.filter (!·)).length=fuel:=by
          rw[Array.toList_setIfInBounds]
          have:=Ee listed.toList i (by
            simp[hil]at h1
            simp[hil,h1])
          omega
        refine h.step g hkl hC hE hΦ hRr ho' hno hall (hs i o ho' hik) fun a' w' h' =>ih _ _ _ hcnt (fun j hx=> ?_) h'
        rcases(on_set hil).1 hx with rfl | h3
        · exact hik
        · exact hoff j h3
end
section
variable {P : Program} {n : Nat} {ρ : Aq} {w : World} {Q : B9}
theorem EG{l r:List Oper}(k0:Nat)(ks:Nat→List Nat)(C:Nat→World→Prop)(R:Nat→World→World→Prop)(E:Array Bool→World→Prop)(Φs:List Bn){id:Nat}(hm:P.follows .mixedOrders=true)(ds:List Tmp)(hg:B7 l n=true)(hn:G2 l k0=true)(c:Nat.ble Φs.length k0=true)(hkl:BW l ks=true)(hds:slotsW l=ds)(hr:(l.drop k0)=r) 
    (hC:∀n m,n<l.length→m<l.length→n≠m→((Ba l []).getD n 0).testBit m=false→∀w w',C m w→R n w w' →C m w')
    (hΦ:∀n i,n<l.length→i<l.length→i∉ks n→i≠n→((Ba l []).getD i 0).testBit n=false→∀v w w',AQ Φs i v w→R n w w' →AQ Φs i v w')
    (hE:∀n listed w w',n<l.length→listed.size=l.length→¬On listed n→(∀i k,On listed i∨i=n→((Ba l []).getD i 0).testBit k=true→On listed k)→E listed w→R n w w' →E (listed.setIfInBounds n true) w') (f:E (Array.replicate l.toArray.size false) { w with drawn:=w.drawn+1 })
    (hRr:∀n o w,l[n]? =some o→o.guard.isSome=true→R n w w) (h0:∀n,n<l.length→C n { w with drawn:=w.drawn+1 })
    (hs:StepsFC P l k0 C R (AQ Φs) ρ 0 l)
    (hlt:Nat.blt k0 l.length=true) (hQ:∀(ρ' :Aq) w1 listed,(∀i,On listed i↔i<k0)→E listed w1→C k0 w1→EndF ds ρ ρ' →Bb l ks (AQ Φs) ρ' w1 ds→Dm P l.toArray n Q r ρ' w1):B2 P n (.region id l.toArray true) Q ρ w:=by
  intro a ha
  obtain⟨T,df⟩:=a
  have hz:T.size=n:=ha.size
  subst hz
  have b:k0<l.length:=Nat.le_of_ble_eq_true hlt
  have g:=ET hg
  refine wp_region_any hm (OM hE (a0:= { tmps:=T,defers:=df }) (C:=C) (R:=R) (Φ:=AQ Φs) g hkl (MU hn) (Nat.le_of_lt b) hC hΦ hRr (fun i o ho hi=> ?_) (fun listed a' w' hon h=> ?_) _ _ _ _ (by simp) ?_ ?_)
  · have hst:=StepsFC.get l 0 hs i o ho (by omega)
    rw[Nat.zero_add]at hst
    have h2:=StepsF.ok (P:=P) (l:=l) (C:=C) (R:=R) (Φ:=AQ Φs) (T:=T) ha.get [o] i ⟨hst,trivial⟩
    exact h2.1
  · -- what the slots hold
    have hw:∀d k,CH l d l.length=some k→(List.range l.length).all (fun n=> !(ks n).contains k)=true→AQ Φs k (a'.tmps.getD d undef) w' :=fun d k hk hall=>by
      obtain⟨h1,⟨o,ho,hd'⟩,h3⟩:=Da _ hk
      by_cases hkL:k0≤k
      · have e:AQ Φs k=fun _ _=>True:=by
          have:=Nat.le_of_ble_eq_true c
          unfold AQ
          rw[List.getD_eq_getElem?_getD,List.getElem?_eq_none (by omega)]
          rfl
        rw[e]
        trivial
      refine h.new d k o ho hd' ((hon k).2 (by omega)) (fun k' o' hkk ho' hd'' _=>h3 k' o' hkk (List.getElem?_eq_some_iff.1 ho').1 ho' hd'') (fun n hn hkn=> ?_)
      have hnl:n<l.length:=by have:=hn.lt;rw[h.size]at this;exact this
      have:=List.all_eq_true.1 hall n (by simpa using hnl)
      simp at this
      exact this hkn
    have hget:∀t,a'.tmps.getD t undef=if t∈ds then a'.tmps.getD t undef else ρ t:=fun t=>by
      by_cases hn:t∈ds
      · rw[if_pos hn]
      · rw[if_neg hn,←ha.get]
        exact h.old t fun k o ho hd _=>hn (by
          rw[←hds]
          unfold slotsW
          rw[List.mem_eraseDups,List.mem_filterMap]
          exact⟨o,List.mem_of_getElem? ho,hd⟩)
    have hcl:=h.cls k0 b (fun x=>by have:=(hon k0).1 x;omega)
    have hend:EndF ds ρ (fun t=>a'.tmps.getD t undef):=⟨fun t ht=>by rw[hget t,if_neg (by simpa using ht)]⟩
    have:=hQ (fun t=>a'.tmps.getD t undef) w' listed hon h.ecl hcl hend (Dx hw ds)
    rw[hr]
    exact this a' ⟨h.tmps,h.defers.trans ha.defers,fun t=>rfl⟩
  · intro i h
    unfold On at h
    rw[Array.getD_eq_getD_getElem?,Array.getElem?_replicate]at h
    split at h <;> simp at h
  · have hno:∀i,¬On (Array.replicate l.toArray.size false) i:=fun i h=>by
      unfold On at h
      rw[Array.getD_eq_getD_getElem?,Array.getElem?_replicate]at h
      split at h <;> simp at h
    exact⟨Array.size_replicate,fun i o _ h=>absurd h (hno i),rfl,rfl,fun n hn _=>h0 n hn,f,fun t _=>rfl,fun t k o _ _ h=>absurd h (hno k)⟩
theorem Cr{l r:List Oper}(k0:Nat)(Φs:List Bn){id:Nat}(hm:P.follows .mixedOrders=true)(ds:List Tmp)(hg:B7 l n=true)(hn:G2 l k0=true)(a:Nat.ble Φs.length k0=true)(hds:slotsW l=ds)(hr:(l.drop k0)=r)(hlt:Nat.blt k0 l.length=true)(hst:AllStab Ext Φs) 
    (hs:StepsFC P l k0 (fun _=>Ext w) (fun _=>Ext) (AQ Φs) ρ 0 l)
    (hQ:∀(ρ' :Aq) w1,Ext w w1→EndF ds ρ ρ' →Bb l (fun _=> []) (AQ Φs) ρ' w1 ds→Dm P l.toArray n Q r ρ' w1):B2 P n (.region id l.toArray true) Q ρ w:=
  EG k0 (fun _=> []) (fun _=>Ext w) (fun _=>Ext) (fun _ _=>True) Φs hm ds hg hn a (by unfold BW;simp) hds hr (fun _ _ _ _ _ _ _ _ hc hr=>hc.trans hr) (fun _ i _ _ _ _ _ v w1 w' =>hst.get Φs i v w1 w') (fun _ _ _ _ _ _ _ _ _ _=>trivial) trivial (fun _ _ w1 _ _=>Ext.refl w1) (fun _ _=>(Below.refl _ _).drew) hs hlt (fun ρ' w1 _ _ _=>hQ ρ' w1)
theorem DI{l r:List Oper}(kA kS k0:Nat)(T:TypeId)(zc nc:Array Value)(Φs:List Bn){id:Nat}(hm:P.follows .mixedOrders=true)(ds:List Tmp)(hg:B7 l n=true)(hn:G2 l k0=true)(c:Nat.ble Φs.length k0=true)(hds:slotsW l=ds)(hr:(l.drop k0)=r)(hlt:Nat.blt k0 l.length=true) 
    (hAS:((Ba l []).getD kS 0).testBit kA=true) (hne:Nat.beq kA kS=false) (t:Nat.blt kA k0=true) (f:Nat.blt kS k0=true) (hgA:(l[kA]?.bind (·.guard))=none) (hgS:(l[kS]?.bind (·.guard))=none)
    (hst:AllStab (fun a b=>a=b∨w.heap.size<b.heap.size) Φs)
    (hs:StepsFC P l k0 (fun m w1=>bif Nat.beq m kA then w1=w.drew else bif Nat.beq m kS then(w1=w.drew∨w1=w.drew.alloc (.cells zc T))else Ext w w1) (fun m a b=>bif Nat.beq m kA then b=w.drew.alloc (.cells zc T)else bif Nat.beq m kS then(b.heap[w.heap.size]? =some (.cells nc T (0,0))∧Ext w b∧b.heap.size=w.heap.size+1)else a=b) (AQ Φs) ρ 0 l)
    (hQ:∀(ρ' :Aq) w1,Ext w w1→w1.heap[w.heap.size]? =some (.cells nc T (0,0))→w1.heap.size=w.heap.size+1→EndF ds ρ ρ' →Bb l (fun _=> []) (AQ Φs) ρ' w1 ds→Dm P l.toArray n Q r ρ' w1):B2 P n (.region id l.toArray true) Q ρ w:=by
  have bt:∀ {a b:Nat},Nat.beq a b=true→a=b:=fun h=>Nat.eq_of_beq_eq_true h
  have bf:∀ {a b:Nat},a≠b→Nat.beq a b=false:=fun h=>by rw[←Bool.not_eq_true,Nat.beq_eq];exact h
  have g:Ext w (w.drew.alloc (.cells zc T)):=(Below.refl _ _).drew.alloc (Nat.le_refl _) _
  have k:(w.drew.alloc (.cells zc T)).heap.size=w.heap.size+1:=by simp
  have hkk:kA≠kS:=fun e=>by rw[e,Nat.beq_refl]at hne;cases hne
  refine EG k0 (fun _=> []) _ _ (fun listed w1=>On listed kS→w1.heap[w.heap.size]? =some (.cells nc T (0,0))∧Ext w w1∧w1.heap.size=w.heap.size+1) Φs hm ds hg hn c (by unfold BW;simp) hds hr (fun i m _ _ hne' hbit a b hc hr=> ?_) (fun i j _ _ _ _ _ v a b h hr=> ?_) (fun i listed a b _ hsz hno hcl he hr=> ?_) (fun h=> ?_) (fun i o a ho hgo=> ?_) (fun m _=> ?_) hs hlt (fun ρ' w1 listed hon he hc h2 h3=> ?_)
  · -- the contexts
    by_cases hmA:m=kA
    · subst hmA
      rw[Nat.beq_refl]at hc ⊢
      by_cases hiS:i=kS
      · subst hiS;rw[hAS]at hbit;cases hbit
      · rw[bf hne',bf hiS]at hr
        simp only[cond_true,cond_false]at hc hr ⊢
        rw[←hr];exact hc
    · by_cases hmS:m=kS
      · subst hmS
        rw[bf hmA,Nat.beq_refl]at hc ⊢
        by_cases hiA:i=kA
        · subst hiA
          rw[Nat.beq_refl]at hr
          simp only[cond_true,cond_false]at hc hr ⊢
          exact .inr hr
        · rw[bf hiA,bf hne']at hr
          simp only[cond_true,cond_false]at hc hr ⊢
          rw[←hr];exact hc
      · rw[bf hmA,bf hmS]at hc ⊢
        simp only[cond_false]at hc ⊢
        by_cases hiA:i=kA
        · subst hiA
          rw[Nat.beq_refl]at hr
          simp only[cond_true]at hr
          rw[hr];exact g
        · by_cases hiS:i=kS
          · subst hiS
            rw[bf hiA,Nat.beq_refl]at hr
            simp only[cond_true,cond_false]at hr
            exact hr.2.1
          · rw[bf hiA,bf hiS]at hr
            simp only[cond_false]at hr
            rw[←hr];exact hc
  · refine hst.get Φs j v a b h ?_
    by_cases hiA:i=kA
    · subst hiA
      rw[Nat.beq_refl]at hr
      simp only[cond_true]at hr
      rw[hr,k];exact .inr (by omega)
    · by_cases hiS:i=kS
      · subst hiS
        rw[bf hiA,Nat.beq_refl]at hr
        simp only[cond_true,cond_false]at hr
        exact .inr (by omega)
      · rw[bf hiA,bf hiS]at hr
        exact .inl hr
  · intro hon
    by_cases hiS:i=kS
    · subst hiS
      rw[bf (Ne.symm hkk),Nat.beq_refl]at hr
      exact hr
    · have hon' :On listed kS:=by
        rcases(on_set (by omega)).1 hon with h1 | h1
        · exact absurd h1.symm hiS
        · exact h1
      have hiA:i≠kA:=fun e=>hno (by rw[e];exact hcl kS kA (.inl hon') hAS)
      rw[bf hiA,bf hiS]at hr
      simp only[cond_false]at hr
      rw[←hr];exact he hon'
  · exact absurd h On.not_replicate
  · have hiA:i≠kA:=fun e=>by rw[e]at ho;rw[ho]at hgA;simp only[Option.bind_some]at hgA;rw[hgA]at hgo;cases hgo
    have hiS:i≠kS:=fun e=>by rw[e]at ho;rw[ho]at hgS;simp only[Option.bind_some]at hgS;rw[hgS]at hgo;cases hgo
    rw[bf hiA,bf hiS]
    rfl
  · by_cases hmA:m=kA
    · subst hmA;rw[Nat.beq_refl];rfl
    · by_cases hmS:m=kS
      · subst hmS;rw[bf hmA,Nat.beq_refl];exact .inl rfl
      · rw[bf hmA,bf hmS];exact(Below.refl _ _).drew
  · obtain⟨p,q,s⟩:=he ((hon kS).2 (Nat.le_of_ble_eq_true f))
    exact hQ ρ' w1 q p s h2 h3
theorem Yk.allocX{K:Value→World→Prop}{d:Option Tmp}{ty:TypeId}{pos:String}{af:Array Edge}{gd:Option (Nat × Bool)}{e:TypeId}{cs:Array Value}(hz:∀(σ:Operand→Value) (w:World),(execOp σ ⟨d, .alloc e,ty,pos,af,gd⟩).run P w = .ok (.value (.pointer (some ⟨w.heap.size,0,none⟩))) (w.alloc (.cells cs e))) 
    (hk:K (.pointer (some ⟨w.heap.size,0,none⟩)) (w.alloc (.cells cs e))):Yk P K ((execOp (Ad ρ) ⟨d, .alloc e,ty,pos,af,gd⟩).run P w):=by
  rw[hz]
  exact hk
end
open Go.RowKit
theorem Yk.lookD{P:Program}{K:Value→World→Prop}{ρ:Aq}{w:World}{d:Option Tmp}{ty:TypeId}{pos:String}{af:Array Edge}{gd:Option (Nat × Bool)}{α β:Type}{ek:α→Value}{ev:β→Value}{D:α→Prop}{b:Nat}{G:α→Option β}{t Kt E:TypeId}{OK:Value→Prop} 
    (L:KL P Kt OK) (hD:∀a,D a→OK (ek a)) (hi:∀a c,ek a=ek c→a=c) (ht:P.underlying t=some (.map Kt E)) {df:β} (hz:∀u:World,(zeroValue E).run P u = .ok (ev df) u) {x y:Operand} {a:α}
    (hm:Ad ρ x = .map (some b)) (hy:Ad ρ y=ek a) (h:MapF ek ev D w b G) (ha:D a) (hk:K (ev ((G a).getD df)) w):Yk P K ((execOp (Ad ρ) ⟨d, .lookup t x y false,ty,pos,af,gd⟩).run P w):=
  Yk.lookM L hD hi ht hz hm hy h ha (by cases e:G a <;> rw[e]at hk <;> exact hk)
def JY(w:World)(x:Av):Prop:=RB w x.2 x.1.bytes∧x.1.base.length=32∧x.1.bytes.length≤1048576
def MOk(w:World)(M:Bs→Option Av):Prop:=∀k c,M k=some c→JY w c
theorem MOk.keep{w w' :World}{M:Bs→Option Av}(h:MOk w M)(k:Ext w w'):MOk w' M:=fun a c hc=>⟨(h a c hc).1.keep k,(h a c hc).2⟩
theorem MOk.get{w:World}{M:Bs→Option Av}(h:MOk w M)(k:Bs):JY w ((M k).getD dEnt):=by
  cases e:M k with
  | none=>exact⟨RB.nil w,by simp[dEnt],by simp[dEnt]⟩
  | some c=>exact h k c e
def AU(M:Bs→Option Av)(k:Bs):Ent:=((M k).getD dEnt).1
section
variable (E : Bs → Ent)
def Bp:Nat→Ent→Option Nat
  | 0,e=>if e.based then none else some 0
  | n+1,e=>if e.based then(Bp n (E e.base)).map (· + 1)else some 0
def BP:Nat→Bs→Option (Bs × Nat)
  | 0,_=>none
  | n+1,id=>
    if(E id).based then(BP n (E id).base).bind fun x=>if(Bd x.1 (E id).bytes).2=0 then(if(Bd x.1 (E id).bytes).1.length≤262144 then some ((Bd x.1 (E id).bytes).1,x.2+1)else none)else none
    else if(E id).bytes.length≤262144 then some ((E id).bytes,0)else none
variable {E}
theorem DJ{n:Nat}{e:Ent}(h:e.based=false):Bp E n e=some 0:=by
  cases n <;> (unfold Bp;rw[h];rfl)
theorem En{e:Ent}(h:e.based=true):Bp E 0 e=none:=by unfold Bp;rw[h];rfl
theorem Di{n:Nat}{e:Ent}(h:e.based=true):Bp E (n+1) e=(Bp E n (E e.base)).map (· + 1):=by
  show(if e.based=true then _ else _)=_
  rw[if_pos h]
theorem LN{n c:Nat}{e:Ent}(h:e.based=true):(Bp E (n+1) e).map (· + c)=(Bp E n (E e.base)).map (· + (c+1)):=by
  rw[Di h]
  cases Bp E n (E e.base)with
  | none=>rfl
  | some d=>show some (d+1+c)=some (d+(c+1));rw[Nat.add_assoc,Nat.add_comm 1 c]
theorem Fa:∀(n m:Nat) (e:Ent) (d:Nat),Bp E n e=some d→d≤m→Bp E m e=some d
  | n,m,e,d,h,hm=>by
    cases hb:e.based with
    | false=>rw[DJ hb]at h ⊢;exact h
    | true=>
      cases n with
      | zero=>rw[En hb]at h;cases h
      | succ n=>
        rw[Di hb]at h
        cases h1:Bp E n (E e.base)with
        | none=>rw[h1]at h;cases h
        | some d1=>
          rw[h1]at h
          cases h
          cases m with
          | zero=>simp at hm
          | succ m=>rw[Di hb,Fa n m _ d1 h1 (by simpa using hm)];rfl
end
open Go.RowKit
set_option maxRecDepth 100000
theorem GL:BK Tryd.prog 120 0 0:=fun b o w=>by simp[go_sem]
theorem LO(w:World)(gm be bm:Nat)(M:Bs→Option Av)(hmk:w.heap[gm]? =some (.cells ([.map (some be), .map (some bm)]).toArray 120 (0,0)))(hme:MapF rk BH (fun id:List UInt8=>id.length=32) w be M)(hMO:MOk w M)(id:Bs)(hid:id.length=32):
  Calls Tryd.prog 67 #[PQ gm 0,AB id] w fun r w' =>(∃x,r = .returned x∧∃d,Bp (AU M) 50 (AU M id)=some d∧x=NI d∧Ext w w')∨∃ch,r = .panicked ch∧Bp (AU M) 50 (AU M id)=none∧ch= [CF 17]∧Ext w w' :=by
 refine CX (args:= [PQ gm 0,AB id]) Tryd.func67 rfl 29 rfl (Nat.le_of_ble_eq_true rfl) ?_
 intro an hb
 have f:an 0=(PQ gm 0:Value):=hb.get 0
 have j:an 1=(AB id:Value):=hb.get 1
 clear hb
 have hE:=Ext.refl w
 refine sk fun K1 az=>(wt (oS rfl (Yk.box (cs:=(Lib.byteCells id:List Value).toArray) j fun p s ao ap ak b6=> ?_)))
 have b7:=AT (bl hmk) ao
 have b8:=AT hme.lt ao
 have hmk:=eb ak hmk
 have hme:=hme.keep ak
 have hE:=hE.trans ak
 have e:=ap;clear ap
 have b9:p<s.heap.size:=by omega
 refine oA rfl (oZ (tN (az _ _ (sk fun ca a0=>(wt (oA rfl (oZ (tN (a0 _ _ (sk fun cb a1=>(sk fun cc a2=> ?_)))))))))))
 have ae:=Ext.refl s
 have cd:=hE
 have a3:=hE.size
 have ce:gm<s.heap.size:=(bl hmk)
 have cf:be<s.heap.size:=hme.lt
 have cg:p<s.heap.size:=(bl e)
 refine Cr 7 [Is (PQ gm 0),Is (PQ gm 0),Is (PQ gm 0),Is (.map (some be)),Is (AB id),Is (.agg (entC ((M (id)).getD dEnt)).toArray),fun x w' =>∃g,x=PQ g 0∧w'.heap[g]? =some (.cells (entC dEnt).toArray 116 (0,0))∧s.heap.size≤g] (by kernel_rfl) [7,8,9,10,11,12,6] (by kernel_rfl) (by kernel_rfl) (by kernel_rfl) (by kernel_rfl) rfl rfl (Gd ⟨(fun _ _ _ ⟨g,h1,h2,h3⟩ k=>⟨g,h1,eb k h2,h3⟩),trivial⟩) ?a4 ?hQ3002
 case a4=>
  refine⟨?_,?_,?_,?_,?_,?_,?_,?_,trivial⟩
  ·refine An (Aa rfl fun σ w1 hC h=> ?_)
   have e0:=(Ab (h 0 (by decide))).trans f
   exact Yk.move e0 ⟨Ext.refl _,rfl⟩
  ·refine An (Aa rfl fun σ w1 hC h=> ?_)
   have e7:=Ab (h 7 (by decide))
   exact Yk.nilCheck e7 ⟨Ext.refl _,rfl⟩
  ·refine An (Aa rfl fun σ w1 hC h=> ?_)
   have e8:=Ab (h 8 (by decide))
   exact Yk.fieldAt GL e8 ⟨Ext.refl _,rfl⟩
  ·refine An (Aa rfl fun σ w1 hC h=> ?_)
   have e9:=Ab (h 9 (by decide))
   exact Yk.cell1 H2 rfl e9 (Ai (eb hC hmk) (show _=some (.map (some be):Value)from rfl)) ⟨Ext.refl _,rfl⟩
  ·refine An (Aa rfl fun σ w1 hC h=> ?_)
   have e3:σ 3=PQ p 0:=(Ab (h 3 (by decide))).trans rfl
   exact Yk.loadAll e3 (eb hC e) Ow rfl (by exact AM hid) ⟨Ext.refl _,rfl⟩
  ·refine An (Aa rfl fun σ w1 hC h=> ?_)
   have a8:=Ab (h 10 (by decide))
   have a9:=Ab (h 11 (by decide))
   exact Yk.lookD (ek:=rk) (ev:=BH) (D:=(fun id:List UInt8=>id.length=32)) (df:=dEnt) Cf Cg (fun _ _=>Cc) H2 C1 a8 a9 (hme.keep hC) hid ⟨Ext.refl _,rfl⟩
  ·refine An (Aa rfl fun σ w1 hC h=> ?_)
   exact Yk.alloc (cs:=(entC dEnt).toArray) F7 fun g w2 hn hb hx hs=>⟨hx,g,rfl,hb,Nat.le_trans (show Ext s w1 from hC).size (Nat.le_of_eq hn)⟩
  ·exact trivial
 intro am ba af he hf
 obtain⟨-,-,-,-,-,k12,k6,-⟩:=hf
 obtain⟨f,j,n,o,l,-⟩:=he.hold [(0,_),(1,_),(3,PQ p 0),(4,NI 0),(5,NI 0)] ⟨f,j,rfl,rfl,rfl,trivial⟩ rfl
 clear he
 have hmk:=eb af hmk
 have hme:=hme.keep af
 have hE:=hE.trans af
 have e:=eb af e
 have ae:=ae.trans af
 have bb:am 12 = .agg (entC ((M (id)).getD dEnt)).toArray:=k12
 have k6:(fun x w' =>∃g,x=PQ g 0∧w'.heap[g]? =some (.cells (entC dEnt).toArray 116 (0,0))∧s.heap.size≤g) (am 6) ba:=k6
 obtain⟨cj,i⟩:∃v,am 6=v:=⟨_,rfl⟩
 rw[i]at k6
 have bc:=k6;clear k6
 obtain⟨aq,rfl,u,ck⟩:=bc
 have cl:=bl u
 clear k12
 refine oS rfl (Yk.storeAll i bb u (BA (x:=(((M (id)).getD dEnt):Av)) (y:=(dEnt:Av)) (hMO.get (id)).2.1 (by simp[dEnt])) (Bx (x:=(((M (id)).getD dEnt):Av)) D2 (hMO.get (id)).2.1) (BD (x:=(((M (id)).getD dEnt):Av)) (RB.one (hMO.get (id)).1).2) fun cm ar ag cn=> ?_)
 have hmk:=kb ag hmk (by omega)
 have hme:=MapF.other hme ag (AL (by omega))
 have hE:=Ac hE ag (Nat.le_trans a3 (by omega))
 have e:=kb ag e (by omega)
 have ae:=Ac ae ag (Nat.le_trans (Nat.le_refl _) (by omega))
 clear u
 have u:=ar;clear ar
 have co:=bl u
 refine AH [(0,PQ gm 0),(1,AB id),(3,PQ p 0),(4,NI 0),(5,NI 0),(6,PQ aq 0)] ⟨f,j,n,o,l,i,trivial⟩ fun cp ⟨f,j,n,o,l,i,_⟩=>(tN (a2 _ _ (Aj (AX (fun(ρ:Aq) (wz:World)=>∃c:Nat,∃x:Av,∃q:Nat,ρ 0=(PQ gm 0:Value)∧ρ 1=(AB id:Value)∧ρ 3=(PQ p 0:Value)∧ρ 4=(NI 0:Value)∧ρ 5=(NI c:Value)∧ρ 6=(PQ q 0:Value)∧wz.heap[gm]? =some (.cells ([.map (some be), .map (some bm)]).toArray 120 (0,0))∧MapF rk BH (fun id:List UInt8=>id.length=32) wz be M∧Ext w wz∧wz.heap[p]? =some (.cells (Lib.byteCells id).toArray 38 (0,0))∧wz.heap[q]? =some (.cells (entC (x)).toArray 116 (0,0))∧(c≤50)∧(Bp (AU M) 50 (AU M id)=(Bp (AU M) (50-c) x.1).map (· + c))∧(JY w x)∧(w.heap.size≤q)∧True) (fun ρ _=>51-(intOf (ρ 5)).toNat) ⟨0,(M id).getD dEnt,aq,f,j,n,o,l,i,hmk,hme,hE,e,u,Nat.zero_le _,by simp[AU],hMO.get id,by omega,trivial⟩ ?_))))
 clear ae
 clear u
 clear hmk hme hE e
 rintro bd cq ⟨c,x,q,f,j,n,o,l,i,hmk,hme,hE,e,hbq,hc,hd,hxo,hqw,-⟩
 have q5:=l
 refine sk fun cr bf=>(sk fun ct bg=>(wt (oS rfl (Yk.fieldAt E6 i (oS rfl (Yk.cell1 Hu rfl (vr (PQ q 1) rfl) (Ai hbq ((show(entC (x))[1]? =some (.bool ((x).1.based):Value)from rfl))) (oZ (tN (bg _ _ ?_)))))))))
 refine Iy ((x).1.based) (vr (.bool ((x).1.based)) rfl) (fun ai=> ?_) (fun ai=> ?_)
 ·have bh:x.1.based=true:=ai
  refine Ah (tN (bf _ _ (sk fun cu bi=>(Aj (sk fun cv bj=>(wt (oM rfl (oS rfl (Yk.bin (xv:=NI c) (yv:=NI 1) l rfl rfl (Ak _ _ _ (by omega)) (oA rfl (oZ (tN (bj _ _ (wt (oM rfl (oS rfl (Yk.eqI (a:=((c)+(1):Nat)) (b:=(50:Nat)) rfl rfl (C5 _ _ _ _) (oP rfl (Yp.callA2 Fo (vr (.bool (decide (((c)+(1))≤(50)))) rfl) (vr (NI 17) rfl) ?_)))))))))))))))))))
  refine AG (Bc _ (decide (((c)+(1))≤(50))) 17) ?_ ?_
  rotate_left
  ·
   rintro ch cw ⟨rfl,hb,hx⟩
   refine Aw (Af (Af (Aw (Af (AK ?_)))))
   have hno:=of_decide_eq_false hb
   refine .inr ⟨_,rfl,?_,rfl,hE.trans hx⟩
   rw[hd,show 50-c=0 by omega,En ai];rfl
  rintro v_ bk ⟨rfl,bn,ah⟩
  have hmk:=eb ah hmk
  have hme:=hme.keep ah
  have hE:=hE.trans ah
  have e:=eb ah e
  have hbq:=eb ah hbq
  have cx:=of_decide_eq_true bn
  refine oZ (bN (tN (bi _ _ (sk fun cy bo=>(sk fun cz bp=>(wt (oS rfl (Yk.loadAll i hbq (HY).choose_spec rfl (Bx (x:=(x:Av)) D2 hxo.2.1) (oZ (tN (bp _ _ (wt (oS rfl (Yk.alloc (cs:=(entC dEnt).toArray) F7 fun z bq aj au ab c0=> ?_))))))))))))))
  have t:=Ext.refl bk
  have c1:=hE
  have av:=hE.size
  have c2:=AT (bl hmk) aj
  have c3:=AT hme.lt aj
  have c4:=AT (bl e) aj
  have c5:=AT (bl hbq) aj
  have hmk:=eb ab hmk
  have hme:=hme.keep ab
  have hE:=hE.trans ab
  have e:=eb ab e
  have hbq:=eb ab hbq
  have t:=t.trans ab
  have m:=au;clear au
  have c6:z<bq.heap.size:=by omega
  refine oS rfl (Yk.storeAll (vr (PQ z 0) rfl) (vr (.agg (entC (x)).toArray) rfl) m (BA (x:=((x):Av)) (y:=(dEnt:Av)) hxo.2.1 (by simp[dEnt])) (Bx (x:=((x):Av)) D2 hxo.2.1) (BD (x:=((x):Av)) (RB.one hxo.1).2) fun c7 aw ac c8=> ?_)
  have hmk:=kb ac hmk (by omega)
  have hme:=MapF.other hme ac (AL (by omega))
  have hE:=Ac hE ac (Nat.le_trans av (by omega))
  have e:=kb ac e (by omega)
  have hbq:=kb ac hbq (by omega)
  have t:=Ac t ac (Nat.le_trans (Nat.le_refl _) (by omega))
  clear m
  have m:=aw;clear aw
  have c9:=bl m
  refine oZ (tN (bo _ _ ?_))
  refine Cr 7 [Is (PQ gm 0),Is (PQ gm 0),Is (PQ gm 0),Is (.map (some be)),Is (PQ z 2),Is (AB (((x)).1.base)),Is (.agg (entC ((M (((x)).1.base)).getD dEnt)).toArray)] (by kernel_rfl) [15,16,17,18,19,20,21] (by kernel_rfl) (by kernel_rfl) (by kernel_rfl) (by kernel_rfl) rfl rfl (HC trivial) ?br ?hQ4004
  case br=>
   refine⟨?_,?_,?_,?_,?_,?_,?_,?_,trivial⟩
   ·refine An (Aa rfl fun σ w1 hC h=> ?_)
    have e0:=(Ab (h 0 (by decide))).trans f
    exact Yk.move e0 ⟨Ext.refl _,rfl⟩
   ·refine An (Aa rfl fun σ w1 hC h=> ?_)
    have bs:=Ab (h 15 (by decide))
    exact Yk.nilCheck bs ⟨Ext.refl _,rfl⟩
   ·refine An (Aa rfl fun σ w1 hC h=> ?_)
    have bt:=Ab (h 16 (by decide))
    exact Yk.fieldAt GL bt ⟨Ext.refl _,rfl⟩
   ·refine An (Aa rfl fun σ w1 hC h=> ?_)
    have bu:=Ab (h 17 (by decide))
    exact Yk.cell1 H2 rfl bu (Ai (eb hC hmk) (show _=some (.map (some be):Value)from rfl)) ⟨Ext.refl _,rfl⟩
   ·refine An (Aa rfl fun σ w1 hC h=> ?_)
    have e6:σ 6=PQ z 0:=(Ab (h 6 (by decide))).trans rfl
    exact Yk.fieldAt JW e6 ⟨Ext.refl _,rfl⟩
   ·refine An (Aa rfl fun σ w1 hC h=> ?_)
    have bw:=Ab (h 19 (by decide))
    exact Yk.loadPart bw (DS (x:=((x):Av)) (eb hC m)) Ow rfl (by rw[Lib.byteCells_length,hxo.2.1];exact L9) ⟨Ext.refl _,rfl⟩
   ·refine An (Aa rfl fun σ w1 hC h=> ?_)
    have bx:=Ab (h 18 (by decide))
    have bz:=Ab (h 20 (by decide))
    exact Yk.lookD (ek:=rk) (ev:=BH) (D:=(fun id:List UInt8=>id.length=32)) (df:=dEnt) Cf Cg (fun _ _=>Cc) H2 C1 bx bz (hme.keep hC) hxo.2.1 ⟨Ext.refl _,rfl⟩
   ·exact trivial
  intro b0 da aa he hf
  obtain⟨-,-,-,-,-,-,k21,-⟩:=hf
  obtain⟨f,j,n,o,l,i,ax,-⟩:=he.hold [(0,_),(1,_),(3,_),(4,_),(5,NI ((c)+(1))),(6,PQ z 0),(27, .agg (entC (x)).toArray)] ⟨f,j,n,o,rfl,rfl,rfl,trivial⟩ rfl
  clear he
  have hmk:=eb aa hmk
  have hme:=hme.keep aa
  have hE:=hE.trans aa
  have e:=eb aa e
  have hbq:=eb aa hbq
  have t:=t.trans aa
  have m:=eb aa m
  have b1:b0 21 = .agg (entC ((M (((x)).1.base)).getD dEnt)).toArray:=k21
  clear k21
  refine oS rfl (Yk.storeAll i b1 m (BA (x:=(((M (((x)).1.base)).getD dEnt):Av)) (y:=((x):Av)) (hMO.get (((x)).1.base)).2.1 hxo.2.1) (Bx (x:=(((M (((x)).1.base)).getD dEnt):Av)) D2 (hMO.get (((x)).1.base)).2.1) (BD (x:=(((M (((x)).1.base)).getD dEnt):Av)) (RB.one (hMO.get (((x)).1.base)).1).2) fun db ay ad dc=> ?_)
  have hmk:=kb ad hmk (by omega)
  have hme:=MapF.other hme ad (AL (by omega))
  have hE:=Ac hE ad (Nat.le_trans av (by omega))
  have e:=kb ad e (by omega)
  have hbq:=kb ad hbq (by omega)
  have t:=Ac t ad (Nat.le_trans (Nat.le_refl _) (by omega))
  clear m
  have m:=ay;clear ay
  have dd:=bl m
  refine AH [(0,PQ gm 0),(1,AB id),(3,PQ p 0),(4,NI 0),(5,NI ((c)+(1))),(6,PQ z 0),(27, .agg (entC (x)).toArray)] ⟨f,j,n,o,l,i,ax,trivial⟩ fun b2 ⟨f,j,n,o,l,i,ax,_⟩=>(tN (And.intro ⟨c+1,(M x.1.base).getD dEnt,z,f,j,n,o,l,i,hmk,hme,hE,e,m,by omega,hd.trans (by rw[show 50-c=(50-(c+1))+1 by omega];exact LN bh),hMO.get _,by omega,trivial⟩ ?_))
  show 51-(intOf (b2 5)).toNat<51-(intOf (bd 5)).toNat
  rw[l,q5]
  simp only[intOf,Int.toNat_natCast];omega
 have b3:x.1.based=false:=by simpa using ai
 refine AJ (Ag (Ag (Ap (tN (a1 _ _ (sk fun de b4=>(wt (oM rfl (oA rfl (oZ (tN (b4 _ _ (As (Ca (fn:=Tryd.f67) _ rfl [NI c] (NI c) rfl ⟨l,trivial⟩ ?_))))))))))))))
 exact .inl ⟨_,rfl,c,by rw[hd,DJ b3];exact congrArg some (Nat.zero_add c),rfl,hE⟩
open Go.RowKit
abbrev Ch:=(Bs × Nat)× Value
abbrev Cl(x:Ch):Value:= .agg ([x.2,NI x.1.2]).toArray
def In:Ch:=(([],0), .slice none 0 0)
theorem FO:∀u:World,(zeroValue 81).run Tryd.prog u = .ok (Cl In) u:=fun _=>by kernel_rfl
theorem Ck{v:Value}{n:Nat}(h:v.oneCell' =true):∀u∈([v,NI n]).toArray.toList,u.oneCell' =true:=by
  intro u hu
  simp only[List.mem_cons,List.not_mem_nil,or_false]at hu
  rcases hu with rfl | rfl
  · exact h
  · rfl
def IsMapB(w:World)(b:Nat):Prop:=∃es c,w.heap[b]? =some (.map es c)
theorem MapF.isMap{α β:Type}{ek:α→Value}{ev:β→Value}{D:α→Prop}{w:World}{b:Nat}{G:α→Option β}(h:MapF ek ev D w b G):IsMapB w b:=by
  obtain⟨es,c,h,-⟩:=h
  exact⟨_,c,h⟩
def DK(w:World)(b:Nat):Prop:=∀j x,w.cell? ⟨b,j,none⟩≠some (B8 x)
theorem IsMapB.noB8{w:World}{b:Nat}(h:IsMapB w b):DK w b:=fun j x hc=>by
  obtain⟨es,c,hm⟩:=h
  unfold World.cell? at hc
  rw[hm]at hc
  simp at hc
theorem Hv{w:World}{g k:Nat}{v:Value}{T:TypeId}{fr:Nat × Nat}(hb:w.heap[g]? =some (.cells ([v,NI k]).toArray T fr))(hv:∃ao n c,v = .slice ao n c):DK w g:=fun j x hc=>by
  obtain⟨ao,n,c,rfl⟩:=hv
  unfold World.cell? at hc
  rw[hb]at hc
  match j,hc with
  | 0,hc=>simp at hc
  | 1,hc=>simp at hc
  | j+2,hc=>simp at hc
theorem RB.keepN{w w' :World}{b:Nat}{v:Value}{l:List UInt8}(h:RB w v l)(hm:DK w b)(hg:w.grownBy w' (some b)):RB w' v l:=by
  by_cases hv:v.ownBlock=some b
  · obtain⟨h1,ao,cap,rfl,h2,h3,h4,h5⟩:=h
    refine⟨h1,ao,cap,rfl,h2,h3,h4,fun a ha j u hu=> ?_⟩
    subst ha
    exfalso
    have hb:a.block=b:=by injection hv
    have hc:=h5 a rfl j u hu
    have hj:j<l.length:=by have:=(List.getElem?_eq_some_iff.1 hu).1;rwa [Lib.byteCells_length]at this
    rw[CE hj]at hu
    cases hu
    have hsp:=World.cell?_spot hc
    obtain⟨ab,ao,asp⟩:=a
    have e:({ block:=ab,off:=ao,spot:=asp } :Addr).add j=⟨b,(({ block:=ab,off:=ao,spot:=asp } :Addr).add j).off,none⟩:=by
      have h1:(({ block:=ab,off:=ao,spot:=asp } :Addr).add j).block=b:=by rw[←hb];unfold Addr.add;split <;> rfl
      generalize ({ block:=ab,off:=ao,spot:=asp } :Addr).add j=q at h1 hsp ⊢
      obtain⟨q1,q2,q3⟩:=q
      simp only at h1 hsp
      rw[h1,hsp]
    rw[e]at hc
    exact hm _ _ hc
  · exact h.kept hg (.inr hv)
theorem MOk.keepN{w w' :World}{b:Nat}{M:Bs→Option Av}(h:MOk w M)(hm:DK w b)(hg:w.grownBy w' (some b)):MOk w' M:=fun a c hc=>⟨(h a c hc).1.keepN hm hg,(h a c hc).2⟩
theorem BX.keep{w0 w w' :World}{r:Option Nat}(h:BX w0.heap.size r w0 w)(k:Ext w w'):BX w0.heap.size r w0 w' :=h.trans (BX.ofExt k h.size)
theorem BX.set{w0 w w' :World}{r:Option Nat}{g:Nat}(h:BX w0.heap.size r w0 w)(hg:w.grownBy w' (some g))(hn:w0.heap.size≤g):BX w0.heap.size r w0 w' :=h.trans (BX.ofGrown hg h.size (fun k hk=>by cases hk;exact .inr hn))
theorem BX.put{w0 w w' :World}{b:Nat}(h:BX w0.heap.size (some b) w0 w)(hg:w.grownBy w' (some b)):BX w0.heap.size (some b) w0 w' :=h.trans (BX.ofGrown hg h.size (fun k hk=> .inl hk))
def HOk(w:World)(M:Bs→Option Av)(H:Bs→Option Ch):Prop:=∀id x,H id=some x→RB w x.2 x.1.1∧∃n d,Bp (AU M) n (AU M id)=some d∧BP (AU M) (d+1) id=some x.1
theorem HOk.keep{w w' :World}{M:Bs→Option Av}{H:Bs→Option Ch}(h:HOk w M H)(k:Ext w w'):HOk w' M H:=fun a c hc=>⟨(h a c hc).1.keep k,(h a c hc).2⟩
theorem HOk.keepN{w w' :World}{b:Nat}{M:Bs→Option Av}{H:Bs→Option Ch}(h:HOk w M H)(hm:DK w b)(hg:w.grownBy w' (some b)):HOk w' M H:=fun a c hc=>⟨(h a c hc).1.keepN hm hg,(h a c hc).2⟩
theorem HOk.nil{w:World}{M:Bs→Option Av}:HOk w M (fun _=>none):=fun _ _ h=>by cases h
theorem HOk.put{w:World}{M:Bs→Option Av}{H:Bs→Option Ch}(h:HOk w M H){id:Bs}{x:Ch}(h1:RB w x.2 x.1.1){n d:Nat}(h2:Bp (AU M) n (AU M id)=some d)(h3:BP (AU M) (d+1) id=some x.1):HOk w M (updM H id (some x)):=fun a c hc=>by
  unfold updM at hc
  split at hc
  · rename_i e
    cases hc
    subst e
    exact⟨h1,n,d,h2,h3⟩
  · exact h a c hc
section
variable {E : Bs → Ent}
theorem JZ{n m:Nat}{e:Ent}{d d' :Nat}(h:Bp E n e=some d)(h' :Bp E m e=some d'):d=d' :=by
  have h1:=Fa n (max d d') e d h (Nat.le_max_left _ _)
  have h2:=Fa m (max d d') e d' h' (Nat.le_max_right _ _)
  rw[h1]at h2
  cases h2
  rfl
theorem J0{n:Nat}{e:Ent}{d:Nat}(hb:e.based=true)(h:Bp E n e=some d):∃n' d',d=d' +1∧Bp E n' (E e.base)=some d' :=by
  cases n with
  | zero=>rw[En hb]at h;cases h
  | succ n=>
    rw[Di hb]at h
    cases h1:Bp E n (E e.base)with
    | none=>rw[h1]at h;cases h
    | some d1=>rw[h1]at h;cases h;exact⟨n,d1,rfl,h1⟩
theorem EH{n:Nat}{id:Bs}(hb:(E id).based=true):BP E (n+1) id=(BP E n (E id).base).bind fun x=>if(Bd x.1 (E id).bytes).2=0 then(if(Bd x.1 (E id).bytes).1.length≤262144 then some ((Bd x.1 (E id).bytes).1,x.2+1)else none)else none:=by
  show(if _=true then _ else _)=_
  rw[if_pos hb]
theorem Fb{n:Nat}{id:Bs}(hb:(E id).based=false):BP E (n+1) id=if(E id).bytes.length≤262144 then some ((E id).bytes,0)else none:=by
  show(if _=true then _ else _)=_
  rw[if_neg (by rw[hb];decide)]
theorem F8:∀ {n:Nat} {id:Bs} {b:Bs} {k:Nat},BP E n id=some (b,k)→b.length≤262144∧k<n
  | 0,_,_,_,h=>by cases h
  | n+1,id,b,k,h=>by
    cases hb:(E id).based with
    | false=>
      rw[Fb hb]at h
      split at h
      · cases h;exact⟨‹_›,Nat.succ_pos _⟩
      · cases h
    | true=>
      rw[EH hb]at h
      cases h1:BP E n (E id).base with
      | none=>rw[h1]at h;cases h
      | some x=>
        rw[h1]at h
        have h2:(if(Bd x.1 (E id).bytes).2=0 then(if(Bd x.1 (E id).bytes).1.length≤262144 then some ((Bd x.1 (E id).bytes).1,x.2+1)else none)else none)=some (b,k):=h
        split at h2
        · split at h2
          · cases h2
            have:=F8 (b:=x.1) (k:=x.2) h1
            exact⟨‹_›,by omega⟩
          · cases h2
        · cases h2
end
open Go.RowKit
set_option maxRecDepth 100000
theorem BE:(Tryd.prog.info? 81).map (·.size)=some 2:=by kernel_rfl
theorem DL{d:Option Tmp}{ty:TypeId}{pos:String}{af:Array Edge}{gd:Option (Nat × Bool)}(σ:Operand→Value)(w:World):(execOp σ ⟨d, .alloc 81,ty,pos,af,gd⟩).run Tryd.prog w = .ok (.value (PQ w.heap.size 0)) (w.alloc (.cells ([(Value.slice none 0 0),NI 0]).toArray 81)):=by kernel_rfl
theorem DM:BK Tryd.prog 120 1 1:=fun b o w=>by simp[go_sem]
theorem CT:Tryd.prog.underlying 72=some (.map 38 81):=by kernel_rfl
theorem GM{z0:Value}(h0:∃ao n c,z0 = .slice ao n c)(w:World):(Instr.build 81 #[(0,z0)]).run Tryd.prog w = .ok (.agg ([z0,NI 0]:List Value).toArray) w:=by obtain⟨_,_,_,rfl⟩:=h0;kernel_rfl
theorem Fz:BK Tryd.prog 81 0 0:=fun b o w=>by simp[go_sem]
theorem Dk:∃fs,Tryd.prog.underlying 81=some (.struct fs):=Eg (by kernel_rfl)
theorem MV:A2 Tryd.prog 68:=fun _ _=>by kernel_rfl
theorem MW:A2 Tryd.prog 77:=fun _ _=>by kernel_rfl
theorem KF:BK Tryd.prog 81 1 1:=fun b o w=>by simp[go_sem]
theorem Io{z0:Value}(h0:∃ao n c,z0 = .slice ao n c)(z1:Int)(w:World):(Instr.build 81 #[(0,z0),(1, .int .i64 z1)]).run Tryd.prog w = .ok (.agg ([z0, .int .i64 z1]:List Value).toArray) w:=by obtain⟨_,_,_,rfl⟩:=h0;kernel_rfl
set_option maxHeartbeats 1600000
theorem LP(gm be bm:Nat)(M:Bs→Option Av)(d:Nat)(ih:∀d1,d1<d→∀(w:World) (H:Bs→Option Ch) (id:Bs) (hmk:w.heap[gm]? =some (.cells ([.map (some be), .map (some bm)]).toArray 120 (0,0))) (hme:MapF rk BH (fun id:List UInt8=>id.length=32) w be M) (hmm:MapF rk Cl (fun id:List UInt8=>id.length=32) w bm H) (hMO:MOk w M) (hHO:HOk w M H) (hne:be≠bm) (hid:id.length=32) (hd50:d1≤50) (n0:Nat) (hdp:Bp (AU M) n0 (AU M id)=some d1),Calls Tryd.prog 68 #[PQ gm 0,AB id] w fun r w' =>(∃x,r = .returned x∧∃v b k H',x = .agg ([v,NI k]).toArray∧BP (AU M) (d1+1) id=some (b,k)∧RB w' v b∧MapF rk Cl (fun id:List UInt8=>id.length=32) w' bm H' ∧HOk w' M H' ∧BX w.heap.size (some bm) w w')∨∃ch,r = .panicked ch∧BP (AU M) (d1+1) id=none∧ch= [CF 6]∧BX w.heap.size (some bm) w w')(w:World)(H:Bs→Option Ch)(id:Bs)(hmk:w.heap[gm]? =some (.cells ([.map (some be), .map (some bm)]).toArray 120 (0,0)))(hme:MapF rk BH (fun id:List UInt8=>id.length=32) w be M)(hmm:MapF rk Cl (fun id:List UInt8=>id.length=32) w bm H)(hMO:MOk w M)(hHO:HOk w M H)(hne:be≠bm)(hid:id.length=32)(hd50:d≤50)(n0:Nat)(hdp:Bp (AU M) n0 (AU M id)=some d):
  Calls Tryd.prog 68 #[PQ gm 0,AB id] w fun r w' =>(∃x,r = .returned x∧∃v b k H',x = .agg ([v,NI k]).toArray∧BP (AU M) (d+1) id=some (b,k)∧RB w' v b∧MapF rk Cl (fun id:List UInt8=>id.length=32) w' bm H' ∧HOk w' M H' ∧BX w.heap.size (some bm) w w')∨∃ch,r = .panicked ch∧BP (AU M) (d+1) id=none∧ch= [CF 6]∧BX w.heap.size (some bm) w w' :=by
 have hX:=BX.refl w.heap.size (some bm) w
 have hgb:gm≠bm:=fun e=>by obtain⟨es_,c_,h_⟩:=MapF.isMap hmm;rw[←e,hmk]at h_;cases h_
 have hbl:=hmm.lt
 have hgl:=(bl hmk)
 have hel:=hme.lt
 refine CX (args:= [PQ gm 0,AB id]) Tryd.func68 rfl 66 rfl (Nat.le_of_ble_eq_true rfl) ?_
 intro dp hb
 have q:dp 0=(PQ gm 0:Value):=hb.get 0
 have T1:dp 1=(AB id:Value):=hb.get 1
 clear hb
 have hE:=Ext.refl w
 refine sk fun K1 cv=>(wt (oS rfl (Yk.box (cs:=(Lib.byteCells id:List Value).toArray) T1 fun n2 w3 cw dr co gr=> ?_)))
 have gs:=AT (bl hmk) cw
 have gt:=AT hme.lt cw
 have gu:=AT hmm.lt cw
 have hmk:=eb co hmk
 have hme:=hme.keep co
 have hmm:=hmm.keep co
 have hE:=hE.trans co
 have j:=dr;clear dr
 have gv:n2<w3.heap.size:=by omega
 refine oS rfl (Yk.alloc (cs:=([(Value.slice none 0 0),NI 0]).toArray) DL fun an f cp ds ca gw=> ?_)
 have l:=Ext.refl w3
 have gx:=hE
 have ei:=hE.size
 have gy:=AT (bl hmk) cp
 have gz:=AT hme.lt cp
 have g0:=AT hmm.lt cp
 have g1:=AT (bl j) cp
 have hmk:=eb ca hmk
 have hme:=hme.keep ca
 have hmm:=hmm.keep ca
 have hE:=hE.trans ca
 have j:=eb ca j
 have l:=l.trans ca
 have i:=ds;clear ds
 have g2:an<f.heap.size:=by omega
 refine oZ ?_
 rcases hH:H id with _ | x
 ·rcases hb:(AU M id).based with _ | _
  ·have hcg:=Fb (n:=d) (E:=AU M) hb
   have hbx:((M (id)).getD dEnt).1.based=false:=hb
   refine tN (cv _ _ (sk fun g3 ej=>(sk fun g4 el=> ?_)))
   have ac:=Ext.refl f
   have g5:=hE
   have g6:=l
   have g7:=hE.size
   have g8:=l.size
   have g9:gm<f.heap.size:=(bl hmk)
   have ha:be<f.heap.size:=hme.lt
   have hc:bm<f.heap.size:=hmm.lt
   have hd:n2<f.heap.size:=(bl j)
   have hg:an<f.heap.size:=(bl i)
   refine DI 9 10 11 81 ([(Value.slice none 0 0),NI 0]).toArray ([(Value.slice none 0 0),NI 0]).toArray [Is (PQ gm 0),Is (PQ gm 0),Is (PQ gm 1),Is (.map (some bm)),Is (AB id),Is (.tuple #[.agg ([(Value.slice none 0 0),NI 0]).toArray, .bool (false)]),Is (.tuple #[.agg ([(Value.slice none 0 0),NI 0]).toArray, .bool (false)]),Is (.agg ([(Value.slice none 0 0),NI 0]).toArray),Is (.bool (false)),fun x w' =>x=PQ f.heap.size 0∧f.heap.size<w'.heap.size,(fun _ _=>True)] (by kernel_rfl) [13,14,15,16,17,18,12,19,20,5,6] (by kernel_rfl) (by kernel_rfl) (by kernel_rfl) (by kernel_rfl) rfl rfl (by kernel_rfl) rfl rfl rfl rfl rfl (FF ⟨(fun _ _ _ h k=>k.elim (fun e=>e▸h) (fun e=>⟨h.1,e⟩)),Stab.any,trivial⟩) ?em ?hQ1001
   case em=>
    refine⟨?_,?_,?_,?_,?_,?_,?_,?_,?_,?_,?_,?_,trivial⟩
    ·refine An (Aa rfl fun σ w1 hC h=> ?_)
     have hC:Ext f w1:=hC
     have e0:=(Ab (h 0 (by decide))).trans q
     exact Yk.move e0 ⟨rfl,rfl⟩
    ·refine An (Aa rfl fun σ w1 hC h=> ?_)
     have hC:Ext f w1:=hC
     have ce:=Ab (h 13 (by decide))
     exact Yk.nilCheck ce ⟨rfl,rfl⟩
    ·refine An (Aa rfl fun σ w1 hC h=> ?_)
     have hC:Ext f w1:=hC
     have cf:=Ab (h 14 (by decide))
     exact Yk.fieldAt DM cf ⟨rfl,rfl⟩
    ·refine An (Aa rfl fun σ w1 hC h=> ?_)
     have hC:Ext f w1:=hC
     have cg:=Ab (h 15 (by decide))
     exact Yk.cell1 CT rfl cg (Ai (eb hC hmk) (show _=some (.map (some bm):Value)from rfl)) ⟨rfl,rfl⟩
    ·refine An (Aa rfl fun σ w1 hC h=> ?_)
     have hC:Ext f w1:=hC
     have e3:σ 3=PQ n2 0:=(Ab (h 3 (by decide))).trans rfl
     exact Yk.loadAll e3 (eb hC j) Ow rfl (by exact AM hid) ⟨rfl,rfl⟩
    ·refine An (Aa rfl fun σ w1 hC h=> ?_)
     have hC:Ext f w1:=hC
     have ci:=Ab (h 16 (by decide))
     have cj:=Ab (h 17 (by decide))
     exact Yk.lookOkN (ek:=rk) (ev:=Cl) (D:=(fun id:List UInt8=>id.length=32)) Cf Cg (fun _ _=>Cc) CT (z:=Cl In) FO ci cj (hmm.keep hC) hid hH ⟨rfl,rfl⟩
    ·refine An (Aa rfl fun σ w1 hC h=> ?_)
     have hC:Ext f w1:=hC
     have ck:=Ab (h 18 (by decide))
     exact Yk.move ck ⟨rfl,rfl⟩
    ·refine An (Aa rfl fun σ w1 hC h=> ?_)
     have hC:Ext f w1:=hC
     have bc:=Ab (h 12 (by decide))
     exact Yk.extract (vs:= [.agg ([(Value.slice none 0 0),NI 0]).toArray, .bool (false)]) bc (show _=some (.agg ([(Value.slice none 0 0),NI 0]).toArray:Value)from rfl) ⟨rfl,rfl⟩
    ·refine An (Aa rfl fun σ w1 hC h=> ?_)
     have hC:Ext f w1:=hC
     have bc:=Ab (h 12 (by decide))
     exact Yk.extract (vs:= [.agg ([(Value.slice none 0 0),NI 0]).toArray, .bool (false)]) bc (show _=some (.bool (false):Value)from rfl) ⟨rfl,rfl⟩
    ·refine An (Aa rfl fun σ w1 hC h=> ?_)
     have hC:w1=World.drew f:=hC
     subst hC
     exact Yk.allocX DL ⟨rfl,rfl,by simp⟩
    ·refine An (Aa rfl fun σ w1 hC h=> ?_)
     have e5:(fun x w' =>x=PQ f.heap.size 0∧f.heap.size<w'.heap.size) (σ 5) w1:=h 5 (by decide)
     have cl:=Ab (h 19 (by decide))
     rcases(show w1=World.drew f∨w1=(World.drew f).alloc (.cells ([(Value.slice none 0 0),NI 0]).toArray 81)from hC)with hC | hC
     ·subst hC;exact absurd e5.2 (Nat.lt_irrefl _)
     ·subst hC
      exact Yk.storeAll e5.1 cl (heap_alloc_new _ _) rfl (show(Tryd.prog.info? 81).map (·.size)=some 2 from BE) (Ck rfl) fun w2 h1 h2 h3=>⟨⟨h1,Ac ((Below.refl _ _).drew.alloc (Nat.le_refl _) _) h2 (Nat.le_refl _),by rw[h3];simp⟩,trivial⟩
    ·exact trivial
   intro cx a2 bv aa en he hf
   obtain⟨-,-,-,-,-,-,-,-,k20,k5,-⟩:=hf
   obtain⟨q,T1,T3,T4,-⟩:=he.hold [(0,_),(1,_),(3,PQ n2 0),(4,PQ an 0)] ⟨q,T1,rfl,rfl,trivial⟩ rfl
   clear he
   have hmk:=eb bv hmk
   have hme:=hme.keep bv
   have hmm:=hmm.keep bv
   have hE:=hE.trans bv
   have j:=eb bv j
   have l:=l.trans bv
   have i:=eb bv i
   have ac:=ac.trans bv
   obtain⟨cy,eo⟩:∃g,f.heap.size=g:=⟨_,rfl⟩
   have T5:cx 5=_:=(show(fun x w' =>x=PQ f.heap.size 0∧f.heap.size<w'.heap.size) (cx 5) a2 from k5).1
   rw[eo]at T5 aa en;clear k5
   have hh:cy<a2.heap.size:=by omega
   have bp:cx 20 = .bool (false):=k20
   clear k20
   refine oA rfl (oZ (tN (el _ _ (sk fun hi ep=>(wt (oM rfl (oZ (tN (ep _ _ (Ar bp (Ah (tN (ej _ _ (sk fun hj eq=> ?_))))))))))))))
   have au:=Ext.refl a2
   have hk:=hE
   have hl:=l
   have hm:=ac
   have er:=hE.size
   have es:=l.size
   have et:=ac.size
   have ho:gm<a2.heap.size:=(bl hmk)
   have hp:be<a2.heap.size:=hme.lt
   have hq:bm<a2.heap.size:=hmm.lt
   have hr:n2<a2.heap.size:=(bl j)
   have ht:an<a2.heap.size:=(bl i)
   have hu:cy<a2.heap.size:=(bl aa)
   refine Cr 7 [Is (PQ gm 0),Is (PQ gm 0),Is (PQ gm 0),Is (.map (some be)),Is (AB id),Is (.agg (entC ((M (id)).getD dEnt)).toArray),fun x w' =>∃g,x=PQ g 0∧w'.heap[g]? =some (.cells (entC dEnt).toArray 116 (0,0))∧a2.heap.size≤g] (by kernel_rfl) [23,24,25,26,27,28,7] (by kernel_rfl) (by kernel_rfl) (by kernel_rfl) (by kernel_rfl) rfl rfl (Gd ⟨(fun _ _ _ ⟨g,h1,h2,h3⟩ k=>⟨g,h1,eb k h2,h3⟩),trivial⟩) ?eu ?hQ2004
   case eu=>
    refine⟨?_,?_,?_,?_,?_,?_,?_,?_,trivial⟩
    ·refine An (Aa rfl fun σ w1 hC h=> ?_)
     have e0:=(Ab (h 0 (by decide))).trans q
     exact Yk.move e0 ⟨Ext.refl _,rfl⟩
    ·refine An (Aa rfl fun σ w1 hC h=> ?_)
     have cz:=Ab (h 23 (by decide))
     exact Yk.nilCheck cz ⟨Ext.refl _,rfl⟩
    ·refine An (Aa rfl fun σ w1 hC h=> ?_)
     have c0:=Ab (h 24 (by decide))
     exact Yk.fieldAt GL c0 ⟨Ext.refl _,rfl⟩
    ·refine An (Aa rfl fun σ w1 hC h=> ?_)
     have c1:=Ab (h 25 (by decide))
     exact Yk.cell1 H2 rfl c1 (Ai (eb hC hmk) (show _=some (.map (some be):Value)from rfl)) ⟨Ext.refl _,rfl⟩
    ·refine An (Aa rfl fun σ w1 hC h=> ?_)
     have e3:=(Ab (h 3 (by decide))).trans T3
     exact Yk.loadAll e3 (eb hC j) Ow rfl (by exact AM hid) ⟨Ext.refl _,rfl⟩
    ·refine An (Aa rfl fun σ w1 hC h=> ?_)
     have c2:=Ab (h 26 (by decide))
     have c3:=Ab (h 27 (by decide))
     exact Yk.lookD (ek:=rk) (ev:=BH) (D:=(fun id:List UInt8=>id.length=32)) (df:=dEnt) Cf Cg (fun _ _=>Cc) H2 C1 c2 c3 (hme.keep hC) hid ⟨Ext.refl _,rfl⟩
    ·refine An (Aa rfl fun σ w1 hC h=> ?_)
     exact Yk.alloc (cs:=(entC dEnt).toArray) F7 fun g w2 hn hb hx hs=>⟨hx,g,rfl,hb,Nat.le_trans (show Ext a2 w1 from hC).size (Nat.le_of_eq hn)⟩
    ·exact trivial
   intro c4 ew bi he hf
   obtain⟨-,-,-,-,-,k28,k7,-⟩:=hf
   obtain⟨q,T1,T3,T4,T5,T6,b4,-⟩:=he.hold [(0,_),(1,_),(3,_),(4,_),(5,_),(6,_),(21,_)] ⟨q,T1,T3,T4,T5,bp,bp,trivial⟩ rfl
   clear he
   have hmk:=eb bi hmk
   have hme:=hme.keep bi
   have hmm:=hmm.keep bi
   have hE:=hE.trans bi
   have j:=eb bi j
   have l:=l.trans bi
   have i:=eb bi i
   have ac:=ac.trans bi
   have aa:=eb bi aa
   have au:=au.trans bi
   have c5:c4 28 = .agg (entC ((M (id)).getD dEnt)).toArray:=k28
   have k7:(fun x w' =>∃g,x=PQ g 0∧w'.heap[g]? =some (.cells (entC dEnt).toArray 116 (0,0))∧a2.heap.size≤g) (c4 7) ew:=k7
   obtain⟨hv,T7⟩:∃v,c4 7=v:=⟨_,rfl⟩
   rw[T7]at k7
   have ex:=k7;clear k7
   obtain⟨c6,rfl,t,hw⟩:=ex
   have hy:=bl t
   clear k28
   refine oS rfl (Yk.storeAll T7 c5 t (BA (x:=(((M (id)).getD dEnt):Av)) (y:=(dEnt:Av)) (hMO.get (id)).2.1 (by simp[dEnt])) (Bx (x:=(((M (id)).getD dEnt):Av)) D2 (hMO.get (id)).2.1) (BD (x:=(((M (id)).getD dEnt):Av)) (RB.one (hMO.get (id)).1).2) fun dt du bj hz=> ?_)
   have hmk:=kb bj hmk (by omega)
   have hme:=MapF.other hme bj (AL (by omega))
   have hmm:=MapF.other hmm bj (AL (by omega))
   have hE:=Ac hE bj (Nat.le_trans er (by omega))
   have j:=kb bj j (by omega)
   have l:=Ac l bj (Nat.le_trans es (by omega))
   have i:=kb bj i (by omega)
   have ac:=Ac ac bj (Nat.le_trans et (by omega))
   have aa:=kb bj aa (by omega)
   have au:=Ac au bj (Nat.le_trans (Nat.le_refl _) (by omega))
   clear t
   have t:=du;clear du
   have h0:=bl t
   refine oZ (tN (eq _ _ (sk fun h4 ey=>(wt (oS rfl (Yk.fieldAt GK T7 ?_))))))
   have hre79:RB dt (((M (id)).getD dEnt)).2 (AU M id).bytes:=(MOk.get (hMO.keep hE) id).1
   refine oS rfl (Yk.cell1 DT rfl (vr (PQ c6 34) rfl) (Ai t (JS (x:=(((M (id)).getD dEnt):Av)) (hMO.get (id)).2.1)) (oS rfl (Yk.build1 (vr ((((M (id)).getD dEnt)).2) rfl) (fun w=>GM (RB.slice hre79) w) (oS rfl (Yk.alloc (cs:=([(Value.slice none 0 0),NI 0]).toArray) DL fun b5 ez b6 dv a3 h5=> ?_)))))
   have a4:=Ext.refl dt
   have h6:=hE
   have h7:=l
   have h8:=ac
   have h9:=au
   have e1:=hE.size
   have e2:=l.size
   have e4:=ac.size
   have e6:=au.size
   have ia:=AT (bl hmk) b6
   have ib:=AT hme.lt b6
   have ic:=AT hmm.lt b6
   have ie:=AT (bl j) b6
   have ig:=AT (bl i) b6
   have ii:=AT (bl aa) b6
   have ij:=AT (bl t) b6
   have hmk:=eb a3 hmk
   have hme:=hme.keep a3
   have hmm:=hmm.keep a3
   have hE:=hE.trans a3
   have j:=eb a3 j
   have l:=l.trans a3
   have i:=eb a3 i
   have ac:=ac.trans a3
   have aa:=eb a3 aa
   have au:=au.trans a3
   have t:=eb a3 t
   have a4:=a4.trans a3
   have ao:=dv;clear dv
   have ik:b5<ez.heap.size:=by omega
   refine oS rfl (Yk.storeAll (vr (PQ b5 0) rfl) (vr (.agg ([(((M (id)).getD dEnt)).2,NI 0]).toArray) rfl) ao rfl (show(Tryd.prog.info? 81).map (·.size)=some 2 from BE) (Ck (RB.one (hre79.keep a4)).2) fun il dw a5 im=> ?_)
   have hmk:=kb a5 hmk (by omega)
   have hme:=MapF.other hme a5 (AL (by omega))
   have hmm:=MapF.other hmm a5 (AL (by omega))
   have hE:=Ac hE a5 (Nat.le_trans e1 (by omega))
   have j:=kb a5 j (by omega)
   have l:=Ac l a5 (Nat.le_trans e2 (by omega))
   have i:=kb a5 i (by omega)
   have ac:=Ac ac a5 (Nat.le_trans e4 (by omega))
   have aa:=kb a5 aa (by omega)
   have au:=Ac au a5 (Nat.le_trans e6 (by omega))
   have t:=kb a5 t (by omega)
   have a4:=Ac a4 a5 (Nat.le_trans (Nat.le_refl _) (by omega))
   clear ao
   have ao:=dw;clear dw
   have io:=bl ao
   refine oZ (tN (ey _ _ (sk fun ip e7=>(sk fun iq e9=>(wt (oS rfl (Yk.fieldAt E6 T7 (oS rfl (Yk.cell1 Hu rfl (vr (PQ c6 1) rfl) (Ai t ((show(entC (((M (id)).getD dEnt)))[1]? =some (.bool false:Value)from congrArg (fun b=>some (Value.bool b)) hbx))) (oZ (tN (e9 _ _ (Ar (vr (.bool (false)) rfl) (Ah (tN (e7 _ _ (sk fun ir fa=>(wt (oS rfl (Yk.fieldAt Fz (vr (PQ b5 0) rfl) (oS rfl (Yk.cell1 DT rfl (vr (PQ b5 0) rfl) (Ai ao (show _=some ((((M (id)).getD dEnt)).2:Value)from rfl)) ?_))))))))))))))))))))))
   refine oS rfl (Yk.lenRB DT (RB.of (hre79.keep a4) (vr ((((M (id)).getD dEnt)).2) rfl)) (oS rfl (Yk.eqI (a:=(((AU M id).bytes:List UInt8).length:Nat)) (b:=(262144:Nat)) rfl rfl (C5 _ _ _ _) (oP rfl (Yp.callA2 Fo (vr (.bool (decide ((((AU M id).bytes:List UInt8).length)≤(262144)))) rfl) (vr (NI 6) rfl) ?_)))))
   refine AG (Bc _ (decide ((((AU M id).bytes:List UInt8).length)≤(262144))) 6) ?_ ?_
   rotate_left
   ·
    rintro ch iu ⟨rfl,hb,hx⟩
    refine Af (AK ?_)
    have hno:=of_decide_eq_false hb
    refine .inr ⟨_,rfl,?_,rfl,(BX.keep (hX.keep hE) hx)⟩
    rw[hcg]
    exact if_neg hno
   rintro v_ iv ⟨rfl,fb,az⟩
   have hmk:=eb az hmk
   have hme:=hme.keep az
   have hmm:=hmm.keep az
   have hE:=hE.trans az
   have j:=eb az j
   have l:=l.trans az
   have i:=eb az i
   have ac:=ac.trans az
   have aa:=eb az aa
   have au:=au.trans az
   have t:=eb az t
   have a4:=a4.trans az
   have ao:=eb az ao
   have fc:=of_decide_eq_true fb
   refine oZ ?_
   have hcf:BP (AU M) (d+1) id=some ((AU M id).bytes,0):=hcg.trans (if_pos fc)
   refine tN (fa _ _ (sk fun iw fd=> ?_))
   refine Cr 6 [Is (PQ gm 0),Is (PQ gm 0),Is (PQ gm 1),Is (.map (some bm)),Is (AB id),Is (.agg ([(((M (id)).getD dEnt)).2,NI 0]).toArray)] (by kernel_rfl) [59,60,61,62,63,64] (by kernel_rfl) (by kernel_rfl) (by kernel_rfl) (by kernel_rfl) rfl rfl (Gd trivial) ?fe ?hQ3012
   case fe=>
    refine⟨?_,?_,?_,?_,?_,?_,?_,trivial⟩
    ·refine An (Aa rfl fun σ w1 hC h=> ?_)
     have e0:=(Ab (h 0 (by decide))).trans q
     exact Yk.move e0 ⟨Ext.refl _,rfl⟩
    ·refine An (Aa rfl fun σ w1 hC h=> ?_)
     have c7:=Ab (h 59 (by decide))
     exact Yk.nilCheck c7 ⟨Ext.refl _,rfl⟩
    ·refine An (Aa rfl fun σ w1 hC h=> ?_)
     have c8:=Ab (h 60 (by decide))
     exact Yk.fieldAt DM c8 ⟨Ext.refl _,rfl⟩
    ·refine An (Aa rfl fun σ w1 hC h=> ?_)
     have c9:=Ab (h 61 (by decide))
     exact Yk.cell1 CT rfl c9 (Ai (eb hC hmk) (show _=some (.map (some bm):Value)from rfl)) ⟨Ext.refl _,rfl⟩
    ·refine An (Aa rfl fun σ w1 hC h=> ?_)
     have e3:=(Ab (h 3 (by decide))).trans T3
     exact Yk.loadAll e3 (eb hC j) Ow rfl (by exact AM hid) ⟨Ext.refl _,rfl⟩
    ·refine An (Aa rfl fun σ w1 hC h=> ?_)
     have e8:σ 8=PQ b5 0:=(Ab (h 8 (by decide))).trans rfl
     exact Yk.loadAll e8 (eb hC ao) (Dk).choose_spec rfl (show(Tryd.prog.info? 81).map (·.size)=some 2 from BE) ⟨Ext.refl _,rfl⟩
    ·exact trivial
   intro da ff a0 he hf
   obtain⟨-,-,-,k62,k63,k64,-⟩:=hf
   obtain⟨q,T1,T3,T4,T5,T6,T7,T8,b4,db,-⟩:=he.hold [(0,_),(1,_),(3,_),(4,_),(5,_),(6,_),(7,_),(8,PQ b5 0),(21,_),(33, .bool (false))] ⟨q,T1,T3,T4,T5,T6,T7,rfl,b4,rfl,trivial⟩ rfl
   clear he
   have hmk:=eb a0 hmk
   have hme:=hme.keep a0
   have hmm:=hmm.keep a0
   have hE:=hE.trans a0
   have j:=eb a0 j
   have l:=l.trans a0
   have i:=eb a0 i
   have ac:=ac.trans a0
   have aa:=eb a0 aa
   have au:=au.trans a0
   have t:=eb a0 t
   have a4:=a4.trans a0
   have ao:=eb a0 ao
   have dc:da 62 = .map (some bm):=k62
   have dd:da 63=AB id:=k63
   have de:da 64 = .agg ([(((M (id)).getD dEnt)).2,NI 0]).toArray:=k64
   clear k62 k63 k64
   refine oS rfl (Yk.putM (ek:=rk) (ev:=Cl) (D:=(fun id:List UInt8=>id.length=32)) (c:=((((AU M id).bytes,0),(((M (id)).getD dEnt)).2):Ch)) Cf Cg CT dc dd de hmm hid fun a1 dg bd ix=> ?_)
   have hP:=HOk.put (hHO.keep hE) (id:=id) (x:=((((AU M id).bytes,0),(((M (id)).getD dEnt)).2):Ch)) (hre79.keep a4) hdp hcf
   have hm126:DK ff bm:=(MapF.isMap hmm).noB8
   have hX:BX w.heap.size (some bm) w a1:=BX.put (hX.keep hE) bd
   have hmk:a1.heap[gm]? =some (.cells ([.map (some be), .map (some bm)]).toArray 120 (0,0)):=kb bd hmk (by omega)
   have hme:MapF rk BH (fun id:List UInt8=>id.length=32) a1 be M:=MapF.other hme bd (AL (by omega))
   clear hmm
   have hMO:MOk a1 M:=(hMO.keep hE).keepN hm126 bd
   have j:a1.heap[n2]? =some (.cells (Lib.byteCells id).toArray 38 (0,0)):=kb bd j (by omega)
   have i:a1.heap[an]? =some (.cells ([(Value.slice none 0 0),NI 0]).toArray 81 (0,0)):=kb bd i (by omega)
   have aa:a1.heap[cy]? =some (.cells ([(Value.slice none 0 0),NI 0]).toArray 81 (0,0)):=kb bd aa (by omega)
   have t:a1.heap[c6]? =some (.cells (entC (((M (id)).getD dEnt))).toArray 116 (0,0)):=kb bd t (by omega)
   have hre79:RB a1 (((M (id)).getD dEnt)).2 (AU M id).bytes:=(hre79.keep a4).keepN hm126 bd
   have ao:a1.heap[b5]? =some (.cells ([(((M (id)).getD dEnt)).2,NI 0]).toArray 81 (0,0)):=kb bd ao (by omega)
   have hP:HOk a1 M (updM H (id) (some (((((AU M id).bytes,0),(((M (id)).getD dEnt)).2):Ch)))):=hP.keepN hm126 bd
   have iy:=Ext.refl a1
   have iz:=hX.size
   refine oZ (tN (fd _ _ (sk fun i0 fg=>(wt (oS rfl (Yk.loadAll T8 ao (Dk).choose_spec rfl (show(Tryd.prog.info? 81).map (·.size)=some 2 from BE) (oS rfl (Yk.storeAll T4 (vr (.agg ([(((M (id)).getD dEnt)).2,NI 0]).toArray) rfl) i rfl (show(Tryd.prog.info? 81).map (·.size)=some 2 from BE) (Ck (RB.one hre79).2) fun cm dx bf i1=> ?_))))))))
   have hnb_:DK a1 an:=Hv i ⟨_,_,_,rfl⟩
   have hX:BX w.heap.size (some bm) w cm:=BX.set hX bf (by omega)
   have hmk:=kb bf hmk (by omega)
   have hme:=MapF.other hme bf (AL (by omega))
   have hMO:MOk cm M:=hMO.keepN hnb_ bf
   have j:=kb bf j (by omega)
   clear i
   have aa:=kb bf aa (by omega)
   have t:=kb bf t (by omega)
   have hre79:RB cm (((M (id)).getD dEnt)).2 (AU M id).bytes:=hre79.keepN hnb_ bf
   have ao:=kb bf ao (by omega)
   have hP:HOk cm M (updM H (id) (some (((((AU M id).bytes,0),(((M (id)).getD dEnt)).2):Ch)))):=hP.keepN hnb_ bf
   have dg:=MapF.other dg bf (AL (by omega))
   have i:=dx;clear dx
   have i2:=bl i
   have i3:=Ext.refl cm
   have i4:=hX.size
   refine oZ (tN (fg _ _ (As (Ca (fn:=Tryd.f68) _ rfl [.agg ([(((M (id)).getD dEnt)).2,NI 0]).toArray] (.agg ([(((M (id)).getD dEnt)).2,NI 0]).toArray) rfl ⟨ResF.row T4 i (Dk).choose_spec rfl ((show(Tryd.prog.info? 81).map (·.size)=some 2 from BE)),trivial⟩ ?_))))
   exact .inl ⟨_,rfl,_,_,_,_,rfl,hcf,hre79,dg,hP,hX⟩
  have hcg:=EH (n:=d) (E:=AU M) hb
  have hbx:((M (id)).getD dEnt).1.based=true:=hb
  obtain⟨na_,d1,hd1,hdp1⟩:=J0 hb hdp
  refine tN (cv _ _ (sk fun i5 fh=>(sk fun i6 fi=> ?_)))
  have av:=Ext.refl f
  have i7:=hE
  have i8:=l
  have i9:=hE.size
  have ja:=l.size
  have jb:gm<f.heap.size:=(bl hmk)
  have jc:be<f.heap.size:=hme.lt
  have jd:bm<f.heap.size:=hmm.lt
  have je:n2<f.heap.size:=(bl j)
  have jf:an<f.heap.size:=(bl i)
  refine DI 9 10 11 81 ([(Value.slice none 0 0),NI 0]).toArray ([(Value.slice none 0 0),NI 0]).toArray [Is (PQ gm 0),Is (PQ gm 0),Is (PQ gm 1),Is (.map (some bm)),Is (AB id),Is (.tuple #[.agg ([(Value.slice none 0 0),NI 0]).toArray, .bool (false)]),Is (.tuple #[.agg ([(Value.slice none 0 0),NI 0]).toArray, .bool (false)]),Is (.agg ([(Value.slice none 0 0),NI 0]).toArray),Is (.bool (false)),fun x w' =>x=PQ f.heap.size 0∧f.heap.size<w'.heap.size,(fun _ _=>True)] (by kernel_rfl) [13,14,15,16,17,18,12,19,20,5,6] (by kernel_rfl) (by kernel_rfl) (by kernel_rfl) (by kernel_rfl) rfl rfl (by kernel_rfl) rfl rfl rfl rfl rfl (FF ⟨(fun _ _ _ h k=>k.elim (fun e=>e▸h) (fun e=>⟨h.1,e⟩)),Stab.any,trivial⟩) ?fj ?hQ4001
  case fj=>
   refine⟨?_,?_,?_,?_,?_,?_,?_,?_,?_,?_,?_,?_,trivial⟩
   ·refine An (Aa rfl fun σ w1 hC h=> ?_)
    have hC:Ext f w1:=hC
    have e0:=(Ab (h 0 (by decide))).trans q
    exact Yk.move e0 ⟨rfl,rfl⟩
   ·refine An (Aa rfl fun σ w1 hC h=> ?_)
    have hC:Ext f w1:=hC
    have ce:=Ab (h 13 (by decide))
    exact Yk.nilCheck ce ⟨rfl,rfl⟩
   ·refine An (Aa rfl fun σ w1 hC h=> ?_)
    have hC:Ext f w1:=hC
    have cf:=Ab (h 14 (by decide))
    exact Yk.fieldAt DM cf ⟨rfl,rfl⟩
   ·refine An (Aa rfl fun σ w1 hC h=> ?_)
    have hC:Ext f w1:=hC
    have cg:=Ab (h 15 (by decide))
    exact Yk.cell1 CT rfl cg (Ai (eb hC hmk) (show _=some (.map (some bm):Value)from rfl)) ⟨rfl,rfl⟩
   ·refine An (Aa rfl fun σ w1 hC h=> ?_)
    have hC:Ext f w1:=hC
    have e3:σ 3=PQ n2 0:=(Ab (h 3 (by decide))).trans rfl
    exact Yk.loadAll e3 (eb hC j) Ow rfl (by exact AM hid) ⟨rfl,rfl⟩
   ·refine An (Aa rfl fun σ w1 hC h=> ?_)
    have hC:Ext f w1:=hC
    have ci:=Ab (h 16 (by decide))
    have cj:=Ab (h 17 (by decide))
    exact Yk.lookOkN (ek:=rk) (ev:=Cl) (D:=(fun id:List UInt8=>id.length=32)) Cf Cg (fun _ _=>Cc) CT (z:=Cl In) FO ci cj (hmm.keep hC) hid hH ⟨rfl,rfl⟩
   ·refine An (Aa rfl fun σ w1 hC h=> ?_)
    have hC:Ext f w1:=hC
    have ck:=Ab (h 18 (by decide))
    exact Yk.move ck ⟨rfl,rfl⟩
   ·refine An (Aa rfl fun σ w1 hC h=> ?_)
    have hC:Ext f w1:=hC
    have bc:=Ab (h 12 (by decide))
    exact Yk.extract (vs:= [.agg ([(Value.slice none 0 0),NI 0]).toArray, .bool (false)]) bc (show _=some (.agg ([(Value.slice none 0 0),NI 0]).toArray:Value)from rfl) ⟨rfl,rfl⟩
   ·refine An (Aa rfl fun σ w1 hC h=> ?_)
    have hC:Ext f w1:=hC
    have bc:=Ab (h 12 (by decide))
    exact Yk.extract (vs:= [.agg ([(Value.slice none 0 0),NI 0]).toArray, .bool (false)]) bc (show _=some (.bool (false):Value)from rfl) ⟨rfl,rfl⟩
   ·refine An (Aa rfl fun σ w1 hC h=> ?_)
    have hC:w1=World.drew f:=hC
    subst hC
    exact Yk.allocX DL ⟨rfl,rfl,by simp⟩
   ·refine An (Aa rfl fun σ w1 hC h=> ?_)
    have e5:(fun x w' =>x=PQ f.heap.size 0∧f.heap.size<w'.heap.size) (σ 5) w1:=h 5 (by decide)
    have cl:=Ab (h 19 (by decide))
    rcases(show w1=World.drew f∨w1=(World.drew f).alloc (.cells ([(Value.slice none 0 0),NI 0]).toArray 81)from hC)with hC | hC
    ·subst hC;exact absurd e5.2 (Nat.lt_irrefl _)
    ·subst hC
     exact Yk.storeAll e5.1 cl (heap_alloc_new _ _) rfl (show(Tryd.prog.info? 81).map (·.size)=some 2 from BE) (Ck rfl) fun w2 h1 h2 h3=>⟨⟨h1,Ac ((Below.refl _ _).drew.alloc (Nat.le_refl _) _) h2 (Nat.le_refl _),by rw[h3];simp⟩,trivial⟩
   ·exact trivial
  intro dh a6 bw o fk he hf
  obtain⟨-,-,-,-,-,-,-,-,k20,k5,-⟩:=hf
  obtain⟨q,T1,T3,T4,-⟩:=he.hold [(0,_),(1,_),(3,PQ n2 0),(4,PQ an 0)] ⟨q,T1,rfl,rfl,trivial⟩ rfl
  clear he
  have hmk:=eb bw hmk
  have hme:=hme.keep bw
  have hmm:=hmm.keep bw
  have hE:=hE.trans bw
  have j:=eb bw j
  have l:=l.trans bw
  have i:=eb bw i
  have av:=av.trans bw
  obtain⟨cn,fl⟩:∃g,f.heap.size=g:=⟨_,rfl⟩
  have T5:dh 5=_:=(show(fun x w' =>x=PQ f.heap.size 0∧f.heap.size<w'.heap.size) (dh 5) a6 from k5).1
  rw[fl]at T5 o fk;clear k5
  have jg:cn<a6.heap.size:=by omega
  have bp:dh 20 = .bool (false):=k20
  clear k20
  refine oA rfl (oZ (tN (fi _ _ (sk fun jh fm=>(wt (oM rfl (oZ (tN (fm _ _ (Ar bp (Ah (tN (fh _ _ (sk fun ji fo=> ?_))))))))))))))
  have bk:=Ext.refl a6
  have jj:=hE
  have jk:=l
  have jl:=av
  have fp:=hE.size
  have fq:=l.size
  have fr:=av.size
  have jm:gm<a6.heap.size:=(bl hmk)
  have jn:be<a6.heap.size:=hme.lt
  have jo:bm<a6.heap.size:=hmm.lt
  have jp:n2<a6.heap.size:=(bl j)
  have jq:an<a6.heap.size:=(bl i)
  have jr:cn<a6.heap.size:=(bl o)
  refine Cr 7 [Is (PQ gm 0),Is (PQ gm 0),Is (PQ gm 0),Is (.map (some be)),Is (AB id),Is (.agg (entC ((M (id)).getD dEnt)).toArray),fun x w' =>∃g,x=PQ g 0∧w'.heap[g]? =some (.cells (entC dEnt).toArray 116 (0,0))∧a6.heap.size≤g] (by kernel_rfl) [23,24,25,26,27,28,7] (by kernel_rfl) (by kernel_rfl) (by kernel_rfl) (by kernel_rfl) rfl rfl (Gd ⟨(fun _ _ _ ⟨g,h1,h2,h3⟩ k=>⟨g,h1,eb k h2,h3⟩),trivial⟩) ?fs ?hQ5004
  case fs=>
   refine⟨?_,?_,?_,?_,?_,?_,?_,?_,trivial⟩
   ·refine An (Aa rfl fun σ w1 hC h=> ?_)
    have e0:=(Ab (h 0 (by decide))).trans q
    exact Yk.move e0 ⟨Ext.refl _,rfl⟩
   ·refine An (Aa rfl fun σ w1 hC h=> ?_)
    have cz:=Ab (h 23 (by decide))
    exact Yk.nilCheck cz ⟨Ext.refl _,rfl⟩
   ·refine An (Aa rfl fun σ w1 hC h=> ?_)
    have c0:=Ab (h 24 (by decide))
    exact Yk.fieldAt GL c0 ⟨Ext.refl _,rfl⟩
   ·refine An (Aa rfl fun σ w1 hC h=> ?_)
    have c1:=Ab (h 25 (by decide))
    exact Yk.cell1 H2 rfl c1 (Ai (eb hC hmk) (show _=some (.map (some be):Value)from rfl)) ⟨Ext.refl _,rfl⟩
   ·refine An (Aa rfl fun σ w1 hC h=> ?_)
    have e3:=(Ab (h 3 (by decide))).trans T3
    exact Yk.loadAll e3 (eb hC j) Ow rfl (by exact AM hid) ⟨Ext.refl _,rfl⟩
   ·refine An (Aa rfl fun σ w1 hC h=> ?_)
    have c2:=Ab (h 26 (by decide))
    have c3:=Ab (h 27 (by decide))
    exact Yk.lookD (ek:=rk) (ev:=BH) (D:=(fun id:List UInt8=>id.length=32)) (df:=dEnt) Cf Cg (fun _ _=>Cc) H2 C1 c2 c3 (hme.keep hC) hid ⟨Ext.refl _,rfl⟩
   ·refine An (Aa rfl fun σ w1 hC h=> ?_)
    exact Yk.alloc (cs:=(entC dEnt).toArray) F7 fun g w2 hn hb hx hs=>⟨hx,g,rfl,hb,Nat.le_trans (show Ext a6 w1 from hC).size (Nat.le_of_eq hn)⟩
   ·exact trivial
  intro di ft bn he hf
  obtain⟨-,-,-,-,-,k28,k7,-⟩:=hf
  obtain⟨q,T1,T3,T4,T5,T6,b4,-⟩:=he.hold [(0,_),(1,_),(3,_),(4,_),(5,_),(6,_),(21,_)] ⟨q,T1,T3,T4,T5,bp,bp,trivial⟩ rfl
  clear he
  have hmk:=eb bn hmk
  have hme:=hme.keep bn
  have hmm:=hmm.keep bn
  have hE:=hE.trans bn
  have j:=eb bn j
  have l:=l.trans bn
  have i:=eb bn i
  have av:=av.trans bn
  have o:=eb bn o
  have bk:=bk.trans bn
  have c5:di 28 = .agg (entC ((M (id)).getD dEnt)).toArray:=k28
  have k7:(fun x w' =>∃g,x=PQ g 0∧w'.heap[g]? =some (.cells (entC dEnt).toArray 116 (0,0))∧a6.heap.size≤g) (di 7) ft:=k7
  obtain⟨js,T7⟩:∃v,di 7=v:=⟨_,rfl⟩
  rw[T7]at k7
  have fu:=k7;clear k7
  obtain⟨b7,rfl,m,jt⟩:=fu
  have ju:=bl m
  clear k28
  refine oS rfl (Yk.storeAll T7 c5 m (BA (x:=(((M (id)).getD dEnt):Av)) (y:=(dEnt:Av)) (hMO.get (id)).2.1 (by simp[dEnt])) (Bx (x:=(((M (id)).getD dEnt):Av)) D2 (hMO.get (id)).2.1) (BD (x:=(((M (id)).getD dEnt):Av)) (RB.one (hMO.get (id)).1).2) fun dy dz bo jv=> ?_)
  have hmk:=kb bo hmk (by omega)
  have hme:=MapF.other hme bo (AL (by omega))
  have hmm:=MapF.other hmm bo (AL (by omega))
  have hE:=Ac hE bo (Nat.le_trans fp (by omega))
  have j:=kb bo j (by omega)
  have l:=Ac l bo (Nat.le_trans fq (by omega))
  have i:=kb bo i (by omega)
  have av:=Ac av bo (Nat.le_trans fr (by omega))
  have o:=kb bo o (by omega)
  have bk:=Ac bk bo (Nat.le_trans (Nat.le_refl _) (by omega))
  clear m
  have m:=dz;clear dz
  have jw:=bl m
  refine oZ (tN (fo _ _ (sk fun jx fv=>(wt (oS rfl (Yk.fieldAt GK T7 ?_))))))
  have hre188:RB dy (((M (id)).getD dEnt)).2 (AU M id).bytes:=(MOk.get (hMO.keep hE) id).1
  refine oS rfl (Yk.cell1 DT rfl (vr (PQ b7 34) rfl) (Ai m (JS (x:=(((M (id)).getD dEnt):Av)) (hMO.get (id)).2.1)) (oS rfl (Yk.build1 (vr ((((M (id)).getD dEnt)).2) rfl) (fun w=>GM (RB.slice hre188) w) (oS rfl (Yk.alloc (cs:=([(Value.slice none 0 0),NI 0]).toArray) DL fun bq fw b8 d0 a7 jy=> ?_)))))
  have cc:=Ext.refl dy
  have jz:=hE
  have j0:=l
  have j1:=av
  have j2:=bk
  have fx:=hE.size
  have fy:=l.size
  have fz:=av.size
  have f0:=bk.size
  have j3:=AT (bl hmk) b8
  have j4:=AT hme.lt b8
  have j5:=AT hmm.lt b8
  have j6:=AT (bl j) b8
  have j7:=AT (bl i) b8
  have j8:=AT (bl o) b8
  have j9:=AT (bl m) b8
  have hmk:=eb a7 hmk
  have hme:=hme.keep a7
  have hmm:=hmm.keep a7
  have hE:=hE.trans a7
  have j:=eb a7 j
  have l:=l.trans a7
  have i:=eb a7 i
  have av:=av.trans a7
  have o:=eb a7 o
  have bk:=bk.trans a7
  have m:=eb a7 m
  have cc:=cc.trans a7
  have p:=d0;clear d0
  have ka:bq<fw.heap.size:=by omega
  refine oS rfl (Yk.storeAll (vr (PQ bq 0) rfl) (vr (.agg ([(((M (id)).getD dEnt)).2,NI 0]).toArray) rfl) p rfl (show(Tryd.prog.info? 81).map (·.size)=some 2 from BE) (Ck (RB.one (hre188.keep cc)).2) fun d3 d4 a8 kc=> ?_)
  have hmk:=kb a8 hmk (by omega)
  have hme:=MapF.other hme a8 (AL (by omega))
  have hmm:=MapF.other hmm a8 (AL (by omega))
  have hE:=Ac hE a8 (Nat.le_trans fx (by omega))
  have j:=kb a8 j (by omega)
  have l:=Ac l a8 (Nat.le_trans fy (by omega))
  have i:=kb a8 i (by omega)
  have av:=Ac av a8 (Nat.le_trans fz (by omega))
  have o:=kb a8 o (by omega)
  have bk:=Ac bk a8 (Nat.le_trans f0 (by omega))
  have m:=kb a8 m (by omega)
  have cc:=Ac cc a8 (Nat.le_trans (Nat.le_refl _) (by omega))
  clear p
  have p:=d4;clear d4
  have kd:=bl p
  refine oZ (tN (fv _ _ (sk fun ke f1=>(sk fun kf f2=>(wt (oS rfl (Yk.fieldAt E6 T7 (oS rfl (Yk.cell1 Hu rfl (vr (PQ b7 1) rfl) (Ai m ((show(entC (((M (id)).getD dEnt)))[1]? =some (.bool true:Value)from congrArg (fun b=>some (Value.bool b)) hbx))) (oZ (tN (f2 _ _ (AE (vr (.bool (true)) rfl) (sk fun kg f3=>(wt (oM rfl (oS rfl (Yk.fieldAt JW T7 (oS rfl (Yk.loadPart (vr (PQ b7 2) rfl) (DS (x:=(((M (id)).getD dEnt):Av)) m) Ow rfl (by rw[Lib.byteCells_length,(hMO.get (id)).2.1];exact L9) (oP rfl (Yp.callA2 MV q (vr (AB ((((M (id)).getD dEnt)).1.base)) rfl) ?_))))))))))))))))))))))
  refine AG (ih d1 (by omega) d3 H ((M (id)).getD dEnt).1.base hmk hme hmm (hMO.keep hE) (hHO.keep hE) hne (MOk.get (hMO.keep hE) id).2.1 (by omega) na_ hdp1) ?_ ?_
  rotate_left
  ·
   rintro ch kh ⟨hno,rfl,hx⟩
   refine Af (Af (AK ?_))
   refine .inr ⟨_,rfl,?_,rfl,BX.put (hX.keep hE) hx.grown⟩
   rw[hcg,show BP (AU M) d (AU M id).base=none from by rw[hd1];exact hno];rfl
  rintro v_ a9 ⟨br,bb,kk,H1,rfl,d5,aw,hm227,hHO228,f4⟩
  have bg:=f4.grown
  have hm234:DK d3 bm:=(MapF.isMap hmm).noB8
  have hX:BX w.heap.size (some bm) w a9:=BX.put (hX.keep hE) bg
  have hmk:a9.heap[gm]? =some (.cells ([.map (some be), .map (some bm)]).toArray 120 (0,0)):=kb bg hmk (by omega)
  have hme:MapF rk BH (fun id:List UInt8=>id.length=32) a9 be M:=MapF.other hme bg (AL (by omega))
  clear hmm
  have hMO:MOk a9 M:=(hMO.keep hE).keepN hm234 bg
  have hHO:HOk a9 M H:=(hHO.keep hE).keepN hm234 bg
  have j:a9.heap[n2]? =some (.cells (Lib.byteCells id).toArray 38 (0,0)):=kb bg j (by omega)
  have i:a9.heap[an]? =some (.cells ([(Value.slice none 0 0),NI 0]).toArray 81 (0,0)):=kb bg i (by omega)
  have o:a9.heap[cn]? =some (.cells ([(Value.slice none 0 0),NI 0]).toArray 81 (0,0)):=kb bg o (by omega)
  have m:a9.heap[b7]? =some (.cells (entC (((M (id)).getD dEnt))).toArray 116 (0,0)):=kb bg m (by omega)
  have hre188:RB a9 (((M (id)).getD dEnt)).2 (AU M id).bytes:=(hre188.keep cc).keepN hm234 bg
  have p:a9.heap[bq]? =some (.cells ([(((M (id)).getD dEnt)).2,NI 0]).toArray 81 (0,0)):=kb bg p (by omega)
  have ab:=Ext.refl a9
  have ki:=hX.size
  have hcl:=F8 d5
  rw[show BP (AU M) d (AU M id).base=some (bb,kk)from by rw[hd1];exact d5]at hcg
  refine oS rfl (Yk.alloc (cs:=([(Value.slice none 0 0),NI 0]).toArray) DL fun bx f5 bz d6 bs kj=> ?_)
  have kl:=AT (bl hmk) bz
  have km:=AT hme.lt bz
  have kn:=AT (bl j) bz
  have ko:=AT (bl i) bz
  have kp:=AT (bl o) bz
  have kq:=AT (bl m) bz
  have kr:=AT (bl p) bz
  have ks:=AT hm227.lt bz
  have hmk:=eb bs hmk
  have hme:=hme.keep bs
  have j:=eb bs j
  have i:=eb bs i
  have o:=eb bs o
  have m:=eb bs m
  have p:=eb bs p
  have ab:=ab.trans bs
  have hm227:=hm227.keep bs
  have u:=d6;clear d6
  have kt:bx<f5.heap.size:=by omega
  refine oS rfl (Yk.storeAll (vr (PQ bx 0) rfl) (vr (.agg ([br,NI kk]).toArray) rfl) u rfl (show(Tryd.prog.info? 81).map (·.size)=some 2 from BE) (Ck (RB.one (aw.keep ab)).2) fun f6 d7 bt ku=> ?_)
  have hmk:=kb bt hmk (by omega)
  have hme:=MapF.other hme bt (AL (by omega))
  have j:=kb bt j (by omega)
  have i:=kb bt i (by omega)
  have o:=kb bt o (by omega)
  have m:=kb bt m (by omega)
  have p:=kb bt p (by omega)
  have ab:=Ac ab bt (Nat.le_trans (Nat.le_refl _) (by omega))
  have hm227:=MapF.other hm227 bt (AL (by omega))
  clear u
  have u:=d7;clear d7
  have kv:=bl u
  refine oZ (tN (f3 _ _ (sk fun kw f7=>(wt (oS rfl (Yk.fieldAt Fz (vr (PQ bx 0) rfl) (oS rfl (Yk.cell1 DT rfl (vr (PQ bx 0) rfl) (Ai u (show _=some (br:Value)from rfl)) (oS rfl (Yk.fieldAt GK T7 ?_))))))))))
  have hre259:RB f6 (((M (id)).getD dEnt)).2 (AU M id).bytes:=(MOk.get (hMO.keep ab) id).1
  refine oS rfl (Yk.cell1 DT rfl (vr (PQ b7 34) rfl) (Ai m (JS (x:=(((M (id)).getD dEnt):Av)) (hMO.get (id)).2.1)) (oS rfl (Yk.callA2 MW (vr br rfl) (vr ((((M (id)).getD dEnt)).2) rfl) ((MC _ br (((M (id)).getD dEnt)).2 bb (AU M id).bytes (aw.keep ab) hre259 (by omega) (by have:(AU M id).bytes.length≤1048576:=(MOk.get (hMO.keep ab) id).2.2;omega)).mono ?_))))
  rintro e kx ⟨s,rfl,ae,bh⟩
  refine⟨_,rfl,?_⟩
  have hmk:=eb bh hmk
  have hme:=hme.keep bh
  have j:=eb bh j
  have i:=eb bh i
  have o:=eb bh o
  have m:=eb bh m
  have p:=eb bh p
  have ab:=ab.trans bh
  have hm227:=hm227.keep bh
  have u:=eb bh u
  have hre259:=hre259.keep bh
  refine oM rfl (oS rfl (Yk.extract (vs:= [s,NI ((Bd bb (AU M id).bytes).2)]) (vr (.tuple #[s,NI ((Bd bb (AU M id).bytes).2)]) rfl) (show _=some (s:Value)from rfl) (oS rfl (Yk.extract (vs:= [s,NI ((Bd bb (AU M id).bytes).2)]) (vr (.tuple #[s,NI ((Bd bb (AU M id).bytes).2)]) rfl) (show _=some (NI ((Bd bb (AU M id).bytes).2):Value)from rfl) (oA rfl (oA rfl (oZ (tN (f7 _ _ (sk fun ky f8=>(wt (oM rfl (oS rfl (Yk.eqI (a:=((Bd bb (AU M id).bytes).2:Nat)) (b:=(0:Nat)) rfl rfl (Br _ _ _ _) (oP rfl (Yp.callA2 Fo (vr (.bool (decide (((Bd bb (AU M id).bytes).2:Nat)=(0)))) rfl) (vr (NI 6) rfl) ?_))))))))))))))))
  refine AG (Bc _ (decide (((Bd bb (AU M id).bytes).2:Nat)=(0))) 6) ?_ ?_
  rotate_left
  ·
   rintro ch kz ⟨rfl,hb,hx⟩
   refine Af (Af (AK ?_))
   have hno:=of_decide_eq_false hb
   refine .inr ⟨_,rfl,?_,rfl,(BX.keep (hX.keep ab) hx)⟩
   rw[hcg]
   exact if_neg hno
  rintro v_ cd ⟨rfl,f9,ba⟩
  have hmk:=eb ba hmk
  have hme:=hme.keep ba
  have j:=eb ba j
  have i:=eb ba i
  have o:=eb ba o
  have m:=eb ba m
  have p:=eb ba p
  have ab:=ab.trans ba
  have hm227:=hm227.keep ba
  have u:=eb ba u
  have hre259:=hre259.keep ba
  have ae:=ae.keep ba
  have ga:=of_decide_eq_true f9
  refine oZ ?_
  have hap:=ga
  refine tN (f8 _ _ (wt (oM rfl (oS rfl (Yk.fieldAt KF (vr (PQ bx 0) rfl) (oS rfl (Yk.cell1 NA rfl (vr (PQ bx 1) rfl) (Ai u (show _=some (NI kk:Value)from rfl)) (oS rfl (Yk.bin (xv:=NI kk) (yv:=NI 1) rfl rfl rfl (Ak _ _ _ (by omega)) (oS rfl (Yk.build2 (vr s rfl) (vr (NI ((kk)+(1))) rfl) (fun w=>Io (RB.slice ae) ((((kk)+(1):Nat):Int)) w) (oS rfl (Yk.storeAll (vr (PQ bq 0) rfl) (vr (.agg ([s,NI ((kk)+(1))]).toArray) rfl) p rfl (show(Tryd.prog.info? 81).map (·.size)=some 2 from BE) (Ck (RB.one ae).2) fun b0 d8 ap k0=> ?_)))))))))))))
  have hnb_:DK cd bq:=Hv p (RB.slice (hre188.keep ab))
  have hX:BX w.heap.size (some bm) w cd:=(hX.keep ab)
  have hMO:MOk cd M:=(hMO.keep ab)
  have hre188:RB cd (((M (id)).getD dEnt)).2 (AU M id).bytes:=(hre188.keep ab)
  have aw:RB cd br bb:=(aw.keep ab)
  have hHO228:HOk cd M H1:=(hHO228.keep ab)
  have hX:BX w.heap.size (some bm) w b0:=BX.set hX ap (by omega)
  have hmk:=kb ap hmk (by omega)
  have hme:=MapF.other hme ap (AL (by omega))
  have hMO:MOk b0 M:=hMO.keepN hnb_ ap
  have j:=kb ap j (by omega)
  have i:=kb ap i (by omega)
  have o:=kb ap o (by omega)
  have m:=kb ap m (by omega)
  have hre188:RB b0 (((M (id)).getD dEnt)).2 (AU M id).bytes:=hre188.keepN hnb_ ap
  clear p
  have aw:RB b0 br bb:=aw.keepN hnb_ ap
  have hm227:=MapF.other hm227 ap (AL (by omega))
  have hHO228:HOk b0 M H1:=hHO228.keepN hnb_ ap
  have u:=kb ap u (by omega)
  have hre259:RB b0 (((M (id)).getD dEnt)).2 (AU M id).bytes:=hre259.keepN hnb_ ap
  have ae:RB b0 s (Bd bb (AU M id).bytes).1:=ae.keepN hnb_ ap
  have p:=d8;clear d8
  have k1:=bl p
  have d9:=Ext.refl b0
  have k2:=hX.size
  refine oZ (tN (f1 _ _ (sk fun k3 gb=>(wt (oS rfl (Yk.fieldAt Fz (vr (PQ bq 0) rfl) (oS rfl (Yk.cell1 DT rfl (vr (PQ bq 0) rfl) (Ai p (show _=some (s:Value)from rfl)) (oS rfl (Yk.lenRB DT (RB.of ae (vr s rfl)) (oS rfl (Yk.eqI (a:=(((Bd bb (AU M id).bytes).1:List UInt8).length:Nat)) (b:=(262144:Nat)) rfl rfl (C5 _ _ _ _) (oP rfl (Yp.callA2 Fo (vr (.bool (decide ((((Bd bb (AU M id).bytes).1:List UInt8).length)≤(262144)))) rfl) (vr (NI 6) rfl) ?_))))))))))))))
  refine AG (Bc _ (decide ((((Bd bb (AU M id).bytes).1:List UInt8).length)≤(262144))) 6) ?_ ?_
  rotate_left
  ·
   rintro ch k4 ⟨rfl,hb,hx⟩
   refine Af (AK ?_)
   have hno:=of_decide_eq_false hb
   refine .inr ⟨_,rfl,?_,rfl,(BX.keep hX hx)⟩
   rw[hcg]
   exact(if_pos hap).trans (if_neg hno)
  rintro v_ dj ⟨rfl,gc,ah⟩
  have hX:BX w.heap.size (some bm) w dj:=(hX.keep ah)
  have hmk:=eb ah hmk
  have hme:=hme.keep ah
  have hMO:MOk dj M:=(hMO.keep ah)
  have j:=eb ah j
  have i:=eb ah i
  have o:=eb ah o
  have m:=eb ah m
  have hre188:=hre188.keep ah
  have aw:=aw.keep ah
  have hm227:=hm227.keep ah
  have hHO228:HOk dj M H1:=(hHO228.keep ah)
  have u:=eb ah u
  have hre259:=hre259.keep ah
  have ae:=ae.keep ah
  have p:=eb ah p
  have d9:=d9.trans ah
  have gd:=of_decide_eq_true gc
  refine AH [(0,PQ gm 0),(1,AB id),(3,PQ n2 0),(4,PQ an 0),(5,PQ cn 0),(6, .bool (false)),(7,PQ b7 0),(8,PQ bq 0),(9,PQ bx 0),(10,s),(11,NI ((Bd bb (AU M id).bytes).2)),(21, .bool (false)),(33, .bool (true))] ⟨q,T1,T3,T4,T5,T6,T7,rfl,rfl,rfl,rfl,b4,rfl,trivial⟩ fun k6 ⟨q,T1,T3,T4,T5,T6,T7,T8,T9,ec,ed,b4,db,_⟩=> ?_
  have hcf:BP (AU M) (d+1) id=some ((Bd bb (AU M id).bytes).1,kk+1):=hcg.trans ((if_pos hap).trans (if_pos gd))
  refine tN (gb _ _ (sk fun k8 ge=> ?_))
  refine Cr 6 [Is (PQ gm 0),Is (PQ gm 0),Is (PQ gm 1),Is (.map (some bm)),Is (AB id),Is (.agg ([s,NI ((kk)+(1))]).toArray)] (by kernel_rfl) [59,60,61,62,63,64] (by kernel_rfl) (by kernel_rfl) (by kernel_rfl) (by kernel_rfl) rfl rfl (Gd trivial) ?gf ?hQ6012
  case gf=>
   refine⟨?_,?_,?_,?_,?_,?_,?_,trivial⟩
   ·refine An (Aa rfl fun σ w1 hC h=> ?_)
    have e0:=(Ab (h 0 (by decide))).trans q
    exact Yk.move e0 ⟨Ext.refl _,rfl⟩
   ·refine An (Aa rfl fun σ w1 hC h=> ?_)
    have c7:=Ab (h 59 (by decide))
    exact Yk.nilCheck c7 ⟨Ext.refl _,rfl⟩
   ·refine An (Aa rfl fun σ w1 hC h=> ?_)
    have c8:=Ab (h 60 (by decide))
    exact Yk.fieldAt DM c8 ⟨Ext.refl _,rfl⟩
   ·refine An (Aa rfl fun σ w1 hC h=> ?_)
    have c9:=Ab (h 61 (by decide))
    exact Yk.cell1 CT rfl c9 (Ai (eb hC hmk) (show _=some (.map (some bm):Value)from rfl)) ⟨Ext.refl _,rfl⟩
   ·refine An (Aa rfl fun σ w1 hC h=> ?_)
    have e3:=(Ab (h 3 (by decide))).trans T3
    exact Yk.loadAll e3 (eb hC j) Ow rfl (by exact AM hid) ⟨Ext.refl _,rfl⟩
   ·refine An (Aa rfl fun σ w1 hC h=> ?_)
    have e8:=(Ab (h 8 (by decide))).trans T8
    exact Yk.loadAll e8 (eb hC p) (Dk).choose_spec rfl (show(Tryd.prog.info? 81).map (·.size)=some 2 from BE) ⟨Ext.refl _,rfl⟩
   ·exact trivial
  intro dk cr am he hf
  obtain⟨-,-,-,k62,k63,k64,-⟩:=hf
  obtain⟨q,T1,T3,T4,T5,T6,T7,T8,T9,ec,ed,b4,db,-⟩:=he.hold [(0,_),(1,_),(3,_),(4,_),(5,_),(6,_),(7,_),(8,_),(9,_),(10,_),(11,_),(21,_),(33,_)] ⟨q,T1,T3,T4,T5,T6,T7,T8,T9,ec,ed,b4,db,trivial⟩ rfl
  clear he
  have hX:BX w.heap.size (some bm) w cr:=(hX.keep am)
  have hmk:=eb am hmk
  have hme:=hme.keep am
  have hMO:MOk cr M:=(hMO.keep am)
  have j:=eb am j
  have i:=eb am i
  have o:=eb am o
  have m:=eb am m
  have hre188:=hre188.keep am
  have aw:=aw.keep am
  have hm227:=hm227.keep am
  have hHO228:HOk cr M H1:=(hHO228.keep am)
  have u:=eb am u
  have hre259:=hre259.keep am
  have ae:=ae.keep am
  have p:=eb am p
  have dc:dk 62 = .map (some bm):=k62
  have dd:dk 63=AB id:=k63
  have de:dk 64 = .agg ([s,NI ((kk)+(1))]).toArray:=k64
  clear k62 k63 k64
  refine oS rfl (Yk.putM (ek:=rk) (ev:=Cl) (D:=(fun id:List UInt8=>id.length=32)) (c:=((((Bd bb (AU M id).bytes).1,(kk)+(1)),s):Ch)) Cf Cg CT dc dd de hm227 hid fun ai dl aq k9=> ?_)
  have hP:=HOk.put hHO228 (id:=id) (x:=((((Bd bb (AU M id).bytes).1,(kk)+(1)),s):Ch)) ae hdp hcf
  have hm294:DK cr bm:=(MapF.isMap hm227).noB8
  have hX:BX w.heap.size (some bm) w ai:=BX.put hX aq
  have hmk:ai.heap[gm]? =some (.cells ([.map (some be), .map (some bm)]).toArray 120 (0,0)):=kb aq hmk (by omega)
  have hme:MapF rk BH (fun id:List UInt8=>id.length=32) ai be M:=MapF.other hme aq (AL (by omega))
  have hMO:MOk ai M:=hMO.keepN hm294 aq
  have j:ai.heap[n2]? =some (.cells (Lib.byteCells id).toArray 38 (0,0)):=kb aq j (by omega)
  have i:ai.heap[an]? =some (.cells ([(Value.slice none 0 0),NI 0]).toArray 81 (0,0)):=kb aq i (by omega)
  have o:ai.heap[cn]? =some (.cells ([(Value.slice none 0 0),NI 0]).toArray 81 (0,0)):=kb aq o (by omega)
  have m:ai.heap[b7]? =some (.cells (entC (((M (id)).getD dEnt))).toArray 116 (0,0)):=kb aq m (by omega)
  have hre188:RB ai (((M (id)).getD dEnt)).2 (AU M id).bytes:=hre188.keepN hm294 aq
  have aw:RB ai br bb:=aw.keepN hm294 aq
  clear hm227
  have u:ai.heap[bx]? =some (.cells ([br,NI kk]).toArray 81 (0,0)):=kb aq u (by omega)
  have hre259:RB ai (((M (id)).getD dEnt)).2 (AU M id).bytes:=hre259.keepN hm294 aq
  have ae:RB ai s (Bd bb (AU M id).bytes).1:=ae.keepN hm294 aq
  have p:ai.heap[bq]? =some (.cells ([s,NI ((kk)+(1))]).toArray 81 (0,0)):=kb aq p (by omega)
  have hP:HOk ai M (updM H1 (id) (some (((((Bd bb (AU M id).bytes).1,(kk)+(1)),s):Ch)))):=hP.keepN hm294 aq
  have la:=Ext.refl ai
  have lb:=hX.size
  refine oZ (tN (ge _ _ (sk fun lc gg=>(wt (oS rfl (Yk.loadAll T8 p (Dk).choose_spec rfl (show(Tryd.prog.info? 81).map (·.size)=some 2 from BE) (oS rfl (Yk.storeAll T4 (vr (.agg ([s,NI ((kk)+(1))]).toArray) rfl) i rfl (show(Tryd.prog.info? 81).map (·.size)=some 2 from BE) (Ck (RB.one ae).2) fun b1 ee ar ld=> ?_))))))))
  have hnb_:DK ai an:=Hv i ⟨_,_,_,rfl⟩
  have hX:BX w.heap.size (some bm) w b1:=BX.set hX ar (by omega)
  have hmk:=kb ar hmk (by omega)
  have hme:=MapF.other hme ar (AL (by omega))
  have hMO:MOk b1 M:=hMO.keepN hnb_ ar
  have j:=kb ar j (by omega)
  clear i
  have o:=kb ar o (by omega)
  have m:=kb ar m (by omega)
  have hre188:RB b1 (((M (id)).getD dEnt)).2 (AU M id).bytes:=hre188.keepN hnb_ ar
  have aw:RB b1 br bb:=aw.keepN hnb_ ar
  have u:=kb ar u (by omega)
  have hre259:RB b1 (((M (id)).getD dEnt)).2 (AU M id).bytes:=hre259.keepN hnb_ ar
  have ae:RB b1 s (Bd bb (AU M id).bytes).1:=ae.keepN hnb_ ar
  have p:=kb ar p (by omega)
  have hP:HOk b1 M (updM H1 (id) (some (((((Bd bb (AU M id).bytes).1,(kk)+(1)),s):Ch)))):=hP.keepN hnb_ ar
  have dl:=MapF.other dl ar (AL (by omega))
  have i:=ee;clear ee
  have le:=bl i
  have lf:=Ext.refl b1
  have lg:=hX.size
  refine oZ (tN (gg _ _ (As (Ca (fn:=Tryd.f68) _ rfl [.agg ([s,NI ((kk)+(1))]).toArray] (.agg ([s,NI ((kk)+(1))]).toArray) rfl ⟨ResF.row T4 i (Dk).choose_spec rfl ((show(Tryd.prog.info? 81).map (·.size)=some 2 from BE)),trivial⟩ ?_))))
  exact .inl ⟨_,rfl,_,_,_,_,rfl,hcf,ae,dl,hP,hX⟩
 obtain⟨hxr,nb_,d2,gh,ef⟩:=hHO id x hH
 have hdd:=JZ hdp gh
 rw[←hdd]at ef
 refine tN (cv _ _ (sk fun lh li=>(sk fun lj gi=> ?_)))
 have dm:=Ext.refl f
 have lk:=hE
 have ll:=l
 have lm:=hE.size
 have ln:=l.size
 have lo:gm<f.heap.size:=(bl hmk)
 have lp:be<f.heap.size:=hme.lt
 have lq:bm<f.heap.size:=hmm.lt
 have lr:n2<f.heap.size:=(bl j)
 have ls:an<f.heap.size:=(bl i)
 refine DI 9 10 11 81 ([(Value.slice none 0 0),NI 0]).toArray ([x.2,NI x.1.2]).toArray [Is (PQ gm 0),Is (PQ gm 0),Is (PQ gm 1),Is (.map (some bm)),Is (AB id),Is (.tuple #[.agg ([x.2,NI x.1.2]).toArray, .bool (true)]),Is (.tuple #[.agg ([x.2,NI x.1.2]).toArray, .bool (true)]),Is (.agg ([x.2,NI x.1.2]).toArray),Is (.bool (true)),fun x w' =>x=PQ f.heap.size 0∧f.heap.size<w'.heap.size,(fun _ _=>True)] (by kernel_rfl) [13,14,15,16,17,18,12,19,20,5,6] (by kernel_rfl) (by kernel_rfl) (by kernel_rfl) (by kernel_rfl) rfl rfl (by kernel_rfl) rfl rfl rfl rfl rfl (FF ⟨(fun _ _ _ h k=>k.elim (fun e=>e▸h) (fun e=>⟨h.1,e⟩)),Stab.any,trivial⟩) ?gj ?hQ7001
 case gj=>
  refine⟨?_,?_,?_,?_,?_,?_,?_,?_,?_,?_,?_,?_,trivial⟩
  ·refine An (Aa rfl fun σ w1 hC h=> ?_)
   have hC:Ext f w1:=hC
   have e0:=(Ab (h 0 (by decide))).trans q
   exact Yk.move e0 ⟨rfl,rfl⟩
  ·refine An (Aa rfl fun σ w1 hC h=> ?_)
   have hC:Ext f w1:=hC
   have ce:=Ab (h 13 (by decide))
   exact Yk.nilCheck ce ⟨rfl,rfl⟩
  ·refine An (Aa rfl fun σ w1 hC h=> ?_)
   have hC:Ext f w1:=hC
   have cf:=Ab (h 14 (by decide))
   exact Yk.fieldAt DM cf ⟨rfl,rfl⟩
  ·refine An (Aa rfl fun σ w1 hC h=> ?_)
   have hC:Ext f w1:=hC
   have cg:=Ab (h 15 (by decide))
   exact Yk.cell1 CT rfl cg (Ai (eb hC hmk) (show _=some (.map (some bm):Value)from rfl)) ⟨rfl,rfl⟩
  ·refine An (Aa rfl fun σ w1 hC h=> ?_)
   have hC:Ext f w1:=hC
   have e3:σ 3=PQ n2 0:=(Ab (h 3 (by decide))).trans rfl
   exact Yk.loadAll e3 (eb hC j) Ow rfl (by exact AM hid) ⟨rfl,rfl⟩
  ·refine An (Aa rfl fun σ w1 hC h=> ?_)
   have hC:Ext f w1:=hC
   have ci:=Ab (h 16 (by decide))
   have cj:=Ab (h 17 (by decide))
   exact Yk.lookOkS (ek:=rk) (ev:=Cl) (D:=(fun id:List UInt8=>id.length=32)) Cf Cg (fun _ _=>Cc) CT (z:=Cl In) FO ci cj (hmm.keep hC) hid hH ⟨rfl,rfl⟩
  ·refine An (Aa rfl fun σ w1 hC h=> ?_)
   have hC:Ext f w1:=hC
   have ck:=Ab (h 18 (by decide))
   exact Yk.move ck ⟨rfl,rfl⟩
  ·refine An (Aa rfl fun σ w1 hC h=> ?_)
   have hC:Ext f w1:=hC
   have bc:=Ab (h 12 (by decide))
   exact Yk.extract (vs:= [.agg ([x.2,NI x.1.2]).toArray, .bool (true)]) bc (show _=some (.agg ([x.2,NI x.1.2]).toArray:Value)from rfl) ⟨rfl,rfl⟩
  ·refine An (Aa rfl fun σ w1 hC h=> ?_)
   have hC:Ext f w1:=hC
   have bc:=Ab (h 12 (by decide))
   exact Yk.extract (vs:= [.agg ([x.2,NI x.1.2]).toArray, .bool (true)]) bc (show _=some (.bool (true):Value)from rfl) ⟨rfl,rfl⟩
  ·refine An (Aa rfl fun σ w1 hC h=> ?_)
   have hC:w1=World.drew f:=hC
   subst hC
   exact Yk.allocX DL ⟨rfl,rfl,by simp⟩
  ·refine An (Aa rfl fun σ w1 hC h=> ?_)
   have e5:(fun x w' =>x=PQ f.heap.size 0∧f.heap.size<w'.heap.size) (σ 5) w1:=h 5 (by decide)
   have cl:=Ab (h 19 (by decide))
   rcases(show w1=World.drew f∨w1=(World.drew f).alloc (.cells ([(Value.slice none 0 0),NI 0]).toArray 81)from hC)with hC | hC
   ·subst hC;exact absurd e5.2 (Nat.lt_irrefl _)
   ·subst hC
    exact Yk.storeAll e5.1 cl (heap_alloc_new _ _) rfl (show(Tryd.prog.info? 81).map (·.size)=some 2 from BE) (Ck (RB.one hxr).2) fun w2 h1 h2 h3=>⟨⟨h1,Ac ((Below.refl _ _).drew.alloc (Nat.le_refl _) _) h2 (Nat.le_refl _),by rw[h3];simp⟩,trivial⟩
  ·exact trivial
 intro dn eg b2 ct gk he hf
 obtain⟨-,-,-,-,-,-,-,-,k20,k5,-⟩:=hf
 obtain⟨q,T1,T3,T4,-⟩:=he.hold [(0,_),(1,_),(3,PQ n2 0),(4,PQ an 0)] ⟨q,T1,rfl,rfl,trivial⟩ rfl
 clear he
 have hmk:=eb b2 hmk
 have hme:=hme.keep b2
 have hmm:=hmm.keep b2
 have hE:=hE.trans b2
 have j:=eb b2 j
 have l:=l.trans b2
 have i:=eb b2 i
 have dm:=dm.trans b2
 obtain⟨gl,gn⟩:∃g,f.heap.size=g:=⟨_,rfl⟩
 have T5:dn 5=_:=(show(fun x w' =>x=PQ f.heap.size 0∧f.heap.size<w'.heap.size) (dn 5) eg from k5).1
 rw[gn]at T5 ct gk;clear k5
 have lu:gl<eg.heap.size:=by omega
 have bp:dn 20 = .bool (true):=k20
 clear k20
 refine oA rfl (oZ (tN (gi _ _ (sk fun lv go=>(wt (oM rfl (oZ (tN (go _ _ (AE bp (sk fun lw gp=>(wt (oS rfl (Yk.loadAll T5 ct (Dk).choose_spec rfl (show(Tryd.prog.info? 81).map (·.size)=some 2 from BE) (oS rfl (Yk.storeAll T4 (vr (.agg ([x.2,NI x.1.2]).toArray) rfl) i rfl (show(Tryd.prog.info? 81).map (·.size)=some 2 from BE) (Ck (RB.one (hxr.keep hE)).2) fun lx eh b9 ly=> ?_))))))))))))))))
 have hmk:=kb b9 hmk (by omega)
 have hme:=MapF.other hme b9 (AL (by omega))
 have hmm:=MapF.other hmm b9 (AL (by omega))
 have hE:=Ac hE b9 (Nat.le_trans ei (by omega))
 have j:=kb b9 j (by omega)
 have l:=Ac l b9 (Nat.le_trans (Nat.le_refl _) (by omega))
 clear i
 clear dm
 have ct:=kb b9 ct (by omega)
 have i:=eh;clear eh
 have lz:=bl i
 refine oZ (tN (gp _ _ (As (Am (Ca (fn:=Tryd.f68) _ rfl [.agg ([x.2,NI x.1.2]).toArray] (.agg ([x.2,NI x.1.2]).toArray) rfl ⟨ResF.row T4 i (Dk).choose_spec rfl ((show(Tryd.prog.info? 81).map (·.size)=some 2 from BE)),trivial⟩ ?_)))))
 exact .inl ⟨_,rfl,_,_,_,H,rfl,ef,(hxr.keep hE),hmm,(hHO.keep hE),(hX.keep hE)⟩

theorem MX(gm be bm:Nat)(M:Bs→Option Av):∀(d:Nat) (w:World) (H:Bs→Option Ch) (id:Bs) (hmk:w.heap[gm]? =some (.cells ([.map (some be), .map (some bm)]).toArray 120 (0,0))) (hme:MapF rk BH (fun id:List UInt8=>id.length=32) w be M) (hmm:MapF rk Cl (fun id:List UInt8=>id.length=32) w bm H) (hMO:MOk w M) (hHO:HOk w M H) (hne:be≠bm) (hid:id.length=32) (hd50:d≤50) (a:Nat) (hdp:Bp (AU M) a (AU M id)=some d),Calls Tryd.prog 68 #[PQ gm 0,AB id] w fun r w' =>(∃x,r = .returned x∧∃v b k H',x = .agg ([v,NI k]).toArray∧BP (AU M) (d+1) id=some (b,k)∧RB w' v b∧MapF rk Cl (fun id:List UInt8=>id.length=32) w' bm H' ∧HOk w' M H' ∧BX w.heap.size (some bm) w w')∨∃ch,r = .panicked ch∧BP (AU M) (d+1) id=none∧ch= [CF 6]∧BX w.heap.size (some bm) w w' :=by
 intro d
 induction d using Nat.strongRecOn with
 | _ d ih=>exact LP gm be bm M d ih
open Go.RowKit
def OOk(w:World)(O:Bs→Option Ch):Prop:=∀id x,O id=some x→RB w x.2 x.1.1
theorem OOk.keep{w w' :World}{O:Bs→Option Ch}(h:OOk w O)(k:Ext w w'):OOk w' O:=fun a c hc=>(h a c hc).keep k
theorem OOk.keepN{w w' :World}{b:Nat}{O:Bs→Option Ch}(h:OOk w O)(hm:DK w b)(hg:w.grownBy w' (some b)):OOk w' O:=fun a c hc=>(h a c hc).keepN hm hg
theorem OOk.nil(w:World):OOk w (fun _=>none):=fun _ _ h=>by cases h
theorem OOk.put{w:World}{O:Bs→Option Ch}(h:OOk w O){id:Bs}{x:Ch}(h1:RB w x.2 x.1.1):OOk w (updM O id (some x)):=fun a c hc=>by
  unfold updM at hc
  split at hc
  · cases hc;exact h1
  · exact h a c hc
theorem entOne_len{b:Bs}{fin pos:Nat}{e:Ent}{n:Nat}(h:entOne b fin pos=some (e,n))(hf:fin≤b.length):e.bytes.length≤b.length:=by
  unfold entOne at h
  split at h
  · split at h
    · split at h
      · cases h
      · cases ht:BY b (pos+33) fin with
        | none=>rw[ht]at h;cases h
        | some x=>rw[ht]at h;cases h;exact Fp (s:=x.1) (n:=x.2) ht hf
    · cases ht:BY b (pos+1) fin with
      | none=>rw[ht]at h;cases h
      | some x=>rw[ht]at h;cases h;exact Fp (s:=x.1) (n:=x.2) ht hf
  · cases h
theorem IS{b:Bs}{fin first:Nat}(hf:fin≤b.length):∀(n:Nat) (es:List Ent) (p:Nat),CZ b fin first n=some (es,p)→es.length=n∧∀x∈es,x.bytes.length≤b.length
  | 0,es,p,h=>by cases h;exact⟨rfl,fun x hx=>by cases hx⟩
  | n+1,es,p,h=>by
    cases h1:CZ b fin first n with
    | none=>rw[Dq h1 1]at h;cases h
    | some x=>
      rw[F5 (es:=x.1) (p:=x.2) h1]at h
      have ih:=IS hf n x.1 x.2 h1
      cases h2:entOne b fin x.2 with
      | none=>rw[h2]at h;cases h
      | some y=>
        rw[h2]at h
        cases h
        refine⟨by rw[List.length_append,ih.1];rfl,fun z hz=> ?_⟩
        rcases List.mem_append.1 hz with hz | hz
        · exact ih.2 z hz
        · rw[List.mem_singleton.1 hz];exact entOne_len (e:=y.1) (n:=y.2) h2 hf
theorem J1{b:Bs}{n first fin:Nat}{es:List Ent}(h:Cq b n first fin=some es)(hf:fin≤b.length):es.length=n∧∀x∈es,x.bytes.length≤b.length:=by
  unfold Cq at h
  cases h1:CZ b fin first n with
  | none=>rw[h1]at h;cases h
  | some x=>
    rw[h1]at h
    have h2:(if x.2=fin then some x.1 else none)=some es:=h
    split at h2
    · cases h2;exact IS hf n x.1 x.2 h1
    · cases h2
def IxS.plain(s:IxS Av):IxS Ent:=⟨s.ids,fun k=>(s.G k).map Prod.fst,fun k=>(s.M k).map Prod.fst⟩
theorem F9{α β γ:Type}[DecidableEq α](G:α→Option β)(a:α)(y:Option β)(f:β→γ):(fun k=>(updM G a y k).map f)=updM (fun k=>(G k).map f) a (y.map f):=by
  funext k
  unfold updM
  split <;> rfl
theorem placeGo_map(es:List Av):∀i,(fun k=>(DB (fun x:Av=>x.1.pos) dEnt es i k).map Prod.fst)=DB Ent.pos dEnt.1 (es.map Prod.fst) i
  | 0=>rfl
  | i+1=>by
    unfold DB
    rw[F9,placeGo_map es i]
    have e:(es.map Prod.fst).getD i dEnt.1=(es.getD i dEnt).1:=by
      rw[List.getD_eq_getElem?_getD,List.getD_eq_getElem?_getD,List.getElem?_map]
      cases es[i]? <;> rfl
    rw[e]
    rfl
theorem EP(t:Bs)(es:List Av):∀i,Dh Ent.pos dEnt.1 t (es.map Prod.fst) i=(Dh (fun x:Av=>x.1.pos) dEnt t es i).map IxS.plain
  | 0=>by
    unfold Dh
    rw[List.length_map,←placeGo_map]
    rfl
  | i+1=>by
    cases h:Dh (fun x:Av=>x.1.pos) dEnt t es i with
    | none=>
      have h' :Dh Ent.pos dEnt.1 t (es.map Prod.fst) i=none:=by rw[EP t es i,h];rfl
      rw[Eh h 1,Eh h' 1]
      rfl
    | some s=>
      have h' :Dh Ent.pos dEnt.1 t (es.map Prod.fst) i=some s.plain:=by rw[EP t es i,h];rfl
      rw[EE h,EE h']
      cases hG:s.G (De t i)with
      | none=>
        have hG' :s.plain.G (De t i)=none:=by show(s.G (De t i)).map Prod.fst=none;rw[hG];rfl
        unfold C9
        rw[hG,hG']
        rfl
      | some c=>
        have hG' :s.plain.G (De t i)=some c.1:=by show(s.G (De t i)).map Prod.fst=some c.1;rw[hG];rfl
        unfold C9
        rw[hG,hG']
        by_cases hc:i=0∨Lib.compareBytes (s.ids.getD (i-1) []) (Bi t i)<0
        · simp only[if_pos hc,if_pos (show i=0∨Lib.compareBytes (s.plain.ids.getD (i-1) []) (Bi t i)<0 from hc)]
          show some (Dv Ent.pos t i s.plain c.1)=some (Dv _ t i s c).plain
          unfold Dv IxS.plain
          dsimp only
          rw[F9,F9]
          rfl
        · simp only[if_neg hc,if_neg (show ¬(i=0∨Lib.compareBytes (s.plain.ids.getD (i-1) []) (Bi t i)<0)from hc)]
          rfl
def H3(M:Bs→Option Ent)(k:Bs):Ent:=(M k).getD dEnt.1
theorem Hf(s:IxS Av):AU s.M=H3 s.plain.M:=by
  funext k
  show((s.M k).getD dEnt).1=((s.M k).map Prod.fst).getD dEnt.1
  cases s.M k <;> rfl
structure H4 where
  total:Nat
  O:Bs→Option (Bs × Nat)
def DC(E:Bs→Ent)(id:Bs)(s:H4):Except Nat H4:=
  match Bp E 50 (E id)with
  | none=> .error 17
  | some d=>match BP E (d+1) id with
    | none=> .error 6
    | some x=>if Sha.sum x.1=id then(if s.total+x.1.length≤4194304 then .ok ⟨s.total+x.1.length,updM s.O id (some (x.1,d))⟩else .error 2)else .error 18
def D8(E:Bs→Ent)(ids:List Bs):Nat→Except Nat H4
  | 0=> .ok ⟨0,fun _=>none⟩
  | i+1=>match D8 E ids i with
    | .error e=> .error e
    | .ok s=>DC E (ids.getD i []) s
theorem LQ{E:Bs→Ent}{id:Bs}{s:H4}(h:Bp E 50 (E id)=none):DC E id s = .error 17:=by unfold DC;rw[h]
theorem MY{E:Bs→Ent}{id:Bs}{s:H4}{d:Nat}(h:Bp E 50 (E id)=some d)(h2:BP E (d+1) id=none):DC E id s = .error 6:=by
  unfold DC
  rw[h]
  dsimp only
  rw[h2]
theorem EQ{E:Bs→Ent}{id:Bs}{s:H4}{d:Nat}{b:Bs}{k:Nat}(h:Bp E 50 (E id)=some d)(h2:BP E (d+1) id=some (b,k)):DC E id s=if Sha.sum b=id then(if s.total+b.length≤4194304 then .ok ⟨s.total+b.length,updM s.O id (some (b,d))⟩else .error 2)else .error 18:=by
  unfold DC
  rw[h]
  dsimp only
  rw[h2]
theorem Ga{E:Bs→Ent}{ids:List Bs}{i:Nat}{s:H4}(h:D8 E ids i = .ok s):D8 E ids (i+1)=DC E (ids.getD i []) s:=by
  show(match D8 E ids i with | .error e=>_ | .ok s=>_)=_
  rw[h]
theorem IT{E:Bs→Ent}{ids:List Bs}{i:Nat}{e:Nat}(h:D8 E ids i = .error e):∀k,D8 E ids (i+k) = .error e
  | 0=>h
  | k+1=>by
    show(match D8 E ids (i+k)with | .error e=>_ | .ok s=>_)=_
    rw[IT h k]
abbrev Cv:=List Bs ×(Bs→Option (Bs × Nat))
def G3(E:Bs→Ent)(ids:List Bs):Except Nat Cv:=
  match D8 E ids ids.length with
  | .error e=> .error e
  | .ok o=> .ok (ids,o.O)
theorem J2{E:Bs→Ent}{ids:List Bs}{o:H4}(h:D8 E ids ids.length = .ok o):G3 E ids = .ok (ids,o.O):=by unfold G3;rw[h]
def H5(es:List Ent)(M:Bs→Option Ent):Bool:=es.all fun e=> !e.based||(M e.base).isSome
def NZ(b:Bs)(f:Nat)(ids:List Bs):Bool:=(List.range 256).all fun i=>DD (b.drop (f+4*i))==(AY ids).getD i 0
def Jl(b:Bs)(f:Nat)(es:List Ent)(s:IxS Ent):Except Nat Cv:=if NZ b f s.ids=true then(if H5 es s.M=true then G3 (H3 s.M) s.ids else .error 6)else .error 6
def G4(b:Bs)(f:Nat)(es:List Ent):Except Nat Cv:=
  match Dh Ent.pos dEnt.1 ((b.drop (f+1024)).take (b.length-36-(f+1024))) es es.length with
  | none=> .error 6
  | some s=>Jl b f es s
def H6(b:Bs)(n first f:Nat):Except Nat Cv:=
  match Cq b n first f with
  | none=> .error 6
  | some es=>G4 b f es
def Jm(b:Bs)(f n first:Nat):Except Nat Cv:=
  if b.getD 0 0=80∧first≤f∧f≤b.length-36∧n≤b.length-36 then(if b.length-36-f=1024+36*n then H6 b n first f else .error 6)else .error 6
def CM(b:Bs):Except Nat Cv:=
  match Bk 0 (b.drop 1)with
  | none=> .error 6
  | some x=>Jm b (DD (b.drop (b.length-36))) x.1 (1+x.2)
theorem ON{b:Bs}{f:Nat}{ids:List Bs}(h:NZ b f ids=true){i:Nat}(hi:i<256):DD (b.drop (f+4*i))=(AY ids).getD i 0:=by
  have:=List.all_eq_true.1 h i (by simpa using hi)
  exact beq_iff_eq.1 this
theorem fanB_of{b:Bs}{f:Nat}{ids:List Bs}(h:∀i,i<256→DD (b.drop (f+4*i))=(AY ids).getD i 0):NZ b f ids=true:=
  List.all_eq_true.2 fun i hi=>by rw[beq_iff_eq];exact h i (by simpa using hi)
theorem MZ{es:List Av}{M:Bs→Option Av}(h:H5 (es.map Prod.fst) (fun k=>(M k).map Prod.fst)=true){q:Nat}(hq:q<es.length):(es.getD q dEnt).1.based=true→M (es.getD q dEnt).1.base≠none:=fun hb hn=>by
  have h1:=List.all_eq_true.1 h (es.getD q dEnt).1 (List.mem_map.2 ⟨_,A6 dEnt hq,rfl⟩)
  dsimp only at h1
  rw[hb,hn]at h1
  cases h1
theorem M0{es:List Av}{M:Bs→Option Av}(h:∀q,q<es.length→(es.getD q dEnt).1.based=true→M (es.getD q dEnt).1.base≠none):H5 (es.map Prod.fst) (fun k=>(M k).map Prod.fst)=true:=
  List.all_eq_true.2 fun e he=>by
    obtain⟨x,hx,rfl⟩:=List.mem_map.1 he
    obtain⟨q,hq,rfl⟩:=List.getElem_of_mem hx
    have h1:=h q hq
    rw[show es.getD q dEnt=es[q] by rw[List.getD_eq_getElem?_getD,List.getElem?_eq_getElem hq];rfl]at h1
    cases hb:(es[q]).1.based with
    | false=>rfl
    | true=>
      cases hm:M (es[q]).1.base with
      | none=>exact absurd hm (h1 hb)
      | some c=>dsimp only;rw[hm];rfl
theorem H7{E:Bs→Ent}:∀ {n:Nat} {e:Ent} {d:Nat},Bp E n e=some d→d≤n
  | 0,e,d,h=>by
    cases hb:e.based with
    | false=>rw[DJ hb]at h;cases h;exact Nat.le_refl _
    | true=>rw[En hb]at h;cases h
  | n+1,e,d,h=>by
    cases hb:e.based with
    | false=>rw[DJ hb]at h;cases h;exact Nat.zero_le _
    | true=>
      rw[Di hb]at h
      cases h1:Bp E n (E e.base)with
      | none=>rw[h1]at h;cases h
      | some d1=>rw[h1]at h;cases h;exact Nat.succ_le_succ (H7 h1)
theorem MOk.of{w:World}{t:Bs}{es:List Av}{s:IxS Av}{i n:Nat}(h:EntsOk w es)(hI:O6 t es i s)(hb:∀x∈es.map Prod.fst,x.bytes.length≤n)(hn:n≤1048576):MOk w s.M:=fun k c hc=>
  have hm:=hI.M k c hc
  ⟨(h c hm).1,(h c hm).2,Nat.le_trans (hb c.1 (List.mem_map.2 ⟨c,hm,rfl⟩)) hn⟩
end Go.Proofs.YtcegdjpdnlaleaaDoor
