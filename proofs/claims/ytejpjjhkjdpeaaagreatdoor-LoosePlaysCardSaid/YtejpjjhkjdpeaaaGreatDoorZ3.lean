/- Part 3 of what stands behind these statements: laws and walks of the functions that are reached. Conditions: those that each theorem names. -/
import Derived.Test.YtejpjjhkjdpeaaaGreatDoorZ2
set_option linter.unusedVariables false
set_option linter.unusedSimpArgs false
namespace Go.Proofs.YtejpjjhkjdpeaaaGreatDoor
open Go.RowKit
set_option maxRecDepth 100000
set_option linter.unusedVariables false
set_option linter.unusedSimpArgs false
structure Co (D : An) : Prop where
  quota:D.quota≤1073741824
  used:usedD D<4611686018427387904
  refused:D.refused<4611686018427387904
  arm:D.arm<9223372036854775808
  acts:D.acts.length<1099511627776
  now:D.now.length<1099511627776
  kept:D.kept.length+D.acts.length<1099511627776
  files:∀x∈D.files,x.1.length<1099511627776
theorem Pm(D:An)(s t:List UInt8):readyL D [t,s]=A6 D s t:=by
  unfold readyL A6
  by_cases h:D.down=true
  · rw[if_pos h,if_pos h]
  · rw[if_neg h,if_neg h]
    simp only[List.all_cons,List.all_nil,Bool.and_true,Bool.and_eq_true]
    by_cases h1:Bu s=true <;> by_cases h2:Bu t=true <;> simp[h1,h2]
theorem EH(D:An)(s:List UInt8):readyL D [s]=A6 D s s:=by
  rw[←Pm]
  unfold readyL
  simp
theorem Rd(w0 w:World)(c:Ext w0 w)(H:Dk)(D:An)(hS:DkS w0.heap.size w H D)(bd bn bb:Nat)(s b:List UInt8)(vb:Value)(hbd:w.heap[bd]? =some (.cells ([PQ H.g 0]).toArray 24 (0,0)))(hbn:w.heap[bn]? =some (.cells ([St s]).toArray 9 (0,0)))(hbb:w.heap[bb]? =some (.cells ([vb]).toArray 35 (0,0))) 
    (hrb:RB w vb b) (hoff:b= []∨∀i,vb.ownBlock=some i→¬A1 H D.files.length i) (hs:Bu s=true) (hbl:b.length<1099511627776) (hfs:∀x∈D.files,x.1.length<1099511627776) (hn:D.acts.length<1099511627776):
    ∀w1 D1,DkT w0.heap.size w H D w1 H D1→D1=(Bh D).1→Calls Tryz.prog 55 #[PQ bd 0,PQ bn 0,PQ bb 0] w1 fun e w' =>e = .returned (.tuple #[])∧∃H',DkT w0.heap.size w1 H D1 w' H' (BN D1 s b):=by
  intro w1 D1 hT hD1
  have hf:=Fq D
  rw[←hD1]at hf
  have a:Ext w0 w1:=Chg.ext c hT.chg (fun i q=>(hS.foot q).2.2)
  have h1:=DkT.box hT hS hbd (by decide) (by decide) (by decide) (by decide)
  have h2:=DkT.box hT hS hbn (by decide) (by decide) (by decide) (by decide)
  have h3:=DkT.box hT hS hbb (by decide) (by decide) (by decide) (by decide)
  have h4:=hrb.chg hT.chg hoff
  have h5:b= []∨∀i,vb.ownBlock=some i→¬A1 H D1.files.length i:=by rw[hf.1];exact hoff
  cases hlk:AD D1.now s with
  | none=>exact(SP w0 w1 a H D1 hT.st bd bn bb s b vb h1 h2 h3 h4 h5 hs hbl (by rw[hf.1];exact hfs) (by rw[hf.2.2.2.1];exact hn) hlk).mono fun e w' ⟨H',q1,q2⟩=>⟨q1,H',q2⟩
  | some k=>exact(SO w0 w1 a H D1 hT.st bd bn bb s b vb h1 h2 h3 h4 h5 hs hbl (by rw[hf.1];exact hfs) (by rw[hf.2.2.2.1];exact hn) k hlk).mono fun e w' ⟨H',q1,q2⟩=>⟨q1,H',q2⟩
theorem Ff(D:An)(s:List UInt8):C8 D s s=DH D [] s:=by
  unfold C8 DH
  rw[List.nil_append,EH] <;>
  (by_cases h:A6 D s s≠0
   · rw[if_pos h,if_pos h]
   · rw[if_neg h,if_neg h] <;> (cases AD D.now s <;> rfl))
theorem Iq{D:An}{ms:List (List UInt8)}{s:List UInt8}{c:Nat}(h:DH D ms s = .error c):c≠0:=by
  unfold DH at h
  split at h
  · rename_i hn;cases h;exact hn
  · split at h
    · cases h
    · cases h;decide
theorem Ir{D:An}{ms:List (List UInt8)}{s:List UInt8}{k:Nat}(h:DH D ms s = .ok k):D.down=false∧AD D.now s=some k∧∀t∈ms,Bu t=true:=by
  unfold DH at h
  split at h
  · cases h
  · rename_i hn
    have hn:readyL D (ms++ [s])=0:=Classical.not_not.1 hn
    split at h
    · rename_i k' hk
      cases h
      unfold readyL at hn
      split at hn
      · cases hn
      · rename_i hd
        split at hn
        · rename_i ha
          exact⟨Bool.eq_false_iff.2 hd,hk,fun t ht=>List.all_eq_true.1 ha t (List.mem_append_left _ ht)⟩
        · cases hn
    · cases h
theorem Pn(w0 w:World)(a:Ext w0 w)(H:Dk)(D:An)(hS:DkS w0.heap.size w H D)(bf bd k:Nat)(hbf:w.heap[bf]? =some (.cells ([PQ (H.F k) 0]).toArray 81 (0,0)))(hbd:w.heap[bd]? =some (.cells ([PQ H.g 0]).toArray 24 (0,0)))(hk:k<D.files.length):
    ∀w1 D1,DkT w0.heap.size w H D w1 H D1→D1=(Bh D).1→Calls Tryz.prog 84 #[PQ bf 0,PQ bd 0] w1 fun e w' =>e = .returned (.tuple #[])∧∃H',DkT w0.heap.size w1 H D1 w' H' { D1 with files:=D1.files.set k ((AJ D1 k).1,(AJ D1 k).1.length),kept:=D1.now,acts:= [] } :=by
  intro w1 D1 hT hD1
  have hf:=Fq D
  rw[←hD1]at hf
  have b:Ext w0 w1:=Chg.ext a hT.chg (fun i q=>(hS.foot q).2.2)
  exact(SN w0 w1 b H D1 hT.st bf bd k (DkT.box hT hS hbf (by decide) (by decide) (by decide) (by decide)) (DkT.box hT hS hbd (by decide) (by decide) (by decide) (by decide)) (by rw[hf.1];exact hk)).mono fun e w' ⟨H',q1,q2⟩=>⟨q1,H',q2⟩
theorem Po(w0 w:World)(a:Ext w0 w)(H:Dk)(D:An)(hS:DkS w0.heap.size w H D)(bd bs k:Nat)(s:List UInt8)(hbd:w.heap[bd]? =some (.cells ([PQ H.g 0]).toArray 24 (0,0)))(hbs:w.heap[bs]? =some (.cells ([St s]).toArray 9 (0,0))) 
    (hk:k<D.files.length) (hs:Bu s=true) (hn:D.acts.length<1099511627776):
    ∀w1 D1,DkT w0.heap.size w H D w1 H D1→D1=(Bh D).1→Calls Tryz.prog 85 #[PQ bd 0,PQ bs 0] w1 fun e w' =>e = .returned (.tuple #[])∧∃H',DkT w0.heap.size w1 H D1 w' H' (turnedD D1 ⟨s,[],k⟩):=by
  intro w1 D1 hT hD1
  have hf:=Fq D
  rw[←hD1]at hf
  have b:Ext w0 w1:=Chg.ext a hT.chg (fun i q=>(hS.foot q).2.2)
  exact(SM w0 w1 b H D1 hT.st bd bs k s (DkT.box hT hS hbd (by decide) (by decide) (by decide) (by decide)) (DkT.box hT hS hbs (by decide) (by decide) (by decide) (by decide)) (by rw[hf.1];exact hk) hs (by rw[hf.2.2.2.1];exact hn)).mono fun e w' ⟨H',q1,q2⟩=>⟨q1,H',q2⟩
theorem HL:A3 Tryz.prog 52 0 0:=fun b o w=>by simp[go_sem]
theorem J7:Plain Tryz.prog 53:=fun _ _=>by kernel_rfl
theorem HM:A3 Tryz.prog 52 4 4:=fun b o w=>by simp[go_sem]
theorem Ha:Plain Tryz.prog 54:=fun _ _=>by kernel_rfl
theorem EI:Plain Tryz.prog 83:=fun _ _=>by kernel_rfl
set_option maxHeartbeats 1600000
theorem Mo(w:World)(s:List UInt8)(vb:Value)(b:List UInt8)(hrb:RB w vb b):
    Calls Tryz.prog 24 #[.pointer none,St s,vb] w fun e w' =>e = .returned (NI 1)∧Ext w w' :=by
  refine gG (args:= [.pointer none,St (s),vb]) Tryz.func24 rfl 35 rfl rfl ?_
  have hE:=Ext.refl w
  refine gS (Yk.box1 (vr (.pointer none) rfl) rfl fun m n aa h o ab=> ?_)
  have c:=h;clear h
  have ac:m<n.heap.size:=by omega
  refine gS (Yk.box1 (vr (St (s)) rfl) rfl fun p q r i j ad=> ?_)
  have hE:=hE.trans o
  have ae:=hE.size
  have af:=AE (bl c) r
  have f:=i;clear i
  have ag:p<q.heap.size:=by omega
  have hE:=hE.trans j
  refine gS (Yk.box1 (vr vb rfl) (RB.one (hrb.keep hE)).1 fun t u k l g ah=> ?_)
  have ai:=hE.size
  have c:=eb j c
  have aj:=AE (bl c) k
  have ak:=AE (bl f) k
  have al:=l;clear l
  have am:t<u.heap.size:=by omega
  have c:=eb g c
  have f:=eb g f
  refine gS (Yk.cell1 JU rfl rfl (cellAt c rfl) (gS (Yk.cell1 Io rfl rfl (cellAt f rfl) (gS (Yk.lit1S (a:=s) (enc:=B1) (vr (St (s)) rfl) rfl (fun w=>Fv _ w) fun v an x y=>(gS (Yk.callA2 Fw rfl rfl ((F9 _ v [s] x).mono ?_))))))))
  rintro e ao ⟨rfl,z⟩
  refine⟨_,rfl,?_⟩
  refine gS (Yk.eqI (a:=(1:Nat)) (b:=(0:Nat)) rfl rfl (AZ _ _ _ _) (kT (by decide) (cT rfl (AX rfl (vr (NI 1) rfl) ?_))))
  have hE:=hE.trans ((g.trans y).trans z)
  exact⟨rfl,hE⟩

theorem Nq(w0 w:World)(h:Ext w0 w)(H:Dk)(D:An)(hS:DkS w0.heap.size w H D)(s:List UInt8)(vb:Value)(b:List UInt8)(hrb:RB w vb b)(hoff:b= []∨∀i,vb.ownBlock=some i→¬A1 H D.files.length i)(hbl:b.length<1099511627776)(hL:Co D):
    Calls Tryz.prog 24 #[PQ H.g 0,St s,vb] w fun e w' =>∃H',e = .returned (NI (Af D s b).2)∧DkT w0.heap.size w H D w' H' (Af D s b).1:=by
  have hb:=hS.blk
  have hgl:=(bl hb)
  have hgl0:=hS.lo.1
  have hsz0:=h.size
  have af:=hS
  have hgr:=World.grownBy.refl w (some H.g)
  refine gG (args:= [PQ H.g 0,St (s),vb]) Tryz.func24 rfl 35 rfl rfl ?_
  have hE:=Ext.refl w
  refine gS (Yk.box1 (vr (PQ H.g 0) rfl) rfl fun n w3 ay ak x be=> ?_)
  have bf:=hE.size
  have bg:=h.size
  have bh:=AE (bl hb) ay
  have hgr:w.grownBy w3 (some H.g):=Aq hgr x.grown (fun _ e=>by cases e)
  have c:=ak;clear ak
  have bi:n<w3.heap.size:=by omega
  refine gS (Yk.box1 (vr (St (s)) rfl) rfl fun o al am an t bj=> ?_)
  have hE:=hE.trans x
  have bk:=hE.size
  have h:=h.trans x
  have bm:=h.size
  have hb:=eb x hb
  have bn:=AE (bl hb) am
  have bo:=AE (bl c) am
  have hgr:w.grownBy al (some H.g):=Aq hgr t.grown (fun _ e=>by cases e)
  have f:=an;clear an
  have bp:o<al.heap.size:=by omega
  have hE:=hE.trans t
  refine gS (Yk.box1 (vr vb rfl) (RB.one (hrb.keep hE)).1 fun p ao ag ap k bq=> ?_)
  have br:=hE.size
  have h:=h.trans t
  have bs:=h.size
  have hb:=eb t hb
  have bt:=AE (bl hb) ag
  have c:=eb t c
  have bu:=AE (bl c) ag
  have bv:=AE (bl f) ag
  have hgr:w.grownBy ao (some H.g):=Aq hgr k.grown (fun _ e=>by cases e)
  have j:=ap;clear ap
  have bw:p<ao.heap.size:=by omega
  have hq0:=hL.quota
  have hq1:=hL.used
  by_cases y:A6 D s s≠0
  · have hV:Af D s b=(D,A6 D s s):=if_pos y
    have c:=eb k c
    have f:=eb k f
    refine gS (Yk.cell1 JU rfl rfl (cellAt c rfl) (gS (Yk.cell1 Io rfl rfl (cellAt f rfl) (gS (Yk.lit1S (a:=s) (enc:=B1) (vr (St (s)) rfl) rfl (fun w=>Fv _ w) fun az a0 a1 aq=> ?_)))))
    have hgr:w.grownBy a0 (some H.g):=Aq hgr aq.grown (fun _ e=>by cases e)
    have hZ1:=k.trans aq
    have hE:=hE.trans hZ1
    refine gS (Yk.callA2 Fw rfl rfl ((Dr w0.heap.size _ H D (hS.keep hE) az [s] a1 (by simp)).mono ?_))
    rintro e a2 ⟨rfl,ar⟩
    refine⟨_,rfl,?_⟩
    have hgr:w.grownBy a2 (some H.g):=Aq hgr ar.grown (fun _ e=>by cases e)
    refine gS (Yk.eqI (a:=(readyL D [s]:Nat)) (b:=(0:Nat)) rfl rfl (AZ _ _ _ _) (kT (by rw[EH];omega) (cT rfl (AX rfl (vr (NI (readyL D [s])) rfl) ?_))))
    have hE:=hE.trans ar
    exact⟨H,by rw[hV,EH],by rw[hV];exact DkT.ofExt af hE⟩
  have a3:A6 D s s=0:=Classical.not_not.1 y
  obtain⟨hdn,hs,-⟩:=O5 a3
  by_cases hq:D.quota<usedD D+b.length
  · have hV:Af D s b=({ D with refused:=D.refused+1 },8):=(if_neg y).trans (if_pos hq)
    have c:=eb k c
    have f:=eb k f
    refine gS (Yk.cell1 JU rfl rfl (cellAt c rfl) (gS (Yk.cell1 Io rfl rfl (cellAt f rfl) (gS (Yk.lit1S (a:=s) (enc:=B1) (vr (St (s)) rfl) rfl (fun w=>Fv _ w) fun a4 a5 au ah=> ?_)))))
    have hgr:w.grownBy a5 (some H.g):=Aq hgr ah.grown (fun _ e=>by cases e)
    have hZ2:=k.trans ah
    have hE:=hE.trans hZ2
    refine gS (Yk.callA2 Fw rfl rfl ((Dr w0.heap.size _ H D (hS.keep hE) a4 [s] au (by simp)).mono ?_))
    rintro e a6 ⟨rfl,z⟩
    refine⟨_,rfl,?_⟩
    have hgr:w.grownBy a6 (some H.g):=Aq hgr z.grown (fun _ e=>by cases e)
    refine gS (Yk.eqI (a:=(readyL D [s]:Nat)) (b:=(0:Nat)) rfl rfl (AZ _ _ _ _) (kF (by rw[EH];omega) (cF rfl (BV [0,1,2,3,4,5,6,7,8,9] [7] [1,3,4] [0,2,5] fun av aa=> ?_))))
    have hgr:w.grownBy av (some H.g):=Aq hgr aa.grown (fun _ e=>by cases e)
    have ab:=Ext.refl av
    have hZ3:=(hZ2.trans z).trans aa
    have hb:=eb hZ3 hb
    have hZ4:=(ah.trans z).trans aa
    have c:=eb hZ4 c
    have j:=eb hZ4 j
    have hZ5:=z.trans aa
    have hE:=hE.trans hZ5
    refine BM ab ?_
    refine yf (fun _ ⟨hZ,_⟩=>Yk.cell1 S2 rfl rfl (cellAt (eb hZ j) rfl) zz) (yp (Yk.lenRB S2 (RB.of (hrb.keep hE) rfl) zz) (yf (fun _ ⟨hZ,_⟩=>Yk.cell1 JU rfl rfl (cellAt (eb hZ c) rfl) zz) (yp (Yk.nilCheck rfl zz) (yp (Yk.fieldAt HL rfl zz) (yf (fun _ ⟨hZ,_⟩=>Yk.cell1 Pb rfl rfl (cellAt (eb hZ hb) rfl) zz) (ys (Yk.cell1 JU rfl rfl (cellAt c rfl) zz) (yE (Yk.callA1 J7 rfl ((Ly w0.heap.size _ H D (hS.keep hE) hL.used).mono ?_)))))))))
    rintro e a7 ⟨rfl,l⟩
    refine⟨_,rfl,?_⟩
    have hgr:w.grownBy a7 (some H.g):=Aq hgr l.grown (fun _ e=>by cases e)
    have hb:=eb l hb
    have c:=eb l c
    have ab:=ab.trans l
    refine⟨ab,?_⟩
    refine ys (Yk.bin (xv:= .int .i64 (((D.quota:Nat):Int))) (yv:= .int .i64 (((usedD D:Nat):Int))) rfl rfl rfl (J6 _ (((D.quota:Nat):Int)) (((usedD D:Nat):Int)) (by omega)) zz) (ys (Yk.eqI rfl rfl (GE _ .i64 ((b.length:Nat):Int) (((((D.quota:Nat):Int))-(((usedD D:Nat):Int))):Int)) zz) (kT (by omega) (cT rfl (gS (Yk.cell1 JU rfl rfl (cellAt c rfl) (gS (Yk.nilCheck rfl (gS (Yk.fieldAt HM rfl (gS (Yk.cell1 Pb rfl rfl (cellAt hb rfl) (gS (Yk.bin (xv:=NI D.refused) (yv:=NI 1) rfl rfl rfl (Ap _ _ _ (by have:=hL.refused;omega)) (gS (Yk.nilCheck rfl (gS (Yk.fieldAt HM rfl (gS (Yk.storeC (i:=4) (v:=NI ((D.refused)+(1))) rfl rfl hb (Nat.le_of_ble_eq_true rfl) Ph rfl rfl fun a8 aw u bx=> ?_)))))))))))))))))))
    have hgr:w.grownBy a8 (some H.g):=Aq hgr u (fun _ e=> .inl e)
    clear hE
    have h:=h.trans (hZ3.trans l)
    have h:=Aa h u (Nat.le_trans (Nat.le_refl _) (by omega))
    have c:=kb u c (by omega)
    have f:=eb (hZ4.trans l) f
    have f:=kb u f (by omega)
    have j:=eb l j
    have j:=kb u j (by omega)
    clear au
    clear hb
    have hb:=aw;clear aw
    have bz:=bl hb
    refine AX rfl (vr (NI 8) rfl) ?_
    exact⟨H,by rw[hV],by rw[hV];exact af.setBlkT hgr hb⟩
  have hV:Af D s b=CR D (fun d=>BN d s b):=by unfold CR;exact(if_neg y).trans (if_neg hq)
  have c:=eb k c
  have f:=eb k f
  refine gS (Yk.cell1 JU rfl rfl (cellAt c rfl) (gS (Yk.cell1 Io rfl rfl (cellAt f rfl) (gS (Yk.lit1S (a:=s) (enc:=B1) (vr (St (s)) rfl) rfl (fun w=>Fv _ w) fun a9 ba bb ai=> ?_)))))
  have hgr:w.grownBy ba (some H.g):=Aq hgr ai.grown (fun _ e=>by cases e)
  have hZ6:=k.trans ai
  have hE:=hE.trans hZ6
  refine gS (Yk.callA2 Fw rfl rfl ((Dr w0.heap.size _ H D (hS.keep hE) a9 [s] bb (by simp)).mono ?_))
  rintro e bc ⟨rfl,ac⟩
  refine⟨_,rfl,?_⟩
  have hgr:w.grownBy bc (some H.g):=Aq hgr ac.grown (fun _ e=>by cases e)
  refine gS (Yk.eqI (a:=(readyL D [s]:Nat)) (b:=(0:Nat)) rfl rfl (AZ _ _ _ _) (kF (by rw[EH];omega) (cF rfl (BV [0,1,2,3,4,5,6,7,8,9] [7] [1,3,4] [0,2,5] fun ax ad=> ?_))))
  have hgr:w.grownBy ax (some H.g):=Aq hgr ad.grown (fun _ e=>by cases e)
  have ae:=Ext.refl ax
  have hZ7:=(hZ6.trans ac).trans ad
  have hb:=eb hZ7 hb
  have hZ8:=(ai.trans ac).trans ad
  have c:=eb hZ8 c
  have j:=eb hZ8 j
  have hZ9:=ac.trans ad
  have hE:=hE.trans hZ9
  refine BM ae ?_
  refine yf (fun _ ⟨hZ,_⟩=>Yk.cell1 S2 rfl rfl (cellAt (eb hZ j) rfl) zz) (yp (Yk.lenRB S2 (RB.of (hrb.keep hE) rfl) zz) (yf (fun _ ⟨hZ,_⟩=>Yk.cell1 JU rfl rfl (cellAt (eb hZ c) rfl) zz) (yp (Yk.nilCheck rfl zz) (yp (Yk.fieldAt HL rfl zz) (yf (fun _ ⟨hZ,_⟩=>Yk.cell1 Pb rfl rfl (cellAt (eb hZ hb) rfl) zz) (ys (Yk.cell1 JU rfl rfl (cellAt c rfl) zz) (yE (Yk.callA1 J7 rfl ((Ly w0.heap.size _ H D (hS.keep hE) hL.used).mono ?_)))))))))
  rintro e bd ⟨rfl,m⟩
  refine⟨_,rfl,?_⟩
  have hgr:w.grownBy bd (some H.g):=Aq hgr m.grown (fun _ e=>by cases e)
  have c:=eb m c
  have ae:=ae.trans m
  refine⟨ae,?_⟩
  refine ys (Yk.bin (xv:= .int .i64 (((D.quota:Nat):Int))) (yv:= .int .i64 (((usedD D:Nat):Int))) rfl rfl rfl (J6 _ (((D.quota:Nat):Int)) (((usedD D:Nat):Int)) (by omega)) zz) (ys (Yk.eqI rfl rfl (GE _ .i64 ((b.length:Nat):Int) (((((D.quota:Nat):Int))-(((usedD D:Nat):Int))):Int)) zz) (kF (by omega) (cF rfl (gS (Yk.cell1 JU rfl rfl (cellAt c rfl) (gS (Yk.mkFunc (vs:= #[PQ n 0,PQ o 0,PQ p 0]) (by simp only[List.map_toArray,List.map_cons,List.map_nil];exact congrArg List.toArray (SG (vr (PQ n 0) rfl) (vr (PQ o 0) rfl) (vr (PQ p 0) rfl))) ?_)))))))
  have hE:=hE.trans m
  have hEc:=hE
  have hSc:=(hS.keep hE)
  have hTc:=DkT.ofExt af hEc
  have h:=h.trans (hZ7.trans m)
  have hE0c:=h
  have f:=eb (hZ8.trans m) f
  have j:=eb m j
  refine gS (Yk.callA2 Ha rfl rfl ((J5 w0 _ hE0c H D hSc hdn hL.arm (.func (.func 55) #[] #[PQ n 0,PQ o 0,PQ p 0]) 55 #[PQ n 0,PQ o 0,PQ p 0] (fun _ _=>by kernel_rfl) rfl (fun d=>BN d s b) (Rd w0 _ hE0c H D hSc n o p s b vb c f j (hrb.keep hE) (hoff.imp id fun q i hi r=>q i hi r) hs hbl hL.files hL.acts)).mono ?_))
  rintro e b0 ⟨H3,rfl,hT2⟩
  refine⟨_,rfl,?_⟩
  have hT3:=hTc.trans hT2
  refine AX rfl (vr (NI ((CR D (fun d=>BN d s b)).2)) rfl) ?_
  exact⟨H3,by rw[hV],by rw[hV];exact hT3⟩

theorem Re(w0 w:World)(f:Ext w0 w)(H:Dk)(D:An)(hS:DkS w0.heap.size w H D)(s:List UInt8)(hL:Co D):
    Calls Tryz.prog 48 #[PQ H.g 0,St s] w fun e w' =>∃H',e = .returned (NI (Aw D s).2)∧DkT w0.heap.size w H D w' H' (Aw D s).1:=by
  have hb:=hS.blk
  have hgl:=(bl hb)
  have hgl0:=hS.lo.1
  have hsz0:=f.size
  have aa:=hS
  have hgr:=World.grownBy.refl w (some H.g)
  refine gG (args:= [PQ H.g 0,St (s)]) Tryz.func48 rfl 19 rfl rfl ?_
  have hE:=Ext.refl w
  refine gS (Yk.box1 (vr (PQ H.g 0) rfl) rfl fun l w3 an ac r ax=> ?_)
  have j:=Ext.refl w
  have ay:=hE.size
  have az:=f.size
  have a0:=AE (bl hb) an
  have hgr:w.grownBy w3 (some H.g):=Aq hgr r.grown (fun _ e=>by cases e)
  have c:=ac;clear ac
  have a1:l<w3.heap.size:=by omega
  rcases hV0:DH D [] s with ce | k
  · have hV:Aw D s=(D,ce):=by unfold Aw;rw[Ff,hV0]
    have hce:=Iq hV0
    have hE:=hE.trans r
    refine gS (Yk.cell1 JU rfl rfl (cellAt c rfl) (gS (Yk.callA3 EI rfl rfl rfl (((show Calls _ _ _ _ (fun e z=>e = .returned (.tuple #[.pointer none,NI ce])∧Ext _ z)from by have h:=Fd w0.heap.size _ H D (hS.keep hE) s ((Value.slice none 0 0)) [] (.inl ⟨rfl,rfl⟩) (by simp);rw[hV0]at h;exact h)).mono ?_))))
    rintro e ao ⟨rfl,u⟩
    refine⟨_,rfl,?_⟩
    have hgr:w.grownBy ao (some H.g):=Aq hgr u.grown (fun _ e=>by cases e)
    refine gS (Yk.extract (vs:= [.pointer none,NI ce]) rfl rfl (gS (Yk.extract (vs:= [.pointer none,NI ce]) rfl rfl (gS (Yk.alloc (cs:=([.pointer none]).toArray) Pj fun ap ad ae af m a2=> ?_)))))
    have hE:=hE.trans u
    have a3:=hE.size
    have hZ1:=r.trans u
    have f:=f.trans hZ1
    have aq:=f.size
    have j:=j.trans hZ1
    have ag:=j.size
    have hb:=eb hZ1 hb
    have a4:=AE (bl hb) ae
    have c:=eb u c
    have a5:=AE (bl c) ae
    have hgr:w.grownBy ad (some H.g):=Aq hgr m.grown (fun _ e=>by cases e)
    have x:=af;clear af
    have a6:ap<ad.heap.size:=by omega
    refine gS (Yk.storeC (i:=0) (v:= .pointer none) rfl rfl x (Nat.le_of_ble_eq_true rfl) Np rfl rfl fun ar ah n a7=> ?_)
    have hb:=eb m hb
    have hb:=kb n hb (by omega)
    have hgr:w.grownBy ar (some H.g):=Aq hgr n (fun _ e=> .inr (by cases e;omega))
    have hE:=hE.trans m
    have hE:=Aa hE n (Nat.le_trans ag (by omega))
    have f:=f.trans m
    have f:=Aa f n (Nat.le_trans aq (by omega))
    have j:=j.trans m
    have j:=Aa j n (Nat.le_trans ag (by omega))
    have c:=eb m c
    have c:=kb n c (by omega)
    clear x
    have x:=ah;clear ah
    have a8:=bl x
    refine gS (Yk.eqI (a:=(ce:Nat)) (b:=(0:Nat)) rfl rfl (AZ _ _ _ _) (kT (by omega) (cT rfl (AX rfl (vr (NI ce) rfl) ?_))))
    exact⟨H,by rw[hV],by rw[hV];exact DkT.ofExt aa hE⟩
  have hV:Aw D s=CR D (fun d=> { d with files:=d.files.set k ((AJ d k).1,(AJ d k).1.length),kept:=d.now,acts:= [] }):=by unfold Aw;rw[Ff,hV0]
  obtain⟨hdn,hlk,hms⟩:=Ir hV0
  have hkl:=hS.ok.now.look hlk
  have hE:=hE.trans r
  refine gS (Yk.cell1 JU rfl rfl (cellAt c rfl) (gS (Yk.callA3 EI rfl rfl rfl (((show Calls _ _ _ _ (fun e z=>e = .returned (.tuple #[.pointer (some ⟨(H.F k),0,none⟩),NI 0])∧Ext _ z)from by have h:=Fd w0.heap.size _ H D (hS.keep hE) s ((Value.slice none 0 0)) [] (.inl ⟨rfl,rfl⟩) (by simp);rw[hV0]at h;exact h)).mono ?_))))
  rintro e au ⟨rfl,y⟩
  refine⟨_,rfl,?_⟩
  have hgr:w.grownBy au (some H.g):=Aq hgr y.grown (fun _ e=>by cases e)
  refine gS (Yk.extract (vs:= [.pointer (some ⟨(H.F k),0,none⟩),NI 0]) rfl rfl (gS (Yk.extract (vs:= [.pointer (some ⟨(H.F k),0,none⟩),NI 0]) rfl rfl (gS (Yk.alloc (cs:=([.pointer none]).toArray) Pj fun o ai aj ak p a9=> ?_)))))
  have hE:=hE.trans y
  have ba:=hE.size
  have hZ2:=r.trans y
  have f:=f.trans hZ2
  have av:=f.size
  have j:=j.trans hZ2
  have al:=j.size
  have hb:=eb hZ2 hb
  have bb:=AE (bl hb) aj
  have c:=eb y c
  have bc:=AE (bl c) aj
  have hgr:w.grownBy ai (some H.g):=Aq hgr p.grown (fun _ e=>by cases e)
  have t:=ak;clear ak
  have bd:o<ai.heap.size:=by omega
  refine gS (Yk.storeC (i:=0) (v:= .pointer (some ⟨(H.F k),0,none⟩)) rfl rfl t (Nat.le_of_ble_eq_true rfl) Np rfl rfl fun aw am q be=> ?_)
  have hb:=eb p hb
  have hb:=kb q hb (by omega)
  have hgr:w.grownBy aw (some H.g):=Aq hgr q (fun _ e=> .inr (by cases e;omega))
  have hE:=hE.trans p
  have hE:=Aa hE q (Nat.le_trans al (by omega))
  have f:=f.trans p
  have f:=Aa f q (Nat.le_trans av (by omega))
  have j:=j.trans p
  have j:=Aa j q (Nat.le_trans al (by omega))
  have c:=eb p c
  have c:=kb q c (by omega)
  clear t
  have t:=am;clear am
  have bf:=bl t
  refine gS (Yk.eqI (a:=(0:Nat)) (b:=(0:Nat)) rfl rfl (AZ _ _ _ _) (kF (by decide) (cF rfl (gS (Yk.cell1 JU rfl rfl (cellAt c rfl) (gS (Yk.mkFunc (vs:= #[PQ o 0,PQ l 0]) (by simp only[List.map_toArray,List.map_cons,List.map_nil];exact congrArg List.toArray (D4 (vr (PQ o 0) rfl) (vr (PQ l 0) rfl))) ?_)))))))
  have hEc:=hE
  have hSc:=(hS.keep hE)
  have hTc:=DkT.ofExt aa hEc
  have hE0c:=f
  refine gS (Yk.callA2 Ha rfl rfl ((J5 w0 _ hE0c H D hSc hdn hL.arm (.func (.func 84) #[] #[PQ o 0,PQ l 0]) 84 #[PQ o 0,PQ l 0] (fun _ _=>by kernel_rfl) rfl (fun d=> { d with files:=d.files.set k ((AJ d k).1,(AJ d k).1.length),kept:=d.now,acts:= [] }) (Pn w0 _ hE0c H D hSc o l k t c hkl.1)).mono ?_))
  rintro e bg ⟨H3,rfl,hT2⟩
  refine⟨_,rfl,?_⟩
  have hT3:=hTc.trans hT2
  refine AX rfl (vr (NI ((CR D (fun d=> { d with files:=d.files.set k ((AJ d k).1,(AJ d k).1.length),kept:=d.now,acts:= [] })).2)) rfl) ?_
  exact⟨H3,by rw[hV],by rw[hV];exact hT3⟩

theorem Pp(w:World)(s:List UInt8):
    Calls Tryz.prog 49 #[.pointer none,St s] w fun e w' =>e = .returned (NI 1)∧Ext w w' :=by
  refine gG (args:= [.pointer none,St (s)]) Tryz.func49 rfl 19 rfl rfl ?_
  have hE:=Ext.refl w
  refine gS (Yk.box1 (vr (.pointer none) rfl) rfl fun i j q f k r=> ?_)
  have c:=f;clear f
  have t:i<j.heap.size:=by omega
  refine gS (Yk.box1 (vr (St (s)) rfl) rfl fun l m n g h u=> ?_)
  have hE:=hE.trans k
  have v:=hE.size
  have x:=AE (bl c) n
  have o:=g;clear g
  have y:l<m.heap.size:=by omega
  have c:=eb h c
  refine gS (Yk.cell1 JU rfl rfl (cellAt c rfl) (gS (Yk.cell1 Io rfl rfl (cellAt o rfl) (gS (Yk.callA3 EI rfl rfl rfl ((Lz _ s ((Value.slice none 0 0)) [] (.inl ⟨rfl,rfl⟩) (by simp)).mono ?_))))))
  rintro e z ⟨rfl,p⟩
  refine⟨_,rfl,?_⟩
  refine gS (Yk.extract (vs:= [.pointer none,NI 1]) rfl rfl (gS (Yk.extract (vs:= [.pointer none,NI 1]) rfl rfl (gS (Yk.eqI (a:=(1:Nat)) (b:=(0:Nat)) rfl rfl (AZ _ _ _ _) (kT (by decide) (cT rfl (AX rfl (vr (NI 1) rfl) ?_))))))))
  have hE:=hE.trans (h.trans p)
  exact⟨rfl,hE⟩

theorem Rf(w0 w:World)(f:Ext w0 w)(H:Dk)(D:An)(hS:DkS w0.heap.size w H D)(s:List UInt8)(hL:Co D):
    Calls Tryz.prog 49 #[PQ H.g 0,St s] w fun e w' =>∃H',e = .returned (NI (Ar D s).2)∧DkT w0.heap.size w H D w' H' (Ar D s).1:=by
  have hb:=hS.blk
  have hgl:=(bl hb)
  have hgl0:=hS.lo.1
  have hsz0:=f.size
  have q:=hS
  have hgr:=World.grownBy.refl w (some H.g)
  refine gG (args:= [PQ H.g 0,St (s)]) Tryz.func49 rfl 19 rfl rfl ?_
  have hE:=Ext.refl w
  refine gS (Yk.box1 (vr (PQ H.g 0) rfl) rfl fun i r z t o ac=> ?_)
  have ad:=hE.size
  have ae:=f.size
  have af:=AE (bl hb) z
  have hgr:w.grownBy r (some H.g):=Aq hgr o.grown (fun _ e=>by cases e)
  have c:=t;clear t
  have ag:i<r.heap.size:=by omega
  refine gS (Yk.box1 (vr (St (s)) rfl) rfl fun j u v x l ah=> ?_)
  have hE:=hE.trans o
  have ai:=hE.size
  have f:=f.trans o
  have aj:=f.size
  have hb:=eb o hb
  have ak:=AE (bl hb) v
  have al:=AE (bl c) v
  have hgr:w.grownBy u (some H.g):=Aq hgr l.grown (fun _ e=>by cases e)
  have m:=x;clear x
  have am:j<u.heap.size:=by omega
  rcases hV0:DH D [] s with ce | k
  · have hV:Ar D s=(D,ce):=by unfold Ar;rw[Ff,hV0]
    have hce:=Iq hV0
    have hE:=hE.trans l
    have c:=eb l c
    refine gS (Yk.cell1 JU rfl rfl (cellAt c rfl) (gS (Yk.cell1 Io rfl rfl (cellAt m rfl) (gS (Yk.callA3 EI rfl rfl rfl (((show Calls _ _ _ _ (fun e p=>e = .returned (.tuple #[.pointer none,NI ce])∧Ext _ p)from by have h:=Fd w0.heap.size _ H D (hS.keep hE) s ((Value.slice none 0 0)) [] (.inl ⟨rfl,rfl⟩) (by simp);rw[hV0]at h;exact h)).mono ?_))))))
    rintro e aa ⟨rfl,y⟩
    refine⟨_,rfl,?_⟩
    have hgr:w.grownBy aa (some H.g):=Aq hgr y.grown (fun _ e=>by cases e)
    refine gS (Yk.extract (vs:= [.pointer none,NI ce]) rfl rfl (gS (Yk.extract (vs:= [.pointer none,NI ce]) rfl rfl (gS (Yk.eqI (a:=(ce:Nat)) (b:=(0:Nat)) rfl rfl (AZ _ _ _ _) (kT (by omega) (cT rfl (AX rfl (vr (NI ce) rfl) ?_))))))))
    have hE:=hE.trans y
    exact⟨H,by rw[hV],by rw[hV];exact DkT.ofExt q hE⟩
  have hV:Ar D s=CR D (fun d=>turnedD d ⟨s,[],k⟩):=by unfold Ar;rw[Ff,hV0]
  obtain⟨hdn,hlk,hms⟩:=Ir hV0
  have hkl:=hS.ok.now.look hlk
  have hE:=hE.trans l
  have c:=eb l c
  refine gS (Yk.cell1 JU rfl rfl (cellAt c rfl) (gS (Yk.cell1 Io rfl rfl (cellAt m rfl) (gS (Yk.callA3 EI rfl rfl rfl (((show Calls _ _ _ _ (fun e p=>e = .returned (.tuple #[.pointer (some ⟨(H.F k),0,none⟩),NI 0])∧Ext _ p)from by have h:=Fd w0.heap.size _ H D (hS.keep hE) s ((Value.slice none 0 0)) [] (.inl ⟨rfl,rfl⟩) (by simp);rw[hV0]at h;exact h)).mono ?_))))))
  rintro e ab ⟨rfl,n⟩
  refine⟨_,rfl,?_⟩
  have hgr:w.grownBy ab (some H.g):=Aq hgr n.grown (fun _ e=>by cases e)
  have c:=eb n c
  refine gS (Yk.extract (vs:= [.pointer (some ⟨(H.F k),0,none⟩),NI 0]) rfl rfl (gS (Yk.extract (vs:= [.pointer (some ⟨(H.F k),0,none⟩),NI 0]) rfl rfl (gS (Yk.eqI (a:=(0:Nat)) (b:=(0:Nat)) rfl rfl (AZ _ _ _ _) (kF (by decide) (cF rfl (gS (Yk.cell1 JU rfl rfl (cellAt c rfl) (gS (Yk.mkFunc (vs:= #[PQ i 0,PQ j 0]) (by simp only[List.map_toArray,List.map_cons,List.map_nil];exact congrArg List.toArray (D4 (vr (PQ i 0) rfl) (vr (PQ j 0) rfl))) ?_)))))))))))
  have hE:=hE.trans n
  have hEc:=hE
  have hSc:=(hS.keep hE)
  have hTc:=DkT.ofExt q hEc
  have hZ1:=l.trans n
  have f:=f.trans hZ1
  have hE0c:=f
  have m:=eb n m
  refine gS (Yk.callA2 Ha rfl rfl ((J5 w0 _ hE0c H D hSc hdn hL.arm (.func (.func 85) #[] #[PQ i 0,PQ j 0]) 85 #[PQ i 0,PQ j 0] (fun _ _=>by kernel_rfl) rfl (fun d=>turnedD d ⟨s,[],k⟩) (Po w0 _ hE0c H D hSc i j k s c m hkl.1 hkl.2 hL.acts)).mono ?_))
  rintro e an ⟨H3,rfl,hT2⟩
  refine⟨_,rfl,?_⟩
  have hT3:=hTc.trans hT2
  refine AX rfl (vr (NI ((CR D (fun d=>turnedD d ⟨s,[],k⟩)).2)) rfl) ?_
  exact⟨H3,by rw[hV],by rw[hV];exact hT3⟩
open Go.RowKit
section
variable {P : Program} {K : Value → World → Prop} {ρ : Ai} {w : World} {d : Option Tmp} {ty : TypeId} {pos : String} {af : Array Edge} {gd : Option (Nat × Bool)}
theorem Nr{t e:TypeId}(ht:P.underlying t=some (.slice e))(a:Option Addr)(n c:Nat)(w:World):(Op.equal t (.slice a n c) (.slice none 0 0)).run P w = .ok a.isNone w:=by
  unfold Op.equal
  rw[show Op.maxDepth=(Op.maxDepth-1)+1 from rfl]
  cases a <;> simp[Op.equalIn,run_underlying ht,Sem.run_bind,Sem.run_pure]
theorem Yk.eqlNilSl{t e ty2:TypeId}(ht:P.underlying t=some (.slice e)){x:Operand}{a:Option Addr}{n c:Nat}(hx:Ab ρ x = .slice a n c)(hk:K (.bool a.isNone) w):Yk P K ((execOp (Ab ρ) ⟨d, .binOp .eql t x (.const (.slice none 0 0)) ty2,ty,pos,af,gd⟩).run P w):=by
  have hy:Ab ρ (.const (.slice none 0 0)) = .slice none 0 0:=rfl
  refine Yk.value (v:= .bool a.isNone) (w' :=w) ?_ hk
  have hr:=Nr ht a n c w
  unfold execOp
  simp only[hx,hy]
  cases a <;> simp[eqGuard,Go.binOp,hr]
end
open Go.RowKit
set_option maxRecDepth 100000
set_option linter.unusedVariables false
set_option linter.unusedSimpArgs false
theorem Yk.max0{P:Program}{K:Value→World→Prop}{ρ:Ai}{w:World}{d:Option Tmp}{ty:TypeId}{pos:String}{af:Array Edge}{gd:Option (Nat × Bool)}{x y:Operand}{n:Int}(hx:Ab ρ x = .int .i64 n)(hy:Ab ρ y=NI 0)(hk:K (NI n.toNat) w):Yk P K ((execOp (Ab ρ) ⟨d, .call ⟨.builtin .max,#[x,y],#[3,3]⟩,ty,pos,af,gd⟩).run P w):=by
 refine Yk.value (v:=NI n.toNat) (w' :=w) ?_ hk
 have he:(if(0:Int)>n then(0:Int)else n)=(n.toNat:Int):=by split <;> omega
 have hr:=run_max_int2 (P:=P) w #[3,3] ty .i64 .i64 n 0
 rw[he]at hr
 unfold execOp
 simp only[resolve,invoke,builtin,Sem.run_bind,Sem.run_pure,Result.andThen_ok,List.map_toArray,List.map_cons,List.map_nil,hx,hy,hr,show(NI 0:Value) = .int .i64 0 from rfl]
theorem Ns(w:World):(Instr.buildSlice 35 0 #[]).run Tryz.prog w = .ok (.slice (some ⟨w.heap.size,0,none⟩) 0 0) (w.alloc (.cells #[] 5)):=by kernel_rfl
theorem Pq:Plain Tryz.prog 66:=fun _ _=>by kernel_rfl
theorem Pr:Plain Tryz.prog 33:=fun _ _=>by kernel_rfl
theorem Ps:Plain Tryz.prog 32:=fun _ _=>by kernel_rfl
set_option maxHeartbeats 1600000
theorem R8(w:World):
  Calls Tryz.prog 66 #[(.slice none 0 0)] w fun e w' =>∃v',e = .returned v' ∧NewB 5 w w' v' []:=by
 refine gG (args:= [(.slice none 0 0)]) Tryz.func66 rfl 8 rfl rfl ?_
 have hE:=Ext.refl w
 refine gS (Yk.eqlNilSl S2 rfl (cT rfl (AX rfl (vr (Value.slice none 0 0) rfl) ?_)))
 exact⟨_,rfl,⟨World.ownsRow_nil _ _ _ 1,hE.grown⟩⟩

theorem R9(w:World)(a:Addr)(c:Nat)(l:List UInt8)(hr:RB w (.slice (some a) l.length c) l)(hl:l.length<1099511627776):
  Calls Tryz.prog 66 #[(.slice (some a) l.length c)] w fun e w' =>∃v',e = .returned v' ∧NewB 5 w w' v' l:=by
 refine gG (args:= [(.slice (some a) l.length c)]) Tryz.func66 rfl 8 rfl rfl ?_
 have hE:=Ext.refl w
 refine gS (Yk.eqlNilSl S2 rfl (cF rfl (gS (Yk.lit0 Ns fun g j h=> ?_))))
 have b:=h.own
 have hE:=hE.trans h.ext
 refine gS (Yk.appendRB _ _ w.heap.size (.int .u8 0) S2 SH rfl S2 (([]:List UInt8)) (l) (CI b (vr g rfl)) (RB.of (hr.keep hE) (vr (.slice (some a) l.length c) rfl)) (by simp only[List.length_nil];omega) hE.size fun i k m f=> ?_)
 have f:Grew j k g i:=f
 have hE:=Ag hE f b (Nat.le_refl _)
 clear b
 refine AX rfl (vr i rfl) ?_
 exact⟨_,rfl,⟨(show World.ownsRow _ _ _ _ _ _ _ from by simpa using m),hE.grown⟩⟩

theorem IR(w:World)(v:Value)(l:List UInt8)(h:RB w v l)(hl:l.length<1099511627776):
  Calls Tryz.prog 66 #[v] w fun e w' =>∃v',e = .returned v' ∧NewB 5 w w' v' l:=by
 obtain⟨h1,ao,cap,rfl,h2,h3,h4,h5⟩:=id h
 cases ao with
 | none=>
  have hl:=h4 rfl
  have:l= []:=List.eq_nil_of_length_eq_zero hl.1
  subst this
  rw[show cap=0 from hl.2]
  exact R8 w
 | some a=>exact R9 w a cap l h hl

theorem J8(w:World)(s:List UInt8):
  Calls Tryz.prog 46 #[.pointer none,St s] w fun e w' =>e = .returned (.tuple #[.slice none 0 0,NI 1])∧Ext w w' :=by
 refine gG (args:= [.pointer none,St (s)]) Tryz.func46 rfl 22 rfl rfl ?_
 have hE:=Ext.refl w
 refine gS (Yk.callA3 EI rfl rfl rfl ((Lz _ s ((Value.slice none 0 0)) [] (.inl ⟨rfl,rfl⟩) (by simp)).mono ?_))
 rintro e f ⟨rfl,c⟩
 refine⟨_,rfl,?_⟩
 refine gS (Yk.extract (vs:= [.pointer none,NI 1]) rfl rfl (gS (Yk.extract (vs:= [.pointer none,NI 1]) rfl rfl (gS (Yk.eqI (a:=(1:Nat)) (b:=(0:Nat)) rfl rfl (AZ _ _ _ _) (kT (by decide) (cT rfl (Dh rfl (vr (Value.slice none 0 0) rfl) (vr (NI 1) rfl) ?_))))))))
 have hE:=hE.trans c
 exact⟨rfl,hE⟩

theorem Rg(w0 w:World)(H:Dk)(D:An)(hS:DkS w0.heap.size w H D)(s:List UInt8)(hL:Co D):
  Calls Tryz.prog 46 #[PQ H.g 0,St s] w fun e w' =>∃v,e = .returned (.tuple #[v,NI (Az D s).2])∧w'.ownsRow w.heap.size 5 1 v (Az D s).1.length (Lib.byteCells (Az D s).1)∧Ext w w' :=by
 have hb:=hS.blk
 have hgl:=(bl hb)
 have f:=hS
 refine gG (args:= [PQ H.g 0,St (s)]) Tryz.func46 rfl 22 rfl rfl ?_
 have hE:=Ext.refl w
 rcases hV0:DH D [] s with ce | k
 ·have hV:Az D s=([],ce):=by unfold Az;rw[Ff,hV0]
  have hce:=Iq hV0
  refine gS (Yk.callA3 EI rfl rfl rfl (((show Calls _ _ _ _ (fun e c=>e = .returned (.tuple #[.pointer none,NI ce])∧Ext _ c)from by have h:=Fd w0.heap.size _ H D (hS.keep hE) s ((Value.slice none 0 0)) [] (.inl ⟨rfl,rfl⟩) (by simp);rw[hV0]at h;exact h)).mono ?_))
  rintro e o ⟨rfl,j⟩
  refine⟨_,rfl,?_⟩
  refine gS (Yk.extract (vs:= [.pointer none,NI ce]) rfl rfl (gS (Yk.extract (vs:= [.pointer none,NI ce]) rfl rfl (gS (Yk.eqI (a:=(ce:Nat)) (b:=(0:Nat)) rfl rfl (AZ _ _ _ _) (kT (by omega) (cT rfl (Dh rfl (vr (Value.slice none 0 0) rfl) (vr (NI ce) rfl) ?_))))))))
  have hE:=hE.trans j
  exact⟨_,by rw[hV],by rw[hV];exact World.ownsRow_nil _ _ _ 1,hE⟩
 have hV:Az D s=((AJ D k).1,0):=by unfold Az;rw[Ff,hV0]
 obtain⟨hdn,hlk,hms⟩:=Ir hV0
 have hkl:=(f.ok.now.look hlk).1
 have hfa:=f.files.at_ k hkl
 have hfb:=hfa.blk
 have hfr:RB w (H.V k) (D.files.getD k ([],0)).1:=RB.ofOwn hfa.row
 have hlb:=hL.files _ (BD (d:=([],0)) hkl)
 refine gS (Yk.callA3 EI rfl rfl rfl (((show Calls _ _ _ _ (fun e c=>e = .returned (.tuple #[.pointer (some ⟨(H.F k),0,none⟩),NI 0])∧Ext _ c)from by have h:=Fd w0.heap.size _ H D (hS.keep hE) s ((Value.slice none 0 0)) [] (.inl ⟨rfl,rfl⟩) (by simp);rw[hV0]at h;exact h)).mono ?_))
 rintro e p ⟨rfl,l⟩
 refine⟨_,rfl,?_⟩
 have hE:=hE.trans l
 refine gS (Yk.extract (vs:= [.pointer (some ⟨(H.F k),0,none⟩),NI 0]) rfl rfl (gS (Yk.extract (vs:= [.pointer (some ⟨(H.F k),0,none⟩),NI 0]) rfl rfl (gS (Yk.eqI (a:=(0:Nat)) (b:=(0:Nat)) rfl rfl (AZ _ _ _ _) (kF (by decide) (cF rfl (gS (Yk.nilCheck rfl (gS (Yk.fieldAt K9 rfl (gS (Yk.cell1 S2 rfl rfl (cellAt (eb hE hfb) rfl) (gS (Yk.callA1 Pq rfl ((IR _ (H.V k) ((D.files.getD k ([],0)).1) (hfr.keep hE) (by omega)).mono ?_))))))))))))))))
 rintro e q ⟨m,rfl,i⟩
 refine⟨_,rfl,?_⟩
 have r:=hE.size
 have n:=i.own
 refine Dh rfl (vr m rfl) (vr (NI 0) rfl) ?_
 have hE:=hE.trans i.ext
 exact⟨_,by rw[hV],by rw[hV];exact BZ n (by omega),hE⟩

theorem J9(w:World):
  Calls Tryz.prog 9 #[.pointer none] w fun e w' =>e = .returned (.slice none 0 0)∧Ext w w' :=by
 refine gG (args:= [.pointer none]) Tryz.func9 rfl 12 rfl rfl ?_
 have hE:=Ext.refl w
 refine gS (Yk.callA2 Fw rfl rfl ((F9 _ (Value.slice none 0 0) [] (RG.nil _ _ _)).mono ?_))
 rintro e f ⟨rfl,c⟩
 refine⟨_,rfl,?_⟩
 refine gS (Yk.eqI (a:=(1:Nat)) (b:=(0:Nat)) rfl rfl (AZ _ _ _ _) (kT (by decide) (cT rfl (AX rfl (vr (Value.slice none 0 0) rfl) ?_))))
 have hE:=hE.trans c
 exact⟨rfl,hE⟩

theorem Rh(base:Nat)(w:World)(H:Dk)(D:An)(hS:DkS base w H D)(hlen:D.now.length<1099511627776):
  Calls Tryz.prog 9 #[PQ H.g 0] w fun e w' =>∃v,e = .returned v∧OG w.heap.size 9 1 B1 w' v (As D)∧Ext w w' :=by
 have hb:=hS.blk
 have hgl:=(bl hb)
 have i:=hS
 refine gG (args:= [PQ H.g 0]) Tryz.func9 rfl 12 rfl rfl ?_
 have hE:=Ext.refl w
 cases hdn:D.down
 ·have hV:As D=D.now.map Prod.fst:=if_neg (by rw[hdn];decide)
  have hr:readyL D []=0:=IL hdn rfl
  refine gS (Yk.callA2 Fw rfl rfl ((Dr base _ H D (hS.keep hE) (Value.slice none 0 0) [] (RG.nil _ _ _) (by simp)).mono ?_))
  rintro e c ⟨rfl,f⟩
  refine⟨_,rfl,?_⟩
  have hb:=eb f hb
  refine gS (Yk.eqI (a:=(readyL D []:Nat)) (b:=(0:Nat)) rfl rfl (AZ _ _ _ _) (kF (by omega) (cF rfl (gS (Yk.nilCheck rfl (gS (Yk.fieldAt Mf rfl (gS (Yk.cell1 JW rfl rfl (cellAt hb rfl) ?_)))))))))
  have hE:=hE.trans f
  have hm1:=(hS.keep hE).now
  refine gS (Yk.callA1 Pr rfl ((J3 _ _).mono ?_))
  rintro e h ⟨rfl,hwk⟩
  refine⟨_,rfl,?_⟩
  have hxk:Ext c h:=by rw[hwk];exact(Below.refl _ _).alloc (Nat.le_refl _) _
  refine gS (Yk.callA1 Ps rfl ((HK c h hwk hm1 i.ok.now hlen).mono ?_))
  rintro e n ⟨j,rfl,k,l⟩
  refine⟨_,rfl,?_⟩
  have hE:=hE.trans hxk
  have o:=hE.size
  refine AX rfl (vr j rfl) ?_
  have hE:=hE.trans l
  exact⟨_,rfl,by rw[hV];exact OG.low k (by omega),hE⟩
 have hV:As D= []:=if_pos hdn
 have hr:readyL D []=9:=GQ hdn
 refine gS (Yk.callA2 Fw rfl rfl ((Dr base _ H D (hS.keep hE) (Value.slice none 0 0) [] (RG.nil _ _ _) (by simp)).mono ?_))
 rintro e p ⟨rfl,m⟩
 refine⟨_,rfl,?_⟩
 refine gS (Yk.eqI (a:=(readyL D []:Nat)) (b:=(0:Nat)) rfl rfl (AZ _ _ _ _) (kT (by omega) (cT rfl (AX rfl (vr (Value.slice none 0 0) rfl) ?_))))
 have hE:=hE.trans m
 exact⟨_,rfl,by rw[hV];exact OG.nil _ _ _ _ _,hE⟩

theorem Ri(w:World)(n:Int):
  Calls Tryz.prog 30 #[.pointer none, .int .i64 n] w fun e w' =>e = .returned (.tuple #[])∧Ext w w' :=by
 refine gG (args:= [.pointer none, .int .i64 (n:Int)]) Tryz.func30 rfl 11 rfl rfl ?_
 have hE:=Ext.refl w
 refine gS (Yk.neqNil JU rfl (cF rfl (rt0 rfl ?_)))
 exact⟨rfl,hE⟩

theorem Sa(w0 w:World)(a:Ext w0 w)(H:Dk)(D:An)(hS:DkS w0.heap.size w H D)(n:Int):
  Calls Tryz.prog 30 #[PQ H.g 0, .int .i64 n] w fun e w' =>e = .returned (.tuple #[])∧DkT w0.heap.size w H D w' H { D with arm:=n.toNat } :=by
 have hb:=hS.blk
 have hgl:=(bl hb)
 have hgl0:=hS.lo.1
 have hsz0:=a.size
 have f:=hS
 have hgr:=World.grownBy.refl w (some H.g)
 refine gG (args:= [PQ H.g 0, .int .i64 (n:Int)]) Tryz.func30 rfl 11 rfl rfl ?_
 have hE:=Ext.refl w
 refine gS (Yk.neqNil JU rfl (cT rfl (gS (Yk.max0 rfl rfl (gS (Yk.nilCheck rfl (gS (Yk.fieldAt CA rfl (gS (Yk.storeC (i:=5) (v:=NI n.toNat) rfl rfl hb (Nat.le_of_ble_eq_true rfl) Ph rfl rfl fun h b c j=> ?_))))))))))
 have hgr:w.grownBy h (some H.g):=Aq hgr c (fun _ e=> .inl e)
 clear hE
 have a:=Aa a c (Nat.le_trans (Nat.le_refl _) (by omega))
 clear hb
 have hb:=b;clear b
 have k:=bl hb
 refine rt0 rfl ?_
 exact⟨rfl,f.setBlkT hgr hb⟩
open Go.RowKit
set_option maxRecDepth 100000
set_option linter.unusedVariables false
set_option linter.unusedSimpArgs false
theorem RG.kept{α:Type}{k:Nat}{enc:α→List Value}{w w' :World}{v:Value}{l:List α}(h:RG k enc w v l){row:Option Nat}(hg:w.grownBy w' row)(hv:v.ownBlock=none∨v.ownBlock≠row):RG k enc w' v l:=by
 refine⟨h.1,?_⟩
 obtain⟨h1,ao,cap,rfl,h2,h3,h4,h5⟩:=h.2
 refine⟨h1,ao,cap,rfl,h2,h3,h4,fun a ha j u hu=> ?_⟩
 have hc:=h5 a ha j u hu
 subst ha
 have hlt:=World.block_lt_of_cell? w _ hc
 have hbl:(a.add j).block=a.block:=by unfold Addr.add;split <;> rfl
 have hne:(some a.block)≠row:=by
  rcases hv with hv | hv
  ·cases hv
  ·exact hv
 rw[hbl]at hlt
 rw[World.cell?_of_block (w:=w) (by rw[hbl];exact hg.block a.block hlt hne)]
 exact hc
theorem Gd(t:TypeId)(a b:Int)(hb:b≠0):Go.binOp .rem t (.int .i64 a) (.int .i64 b)=pure (.int .i64 (Int.tmod a b)):=by
 unfold Go.binOp
 simp only[ne_eq,not_true_eq_false,if_false,Op.intDiv]
 rw[if_neg hb]
theorem EB(x:Int)(m:Nat): -(m:Int)≤Int.tmod x ((m+1:Nat):Int)∧Int.tmod x ((m+1:Nat):Int)≤m:=by
 have h1:=Int.tmod_lt_of_pos x (show(0:Int)<((m+1:Nat):Int) by omega)
 have h2:=Int.lt_tmod_of_pos x (show(0:Int)<((m+1:Nat):Int) by omega)
 omega
theorem It(t:TypeId)(x:Int)(m:Nat)(y:Int)(hy:y=Int.tmod x ((m+1:Nat):Int)+m+1):Go.binOp .rem t (.int .i64 y) (NI (m+1))=pure (NI (Int.emod x ((m+1:Nat):Int)).toNat):=by
 have hb:=EB x m
 have h:=Gd t y ((m+1:Nat):Int) (by omega)
 refine h.trans ?_
 have a:Int.tmod y ((m+1:Nat):Int)=Int.emod y ((m+1:Nat):Int):=Int.tmod_eq_emod_of_nonneg (by omega)
 have b:Int.emod y ((m+1:Nat):Int)=Int.emod x ((m+1:Nat):Int):=by
  have h3:Int.tmod x ((m+1:Nat):Int)=x-((m+1:Nat):Int)*Int.tdiv x ((m+1:Nat):Int):=Int.tmod_def _ _
  have h4:y=x+((m+1:Nat):Int)*(1-Int.tdiv x ((m+1:Nat):Int)):=by
   rw[hy,h3,Int.mul_sub,Int.mul_one]
   omega
  show y%_=x%_
  rw[h4,Int.add_mul_emod_self_left]
 have h5:0≤Int.emod x ((m+1:Nat):Int):=Int.emod_nonneg x (show((m+1:Nat):Int)≠0 by omega)
 rw[a,b]
 show pure (Value.int .i64 (Int.emod x _))=pure (Value.int .i64 (((Int.emod x ((m+1:Nat):Int)).toNat:Nat):Int))
 rw[Int.toNat_of_nonneg h5]
def AT(q:Nat):An:=⟨q,[],[],[],[],0,0,false⟩
theorem LD(q:Nat):DOk (AT q):=⟨DirOk.nil _,DirOk.nil _,fun a h=>(by cases h),fun x h=>(by cases h)⟩
theorem Yk.build3{P:Program}{K:Value→World→Prop}{ρ:Ai}{w:World}{d:Option Tmp}{t ty:TypeId}{pos:String}{af:Array Edge}{gd:Option (Nat × Bool)}{i0 i1 i2:Nat}{x0 x1 x2:Operand}{a b c v:Value}(h0:Ab ρ x0=a)(h1:Ab ρ x1=b)(h2:Ab ρ x2=c)(hr:∀w:World,(Instr.build t #[(i0,a),(i1,b),(i2,c)]).run P w = .ok v w)(hk:K v w):Yk P K ((execOp (Ab ρ) ⟨d, .build t #[(i0,x0),(i1,x1),(i2,x2)],ty,pos,af,gd⟩).run P w):=
 Yk.build (by simp[h0,h1,h2]) hr hk
theorem Rj(q:Int)(a b:Nat)(w:World):(Instr.build 52 #[(0, .int .i64 q),(1, .map (some a)),(2, .map (some b))]).run Tryz.prog w = .ok (.agg #[.int .i64 q, .map (some a), .map (some b), .slice none 0 0,NI 0,NI 0, .bool false]) w:=by kernel_rfl
theorem Du:Tryz.prog.underlying 27=some (.slice 3):=by kernel_rfl
theorem Pt:∀w' :World,(sizeOf 3).run Tryz.prog w' = .ok 1 w' :=fun _=>by kernel_rfl
theorem Nt:(Tryz.prog.info? 27).map (·.size)=some 1:=by kernel_rfl
set_option maxHeartbeats 1600000
theorem Rk(w:World)(q:Int)(hq:q<0∨1073741824<q):
  Calls Tryz.prog 5 #[.int .i64 q] w fun e w' =>e = .returned (.pointer none)∧Ext w w' :=by
 refine gG (args:= [.int .i64 (q:Int)]) Tryz.func5 rfl 14 rfl rfl ?_
 have hE:=Ext.refl w
 by_cases hq0:q<0
 ·refine gS (Yk.eqI rfl rfl (D3 _ .i64 (q:Int) ((0:Nat):Int)) (kT (by omega) (gS (Yk.pickT rfl rfl (cT rfl (AX rfl (vr (.pointer none) rfl) ?_))))))
  exact⟨rfl,hE⟩
 refine gS (Yk.eqI rfl rfl (D3 _ .i64 (q:Int) ((0:Nat):Int)) (kF (by omega) (gS (Yk.eqI rfl rfl (GE _ .i64 (q:Int) ((1073741824:Nat):Int)) (kT (by omega) (gS (Yk.pickF rfl rfl (cT rfl (AX rfl (vr (.pointer none) rfl) ?_)))))))))
 exact⟨rfl,hE⟩

theorem Sb(w:World)(q:Nat)(hq:q≤1073741824):
  Calls Tryz.prog 5 #[NI q] w fun e w' =>∃H,e = .returned (PQ H.g 0)∧DkS w.heap.size w' H (AT q)∧Ext w w' :=by
 refine gG (args:= [NI q]) Tryz.func5 rfl 14 rfl rfl ?_
 have hE:=Ext.refl w
 refine gS (Yk.eqI (a:=(q:Nat)) (b:=(0:Nat)) rfl rfl (AO _ _ _ _) (kF (by omega) (gS (Yk.eqI (a:=(q:Nat)) (b:=(1073741824:Nat)) rfl rfl (Ca _ _ _ _) (kF (by omega) (gS (Yk.pickF rfl rfl (cF rfl ?_))))))))
 have v:=hE.size
 refine gS (Yk.mkMap St (pF (fun _=>0)) Nm fun c p x hm8 r y=> ?_)
 have z:c<p.heap.size:=by omega
 have hE:=hE.trans r
 have aa:=hE.size
 refine gS (Yk.mkMap St (pF (fun _=>0)) Nm fun f s ab hm16 m ac=> ?_)
 have ad:f<s.heap.size:=by omega
 refine gS (Yk.build3 (vr (NI q) rfl) (vr (.map (some c)) rfl) (vr (.map (some f)) rfl) (fun w=>Rj _ _ _ w) (gS (Yk.box (cs:=(FO q c f (.slice none 0 0) 0 0 false:List Value).toArray) (vr (.agg (FO q c f (.slice none 0 0) 0 0 false).toArray) rfl) fun h t n o l ae=> ?_)))
 have hE:=hE.trans m
 have af:=hE.size
 have hm8:=hm8.keep m
 have ag:=AE hm8.lt n
 have ah:=AE hm16.lt n
 have u:=o;clear o
 have ai:h<t.heap.size:=by omega
 refine AX rfl (vr (PQ h 0) rfl) ?_
 have hE:=hE.trans l
 have hm8:=hm8.keep l
 have hm16:=hm16.keep l
 exact⟨⟨h,c,f, .slice none 0 0,fun _=>0,fun _=> .slice none 0 0⟩,rfl,⟨u,hm8,hm16,by show c≠f;omega,⟨[],World.ownsRow_nil _ _ _ 1,rfl,fun i hi=>absurd hi (Nat.not_lt_zero _)⟩,⟨fun k hk=>absurd hk (Nat.not_lt_zero _),fun i j hi=>absurd hi (Nat.not_lt_zero _),fun i j hi=>absurd hi (Nat.not_lt_zero _)⟩,LD q,by show _≤h∧_≤c∧_≤f;omega⟩,hE⟩

theorem Sc(w:World)(bf:Nat)(vf:Value)(fs:List Int)(hbf:w.heap[bf]? =some (.cells ([vf]).toArray 27 (0,0)))(hrf:RG 1 DG w vf fs)(m:Nat)(hm:m<4611686018427387904)(hf:fs.length=0):
  Calls Tryz.prog 64 #[NI m,PQ bf 0] w fun e w' =>e = .returned (NI 0)∧Ext w w' :=by
 have hbl:=(bl hbf)
 have hgr:=World.grownBy.refl w (some bf)
 refine gG (args:= [NI m,PQ bf 0]) Tryz.func64 rfl 23 rfl rfl ?_
 have hE:=Ext.refl w
 refine gS (Yk.cell1 Du rfl rfl (cellAt hbf rfl) (gS (Yk.lenRG Du (RG.of hrf rfl) (gS (Yk.eqI (a:=(fs.length:Nat)) (b:=(0:Nat)) rfl rfl (AY _ _ _ _) (kT (by omega) (cT rfl (AX rfl (vr (NI 0) rfl) ?_))))))))
 exact⟨rfl,hE⟩

theorem Sd(w:World)(bf:Nat)(vf:Value)(fs:List Int)(hbf:w.heap[bf]? =some (.cells ([vf]).toArray 27 (0,0)))(hrf:RG 1 DG w vf fs)(hap:OB vf bf)(m:Nat)(hm:m<4611686018427387904)(hf:0<fs.length):
  Calls Tryz.prog 64 #[NI m,PQ bf 0] w fun e w' =>∃v',e = .returned (NI (Int.emod (fs.getD 0 0) ((m+1:Nat):Int)).toNat)∧w'.heap[bf]? =some (.cells ([v']).toArray 27 (0,0))∧RG 1 DG w' v' (fs.drop 1)∧v'.ownBlock=vf.ownBlock∧w.grownBy w' (some bf):=by
 have hbl:=(bl hbf)
 have hgr:=World.grownBy.refl w (some bf)
 refine gG (args:= [NI m,PQ bf 0]) Tryz.func64 rfl 23 rfl rfl ?_
 have hE:=Ext.refl w
 refine gS (Yk.cell1 Du rfl rfl (cellAt hbf rfl) (gS (Yk.lenRG Du (RG.of hrf rfl) (gS (Yk.eqI (a:=(fs.length:Nat)) (b:=(0:Nat)) rfl rfl (AY _ _ _ _) (kF (by omega) (cF rfl (gS (Yk.cell1 Du rfl rfl (cellAt hbf rfl) ?_)))))))))
 have o:(DG (fs.getD (0) (0:Int))).length=1:=(RG.elem hrf (0:Int) (by omega))
 refine gS (Yk.atRG Du Pt (by decide) (0:Int) (RG.of hrf rfl) rfl (by omega) fun p h=>(gS (Yk.loadC Pb rfl (PR.cell (PR.of h rfl) rfl) ?_)))
 clear h
 refine gS (Yk.cell1 Du rfl rfl (cellAt hbf rfl) (gS (Yk.sliceLoG (l:=1) Du Pt rfl hrf rfl (by omega) fun f c hown11=> ?_)))
 have hown:=hown11
 have k:OB f bf:=fun e=>hap (hown.symm.trans e)
 refine gS (Yk.storeC (i:=0) (v:=f) rfl rfl hbf (Nat.le_of_ble_eq_true rfl) Nt (RG.one c).1 (RG.one c).2 fun n j g q=> ?_)
 have hrf:=RG.kept hrf g (.inr hap)
 have hgr:w.grownBy n (some bf):=Aq hgr g (fun _ e=> .inl e)
 clear hE
 have c:=RG.kept c g (.inr k)
 clear hbf
 have hbf:=j;clear j
 have r:=bl hbf
 have hbd:=EB (fs.getD 0 0) m
 refine gS (Yk.bin (xv:=NI m) (yv:=NI 1) rfl rfl rfl (Ap _ _ _ (by omega)) (gS (Yk.bin (xv:= .int .i64 (fs.getD (0) (0:Int))) (yv:=NI ((m)+(1))) rfl rfl rfl (Gd _ (fs.getD (0) (0:Int)) _ (by omega)) (gS (Yk.bin (xv:= .int .i64 ((Int.tmod (fs.getD (0) (0:Int)) ((m+1:Nat):Int)))) (yv:= .int .i64 (((m:Nat):Int))) rfl rfl rfl (Gc _ ((Int.tmod (fs.getD (0) (0:Int)) ((m+1:Nat):Int))) (((m:Nat):Int)) (by omega)) (gS (Yk.bin (xv:= .int .i64 ((((Int.tmod (fs.getD (0) (0:Int)) ((m+1:Nat):Int)))+(((m:Nat):Int))))) (yv:= .int .i64 (((1:Nat):Int))) rfl rfl rfl (Gc _ ((((Int.tmod (fs.getD (0) (0:Int)) ((m+1:Nat):Int)))+(((m:Nat):Int)))) (((1:Nat):Int)) (by omega)) (gS (Yk.bin (xv:=NI m) (yv:=NI 1) rfl rfl rfl (Ap _ _ _ (by omega)) (gS (Yk.bin (xv:= .int .i64 ((((((Int.tmod (fs.getD (0) (0:Int)) ((m+1:Nat):Int)))+(((m:Nat):Int))))+(((1:Nat):Int))))) (yv:=NI ((m)+(1))) rfl rfl rfl (It _ (fs.getD 0 0) m _ (by omega)) (AX rfl (vr (NI ((Int.emod (fs.getD 0 0) ((m+1:Nat):Int)).toNat)) rfl) ?_))))))))))))
 exact⟨f,rfl,hbf,c,hown,hgr⟩
open Go.RowKit
set_option linter.unusedVariables false
def D7(D:An)(n:Nat):Ba:=(D.acts.take n).foldl turnD D.kept
theorem HN{D:An}{n:Nat}(h:n<D.acts.length):D7 D (n+1)=turnD (D7 D n) (D.acts.getD n ⟨[],[],0⟩):=by
  unfold D7
  rw[List.take_succ_eq_append_getElem h,List.foldl_append,List.getD_eq_getElem?_getD,List.getElem?_eq_getElem h]
  rfl
theorem Ka{D:An}(h:DOk D)(n:Nat):DirOk D.files.length (D7 D n):=h.kept.fold fun a ha=>h.acts a ((List.take_sublist _ _).subset ha)
theorem FB(D:An)(l:List Int):D7 D (Bd l 0 (D.acts.length+1))=Aj D l:=rfl
def BO(D:An)(l:List Int)(L:Ba)(n:Nat):List (List UInt8 × Nat):=(L.take n).mapIdx fun i e=>CM D l i e.2
def Cv(L:Ba)(n:Nat):Ba:=Dp (L.take n)
theorem GU{α β:Type}(f:Nat→α→β)(l:List α)(a:α):(l++ [a]).mapIdx f=l.mapIdx f++ [f l.length a]:=by
  rw[List.mapIdx_append]
  simp
theorem Ge{D:An}{l:List Int}{L:Ba}{n:Nat}(h:n<L.length):BO D l L (n+1)=BO D l L n++ [CM D l n (L.getD n ([],0)).2]:=by
  unfold BO
  rw[List.take_succ_eq_append_getElem h,GU,List.length_take,Nat.min_eq_left (by omega),List.getD_eq_getElem?_getD,List.getElem?_eq_getElem h]
  rfl
theorem numN_succ{L:Ba}{n:Nat}(h:n<L.length):Cv L (n+1)=Cv L n++ [((L.getD n ([],0)).1,n)]:=by
  unfold Cv Dp
  rw[List.take_succ_eq_append_getElem h,GU,List.length_take,Nat.min_eq_left (by omega),List.getD_eq_getElem?_getD,List.getElem?_eq_getElem h]
  rfl
theorem Hb(D:An)(l:List Int)(L:Ba){n:Nat}(h:n≤L.length):(BO D l L n).length=n:=by
  unfold BO
  rw[List.length_mapIdx,List.length_take]
  omega
theorem Nu{L:Ba}(hs:Dj L){n:Nat}(h:n<L.length):AD (Cv L n) (L.getD n ([],0)).1=none:=by
  refine DU.2 fun e he q=> ?_
  have h1:e.1∈(Cv L n).map Prod.fst:=List.mem_map_of_mem he
  unfold Cv at h1
  rw[G4]at h1
  obtain⟨x,hx,hxe⟩:=List.mem_map.1 h1
  obtain⟨j,hj,hjx⟩:=List.mem_iff_getElem.1 hx
  rw[List.length_take]at hj
  rw[List.getElem_take]at hjx
  have h2:=List.pairwise_iff_getElem.1 hs j n (by omega) h (by omega)
  rw[List.getD_eq_getElem?_getD,List.getElem?_eq_getElem h,Option.getD_some]at q
  rw[hjx,hxe,q,EW]at h2
  cases h2
theorem Pu{L:Ba}(hs:Dj L){n:Nat}(h:n<L.length):updM (AD (Cv L n)) (L.getD n ([],0)).1 (some n)=AD (Cv L (n+1)):=by
  funext t
  rw[numN_succ h,EE]
  unfold updM
  by_cases ht:t=(L.getD n ([],0)).1
  · rw[if_pos ht,ht,Nu hs h]
    show _=AD [_] _
    rw[B7,if_pos rfl]
  · rw[if_neg ht]
    rw[B7,if_neg (fun q=>ht q.symm)]
    show _=(AD (Cv L n) t).or none
    rw[Option.or_none]
theorem DS(D:An)(l:List Int):BS D l = { quota:=D.quota,files:=BO D l (Aj D l) (Aj D l).length,now:=Cv (Aj D l) (Aj D l).length,kept:=Cv (Aj D l) (Aj D l).length,acts:= [],refused:=D.refused,arm:=0,down:=false } :=by
  unfold BS BO Cv
  rw[List.take_length]
theorem Rl{L:Ba}{n:Nat}{s:List UInt8}{k:Nat}(h:AD (Cv L n) s=some k):k<n:=by
  have:=ED h
  unfold Cv Dp at this
  obtain⟨i,hi,he⟩:=List.mem_mapIdx.1 this
  rw[List.length_take]at hi
  cases he
  omega
theorem FilesAt.snoc{base:Nat}{w:World}{F:Nat→Nat}{V:Nat→Value}{fs:List (List UInt8 × Nat)}(h:FilesAt base w F V fs){f:Nat}{v:Value}{x:List UInt8 × Nat}(hf:FileAt base w f v x)(h1:∀k,k<fs.length→F k≠f)(h2:∀k,k<fs.length→∀i,(V k).ownBlock=some i→v.ownBlock≠some i):
    FilesAt base w (Bz F fs.length f) (Bz V fs.length v) (fs++ [x]):=by
  refine⟨fun k hk=> ?_,fun i j hi hj e=> ?_,fun i j hi hj hne y hy=> ?_⟩
  · rw[List.length_append,List.length_singleton]at hk
    by_cases e:k=fs.length
    · subst e
      rw[BW,BW,DW]
      exact hf
    · have hk' :k<fs.length:=by omega
      rw[BJ _ _ hk',BJ _ _ hk',getD_left hk']
      exact h.at_ k hk'
  · rw[List.length_append,List.length_singleton]at hi hj
    by_cases ei:i=fs.length <;> by_cases ej:j=fs.length
    · omega
    · rw[ei,BW,BJ _ _ (by omega:j<fs.length)]at e
      exact absurd e.symm (h1 j (by omega))
    · rw[ej,BW,BJ _ _ (by omega:i<fs.length)]at e
      exact absurd e (h1 i (by omega))
    · rw[BJ _ _ (by omega:i<fs.length),BJ _ _ (by omega:j<fs.length)]at e
      exact h.inj i j (by omega) (by omega) e
  · rw[List.length_append,List.length_singleton]at hi hj
    by_cases ei:i=fs.length
    · rw[ei,BW]at hy
      rw[BJ _ _ (by omega:j<fs.length)]
      exact fun q=>h2 j (by omega) y q hy
    · rw[BJ _ _ (by omega:i<fs.length)]at hy
      by_cases ej:j=fs.length
      · rw[ej,BW]
        exact h2 i (by omega) y hy
      · rw[BJ _ _ (by omega:j<fs.length)]
        exact h.apart i j (by omega) (by omega) hne y hy
open Go.RowKit
set_option linter.unusedVariables false
section
variable {base : Nat} {w w' : World} {H : Dk} {D : An}
theorem FilesAt.setT{F:Nat→Nat}{V:Nat→Value}{fs:List (List UInt8 × Nat)}(h:FilesAt base w F V fs){g x:Nat}(hg:w.grownBy w' (some g))(ht:Cj w g=some x)(h1:x≠105+1)(h2:x≠5+1):FilesAt base w' F V fs:=
  h.chg (B:=fun i=>i=g) (Chg.ofGrown hg fun i e=> .inl (Option.some.inj e).symm) fun k hk=>
    ⟨fun e=>BC (BF (h.at_ k hk).blk) ht (fun q=>h1 q.symm) e,fun i hi e=>BC (Ck (h.at_ k hk).row hi) ht (fun q=>h2 q.symm) e⟩
theorem FilesAt.keep{F:Nat→Nat}{V:Nat→Value}{fs:List (List UInt8 × Nat)}(h:FilesAt base w F V fs)(hE:Ext w w'):FilesAt base w' F V fs:=FilesAt.chg h (B:=fun _=>False) (Chg.ofExt hE) fun _ _=>⟨fun q=>q,fun _ _ q=>q⟩
theorem FilesAt.low{F:Nat→Nat}{V:Nat→Value}{fs:List (List UInt8 × Nat)}(h:FilesAt base w F V fs){b' :Nat}(hb:b' ≤base):FilesAt b' w F V fs:=⟨fun k hk=>⟨(h.at_ k hk).blk,BZ (h.at_ k hk).row hb,Nat.le_trans hb (h.at_ k hk).lo⟩,h.inj,h.apart⟩
theorem FilesAt.nil(F:Nat→Nat)(V:Nat→Value):FilesAt base w F V []:=⟨fun k hk=>absurd hk (Nat.not_lt_zero _),fun i j hi=>absurd hi (Nat.not_lt_zero _),fun i j hi=>absurd hi (Nat.not_lt_zero _)⟩
theorem DkS.crashed(h:DkS base w H D){l:List Int}{F' :Nat→Nat}{V' :Nat→Value}{na nb:Nat}(h0:base≤w.heap.size)(hc:Chg (fun i=>i=H.g) w w')(hb:w'.heap[H.g]? =some (.cells (FO D.quota na nb (.slice none 0 0) D.refused 0 false).toArray 52 (0,0))) 
    (ha:MapF St (pF F') Nm w' na (AD (Cv (Aj D l) (Aj D l).length))) (hk:MapF St (pF F') Nm w' nb (AD (Cv (Aj D l) (Aj D l).length))) (hne:na≠nb) (hna:w.heap.size≤na) (hnb:w.heap.size≤nb)
    (hf:FilesAt w.heap.size w' F' V' (BO D l (Aj D l) (Aj D l).length)):DkT base w H D w' ⟨H.g,na,nb, .slice none 0 0,F',V'⟩ (BS D l):=by
  have hok:=h.ok.crash l
  have hl:(BS D l).files.length=(BO D l (Aj D l) (Aj D l).length).length:=by rw[DS]
  refine⟨⟨by rw[DS];exact hb,by rw[DS];exact ha,by rw[DS];exact hk,hne,⟨[],World.ownsRow_nil _ _ _ 1,rfl,fun i hi=>absurd hi (Nat.not_lt_zero _)⟩,by rw[DS];exact hf.low h0,hok,⟨h.lo.1,Nat.le_trans h0 hna,Nat.le_trans h0 hnb⟩⟩,rfl,hc.mono fun i _ e=> .inl e,fun i hi=> ?_⟩
  rcases hi with e | e | e | e | ⟨k,hk',e⟩
  · exact .inl (.inl e)
  · exact .inr ((show i=na from e)▸hna)
  · exact .inr ((show i=nb from e)▸hnb)
  · cases(show(none:Option Nat)=some i from e)
  · rw[hl]at hk'
    rcases e with e | e
    · exact .inr ((show i=F' k from e)▸(hf.at_ k hk').lo)
    · exact .inr (((hf.at_ k hk').row.lt i e).1)
end
def FAt(n0:Nat)(w:World)(v:Value)(l:List Int):Prop:=RG 1 (fun n:Int=> [Value.int .i64 n]) w v l∧(l= []∨∃b,v.ownBlock=some b∧b<n0)
theorem HO{α:Type}{k:Nat}{enc:α→List Value}{w w' :World}{v:Value}(h:RG k enc w v ([]:List α)):RG k enc w' v []:=by
  obtain⟨h0,h1,ao,cap,rfl,h2,h3,h4,h5⟩:=h
  exact⟨h0,h1,ao,cap,rfl,h2,h3,h4,fun a _ j u hu=>by simp at hu⟩
theorem FAt.keep{a:Nat}{w w' :World}{v:Value}{l:List Int}(h:FAt a w v l)(hE:Ext w w'):FAt a w' v l:=⟨h.1.keep hE,h.2⟩
theorem FAt.of{w:World}{v:Value}{l:List Int}(h:RG 1 (fun n:Int=> [Value.int .i64 n]) w v l):FAt w.heap.size w v l:=by
  refine⟨h,?_⟩
  cases l with
  | nil=>exact .inl rfl
  | cons x r=>
    obtain⟨-,h1,ao,cap,rfl,h2,h3,h4,h5⟩:=id h
    cases ao with
    | none=>exact absurd (h4 rfl).1 (by simp)
    | some a=>
      have hc:=h5 a rfl 0 (.int .i64 x) (by simp)
      have hl:=World.block_lt_of_cell? w _ hc
      refine .inr ⟨a.block,rfl,?_⟩
      have e:(a.add 0).block=a.block:=by unfold Addr.add;split <;> rfl
      rwa [e]at hl
theorem Nv{α:Type}{l:List α}{n i:Nat}{d:α}(h:i<n):(l.take n).getD i d=l.getD i d:=by
  rw[List.getD_eq_getElem?_getD,List.getElem?_take_of_lt h,←List.getD_eq_getElem?_getD]
theorem Pv{l:Ba}{j:Nat}(h:j<l.length):(l.map Prod.fst).getD j []=(l.getD j ([],0)).1:=by
  rw[List.getD_eq_getElem?_getD,List.getD_eq_getElem?_getD,List.getElem?_map,List.getElem?_eq_getElem h]
  rfl
theorem Hc:∀(acs:List AM) (l:Ba),(acs.foldl turnD l).length≤l.length+acs.length
  | [],l=>Nat.le_refl _
  | a :: r,l=>by
    have h1:=Hc r (turnD l a)
    have h2:=Fo l a
    rw[List.foldl_cons,List.length_cons]
    omega
theorem FC(D:An)(fs:List Int):(Aj D fs).length≤D.kept.length+D.acts.length:=by
  have h:=Hc (D.acts.take (Bd fs 0 (D.acts.length+1))) D.kept
  rw[List.length_take]at h
  unfold Aj
  omega
open Go.RowKit
set_option maxRecDepth 100000
set_option linter.unusedVariables false
set_option linter.unusedSimpArgs false
theorem FAt.set{a:Nat}{w w' :World}{v:Value}{l:List Int}(h:FAt a w v l){g:Nat}(hg:w.grownBy w' (some g))(hn:a≤g):FAt a w' v l:=by
 rcases h.2 with rfl | ⟨b,hb,hl⟩
 ·exact⟨HO h.1, .inl rfl⟩
 ·exact⟨h.1.kept hg (.inr (fun e=>by have:=Option.some.inj (hb.symm.trans e);omega)), .inr ⟨b,hb,hl⟩⟩
theorem Kb(w:World)(a bf:Nat)(hn:a≤bf)(vf:Value)(fs:List Int)(i:Nat)(hbf:w.heap[bf]? =some (.cells ([vf]).toArray 27 (0,0)))(hF:FAt a w vf (fs.drop i))(m:Nat)(hm:m<4611686018427387904):
  Calls Tryz.prog 64 #[NI m,PQ bf 0] w fun e w' =>∃v',e = .returned (NI (Bd fs i (m+1)))∧w'.heap[bf]? =some (.cells ([v']).toArray 27 (0,0))∧FAt a w' v' (fs.drop (i+1))∧w.grownBy w' (some bf):=by
 by_cases hi:i<fs.length
 ·have hl:0<(fs.drop i).length:=by rw[List.length_drop];omega
  rcases hF.2 with h0 | ⟨b,hb,hlt⟩
  ·rw[h0]at hl;exact absurd hl (Nat.lt_irrefl _)
  ·refine(Sd w bf vf (fs.drop i) hbf hF.1 (fun e=>by have:=Option.some.inj (hb.symm.trans e);omega) m hm hl).mono fun e w' q=> ?_
   obtain⟨v',h1,h2,h3,h4,h5⟩:=q
   refine⟨v',?_,h2,⟨by rw[List.drop_drop]at h3;exact h3, .inr ⟨b,h4.trans hb,hlt⟩⟩,h5⟩
   rw[h1]
   unfold Bd
   rw[if_pos hi,List.getD_eq_getElem?_getD,List.getElem?_drop,Nat.add_zero,←List.getD_eq_getElem?_getD]
 ·have h0:fs.drop i= []:=List.drop_eq_nil_of_le (by omega)
  have h1:fs.drop (i+1)= []:=List.drop_eq_nil_of_le (by omega)
  rw[h0]at hF
  refine(Sc w bf vf [] hbf hF.1 m hm rfl).mono fun e w' q=> ?_
  obtain⟨he,hE⟩:=q
  exact⟨vf,by rw[he];unfold Bd;rw[if_neg hi],(eb hE hbf),by rw[h1];exact hF.keep hE,Aq (World.grownBy.refl w (some bf)) hE.grown (fun _ e=>by cases e)⟩
theorem Kc:Plain Tryz.prog 64:=fun _ _=>by kernel_rfl
theorem Nw:∀w' :World,(sizeOf 107).run Tryz.prog w' = .ok 1 w' :=fun _=>by kernel_rfl
theorem Nx:Tryz.prog.underlying 107=some (.func #[49] #[] false):=by kernel_rfl
theorem Se(ao:Option Addr)(n c:Nat)(z:Int)(w:World):(Instr.build 105 #[(0, .slice ao n c),(1, .int .i64 z)]).run Tryz.prog w = .ok (.agg #[.slice ao n c, .int .i64 z]) w:=by kernel_rfl
set_option maxHeartbeats 1600000
theorem Ny(w:World)(vf:Value)(fs:List Int)(hrf:RG 1 (fun n:Int=> [Value.int .i64 n]) w vf fs):
  Calls Tryz.prog 28 #[.pointer none,vf] w fun e w' =>e = .returned (.tuple #[])∧Ext w w' :=by
 refine gG (args:= [.pointer none,vf]) Tryz.func28 rfl 102 rfl rfl ?_
 have hE:=Ext.refl w
 refine gS (Yk.box1 (vr vf rfl) (RG.one (hrf.keep hE)).1 fun b c g a f h=> ?_)
 have i:=a;clear a
 have j:b<c.heap.size:=by omega
 refine gS (Yk.eqlNil JU rfl (cT rfl (rt0 rfl ?_)))
 have hE:=hE.trans f
 exact⟨rfl,hE⟩

theorem Pw(w0 w:World)(a1:Ext w0 w)(H:Dk)(D:An)(hS:DkS w0.heap.size w H D)(vf:Value)(fs:List Int)(hrf:RG 1 (fun n:Int=> [Value.int .i64 n]) w vf fs)(hL:Co D):
  Calls Tryz.prog 28 #[PQ H.g 0,vf] w fun e w' =>∃H',e = .returned (.tuple #[])∧DkT w0.heap.size w H D w' H' (BS D fs):=by
 have hb:=hS.blk
 have hgl:=(bl hb)
 have hgl0:=hS.lo.1
 have hsz0:=a1.size
 have u:=hS
 have b3:=a1
 obtain⟨vs,hvs⟩:=hS.acts
 have hvl:=hvs.len
 have hva:RG 1 DF w H.va vs:=RG.ofOwn (⟨fun _ _=>rfl,by rw[enV_flat];exact hvs.row⟩:OG w0.heap.size 107 1 DF w H.va vs)
 have hFA:=FAt.of hrf
 have hact:=hL.acts
 refine gG (args:= [PQ H.g 0,vf]) Tryz.func28 rfl 102 rfl rfl ?_
 have hE:=Ext.refl w
 refine gS (Yk.box1 (vr vf rfl) (RG.one (hrf.keep hE)).1 fun p w3 ci bb bc cj=> ?_)
 have m:=Ext.refl w
 have ck:=hE.size
 have cl:=a1.size
 have r:=bb;clear bb
 have cm:p<w3.heap.size:=by omega
 have m:=m.trans bc
 have hFA:FAt w.heap.size w3 vf (fs.drop 0):=(hFA.keep m)
 have hbfw:w.heap.size≤p:=by omega
 have hbfl:p<w3.heap.size:=(bl r)
 have hE:=hE.trans bc
 refine gS (Yk.eqlNil JU rfl (kB (rfl) (cF rfl (gS (Yk.mkFunc (vs:= #[PQ p 0]) (by simp only[List.map_toArray,List.map_cons,List.map_nil];exact congrArg List.toArray (HC (vr (PQ p 0) rfl))) (gS (Yk.nilCheck rfl (gS (Yk.fieldAt Mn rfl (gS (Yk.cell1 JW rfl rfl (cellAt (eb hE hb) rfl) (gS (Yk.callA1 Pi rfl ((Gb _ (hS.keep hE).kept).mono ?_))))))))))))))
 rintro e bd ⟨nl,rfl,hnl,hml,a3⟩
 refine⟨_,rfl,?_⟩
 have hFA:FAt w.heap.size bd vf (fs.drop 0):=(hFA.keep a3)
 have hE:=hE.trans a3
 have hnlw:w.heap.size≤nl:=by have:=hE.size;omega
 have hnb:p≠nl:=by omega
 have hml:MapF St (pF H.F) Nm bd nl (AD (D7 D 0)):=hml
 have hnll:=hml.lt
 refine BV [0,1,2,3,4,5,6,7,8,9,13,10,11,12] [10] [1,2] [3] fun b4 ar=> ?_
 have hFA:FAt w.heap.size b4 vf (fs.drop 0):=(hFA.keep ar)
 have hE:=hE.trans ar
 refine BM hE ?_
 refine yp (Yk.nilCheck rfl zz) (yp (Yk.fieldAt HJ rfl zz) (yf (fun _ ⟨hE,_⟩=>Yk.cell1 G9 rfl rfl (cellAt (eb hE hb) rfl) zz) (ys (Yk.nilCheck rfl zz) (ys (Yk.fieldAt HJ rfl zz) (ys (Yk.cell1 G9 rfl rfl (cellAt (eb hE hb) rfl) zz) (ys (Yk.lenRG G9 (RG.of (hva.keep hE) rfl) zz) ?_))))))
 have hZ1:=a3.trans ar
 have r:=eb hZ1 r
 have htb:=BF r
 refine yI (Yk.clo Kc (caps:= #[PQ p 0]) rfl #[NI vs.length,PQ p 0] (by simp only[List.map_toArray,List.map_cons,List.map_nil,List.append_toArray,List.cons_append,List.nil_append];exact congrArg List.toArray (D4 rfl rfl)) ((Kb _ w.heap.size p hbfw vf fs (0) r hFA (vs.length) (by omega)).mono ?_))
 rintro e cn ⟨ag,rfl,be,hF26,a4⟩
 refine⟨_,rfl,?_⟩
 have hE:=Aa hE a4 (Nat.le_trans (Nat.le_refl _) (by omega))
 have m:=m.trans hZ1
 have m:=Aa m a4 (Nat.le_trans (Nat.le_refl _) (by omega))
 have hml:=hml.keep ar
 have hml:=MapF.other hml a4 (DV (by omega))
 clear hFA
 clear r
 have r:=be;clear be
 have hFA:=hF26;clear hF26
 have co:=bl r
 refine⟨⟨hE,trivial⟩,?_⟩
 have hnf:Bd fs (0) (vs.length+1)≤vs.length:=by have:=EF fs 0 (n:=vs.length+1) (Nat.succ_pos _);omega
 refine yS (Yk.sliceHiG (n:=Bd fs (0) (vs.length+1)) G9 Nw rfl (hva.keep hE) rfl hnf fun am b5 hown33=> ?_)
 have hvt:=b5
 have hvb:Value.ownBlock am=H.va.ownBlock:=hown33
 have hvnl:OB am nl:=fun e=>by have h:=hvb.symm.trans e;have:=(hvs.row.lt _ h).2;omega
 refine ys (Yk.lenRG G9 (RG.of hvt rfl) zz) (gL (fun(ρ:Ai) (wz:World)=>∃i:Nat,ρ 0=(PQ H.g 0:Value)∧ρ 1=(vf:Value)∧ρ 3=(PQ p 0:Value)∧ρ 4=(.func (.func 64) #[] #[PQ p 0]:Value)∧ρ 5=(.map (some nl):Value)∧ρ 14=(.bool (false):Value)∧ρ 32=(am:Value)∧ρ 33=(NI (((vs.take (Bd fs (0) (vs.length+1)))).length):Value)∧ρ 34=(NI i:Value)∧Ext w wz∧Ext w wz∧wz.heap[p]? =some (.cells ([ag]).toArray 27 (0,0))∧FAt w.heap.size wz ag (fs.drop (1))∧RG 1 (DF) wz am (vs.take (Bd fs (0) (vs.length+1)))∧MapF St (pF H.F) Nm wz nl (AD (D7 D i))∧(i≤Bd fs (0) (vs.length+1))∧True) (fun ρ _=>(Bd fs (0) (vs.length+1))-(intOf (ρ 34)).toNat) ⟨0,rfl,rfl,rfl,rfl,rfl,rfl,rfl,rfl,rfl,hE,m,r,hFA,hvt,hml,Nat.zero_le _,trivial⟩ ?_)
 clear hml
 clear hE m r hFA hvt
 rintro b6 b7 ⟨i,z,T1,T3,T4,T5,aw,ap,aq,ai,hE,m,r,hFA,hvt,hml,hi,-⟩
 have q34:=ai
 refine gS (Yk.eqI (a:=(i:Nat)) (b:=(((vs.take (Bd fs (0) (vs.length+1)))).length:Nat)) ai aq (AO _ _ _ _) ?_)
 refine cD rfl (fun a5=> ?_) fun a5=> ?_
 ·have hlt:i<Bd fs (0) (vs.length+1):=by have h:=a5;rw[List.length_take]at h;omega
  have hia:i<D.acts.length:=by have:=EF fs 0 (n:=vs.length+1) (Nat.succ_pos _);omega
  have hhE:=hE
  have hat:ActAt b7 H.F ((vs.take (Bd fs (0) (vs.length+1))).getD i undef) (D.acts.getD i ⟨[],[],0⟩):=by rw[Nv hlt];exact(hvs.at_ i hia).chg (B:=fun _=>False) (Chg.ofExt hhE) (fun _ _ q=>q.elim) rfl
  have haok:=u.ok.acts _ (BD (d:=⟨[],[],0⟩) hia)
  obtain⟨f,caps,hve,hpl,hcl⟩:=J2 hat hml (Ka u.ok i) haok
  have cp:(DF (((vs.take (Bd fs (0) (vs.length+1)))).getD (i) undef)).length=1:=(RG.elem hvt undef (by omega))
  refine gS (Yk.atRG G9 Nw (by decide) undef (RG.of hvt ap) ai (by omega) fun cq bf=>(gS (Yk.loadC Nx rfl (PR.cell (PR.of bf rfl) rfl) ?_)))
  clear bf
  refine gS (Yk.cloT hpl rfl hve T5 hcl fun b8 hR44=> ?_)
  have hE:=Aa hE hR44.2 (Nat.le_trans (Nat.le_refl _) (by omega))
  have m:=Aa m hR44.2 (Nat.le_trans (Nat.le_refl _) (by omega))
  have r:=kb hR44.2 r (by omega)
  have hFA:FAt w.heap.size b8 ag (fs.drop (1)):=FAt.set hFA hR44.2 (by omega)
  have hvt:=RG.kept hvt hR44.2 (.inr hvnl)
  clear hml
  have hml:=hR44.1
  rw[←HN hia]at hml
  have hnll:=hml.lt
  refine gS (Yk.bin (xv:=NI i) (yv:=NI 1) ai rfl rfl (Ap _ _ _ (by omega)) (gK (And.intro ⟨i+1,z,T1,T3,T4,T5,aw,ap,aq,rfl,hE,m,r,hFA,hvt,hml,by omega,trivial⟩ ?_)))
  show(Bd fs (0) (vs.length+1))-(intOf (NI ((i)+(1)))).toNat<(Bd fs (0) (vs.length+1))-(intOf (b6 34)).toNat
  rw[q34]
  simp only[intOf,Int.toNat_natCast];omega
 have hie:i=Bd fs (0) (vs.length+1):=by have h:=a5;rw[List.length_take]at h;omega
 rw[hie,hvl,FB]at hml
 have hLok:=u.ok.left fs
 have hLs:=hLok.sort
 have hLl:(Aj D fs).length<1099511627776:=Nat.lt_of_le_of_lt (FC D fs) hL.kept
 have hzc:=hE.size
 have hnlc:=MapF.lt hml
 have hbfc:=(bl r)
 refine gS (Yk.mkMap St (pF (fun _=>0)) Nm fun na ax cr hm48 a6 ct=> ?_)
 have hFA:FAt w.heap.size ax ag (fs.drop (1)):=(hFA.keep a6)
 have hnaw:w.heap.size≤na:=by omega
 have hnan:na≠nl:=by omega
 have hnab:na≠p:=by omega
 have hnag:na≠H.g:=by omega
 have hma:MapF St (pF (fun _=>0)) Nm ax na (AD (Cv (Aj D fs) 0)):=hm48
 have hnal:=hma.lt
 have hml:=hml.keep a6
 have hm1:=hml
 refine gS (Yk.callA1 Pr T5 ((J3 _ _).mono ?_))
 rintro e a7 ⟨rfl,hwk⟩
 refine⟨_,rfl,?_⟩
 have hxk:Ext ax a7:=by rw[hwk];exact(Below.refl _ _).alloc (Nat.le_refl _) _
 have hFA:FAt w.heap.size a7 ag (fs.drop (1)):=(hFA.keep hxk)
 have hZ2:=a6.trans hxk
 have hE:=hE.trans hZ2
 have hzk:=hE.size
 refine gS (Yk.callA1 Ps rfl ((HK ax a7 hwk hm1 hLok hLl).mono ?_))
 rintro e bg ⟨vn,rfl,hnr0,ay⟩
 refine⟨_,rfl,?_⟩
 have hFA:FAt w.heap.size bg ag (fs.drop (1)):=(hFA.keep ay)
 have hE:=hE.trans ay
 have hnr:OG w.heap.size 9 1 B1 bg vn ((Aj D fs).map Prod.fst):=OG.low hnr0 (by have:=hE.size;omega)
 have hZ3:=hZ2.trans ay
 have r:=eb hZ3 r
 have hnrb:OB vn p:=fun e=>BC (Ck hnr.2 e) (BF r) (by decide) rfl
 have hZ4:=hxk.trans ay
 have hma:=hma.keep hZ4
 have hnra:OB vn na:=fun e=>BC (Ck hnr.2 e) (MapF.tag hma) (by decide) rfl
 have m:=m.trans hZ3
 have hml:=hml.keep hZ4
 refine gS (Yk.lenRG JV (RG.of (RG.ofOwn hnr) rfl) (gL (fun(ρ:Ai) (wz:World)=>∃j:Nat,∃vb:Value,∃F1:Nat→Nat,∃V1:Nat→Value,ρ 0=(PQ H.g 0:Value)∧ρ 1=(vf:Value)∧ρ 3=(PQ p 0:Value)∧ρ 4=(.func (.func 64) #[] #[PQ p 0]:Value)∧ρ 5=(.map (some nl):Value)∧ρ 8=(.map (some na):Value)∧ρ 14=(.bool (false):Value)∧ρ 32=(am:Value)∧ρ 33=(NI (((vs.take (Bd fs (0) (vs.length+1)))).length):Value)∧ρ 34=(NI i:Value)∧ρ 45=(vn:Value)∧ρ 46=(NI ((((Aj D fs).map Prod.fst)).length):Value)∧ρ 47=(NI j:Value)∧Ext w wz∧Ext w wz∧MapF St (pF H.F) Nm wz nl (AD (Aj D fs))∧OG w.heap.size 9 1 (B1) wz vn ((Aj D fs).map Prod.fst)∧wz.heap[p]? =some (.cells ([vb]).toArray 27 (0,0))∧FAt w.heap.size wz vb (fs.drop (j+1))∧MapF St (pF F1) Nm wz na (AD (Cv (Aj D fs) j))∧FilesAt w.heap.size wz F1 V1 (BO D fs (Aj D fs) j)∧(j≤(Aj D fs).length)∧True) (fun ρ _=>(Aj D fs).length-(intOf (ρ 47)).toNat) ⟨0,ag,(fun _=>0),(fun _=> .slice none 0 0),z,T1,T3,T4,T5,rfl,aw,ap,aq,ai,rfl,rfl,rfl,hE,m,hml,hnr,r,hFA,hma,FilesAt.nil _ _,Nat.zero_le _,trivial⟩ ?_))
 clear r
 clear hFA
 clear hvt
 clear hma
 clear hE m hml hnr
 rintro b9 cu ⟨j,vb,F1,V1,z,T1,T3,T4,T5,T8,aw,ap,aq,ai,bh,bi,a0,hE,m,hml,hnr,hbv,hFA,hma,hfi,hj,-⟩
 have q47:=a0
 have hbfl2:=(bl hbv)
 have hnal2:=hma.lt
 refine gS (Yk.eqI (a:=(j:Nat)) (b:=((((Aj D fs).map Prod.fst)).length:Nat)) a0 bi (AO _ _ _ _) ?_)
 refine cD rfl (fun a8=> ?_) fun a8=> ?_
 ·have hlt:j<(Aj D fs).length:=by have h:=a8;rw[List.length_map]at h;exact h
  have hhE:=hE
  have hnm:((Aj D fs).map Prod.fst).getD j []=((Aj D fs).getD j ([],0)).1:=Pv hlt
  obtain⟨k,hk⟩:∃k,k=((Aj D fs).getD j ([],0)).2:=⟨_,rfl⟩
  have hmemj:=BD (d:=([],0)) hlt
  have hlk:AD (Aj D fs) (((Aj D fs).map Prod.fst).getD j [])=some k:=by rw[hnm,hk];exact Im hLs hmemj
  have hkl:k<D.files.length:=hk▸hLok.num _ hmemj
  have hmj:Bu (((Aj D fs).map Prod.fst).getD j [])=true:=by rw[hnm];exact hLok.may _ hmemj
  have hfa:=u.files.at_ k hkl
  have hfb:=hfa.blk
  have hfr:RB w (H.V k) (D.files.getD k ([],0)).1:=RB.ofOwn hfa.row
  have hfl:=hL.files _ (BD (d:=([],0)) hkl)
  have hsy:=u.ok.syn _ (BD (d:=([],0)) hkl)
  have cv:(B1 ((((Aj D fs).map Prod.fst)).getD (j) ([]:List UInt8))).length=1:=(RG.elem (RG.ofOwn hnr) ([]:List UInt8) (by omega))
  refine gS (Yk.atRG JV O8 (by decide) ([]:List UInt8) (RG.of (RG.ofOwn hnr) bh) a0 (by omega) fun cw bj=>(gS (Yk.loadC Io rfl (PR.cell (PR.of bj rfl) rfl) ?_)))
  clear bj
  refine gS (Yk.lookMS E4 En (fun _ _=>Dq) JW Fu T5 rfl hml (B0 hmj).2 hlk ?_)
  have hfi_j0:=hfi
  refine BV [0,1,2,3,4,5,6,7,8,9,10,11,12,13,14,15,16,17] [15] [1,2] [3] fun bk ae=> ?_
  have hFA:FAt w.heap.size bk vb (fs.drop (j+1)):=(hFA.keep ae)
  have hfi:FilesAt w.heap.size bk F1 V1 (BO D fs (Aj D fs) j):=(hfi.keep ae)
  have hE:=hE.trans ae
  refine BM hE ?_
  refine yp (Yk.nilCheck rfl zz) (yp (Yk.fieldAt Lc rfl zz) (yf (fun _ ⟨hE,_⟩=>Yk.cell1 Pb rfl rfl (cellAt (eb hE hfb) rfl) zz) (ys (Yk.nilCheck rfl zz) (ys (Yk.fieldAt K9 rfl zz) (ys (Yk.cell1 S2 rfl rfl (cellAt (eb hE hfb) rfl) zz) (ys (Yk.lenRB S2 (RB.of (hfr.keep hE) rfl) zz) (ys (Yk.nilCheck rfl zz) (ys (Yk.fieldAt Lc rfl zz) (ys (Yk.cell1 Pb rfl rfl (cellAt (eb hE hfb) rfl) zz) (ys (Yk.bin (xv:=NI (((D.files.getD k ([],0)).1:List UInt8).length)) (yv:=NI ((D.files.getD k ([],0)).2)) rfl rfl rfl (BL _ _ _ (by omega) (by omega)) zz) ?_))))))))))
  have hbv:=eb ae hbv
  have htb:=BF hbv
  refine yI (Yk.clo Kc (caps:= #[PQ p 0]) T4 #[NI ((((D.files.getD k ([],0)).1:List UInt8).length)-((D.files.getD k ([],0)).2)),PQ p 0] (by simp only[List.map_toArray,List.map_cons,List.map_nil,List.append_toArray,List.cons_append,List.nil_append];exact congrArg List.toArray (D4 rfl rfl)) ((Kb _ w.heap.size p hbfw vb fs (j+1) hbv hFA ((((D.files.getD k ([],0)).1:List UInt8).length)-((D.files.getD k ([],0)).2)) (by omega)).mono ?_))
  rintro e bm ⟨bn,rfl,bo,hF70,ak⟩
  refine⟨_,rfl,?_⟩
  have hE:=Aa hE ak (Nat.le_trans (Nat.le_refl _) (by omega))
  have m:=m.trans ae
  have m:=Aa m ak (Nat.le_trans (Nat.le_refl _) (by omega))
  have hml:=hml.keep ae
  have hml:=MapF.other hml ak (DV (by omega))
  have hnr:=hnr.keep ae
  have hnr:=OG.kept hnr ak hnrb
  have hma:=hma.keep ae
  have hma:=MapF.other hma ak (DV (by omega))
  have hfi:FilesAt w.heap.size bm F1 V1 (BO D fs (Aj D fs) j):=FilesAt.setT hfi ak htb (by decide) (by decide)
  clear hbv
  clear hFA
  have hbv:=bo;clear bo
  have hFA:=hF70;clear hF70
  have cx:=bl hbv
  refine⟨⟨hE,trivial⟩,?_⟩
  refine ys (Yk.bin (xv:=NI ((D.files.getD k ([],0)).2)) (yv:=NI (Bd fs (j+1) ((((D.files.getD k ([],0)).1:List UInt8).length)-((D.files.getD k ([],0)).2)+1))) rfl rfl rfl (Ap _ _ _ (by have h:=(Fs u.ok fs j k).2;change (CM D fs j k).2≤(D.files.getD k ([],0)).1.length at h;show(CM D fs j k).2<_;omega)) zz) ?_
  have hcut:=Fs u.ok fs j k
  refine gS (Yk.nilCheck rfl (gS (Yk.fieldAt K9 rfl (gS (Yk.cell1 S2 rfl rfl (cellAt (eb hE hfb) rfl) (gS (Yk.sliceHi (xs:=(D.files.getD k ([],0)).1) (n:=((D.files.getD k ([],0)).2)+((Bd fs (j+1) ((((D.files.getD k ([],0)).1:List UInt8).length)-((D.files.getD k ([],0)).2)+1)))) S2 Fy rfl (hfr.keep hE) rfl (by exact(Fs u.ok fs j k).2) fun ca cb ha77=> ?_)))))))
  have hfi_c:=hfi
  refine gS (Yk.callA1 Pq rfl ((IR _ ca (((D.files.getD k ([],0)).1:List UInt8).take (((D.files.getD k ([],0)).2)+((Bd fs (j+1) ((((D.files.getD k ([],0)).1:List UInt8).length)-((D.files.getD k ([],0)).2)+1))))) cb (by simp only[List.length_take];omega)).mono ?_))
  rintro e cy ⟨s,rfl,aa⟩
  refine⟨_,rfl,?_⟩
  have ab:=Ext.refl bm
  have cz:=hE.size
  have c0:=m.size
  have cc:OB s na:=Ao aa.own hma.lt
  have aj:=aa.own
  obtain⟨ao_,n_,c_,hsl_⟩:∃ao n c,s = .slice ao n c:=RB.slice (RB.ofOwn aj)
  refine gS (Yk.build2 (v:= .agg ([s,NI (((D.files.getD k ([],0)).2)+((Bd fs (j+1) ((((D.files.getD k ([],0)).1:List UInt8).length)-((D.files.getD k ([],0)).2)+1))))]:List Value).toArray) (vr s rfl) (vr (NI (((D.files.getD k ([],0)).2)+((Bd fs (j+1) ((((D.files.getD k ([],0)).1:List UInt8).length)-((D.files.getD k ([],0)).2)+1))))) rfl) (fun w=>by rw[hsl_];exact Se _ _ _ _ w) ?_)
  have hE:=hE.trans aa.ext
  have hzb:=hE.size
  have ab:=ab.trans aa.ext
  have hfi_j:=(hfi.keep ab)
  refine gS (Yk.box (cs:=([s,NI ((D.files.getD k ([],0)).2+(Bd fs (j+1) ((D.files.getD k ([],0)).1.length-(D.files.getD k ([],0)).2+1)))]:List Value).toArray) (vr (.agg ([s,NI (((D.files.getD k ([],0)).2)+((Bd fs (j+1) ((((D.files.getD k ([],0)).1:List UInt8).length)-((D.files.getD k ([],0)).2)+1))))]:List Value).toArray) rfl) fun t bp a9 bq af c1=> ?_)
  have c2:=hE.size
  have m:=m.trans aa.ext
  have c3:=m.size
  have c4:=ab.size
  have hml:=hml.keep aa.ext
  have c5:=AE hml.lt a9
  have hma:=hma.keep aa.ext
  have c6:=AE hma.lt a9
  have hbv:=eb aa.ext hbv
  have c7:=AE (bl hbv) a9
  have ba:=bq;clear bq
  have c8:t<bp.heap.size:=by omega
  have hgfw:w.heap.size≤t:=by omega
  have hma:=hma.keep af
  have hmc:=MapF.congr (ev' :=pF (Bz F1 j t)) hma (fun a y hy=>by show PQ (Bz _ _ _ _) 0=_;rw[BJ _ _ (Rl hy)])
  have htm:=MapF.tag hmc
  have ab:=ab.trans af
  have aj:=Stab.own _ _ _ _ _ _ _ _ aj af
  have hfi2:FilesAt w.heap.size bp (Bz F1 j t) (Bz V1 j s) (BO D fs (Aj D fs) (j+1)):=by
    have hl:=Hb D fs (Aj D fs) hj
    have h:=FilesAt.snoc (hfi.keep ab) (f:=t) (v:=s) (x:=CM D fs j ((Aj D fs).getD j ([],0)).2) ⟨by rw[←hk];exact ba,by rw[←hk];exact BZ aj (by omega),hgfw⟩ (fun q hq e=>by have:=(bl (hfi_j.at_ q hq).blk);rw[e]at this;exact absurd this (by omega)) (fun q hq i hi e=>by have h1:=((hfi_c.at_ q hq).row.lt i hi).2;have h2:=(World.ownsRow.lt aj i e).1;omega)
    rw[hl]at h
    rw[Ge hlt]
    exact h
  refine gS (Yk.putM (ev:=pF (Bz F1 j t)) (c:=j) E4 En JW T8 (vr (St ((((Aj D fs).map Prod.fst)).getD (j) ([]:List UInt8))) rfl) (Eq.trans ((vr (PQ t 0) rfl)) (by show _=PQ (Bz F1 j t j) 0;rw[BW])) hmc (B0 hmj).2 fun br hM113 ac c9=> ?_)
  have hfi:=hfi2
  have hE:=hE.trans af
  have hE:=Aa hE ac (Nat.le_trans (Nat.le_refl _) (by omega))
  have m:=m.trans af
  have m:=Aa m ac (Nat.le_trans (Nat.le_refl _) (by omega))
  have hml:=hml.keep af
  have hml:=MapF.other hml ac (DV (by omega))
  have hnr:=hnr.keep (aa.ext.trans af)
  have hnr:=OG.kept hnr ac hnra
  have hfi:FilesAt w.heap.size br (Bz F1 j t) (Bz V1 j s) (BO D fs (Aj D fs) (j+1)):=FilesAt.setT hfi ac htm (by decide) (by decide)
  have hbv:=eb af hbv
  have hbv:=kb ac hbv (by omega)
  have hFA:=hFA.keep ab
  have hFA:FAt w.heap.size br bn (fs.drop (j+1+1)):=FAt.set hFA ac (by omega)
  clear ab
  have aj:=A5 aj ac cc
  have ba:=kb ac ba (by omega)
  clear hma
  have hma:=hM113
  rw[hnm,Pu hLs hlt]at hma
  refine gS (Yk.bin (xv:=NI j) (yv:=NI 1) a0 rfl rfl (Ap _ _ _ (by omega)) (gK (And.intro ⟨j+1,bn,(Bz F1 j t),(Bz V1 j s),z,T1,T3,T4,T5,T8,aw,ap,aq,ai,bh,bi,rfl,hE,m,hml,hnr,hbv,hFA,hma,hfi,by omega,trivial⟩ ?_)))
  show(Aj D fs).length-(intOf (NI ((j)+(1)))).toNat<(Aj D fs).length-(intOf (b9 47)).toNat
  rw[q47]
  simp only[intOf,Int.toNat_natCast];omega
 have hje:j=(Aj D fs).length:=by have h:=a8;rw[List.length_map]at h;omega
 rw[hje]at hma hfi
 have o:=(eb hE hb)
 have hgl17:=(bl o)
 have da:=hE.size
 have hnal17:=MapF.lt hma
 refine gS (Yk.callA1 Pi T8 ((Gb _ hma).mono ?_))
 rintro e ad ⟨nb,rfl,hnbl,hmb17,al⟩
 refine⟨_,rfl,?_⟩
 have hFA:FAt w.heap.size ad vb (fs.drop (j+1)):=(hFA.keep al)
 have hfi:FilesAt w.heap.size ad F1 V1 (BO D fs (Aj D fs) (Aj D fs).length):=(hfi.keep al)
 have hfi17:=hfi
 have hma:=hma.keep al
 have hma17:=hma
 have hE:=hE.trans al
 have hhE17:=hE
 have o:=eb al o
 have htd17:=BF o
 have hnbw:w.heap.size≤nb:=by omega
 have hnabn:na≠nb:=by omega
 have hgnb:H.g≠nb:=by omega
 have hC2:Chg (fun i=>i=H.g) ad ad:=Chg.refl _ _
 refine gS (Yk.nilCheck z (gS (Yk.fieldAt Mf rfl (gS (Yk.storeC (i:=1) (v:= .map (some na)) rfl T8 o (Nat.le_of_ble_eq_true rfl) No rfl rfl fun cd bs bt db=> ?_)))))
 clear m
 clear hnr
 have hbv:=eb al hbv
 have hbv:=kb bt hbv (by omega)
 have hC2:Chg (fun i=>i=H.g) ad cd:=Chg.set hC2 bt (.inl rfl)
 clear o
 have o:=bs;clear bs
 have dc:=bl o
 refine gS (Yk.nilCheck z (gS (Yk.fieldAt Mn rfl (gS (Yk.storeC (i:=2) (v:= .map (some nb)) rfl rfl o (Nat.le_of_ble_eq_true rfl) No rfl rfl fun ce bu bv dd=> ?_)))))
 have hbv:=kb bv hbv (by omega)
 have hC2:Chg (fun i=>i=H.g) ad ce:=Chg.set hC2 bv (.inl rfl)
 clear o
 have o:=bu;clear bu
 have de:=bl o
 refine gS (Yk.nilCheck z (gS (Yk.fieldAt HJ rfl (gS (Yk.storeC (i:=3) (v:=(Value.slice none 0 0)) rfl rfl o (Nat.le_of_ble_eq_true rfl) Nl rfl rfl fun cf bw bx df=> ?_)))))
 have hbv:=kb bx hbv (by omega)
 have hC2:Chg (fun i=>i=H.g) ad cf:=Chg.set hC2 bx (.inl rfl)
 clear o
 have o:=bw;clear bw
 have dh:=bl o
 refine gS (Yk.nilCheck z (gS (Yk.fieldAt CA rfl (gS (Yk.storeC (i:=5) (v:=NI 0) rfl rfl o (Nat.le_of_ble_eq_true rfl) Ph rfl rfl fun cg bz b0 di=> ?_)))))
 have hbv:=kb b0 hbv (by omega)
 have hC2:Chg (fun i=>i=H.g) ad cg:=Chg.set hC2 b0 (.inl rfl)
 clear o
 have o:=bz;clear bz
 have dj:=bl o
 refine gS (Yk.nilCheck z (gS (Yk.fieldAt Me rfl (gS (Yk.storeC (i:=6) (v:= .bool (false)) rfl rfl o (Nat.le_of_ble_eq_true rfl) Pk rfl rfl fun ch b1 b2 dk=> ?_)))))
 have hbv:=kb b2 hbv (by omega)
 have hC2:Chg (fun i=>i=H.g) ad ch:=Chg.set hC2 b2 (.inl rfl)
 clear o
 have o:=b1;clear b1
 have dl:=bl o
 refine rt0 rfl ?_
 have hCt:=(Chg.ofExt hhE17:Chg (fun i=>i=H.g) w _).trans hC2 (fun i e=> .inl e)
 have hTf:=u.crashed (l:=fs) b3.size hCt o (hma17.chg hC2 (fun e=>hnag e)) (hmb17.chg hC2 (fun e=>hgnb e.symm)) hnabn hnaw hnbw (hfi17.chg hC2 (fun k hk=>⟨fun e=>BC (BF (hfi17.at_ k hk).blk) htd17 (by decide) e,fun i hi e=>BC (Ck (hfi17.at_ k hk).row hi) htd17 (by decide) e⟩))
 exact⟨_,rfl,hTf⟩
abbrev Bs:=List UInt8
open Go.RowKit
set_option maxRecDepth 100000
theorem HP{l:List Value}{n:Nat}{v:Value}(h:l[n]? =some v):(l.drop n).take 1= [v]:=by
  obtain⟨hn,e⟩:=List.getElem?_eq_some_iff.1 h
  rw[List.drop_eq_getElem_cons hn,e]
  rfl
theorem AN{P:Program}{t:TypeId}{k:Nat}{l:List Value}(hl:l.length=k)(hi:(P.info? t).map (·.size)=some k):(P.info? t).map (·.size)=some l.toArray.size:=by rw[List.size_toArray,hl];exact hi
theorem PR.pcell{c v:Value}{w:World}(h:PR [c] v w):PCell c v w:=by
  obtain⟨b,o,rfl,h⟩:=h
  exact⟨_,rfl,h 0 c rfl⟩
section
variable {P : Program} {K : Value → World → Prop} {ρ : Ai} {w : World} {d : Option Tmp} {ty : TypeId} {pos : String} {af : Array Edge} {gd : Option (Nat × Bool)}
theorem Yk.ltSt{op:BinOp}(hop:op = .lss∨op = .geq){t ty2:TypeId}{x y:Operand}{l m:List UInt8}(hx:Ab ρ x=St l)(hy:Ab ρ y=St m)(b:Bool)(hb:b=match op with | .lss=>Op.bytesLess l m | _=> !(Op.bytesLess l m))(hk:K (.bool b) w):Yk P K ((execOp (Ab ρ) ⟨d, .binOp op t x y ty2,ty,pos,af,gd⟩).run P w):=by
  refine Yk.value (v:= .bool b) (w' :=w) ?_ hk
  subst hb
  unfold execOp
  rcases hop with rfl | rfl
  · simp only[hx,hy,eqGuard,Go.binOp,Op.stringOp,GF,Sem.run_bind,Sem.run_pure]
    rfl
  · simp only[hx,hy,eqGuard,Go.binOp,Op.stringOp,GF,Sem.run_bind,Sem.run_pure]
    rfl
end
open Go.RowKit
set_option linter.unusedVariables false
structure DBd (n : Nat) (D : An) : Prop where
  quota:D.quota≤1073741824
  refused:D.refused≤n
  arm:D.arm≤9223372036854775807
  acts:D.kept.length+D.acts.length≤n
  now:D.now.length≤n
  files:∀x∈D.files,x.1.length≤300*n
theorem DBd.file{n:Nat}{D:An}(h:DBd n D)(k:Nat):(AJ D k).1.length≤300*n:=by
  by_cases hk:k<D.files.length
  · exact h.files _ (F8 hk)
  · unfold AJ
    rw[List.getD_eq_getElem?_getD,List.getElem?_eq_none (by omega)]
    exact Nat.zero_le _
theorem Mp{l:List Nat}{m:Nat}(h:∀x∈l,x≤m):l.sum≤l.length*m:=by
  induction l with
  | nil=>simp
  | cons a r ih=>
    have h1:=h a List.mem_cons_self
    have h2:=ih fun x hx=>h x (List.mem_cons_of_mem _ hx)
    rw[List.sum_cons,List.length_cons,Nat.succ_mul]
    omega
theorem DBd.used{n:Nat}{D:An}(h:DBd n D):usedD D≤n*(300*n):=by
  unfold usedD
  have h1:=Mp (l:=D.now.map fun e=>(AJ D e.2).1.length) (m:=300*n) fun x hx=>by
    obtain⟨e,_,rfl⟩:=List.mem_map.1 hx
    exact h.file e.2
  rw[List.length_map]at h1
  exact Nat.le_trans h1 (Nat.mul_le_mul_right _ h.now)
theorem DBd.lt{n:Nat}{D:An}(h:DBd n D)(hn:n≤100000):Co D:=by
  have h1:=h.used
  have h2:n*(300*n)≤100000*(300*100000):=Nat.mul_le_mul hn (Nat.mul_le_mul_left _ hn)
  have h3:=h.acts
  have h4:=h.now
  have h5:=h.refused
  have h6:=h.arm
  exact⟨h.quota,by omega,by omega,by omega,by omega,by omega,by omega,fun x hx=>by have:=h.files x hx;omega⟩
theorem DBd.mono{n m:Nat}{D:An}(h:DBd n D)(hn:n≤m):DBd m D:=
  ⟨h.quota,Nat.le_trans h.refused hn,h.arm,Nat.le_trans h.acts hn,Nat.le_trans h.now hn,fun x hx=>Nat.le_trans (h.files x hx) (Nat.mul_le_mul_left _ hn)⟩
theorem DBd.new{q:Nat}(hq:q≤1073741824):DBd 0 (AT q):=⟨hq,Nat.le_refl _,Nat.zero_le _,Nat.le_refl _,Nat.le_refl _,fun x h=>by cases h⟩
theorem DBd.armed{n:Nat}{D:An}(h:DBd n D):DBd n (Bh D).1:=by
  unfold Bh
  split
  · exact h
  · have:=h.arm
    exact⟨h.quota,h.refused,by show D.arm-1≤_;omega,h.acts,h.now,h.files⟩
theorem DBd.turned{n:Nat}{D:An}(h:DBd n D)(a:AM):DBd (n+1) (turnedD D a):=by
  have h1:=Fo D.now a
  have h2:=h.acts
  have h3:=h.now
  refine⟨h.quota,Nat.le_succ_of_le h.refused,h.arm,?_,?_,fun x hx=>Nat.le_trans (h.files x hx) (Nat.mul_le_mul_left _ (Nat.le_succ n))⟩
  · show D.kept.length+(D.acts++ [a]).length≤n+1
    rw[List.length_append,List.length_singleton]
    omega
  · show(turnD D.now a).length≤n+1
    omega
theorem DBd.add{n:Nat}{D:An}(h:DBd n D)(s:List UInt8){b:List UInt8}(hb:b.length≤300):DBd (n+1) (BN D s b):=by
  unfold BN
  split
  · rename_i k _
    refine⟨h.quota,Nat.le_succ_of_le h.refused,h.arm,Nat.le_succ_of_le h.acts,Nat.le_succ_of_le h.now,fun x hx=> ?_⟩
    rcases List.mem_or_eq_of_mem_set hx with hx | rfl
    · have:=h.files x hx
      omega
    · have:=h.file k
      show((AJ D k).1++b).length≤_
      rw[List.length_append]
      omega
  · have h1:=h.turned ⟨[],s,D.files.length⟩
    refine⟨h1.quota,h1.refused,h1.arm,h1.acts,h1.now,fun x hx=> ?_⟩
    rcases List.mem_append.1 hx with hx | hx
    · have:=h.files x hx
      omega
    · rw[List.mem_singleton.1 hx]
      show b.length≤_
      omega
theorem DBd.did{n:Nat}{D:An}(h:DBd n D){f:An→An}(hf:∀E,DBd n E→DBd (n+1) (f E)):DBd (n+1) (CR D f).1:=by
  unfold CR
  split
  · exact h.armed.mono (Nat.le_succ n)
  · exact hf _ h.armed
theorem DBd.append{n:Nat}{D:An}(h:DBd n D)(s:List UInt8){b:List UInt8}(hb:b.length≤300):DBd (n+1) (Af D s b).1:=by
  unfold Af
  split
  · exact h.mono (Nat.le_succ n)
  · split
    · exact⟨h.quota,Nat.succ_le_succ h.refused,h.arm,Nat.le_succ_of_le h.acts,Nat.le_succ_of_le h.now,fun x hx=>Nat.le_trans (h.files x hx) (Nat.mul_le_mul_left _ (Nat.le_succ n))⟩
    · exact h.did (f:=fun d=>BN d s b) fun E hE=>hE.add s hb
theorem DBd.sync{n:Nat}{D:An}(h:DBd n D)(s:List UInt8):DBd (n+1) (Aw D s).1:=by
  unfold Aw
  split
  · exact h.mono (Nat.le_succ n)
  · rename_i k _
    refine h.did fun E hE=>⟨hE.quota,Nat.le_succ_of_le hE.refused,hE.arm,?_,Nat.le_succ_of_le hE.now,fun x hx=> ?_⟩
    · have:=hE.now
      show E.now.length+0≤_
      omega
    · rcases List.mem_or_eq_of_mem_set hx with hx | rfl
      · have:=hE.files x hx
        omega
      · have:=hE.file k
        show(AJ E k).1.length≤_
        omega
theorem DBd.drop{n:Nat}{D:An}(h:DBd n D)(s:List UInt8):DBd (n+1) (Ar D s).1:=by
  unfold Ar
  split
  · exact h.mono (Nat.le_succ n)
  · exact h.did fun E hE=>hE.turned _
theorem DBd.crash{n:Nat}{D:An}(h:DBd n D)(l:List Int):DBd n (BS D l):=by
  have h1:=FC D l
  have h2:=h.acts
  have h3:(Dp (Aj D l)).length=(Aj D l).length:=by unfold Dp;rw[List.length_mapIdx]
  refine⟨h.quota,h.refused,Nat.zero_le _,?_,?_,fun x hx=> ?_⟩
  · show(Dp (Aj D l)).length+0≤n
    omega
  · show(Dp (Aj D l)).length≤n
    omega
  · obtain⟨i,hi,rfl⟩:=List.mem_mapIdx.1 hx
    have h4:=h.file ((Aj D l)[i]'hi).2
    unfold CM
    simp only[List.length_take]
    omega
section
variable {base : Nat} {w w' wb : World} {g : Nat} {H H' : Dk} {D D' : An}
theorem DkS.low(h:DkS base w H D){b' :Nat}(hb:b' ≤base):DkS b' w H D:=by
  obtain⟨vs,hv⟩:=h.acts
  exact⟨h.blk,h.now,h.kept,h.ne,⟨vs,BZ hv.row hb,hv.len,hv.at_⟩,h.files.low hb,h.ok,⟨Nat.le_trans hb h.lo.1,Nat.le_trans hb h.lo.2.1,Nat.le_trans hb h.lo.2.2⟩⟩
structure DkG (wb w : World) (g : Nat) (H : Dk) (D : An) : Prop where
  ext:Ext wb w
  st:DkS wb.heap.size w H D
  hg:H.g=g
theorem DkG.keep(h:DkG wb w g H D)(k:Ext w w'):DkG wb w' g H D:=⟨h.ext.trans k,h.st.keep k,h.hg⟩
theorem DkG.step(h:DkG wb w g H D)(k:DkT wb.heap.size w H D w' H' D'):DkG wb w' g H' D' :=⟨k.chg.ext h.ext (fun i q=>(h.st.foot q).2.2),k.st,k.g.trans h.hg⟩
theorem Sg{v:Value}{l:List UInt8}(h:RB w v l):l= []∨∃b,v.ownBlock=some b∧b<w.heap.size:=by
  cases l with
  | nil=>exact .inl rfl
  | cons x r=>
    obtain⟨h1,ao,cap,rfl,h2,h3,h4,h5⟩:=id h
    cases ao with
    | none=>exact absurd (h4 rfl).1 (by simp)
    | some a=>
      have hc:=h5 a rfl 0 _ (show _=some (B8 x)from rfl)
      have hl:=World.block_lt_of_cell? w _ hc
      refine .inr ⟨a.block,rfl,?_⟩
      have e:(a.add 0).block=a.block:=by unfold Addr.add;split <;> rfl
      rwa [e]at hl
theorem DkG.off(h:DkG wb w g H D){v:Value}{l:List UInt8}(hr:RB wb v l):l= []∨∀i,v.ownBlock=some i→¬A1 H D.files.length i:=by
  refine(Sg hr).imp id fun⟨b,hb,hl⟩ i hi q=> ?_
  have:=(h.st.foot q).2.2
  rw[hb]at hi
  cases hi
  omega
theorem DkG.box(h:DkG wb w g H D)(hc:Chg (A1 H D.files.length) w w'){b:Nat}{cs:Array Value}{t:TypeId}{fr:Nat × Nat}(hb:w.heap[b]? =some (.cells cs t fr))(h1:t≠52)(h2:t≠105)(h3:t≠5)(h4:t≠107):w'.heap[b]? =some (.cells cs t fr):=
  (hc.blk b (bl hb) (h.st.offT hb h1 h2 h3 h4)).trans hb
theorem DkG.read(h:DkG wb w g H D)(s:List UInt8)(hL:Co D):
    Calls Tryz.prog 46 #[PQ g 0,St s] w fun e w' =>∃v,e = .returned (.tuple #[v,NI (Az D s).2])∧w'.ownsRow w.heap.size 5 1 v (Az D s).1.length (Lib.byteCells (Az D s).1)∧Ext w w' :=by
  rw[←h.hg]
  exact Rg wb w H D h.st s hL
theorem DkG.list(h:DkG wb w g H D)(hL:Co D):
    Calls Tryz.prog 9 #[PQ g 0] w fun e w' =>∃v,e = .returned v∧OG w.heap.size 9 1 B1 w' v (As D)∧Ext w w' :=by
  rw[←h.hg]
  exact Rh _ w H D h.st hL.now
theorem QP(wb w:World)(hE:Ext wb w)(q:Nat)(hq:q≤1073741824):
    Calls Tryz.prog 5 #[NI q] w fun e w' =>∃g H,e = .returned (PQ g 0)∧DkG wb w' g H (AT q)∧Ext w w' :=
  (Sb w q hq).mono fun e w' ⟨H,he,hS,hx⟩=>⟨H.g,H,he,⟨hE.trans hx,hS.low hE.size,rfl⟩,hx⟩
end
open Go.RowKit
set_option linter.unusedVariables false
section
variable {base : Nat} {w w' wb : World} {g : Nat} {H H' : Dk} {D D' : An}
structure DkW (wb w : World) (g : Nat) (H : Dk) (D : An) (w' : World) (H' : Dk) (D' : An) : Prop where
  g:DkG wb w' g H' D'
  chg:Chg (A1 H D.files.length) w w'
  foot:∀i,A1 H' D'.files.length i→A1 H D.files.length i∨w.heap.size≤i
theorem DkG.stepW(h:DkG wb w g H D)(k:DkT wb.heap.size w H D w' H' D'):DkW wb w g H D w' H' D' :=⟨h.step k,k.chg,k.foot⟩
theorem DkG.appendW(h:DkG wb w g H D)(s:List UInt8)(vb:Value)(b:List UInt8)(hrb:RB w vb b)(hoff:b= []∨∀i,vb.ownBlock=some i→¬A1 H D.files.length i)(hbl:b.length<1099511627776)(hL:Co D):
    Calls Tryz.prog 24 #[PQ g 0,St s,vb] w fun e w' =>∃H',e = .returned (NI (Af D s b).2)∧DkW wb w g H D w' H' (Af D s b).1:=by
  rw[←h.hg]
  exact(Nq wb w h.ext H D h.st s vb b hrb hoff hbl hL).mono fun e w' ⟨H',he,hT⟩=>⟨H',he,by rw[h.hg];exact h.stepW hT⟩
theorem DkG.syncW(h:DkG wb w g H D)(s:List UInt8)(hL:Co D):
    Calls Tryz.prog 48 #[PQ g 0,St s] w fun e w' =>∃H',e = .returned (NI (Aw D s).2)∧DkW wb w g H D w' H' (Aw D s).1:=by
  rw[←h.hg]
  exact(Re wb w h.ext H D h.st s hL).mono fun e w' ⟨H',he,hT⟩=>⟨H',he,by rw[h.hg];exact h.stepW hT⟩
theorem DkG.dropW(h:DkG wb w g H D)(s:List UInt8)(hL:Co D):
    Calls Tryz.prog 49 #[PQ g 0,St s] w fun e w' =>∃H',e = .returned (NI (Ar D s).2)∧DkW wb w g H D w' H' (Ar D s).1:=by
  rw[←h.hg]
  exact(Rf wb w h.ext H D h.st s hL).mono fun e w' ⟨H',he,hT⟩=>⟨H',he,by rw[h.hg];exact h.stepW hT⟩
theorem DkG.armW(h:DkG wb w g H D)(n:Int):
    Calls Tryz.prog 30 #[PQ g 0, .int .i64 n] w fun e w' =>∃H',e = .returned (.tuple #[])∧DkW wb w g H D w' H' { D with arm:=n.toNat } :=by
  rw[←h.hg]
  exact(Sa wb w h.ext H D h.st n).mono fun e w' ⟨he,hT⟩=>⟨H,he,by rw[h.hg];exact h.stepW hT⟩
theorem DkG.crashW(h:DkG wb w g H D)(vf:Value)(fs:List Int)(hrf:RG 1 DG w vf fs)(hL:Co D):
    Calls Tryz.prog 28 #[PQ g 0,vf] w fun e w' =>∃H',e = .returned (.tuple #[])∧DkW wb w g H D w' H' (BS D fs):=by
  rw[←h.hg]
  exact(Pw wb w h.ext H D h.st vf fs hrf hL).mono fun e w' ⟨H',he,hT⟩=>⟨H',he,by rw[h.hg];exact h.stepW hT⟩
theorem ActAt.setT{F:Nat→Nat}{v:Value}{a:AM}{g:Nat}{cs:Array Value}{t:TypeId}{fr:Nat × Nat}(h:ActAt w F v a)(hc:Chg (fun i=>i=g) w w')(hb:w.heap[g]? =some (.cells cs t fr))(h1:t≠81)(h2:t≠9):ActAt w' F v a:=by
  have k:∀ {b:Nat} {cs' :Array Value} {t' :TypeId} {fr' :Nat × Nat},w.heap[b]? =some (.cells cs' t' fr')→t' ≠t→w'.heap[b]? =some (.cells cs' t' fr'):=fun e hne=>(hc.blk _ (bl e) fun q=>by rw[q,hb]at e;cases e;exact hne rfl).trans e
  rcases h with ⟨bf,bn,e,q1,q2,q3,q4⟩ | ⟨hm,bs,bf,bn,e,q1,q2,q3,q4⟩ | ⟨bn,e,q1,q2⟩
  · exact .inl ⟨bf,bn,e,k q1 (Ne.symm h1),k q2 (Ne.symm h2),q3,q4⟩
  · exact .inr (.inl ⟨hm,bs,bf,bn,e,k q1 (Ne.symm h2),k q2 (Ne.symm h1),k q3 (Ne.symm h2),q4⟩)
  · exact .inr (.inr ⟨bn,e,k q1 (Ne.symm h2),q2⟩)
theorem DkS.setT(h:DkS base w H D){g:Nat}{cs:Array Value}{t:TypeId}{fr:Nat × Nat}(hg:w.grownBy w' (some g))(hb:w.heap[g]? =some (.cells cs t fr))(h1:t≠52)(h2:t≠105)(h3:t≠5)(h4:t≠107)(h5:t≠81)(h6:t≠9):DkS base w' H D:=by
  have hc:Chg (fun i=>i=g) w w' :=Chg.ofGrown hg fun i e=> .inl (Option.some.inj e).symm
  have hB:∀i,A1 H D.files.length i→¬i=g:=fun i q e=>h.offT hb h1 h2 h3 h4 (e▸q)
  obtain⟨vs,hv⟩:=h.acts
  exact⟨(hc.blk _ (bl h.blk) (hB _ (.inl rfl))).trans h.blk,h.now.chg hc (hB _ (.inr (.inl rfl))),h.kept.chg hc (hB _ (.inr (.inr (.inl rfl)))),h.ne,
    ⟨vs,CC hc hv.row (fun i hi=>hB i (.inr (.inr (.inr (.inl hi))))),hv.len,fun i hi=>(hv.at_ i hi).setT hc hb h5 h6⟩,
    h.files.chg hc (fun k hk=>⟨hB _ (.inr (.inr (.inr (.inr ⟨k,hk, .inl rfl⟩)))),fun i hi=>hB i (.inr (.inr (.inr (.inr ⟨k,hk, .inr hi⟩))))⟩),h.ok,h.lo⟩
theorem DkG.setT(h:DkG wb w g H D){b:Nat}{cs:Array Value}{t:TypeId}{fr:Nat × Nat}(hg:w.grownBy w' (some b))(hb:w.heap[b]? =some (.cells cs t fr))(hw:wb.heap.size≤b)(h1:t≠52)(h2:t≠105)(h3:t≠5)(h4:t≠107)(h5:t≠81)(h6:t≠9):DkG wb w' g H D:=
  ⟨(show Chg (fun i=>i=b) w w' from Chg.ofGrown hg fun i e=> .inl (Option.some.inj e).symm).ext h.ext (fun i q=>by have q:i=b:=q;omega),h.st.setT hg hb h1 h2 h3 h4 h5 h6,h.hg⟩
end
open Go.RowKit
def BAt(w w0:World)(b:Nat)(l:List UInt8):Prop:=w0.heap.size≤b∧∃p v,(p = .pointer none∨p = .pointer (some ⟨b,0,none⟩))∧w.heap[b]? =some (.cells ([p,v]:List Value).toArray 146 (0,0))∧w.ownsRow w0.heap.size 5 1 v l.length (Lib.byteCells l)∧v.ownBlock≠some b
theorem BAt.fresh{w w0:World}{b:Nat}(h0:w0.heap.size≤b)(h:w.heap[b]? =some (.cells ([.pointer none,(.slice none 0 0)]:List Value).toArray 146 (0,0))):BAt w w0 b []:=
  ⟨h0,_,_, .inl rfl,h,World.ownsRow_nil w _ _ 1,by simp[Value.ownBlock]⟩
theorem BAt.lib{w w0:World}{b:Nat}{l:List UInt8}(h:BAt w w0 b l):Lib.IsBuilder 146 5 w0.heap.size b (Lib.byteCells l) w:=by
  obtain⟨h0,p,v,h1,h2,h3,h4⟩:=h
  have h3' :w.ownsRow w0.heap.size 5 1 v (Lib.byteCells l).length (Lib.byteCells l):=by rw[Lib.byteCells_length];exact h3
  rcases h1 with rfl | rfl
  · exact .inl ⟨h0,v,h2,h3',h4⟩
  · exact .inr ⟨h0,v,h2,h3',h4⟩
section
variable {P : Program} {K : Value → World → Prop} {ρ : Ai} {w : World} {d : Option Tmp} {ty : TypeId} {pos : String} {af : Array Edge} {gd : Option (Nat × Bool)}
theorem Iu{t n:Nat}(hi:(P.info? t).map (·.size)=some n):∃j,P.info? t=some j∧j.size=n:=by
  cases h:P.info? t with
  | none=>simp[h]at hi
  | some j=>exact⟨j,rfl,by simpa [h] using hi⟩
theorem Yk.toUnsafe{src dst t e:TypeId}{n:Nat}(hs:P.underlying src=some (.pointer t))(hd:P.underlying dst=some .unsafePointer)(hi:(P.info? t).map (·.size)=some n)(hn:n≠0){x:Operand}{b o:Nat}{cs:Array Value}{fr:Nat × Nat}(hx:Ab ρ x = .pointer (some ⟨b,o,none⟩))(hb:w.heap[b]? =some (.cells cs e fr))(ho:o<cs.size) 
    (hk:K (.pointer (some ⟨b,o,none⟩)) w):Yk P K ((execOp (Ab ρ) ⟨d, .convert src dst x,ty,pos,af,gd⟩).run P w):=by
  obtain⟨j,h1,h2⟩:=Iu hi
  have hr:=Lib.run_to_unsafe (P:=P) w (⟨b,o,none⟩:Addr) hs hd h1 (by omega) (by show w.shape? b=_;unfold World.shape?;rw[hb]) ho
  refine Yk.value (v:= .pointer (some ⟨b,o,none⟩)) (w' :=w) ?_ hk
  unfold execOp
  simp only[hx,hr,Sem.run_bind,Sem.run_pure,Result.andThen_ok]
theorem Yk.fromUnsafe{src dst u e:TypeId}{n m:Nat}(hs:P.underlying src=some .unsafePointer)(hd:P.underlying dst=some (.pointer u))(hi:(P.info? u).map (·.size)=some n){x:Operand}{b o:Nat}{cs:Array Value}{fr:Nat × Nat}(hx:Ab ρ x = .pointer (some ⟨b,o,none⟩))(hb:w.heap[b]? =some (.cells cs e fr))(hm:cs.size=m)(hl:liesAt P P.depth e (m/P.cellsOf e) o u 1=true) 
    (hk:K (.pointer (some ⟨b,o,none⟩)) w):Yk P K ((execOp (Ab ρ) ⟨d, .convert src dst x,ty,pos,af,gd⟩).run P w):=by
  obtain⟨j,h1,h2⟩:=Iu hi
  have hr:=Lib.run_from_unsafe (P:=P) w (cells:=m) (⟨b,o,none⟩:Addr) hs hd h1 (by show w.shape? b=_;unfold World.shape?;rw[hb];simp[hm]) hl
  refine Yk.value (v:= .pointer (some ⟨b,o,none⟩)) (w' :=w) ?_ hk
  unfold execOp
  simp only[hx,hr,Sem.run_bind,Sem.run_pure,Result.andThen_ok]
theorem Yk.neqSame{t e ty2:TypeId}{n:Nat}(ht:P.underlying t=some (.pointer e))(hi:(P.info? e).map (·.size)=some n){x y:Operand}{a:Addr}(hx:Ab ρ x = .pointer (some a))(hy:Ab ρ y = .pointer (some a))(hk:K (.bool false) w):Yk P K ((execOp (Ab ρ) ⟨d, .binOp .neq t x y ty2,ty,pos,af,gd⟩).run P w):=by
  obtain⟨j,h1,h2⟩:=Iu hi
  have hr:=Lib.run_neq_ptr_same (P:=P) w a ht h1
  refine Yk.value (v:= .bool false) (w' :=w) ?_ hk
  unfold execOp
  simp only[hx,hy]
  simp[eqGuard,hr]
end
open Go.RowKit
set_option maxRecDepth 100000
theorem leb6_tyU171:Tryz.prog.underlying 171=some .unsafePointer:=by kernel_rfl
theorem leb6_ne(a:Option Addr)(w:World):(callFunc 125 #[.pointer a]).run Tryz.prog w = .ok (.value (.pointer a)) w:=by kernel_rfl
theorem Rm:liesAt Tryz.prog Tryz.prog.depth 146 (2/Tryz.prog.cellsOf 146) 0 146 1=true:=by kernel_rfl
theorem leb6_fo146_0:A3 Tryz.prog 146 0 0:=fun b o w=>by simp[go_sem]
theorem leb6_ty144:Tryz.prog.underlying 144=some (.pointer 146):=by kernel_rfl
theorem leb6_isz146:(Tryz.prog.info? 146).map (·.size)=some 2:=by kernel_rfl
theorem Ld:(Tryz.prog.info? 144).map (·.size)=some 1:=by kernel_rfl
theorem leb6_pl116:Plain Tryz.prog 116:=fun _ _=>by kernel_rfl
theorem Gf:A3 Tryz.prog 146 1 1:=fun b o w=>by simp[go_sem]
theorem Mq(z:Int)(w:World):(Instr.buildSlice 35 1 #[(0, .int .u8 z)]).run Tryz.prog w = .ok (.slice (some ⟨w.heap.size,0,none⟩) 1 1) (w.alloc (.cells #[.int .u8 z] 5)):=by kernel_rfl
theorem Iv(w:World)(b:Nat)(v:Value)(hb:w.heap[b]? =some (.cells ([.pointer none,v]:List Value).toArray 146 (0,0))):
  Calls Tryz.prog 116 #[PQ b 0] w fun e w' =>e = .returned (.tuple #[])∧w'.heap[b]? =some (.cells ([PQ b 0,v]:List Value).toArray 146 (0,0))∧w.grownBy w' (some b):=by
 have hgr:w.grownBy w (some b):=World.grownBy.refl _ _
 refine gG (args:= [PQ b 0]) Tryz.func116 rfl 20 rfl rfl (gS (Yk.nilCheck rfl (gS (Yk.fieldAt leb6_fo146_0 rfl (gS (Yk.cell1 leb6_ty144 rfl rfl (cellAt hb rfl) (gS (Yk.eqlNil leb6_ty144 rfl (cT rfl (gS (Yk.toUnsafe leb6_ty144 leb6_tyU171 leb6_isz146 (by decide) rfl hb (Nat.le_of_ble_eq_true rfl) (gS (Yk.extern1 rfl (leb6_ne _ _) (gS (Yk.fromUnsafe leb6_tyU171 leb6_ty144 leb6_isz146 rfl hb (m:=2) rfl Rm (gS (Yk.nilCheck rfl (gS (Yk.fieldAt leb6_fo146_0 rfl (gS (Yk.storeC (i:=0) (v:=PQ b 0) rfl rfl hb (Nat.le_of_ble_eq_true rfl) Ld rfl rfl fun c a f g=> ?_)))))))))))))))))))))
 have hgr:w.grownBy c (some b):=Aq hgr f (fun _ e=> .inl e)
 clear hb
 have hb:=a;clear a
 have h:=bl hb
 refine rt0 rfl ?_
 exact⟨rfl,hb,hgr⟩

theorem Iw(w:World)(b:Nat)(v:Value)(hb:w.heap[b]? =some (.cells ([PQ b 0,v]:List Value).toArray 146 (0,0))):
  Calls Tryz.prog 116 #[PQ b 0] w fun e w' =>e = .returned (.tuple #[])∧w'.heap[b]? =some (.cells ([PQ b 0,v]:List Value).toArray 146 (0,0))∧w.grownBy w' (some b):=by
 have hgr:w.grownBy w (some b):=World.grownBy.refl _ _
 refine gG (args:= [PQ b 0]) Tryz.func116 rfl 20 rfl rfl (gS (Yk.nilCheck rfl (gS (Yk.fieldAt leb6_fo146_0 rfl (gS (Yk.cell1 leb6_ty144 rfl rfl (cellAt hb rfl) (gS (Yk.eqlNil leb6_ty144 rfl (cF rfl (gS (Yk.nilCheck rfl (gS (Yk.fieldAt leb6_fo146_0 rfl (gS (Yk.cell1 leb6_ty144 rfl rfl (cellAt hb rfl) (gS (Yk.neqSame leb6_ty144 leb6_isz146 rfl rfl (cF rfl (rt0 rfl ?_)))))))))))))))))))
 exact⟨rfl,hb,hgr⟩

theorem copyCheck_any(w:World)(b:Nat)(p v:Value)(hp:p = .pointer none∨p=PQ b 0)(hb:w.heap[b]? =some (.cells ([p,v]:List Value).toArray 146 (0,0))):
  Calls Tryz.prog 116 #[PQ b 0] w fun e w' =>e = .returned (.tuple #[])∧w'.heap[b]? =some (.cells ([PQ b 0,v]:List Value).toArray 146 (0,0))∧w.grownBy w' (some b):=by
 rcases hp with rfl | rfl
 ·exact Iv w b v hb
 ·exact Iw w b v hb

theorem FS(w0 w:World)(h0:Ext w0 w)(b:Nat)(l:List UInt8)(hB:BAt w w0 b l)(c:UInt8)(hl:l.length<140737488355328):
  Calls Tryz.prog 99 #[PQ b 0,B8 c] w fun e w' =>e = .returned .nilIface∧BAt w' w0 b (l++ [c])∧Ext w0 w' :=by
 obtain⟨n,p,v,hp,hb,ho,hne⟩:=hB
 refine gG (args:= [PQ b 0,B8 (c)]) Tryz.func99 rfl 17 rfl rfl (gS (Yk.callA1 leb6_pl116 rfl ((copyCheck_any _ b p v hp hb).mono ?_)))
 rintro e z ⟨rfl,o,q⟩
 refine⟨_,rfl,?_⟩
 have h0:=Aa h0 q (Nat.le_trans (Nat.le_refl _) n)
 have ho:=A5 ho q hne
 clear hb
 have hb:=o;clear o
 refine gS (Yk.nilCheck rfl (gS (Yk.fieldAt Gf rfl (gS (Yk.cell1 S2 rfl rfl (cellAt hb rfl) (gS (Yk.lit1 (b:=c) Mq (vr (B8 (c)) rfl) fun j t a=> ?_)))))))
 have aa:=h0.size
 have u:OB j b:=Ao a.own (bl hb)
 have x:Ak v j:=Cr ho a.own
 have g:=a.own
 have h0:=h0.trans a.ext
 have ho:=Stab.own _ _ _ _ _ _ _ _ ho a.ext
 refine gS (Yk.appendRB _ _ w0.heap.size (.int .u8 0) S2 SH rfl S2 (l) ([(c:UInt8)]) (CI ho (vr v rfl)) (RB.of (RB.ofOwn g) (vr j rfl)) (by simp;omega) h0.size fun k y h f=> ?_)
 have f:Grew t y v k:=f
 have hb:=eb a.ext hb
 have r:OB k b:=Ax f hne (bl hb)
 have h0:=Ag h0 f ho (Nat.le_refl _)
 have hb:=Am hb f hne
 have g:=Cl g f x
 clear ho
 refine gS (Yk.nilCheck rfl (gS (Yk.fieldAt Gf rfl (gS (Yk.storeC (i:=1) (v:=k) rfl rfl hb (Nat.le_of_ble_eq_true rfl) IQ (CN h).1 (CN h).2 fun ab s m ac=> ?_)))))
 have h0:=Aa h0 m (Nat.le_trans (Nat.le_refl _) (by omega))
 have g:=A5 g m u
 have h:=A5 h m r
 clear hb
 have hb:=s;clear s
 have ad:=bl hb
 refine AX rfl (vr (Value.nilIface) rfl) ?_
 exact⟨rfl,⟨n,_,_, .inr rfl,hb,h,r⟩,h0⟩
def digs:List UInt8:= [48,49,50,51,52,53,54,55,56,57,97,98,99,100,101,102]
def Mr(b:UInt8):List UInt8:= [digs.getD (b.toNat/16) 0,digs.getD (b.toNat%16) 0]
def hexOf(id:List UInt8):List UInt8:=id.flatMap Mr
theorem HQ(id:List UInt8)(i:Nat)(hi:i<id.length):hexOf (id.take (i+1))=hexOf (id.take i)++Mr (id.getD i 0):=by
  rw[List.take_succ_eq_append_getElem hi,hexOf,List.flatMap_append]
  simp[hexOf,hi]
theorem B4:∀id:List UInt8,(hexOf id).length=2*id.length
  | []=>rfl
  | b :: id=>by
    have:=B4 id
    simp only[hexOf,List.flatMap_cons,List.length_append,List.length_cons]at *
    simp only[Mr,List.length_cons,List.length_nil]
    omega
def dg(c:UInt8):Option Nat:=if 48≤c.toNat∧c.toNat≤57 then some (c.toNat-48)else if 97≤c.toNat∧c.toNat≤102 then some (c.toNat-87)else none
def B9(c:UInt8):Int:=match dg c with | some n=>(n:Int) | none=> -1
theorem JC{c:UInt8}{n:Nat}(h:dg c=some n):n<16:=by
  unfold dg at h
  split at h
  · cases h;omega
  · split at h
    · cases h;omega
    · cases h
theorem Nz:∀n:Fin 256,Lib.indexByte digs (UInt8.ofNat n.val)=B9 (UInt8.ofNat n.val):=by decide+kernel
theorem Px(c:UInt8):Lib.indexByte digs c=B9 c:=by
  have:=Nz ⟨c.toNat,c.toNat_lt⟩
  simpa using this
def Dv(s:List UInt8)(j:Nat):Bool:=(dg (s.getD (2*j) 0)).isSome&&(dg (s.getD (2*j+1) 0)).isSome
def D8(s:List UInt8)(j:Nat):UInt8:=UInt8.ofNat (16*(dg (s.getD (2*j) 0)).getD 0+(dg (s.getD (2*j+1) 0)).getD 0)
def AQ(s:List UInt8):List UInt8 × Bool:=if s.length=64∧(List.range 32).all (Dv s)=true then((List.range 32).map (D8 s),true)else(List.replicate 32 0,false)
theorem Bb(s:List UInt8):(AQ s).1.length=32:=by
  unfold AQ
  split <;> simp
theorem DT{s:List UInt8}(h:¬(s.length=64∧(List.range 32).all (Dv s)=true)):AQ s=(List.replicate 32 0,false):=if_neg h
theorem Gg{s:List UInt8}(h1:s.length=64)(h2:∀j,j<32→Dv s j=true):AQ s=((List.range 32).map (D8 s),true):=if_pos ⟨h1,by
  rw[List.all_eq_true]
  intro j hj
  exact h2 j (by simpa using hj)⟩
def pre(s:List UInt8)(i:Nat):List UInt8:=(List.range i).map (D8 s)++List.replicate (32-i) 0
theorem BG(s:List UInt8)(i:Nat)(hi:i≤32):(pre s i).length=32:=by
  unfold pre
  simp
  omega
theorem Kd(s:List UInt8)(i:Nat)(hi:i<32):(pre s i).set i (D8 s i)=pre s (i+1):=by
  unfold pre
  rw[List.set_append_right _ _ (by simp),List.range_succ,List.map_append]
  simp only[List.length_map,List.length_range,Nat.sub_self,List.map_cons,List.map_nil,List.append_assoc]
  congr 1
  obtain⟨k,hk⟩:∃k,32-i=k+1:=⟨32-i-1,by omega⟩
  rw[hk,List.replicate_succ,List.set_cons_zero,show 32-(i+1)=k by omega]
  rfl
theorem LE(s:List UInt8):pre s 32=(List.range 32).map (D8 s):=by simp[pre]
/-! ### There and back -/
theorem Sh:∀n:Fin 16,dg (digs.getD n.val 0)=some n.val:=by decide+kernel
theorem LF(n:Nat)(h:n<16):dg (digs.getD n 0)=some n:=Sh ⟨n,h⟩
theorem IS:∀(id:List UInt8) (j:Nat),j<id.length→(hexOf id).getD (2*j) 0=digs.getD ((id.getD j 0).toNat/16) 0∧(hexOf id).getD (2*j+1) 0=digs.getD ((id.getD j 0).toNat%16) 0
  | [],j,h=>by simp at h
  | b :: id,0,_=>⟨rfl,rfl⟩
  | b :: id,j+1,h=>by
    have:=IS id j (by simpa using h)
    have e:hexOf (b :: id)=digs.getD (b.toNat/16) 0 :: digs.getD (b.toNat%16) 0 :: hexOf id:=rfl
    rw[e,show 2*(j+1)=2*j+1+1 by omega]
    exact this
theorem E6(id:List UInt8)(h:id.length=32):AQ (hexOf id)=(id,true):=by
  have hg:=fun j (hj:j<32)=>IS id j (by omega)
  have hlt:=fun j=>(id.getD j 0).toNat_lt
  have hd:∀j,j<32→dg ((hexOf id).getD (2*j) 0)=some ((id.getD j 0).toNat/16)∧dg ((hexOf id).getD (2*j+1) 0)=some ((id.getD j 0).toNat%16):=fun j hj=>by
    rw[(hg j hj).1,(hg j hj).2]
    exact⟨LF _ (by have:=hlt j;omega),LF _ (by omega)⟩
  rw[Gg (by rw[B4,h]) (fun j hj=>by unfold Dv;rw[(hd j hj).1,(hd j hj).2];rfl)]
  congr 1
  apply List.ext_getElem (by simp[h])
  intro j h1 h2
  have hj:j<32:=by simpa using h1
  simp only[List.getElem_map,List.getElem_range,D8]
  rw[(hd j hj).1,(hd j hj).2]
  simp only[Option.getD_some]
  rw[Nat.div_add_mod]
  simp[h2]
open Go.Shelf Go.RowKit
def IT:Go.Shelf.Ren:=⟨fun | 169=>100 | n=>n,fun | 70=>144 | 9=>9 | 0=>0 | 72=>146 | 37=>35 | 127=>164 | 3=>3 | 5=>5 | n=>n,fun | n=>n⟩
theorem SQ:Go.Proofs.Lays.n169 Tryz.prog IT:= {
  mixed:=by kernel_rfl
  f169:=Tryz.func100.trans (congrArg some (by kernel_rfl))
  t0:=Tryz.underlying0
  a0:=Tryz.isAgg0
  z0:=Tryz.sizeOf0
  v0:=Tryz.zeroValue0
  t3:=Tryz.underlying3
  a3:=Tryz.isAgg3
  z3:=Tryz.sizeOf3
  v3:=Tryz.zeroValue3
  t9:=Tryz.underlying9
  a9:=Tryz.isAgg9
  z9:=Tryz.sizeOf9
  v9:=Tryz.zeroValue9
  t37:=Tryz.underlying35
  a37:=Tryz.isAgg35
  z37:=Tryz.sizeOf35
  v37:=Tryz.zeroValue35
  t70:=Tryz.underlying144
  a70:=Tryz.isAgg144
  z70:=Tryz.sizeOf144
  v70:=Tryz.zeroValue144
  t72:=Tryz.underlying146
  a72:=Tryz.isAgg146
  z72:=Tryz.sizeOf146
  v72:=Tryz.zeroValue146
  t127:=Tryz.underlying164
  a127:=Tryz.isAgg164
  z127:=Tryz.sizeOf164
  v127:=Tryz.zeroValue164 }
theorem Le:Builder.Extra Tryz.prog IT:= {
  sizeBuilder:=by kernel_rfl
  liesBuilder:=by kernel_rfl
  t5:=Tryz.underlying5
  a5:=Tryz.isAgg5
  z5:=Tryz.sizeOf5
  v5:=Tryz.zeroValue5
  infoByte:=by kernel_rfl
  cellsByte:=by kernel_rfl
  sizeByte:=by kernel_rfl
  neB5:=by decide }
theorem FD(B b:Nat)(l:List UInt8)(w:World)(h:Lib.IsBuilder 146 5 B b (Lib.byteCells l) w)(hBw:B≤w.heap.size):
    Calls Tryz.prog 100 #[.pointer (some ⟨b,0,none⟩)] w fun e w' =>e = .returned (.string ⟨l.toArray⟩)∧Below B w w' :=Any.Builder_String_any SQ Le B b l w h hBw
open Go.RowKit
set_option maxRecDepth 100000
theorem Py(t:TypeId)(c:UInt8):Go.binOp .and t (.int .u8 ((c.toNat:Nat):Int)) (.int .u8 ((15:Nat):Int))=pure (.int .u8 ((c.toNat%16:Nat):Int)):=by
 rw[R0 t _ _ c.toNat_lt (by decide),Nat.and_two_pow_sub_one_eq_mod _ 4]
theorem Pz(l:List UInt8)(b:UInt8):(l++ [([48,49,50,51,52,53,54,55,56,57,97,98,99,100,101,102]:List UInt8).getD (b.toNat/2^4) 0])++ [([48,49,50,51,52,53,54,55,56,57,97,98,99,100,101,102]:List UInt8).getD (b.toNat%16) 0]=l++Mr b:=by
 rw[List.append_assoc]
 rfl
theorem Ms{d:Option Tmp}{ty:TypeId}{pos:String}{af:Array Edge}{gd:Option (Nat × Bool)}(σ:Operand→Value)(w:World):(execOp σ ⟨d, .alloc 146,ty,pos,af,gd⟩).run Tryz.prog w = .ok (.value (PQ w.heap.size 0)) (w.alloc (.cells ([.pointer none,(Value.slice none 0 0)]).toArray 146)):=by kernel_rfl
theorem IU:Tryz.prog.underlying 54=some (.array 32 5):=by kernel_rfl
theorem IV:Plain Tryz.prog 99:=fun _ _=>by kernel_rfl
theorem Mt:Plain Tryz.prog 100:=fun _ _=>by kernel_rfl
theorem Rn(w:World)(id:List UInt8)(hid:id.length=32):
  Calls Tryz.prog 82 #[AB id] w fun e w' =>e = .returned (St (hexOf id))∧Ext w w' :=by
 refine gG (args:= [AB id]) Tryz.func82 rfl 20 rfl rfl ?_
 have hE:=Ext.refl w
 refine gS (Yk.box (cs:=(Lib.byteCells id:List Value).toArray) (vr (AB id) rfl) fun o f ag p v ah=> ?_)
 have h:=p;clear p
 have ai:o<f.heap.size:=by omega
 refine gS (Yk.alloc (cs:=([.pointer none,(Value.slice none 0 0)]).toArray) Ms fun g q x r m aj=> ?_)
 have c:=Ext.refl f
 have hE:=hE.trans v
 have n:=hE
 have ak:=hE.size
 have al:=AE (bl h) x
 have y:=r;clear r
 have am:g<q.heap.size:=by omega
 have s:BAt q f g []:=BAt.fresh (by omega) y
 have hE:=hE.trans m
 have h:=eb m h
 have c:=c.trans m
 refine gS (Yk.loadAll rfl h IU rfl (by rw[List.size_toArray,Lib.byteCells_length,hid];exact R5) (gL (fun(ρ:Ai) (wz:World)=>∃i:Nat,ρ 0=(AB id:Value)∧ρ 1=(PQ o 0:Value)∧ρ 2=(St (([]:List UInt8)):Value)∧ρ 3=(PQ g 0:Value)∧ρ 6=(AB id:Value)∧ρ 7=(NI i:Value)∧Ext w wz∧Ext f wz∧BAt wz f g (hexOf (id.take i))∧(i≤32)∧True) (fun ρ _=>32-(intOf (ρ 7)).toNat) ⟨0,rfl,rfl,rfl,rfl,rfl,rfl,hE,c,s,Nat.zero_le _,trivial⟩ ?_))
 clear h
 clear s
 clear hE c
 rintro z an ⟨i,T0,T1,T2,j,t,k,hE,c,hBi,hi,-⟩
 have q7:=k
 have hlt:=(id.getD i 0).toNat_lt
 refine gS (Yk.eqI (a:=(i:Nat)) (b:=(32:Nat)) k rfl (AO _ _ _ _) ?_)
 refine cD rfl (fun ad=> ?_) fun ad=> ?_
 ·refine gS (Yk.idxB (l:=id) (i:=i) IU Ds rfl Fy t k (by omega) (hid) (gS (Yk.bin (xv:= .int .u8 (((id.getD (i) 0).toNat:Nat):Int)) (yv:= .int .u64 ((4:Nat):Int)) rfl rfl rfl (RY _ _ _ _ (by omega)) (gS (Yk.idxSt (l:=([48,49,50,51,52,53,54,55,56,57,97,98,99,100,101,102]:List UInt8)) (i:=((id.getD (i) 0).toNat)/2^(4)) Io rfl rfl (by show _<16;omega) (gS (Yk.callA2 IV j rfl ((FS f _ c g (hexOf (id.take i)) hBi ((([48,49,50,51,52,53,54,55,56,57,97,98,99,100,101,102]:List UInt8):List UInt8).getD (((id.getD (i) 0).toNat)/2^(4)) 0) (by have:=B4 (id.take i);simp at this ⊢;omega)).mono ?_))))))))
  rintro e ao ⟨rfl,u,hv33⟩
  refine⟨_,rfl,?_⟩
  have hE:=n.trans hv33
  have c:=hv33
  clear hBi
  refine gS (Yk.bin (xv:= .int .u8 (((id.getD (i) 0).toNat:Nat):Int)) (yv:= .int .u8 ((15:Nat):Int)) rfl rfl rfl (Py _ (id.getD (i) 0)) (gS (Yk.idxSt (l:=([48,49,50,51,52,53,54,55,56,57,97,98,99,100,101,102]:List UInt8)) (i:=(id.getD (i) 0).toNat%16) Io rfl rfl (by show _<16;omega) (gS (Yk.callA2 IV j rfl ((FS f _ c g ((hexOf (id.take i):List UInt8)++ [(([48,49,50,51,52,53,54,55,56,57,97,98,99,100,101,102]:List UInt8):List UInt8).getD (((id.getD (i) 0).toNat)/2^(4)) 0]) u ((([48,49,50,51,52,53,54,55,56,57,97,98,99,100,101,102]:List UInt8):List UInt8).getD ((id.getD (i) 0).toNat%16) 0) (by have:=B4 (id.take i);simp at this ⊢;omega)).mono ?_))))))
  rintro e ap ⟨rfl,ae,hv36⟩
  refine⟨_,rfl,?_⟩
  have hE:=n.trans hv36
  have c:=hv36
  clear u
  refine gS (Yk.bin (xv:=NI i) (yv:=NI 1) k rfl rfl (Ap _ _ _ (by omega)) (gK (And.intro ⟨i+1,T0,T1,T2,j,t,rfl,hE,c,(show BAt _ _ _ _ from by rw[HQ id i (by omega),←Pz];exact ae),by omega,trivial⟩ ?_)))
  show 32-(intOf (NI ((i)+(1)))).toNat<32-(intOf (z 7)).toNat
  rw[q7]
  simp only[intOf,Int.toNat_natCast];omega
 have af:id.take i=id:=List.take_of_length_le (by omega)
 refine gS (Yk.callA1 Mt j ((FD _ g (hexOf (id.take i)) _ (BAt.lib hBi) c.size).mono ?_))
 rintro e aq ⟨rfl,hv39⟩
 refine⟨_,rfl,?_⟩
 have hv39t:=Below.trans c hv39
 have hE:=n.trans hv39t
 have c:=hv39t
 clear hBi
 refine AX rfl (vr (St (hexOf (id.take i))) rfl) ?_
 exact⟨by rw[af],hE⟩
open Go.RowKit
set_option maxRecDepth 100000
set_option linter.unusedVariables false
set_option linter.unusedSimpArgs false
def AP(p s:List UInt8):List UInt8 × Bool:=if p.length≤s.length∧s.take p.length=p then(s.drop p.length,true)else(s,false)
theorem Si{p s:List UInt8}(h:¬(p.length≤s.length∧s.take p.length=p)):(AP p s).2=false:=by unfold AP;rw[if_neg h]
theorem Ro{p s:List UInt8}(h:p.length≤s.length):(AP p s).2=decide ((s.drop 0).take (p.length-0)=p):=by
 unfold AP
 rw[List.drop_zero,Nat.sub_zero]
 by_cases q:s.take p.length=p
 ·rw[if_pos ⟨h,q⟩,decide_eq_true q]
 ·rw[if_neg (fun x=>q x.2),decide_eq_false q]
theorem SR{p s:List UInt8}(h:(AP p s).2=false):AP p s=(s,false):=by
 unfold AP at h ⊢
 split
 ·rename_i q;rw[if_pos q]at h;cases h
 ·rfl
theorem SS{p s:List UInt8}(h:(AP p s).2=true):AP p s=((s.drop p.length).take (s.length-p.length),true):=by
 unfold AP at h ⊢
 split
 ·rw[List.take_of_length_le (by rw[List.length_drop];exact Nat.le_refl _)]
 ·rename_i q;rw[if_neg q]at h;cases h
theorem Rp{p s:List UInt8}(h:(AP p s).2=true):p.length≤s.length:=by
 unfold AP at h
 split at h
 ·rename_i q;exact q.1
 ·cases h
def Ad(id:List UInt8):List UInt8:= [111,45]++hexOf id
theorem Rq{id:List UInt8}(h:id.length=32):(Ad id).length=66:=by unfold Ad;rw[List.length_append,B4,h];rfl
theorem PA:Plain Tryz.prog 93:=fun _ _=>by kernel_rfl
theorem PB:Plain Tryz.prog 72:=fun _ _=>by kernel_rfl
theorem PC:Plain Tryz.prog 82:=fun _ _=>by kernel_rfl
set_option maxHeartbeats 1600000
theorem Ju(w:World)(s p:List UInt8)(hs:s.length≤9223372036854775807):
  Calls Tryz.prog 93 #[St s,St p] w fun e w' =>e = .returned (.bool (AP p s).2)∧Ext w w' :=by
 refine gG (args:= [St (s),St (p)]) Tryz.func93 rfl 18 rfl rfl ?_
 have hE:=Ext.refl w
 by_cases hl:p.length≤s.length
 ·refine gS (Yk.lenSt (l:=s) Io rfl (gS (Yk.lenSt (l:=p) Io rfl (gS (Yk.eqI (a:=(s.length:Nat)) (b:=(p.length:Nat)) rfl rfl (CX _ _ _ _) (kT (hl) (gS (Yk.lenSt (l:=p) Io rfl (gS (Yk.sliceSt (l:=s) Io (0) (p.length) rfl (.inl ⟨rfl,rfl⟩) (.inr ⟨.i64,congrArg some rfl⟩) (by omega) (by omega) (gS (Yk.eqSt (l:=(s.drop (0)).take ((p.length)-(0))) (m:=p) (.inl rfl) rfl rfl (decide ((s.drop (0)).take ((p.length)-(0))=p)) rfl (gS (Yk.pickT rfl rfl (AX rfl (vr (.bool (decide ((s.drop (0)).take ((p.length)-(0))=p))) rfl) ?_)))))))))))))))
  exact⟨by rw[Ro hl],hE⟩
 refine gS (Yk.lenSt (l:=s) Io rfl (gS (Yk.lenSt (l:=p) Io rfl (gS (Yk.eqI (a:=(s.length:Nat)) (b:=(p.length:Nat)) rfl rfl (CX _ _ _ _) (kF (hl) (gS (Yk.pickF rfl rfl (AX rfl (vr (.bool (false)) rfl) ?_)))))))))
 exact⟨by rw[show(AP p s).2=false from Si (fun q=>hl q.1)],hE⟩

theorem Ix(w:World)(s p:List UInt8)(hs:s.length≤9223372036854775807):
  Calls Tryz.prog 72 #[St s,St p] w fun e w' =>e = .returned (.tuple #[St (AP p s).1, .bool (AP p s).2])∧Ext w w' :=by
 refine gG (args:= [St (s),St (p)]) Tryz.func72 rfl 15 rfl rfl ?_
 have hE:=Ext.refl w
 refine gS (Yk.callA2 PA rfl rfl ((Ju _ s p hs).mono ?_))
 rintro e c ⟨rfl,b⟩
 refine⟨_,rfl,?_⟩
 refine gS (Yk.notB rfl ?_)
 refine cB (!((AP p s).2)) rfl (fun a=> ?_) fun a=> ?_
 ·have hc:(AP p s).2=false:=by simpa using a
  refine Dh rfl (vr (St (s)) rfl) (vr (.bool (false)) rfl) ?_
  have hE:=hE.trans b
  exact⟨by rw[SR hc],hE⟩
 have hc:(AP p s).2=true:=by simpa using a
 have hpl:=Rp hc
 refine gS (Yk.lenSt (l:=p) Io rfl (gS (Yk.sliceSt (l:=s) Io (p.length) (s.length) rfl (.inr ⟨.i64,congrArg some rfl⟩) (.inl ⟨rfl,rfl⟩) (by omega) (by omega) (Dh rfl (vr (St ((s.drop (p.length)).take ((s.length)-(p.length)))) rfl) (vr (.bool (true)) rfl) ?_))))
 have hE:=hE.trans b
 exact⟨by rw[SS hc],hE⟩

theorem Jv(w:World)(s p:List UInt8)(hs:s.length≤9223372036854775807):
  Calls Tryz.prog 35 #[St s,St p] w fun e w' =>e = .returned (.tuple #[St (AP p s).1, .bool (AP p s).2])∧Ext w w' :=by
 refine gG (args:= [St (s),St (p)]) Tryz.func35 rfl 11 rfl rfl ?_
 have hE:=Ext.refl w
 refine gS (Yk.callA2 PB rfl rfl ((Ix _ s p hs).mono ?_))
 rintro e b ⟨rfl,a⟩
 refine⟨_,rfl,?_⟩
 refine gS (Yk.extract (vs:= [St ((AP p s).1), .bool ((AP p s).2)]) rfl rfl (gS (Yk.extract (vs:= [St ((AP p s).1), .bool ((AP p s).2)]) rfl rfl (Dh rfl (vr (St ((AP p s).1)) rfl) (vr (.bool ((AP p s).2)) rfl) ?_))))
 have hE:=hE.trans a
 exact⟨rfl,hE⟩

theorem Eh(w:World)(id:List UInt8)(hid:id.length=32):
  Calls Tryz.prog 44 #[AB id] w fun e w' =>e = .returned (St (Ad id))∧Ext w w' :=by
 refine gG (args:= [AB id]) Tryz.func44 rfl 6 rfl rfl ?_
 have hE:=Ext.refl w
 refine gS (Yk.box (cs:=(Lib.byteCells id:List Value).toArray) (vr (AB id) rfl) fun b c i a f j=> ?_)
 have g:=a;clear a
 have k:b<c.heap.size:=by omega
 refine gS (Yk.loadAll rfl g IU rfl (by exact Ae hid) (gS (Yk.callA1 PC rfl ((Rn _ id hid).mono ?_))))
 rintro e n ⟨rfl,h⟩
 refine⟨_,rfl,?_⟩
 refine gS (Yk.catSt (l:=([111,45]:List UInt8)) (m:=hexOf id) rfl rfl (by rw[B4,hid];simp) (AX rfl (vr (St ((([111,45]:List UInt8):List UInt8)++(hexOf id:List UInt8))) rfl) ?_))
 have hE:=hE.trans (f.trans h)
 exact⟨rfl,hE⟩
open Go.RowKit
theorem Sha.be64_take(n i:Nat)(h:i<8):(Sha.be64 n).take (i+1)=(Sha.be64 n).take i++ [UInt8.ofNat (n/2^(56-8*i))]:=by
 unfold Sha.be64
 rw[List.take_succ_eq_append_getElem (by simp;omega)]
 simp
theorem HR:Tryz.prog.underlying 124=some (.int .u64):=by kernel_rfl
set_option maxRecDepth 100000
theorem Df(w:World)(x:UInt32)(n:Nat)(h0:0<n)(h1:n<32):
  Calls Tryz.prog 41 #[U x, .int .u64 (n:Int)] w fun e w' =>e = .returned (U (Sha.rotr x n))∧Ext w w' :=by
 refine gG (args:= [U (x), .int .u64 ((n:Nat):Int)]) Tryz.func41 rfl 13 rfl rfl ?_
 have hE:=Ext.refl w
 refine gS (Yk.bin (yv:= .int .u64 ((n:Nat):Int)) rfl rfl rfl (DM _ _ _ (n) (by omega)) (gS (Yk.bin (xv:= .int .u64 ((32:Nat):Int)) (yv:= .int .u64 ((n:Nat):Int)) rfl rfl rfl (Lv _ _ _ (by omega) (by omega)) (gS (Yk.bin (yv:= .int .u64 (((32)-(n):Nat):Int)) rfl rfl rfl (EU _ _ _ ((32)-(n)) (by omega)) (gS (Yk.bin rfl rfl rfl (FZ _ _ _) (AX rfl (vr (U (((x)>>>UInt32.ofNat (n))|||((x)<<<UInt32.ofNat ((32)-(n))))) rfl) ?_))))))))
 exact⟨by unfold Sha.rotr;rw[UInt32.or_comm],hE⟩

theorem Rr(w:World)(t:Nat)(ht:t<64):
  Calls Tryz.prog 42 #[NI t] w fun e w' =>e = .returned (U (Sha.words.getD t 0))∧Ext w w' :=by
 refine gG (args:= [NI t]) Tryz.func42 rfl 8 rfl rfl ?_
 have hE:=Ext.refl w
 refine gS (Yk.run (v:= .agg (Sha.words.map fun x=>U x).toArray) (by kernel_rfl) (gS (Yk.alloc (cs:=((List.replicate 64 0).map fun x=>U x).toArray) IM fun b g k c h l=> ?_)))
 have a:=c;clear c
 have m:b<g.heap.size:=by omega
 refine gS (Yk.storeAll (vr (PQ b 0) rfl) (vr (.agg (Sha.words.map fun x=>U x).toArray) rfl) a (rfl) (Fx) (C9 _) fun n f j o=> ?_)
 have hE:=hE.trans h
 have hE:=Aa hE j (Nat.le_trans (Nat.le_refl _) (by omega))
 clear a
 have a:=f;clear f
 have p:=bl a
 refine gS (Yk.atArr0 (i:=t) CD A0 rfl rfl (by omega) (gS (Yk.cell1 AV rfl rfl (cellAt a (AI (i:=t) (by show _<64;omega))) (AX rfl (vr (U ((Sha.words).getD (t) 0)) rfl) ?_))))
 exact⟨rfl,hE⟩

theorem Mu(w:World)(v:Value)(l:List UInt8)(hr:RB w v l)(hl:l.length≤70368744177664):
  Calls Tryz.prog 40 #[v] w fun e w' =>∃v',e = .returned v' ∧NewB 5 w w' v' (l++Sha.tail l.length):=by
 refine gG (args:= [v]) Tryz.func40 rfl 38 rfl rfl ?_
 have hE:=Ext.refl w
 refine gS (Yk.lit0 Ns fun c w4 af=> ?_)
 have z:=af.own
 have hE:=hE.trans af.ext
 refine gS (Yk.appendRB _ _ w.heap.size (.int .u8 0) S2 SH rfl S2 (([]:List UInt8)) (l) (CI z (vr c rfl)) (RB.of (hr.keep hE) (vr v rfl)) (by simp;omega) hE.size fun n w8 h aa=> ?_)
 have aa:Grew w4 w8 c n:=aa
 have hE:=Ag hE aa z (Nat.le_refl _)
 clear z
 refine gS (Yk.lit1 (b:=128) Mq (vr (B8 (128)) rfl) fun ag ar o=> ?_)
 have a6:=hE.size
 have au:Ak n ag:=Cr h o.own
 have p:=o.own
 have hE:=hE.trans o.ext
 have h:=Stab.own _ _ _ _ _ _ _ _ h o.ext
 refine gS (Yk.appendRB _ _ w.heap.size (.int .u8 0) S2 SH rfl S2 (([]:List UInt8)++l) ([(128:UInt8)]) (CI h (vr n rfl)) (RB.of (RB.ofOwn p) (vr ag rfl)) (by simp;omega) hE.size fun ah av ai q=> ?_)
 have q:Grew ar av n ah:=q
 have hE:=Ag hE q h (Nat.le_refl _)
 have p:=Cl p q au
 clear h
 refine gL (fun(ρ:Ai) (wz:World)=>∃k:Nat,∃c:Value,ρ 0=(v:Value)∧ρ 2=((Value.slice none 0 0):Value)∧ρ 3=(c:Value)∧Ext w wz∧wz.ownsRow w.heap.size 5 1 c (l++128 :: List.replicate k 0:List UInt8).length (Lib.byteCells (l++128 :: List.replicate k 0))∧(k≤(119-l.length%64)%64)∧True) (fun ρ _=>l.length+65-Bx (ρ 3)) ⟨0,ah,rfl,rfl,rfl,hE,CJ ai (by simp),Nat.zero_le _,trivial⟩ ?_
 clear p
 clear ai
 clear hE
 rintro aw ax ⟨k,c,j,r,f,hE,ho_v3,hk,-⟩
 have q3:=f
 have ql3:=C1 ho_v3
 refine gS (Yk.lenRB S2 (RB.of (RB.ofOwn ho_v3) f) (gS (Yk.bin (xv:=NI ((l++128 :: List.replicate k 0:List UInt8).length)) (yv:=NI 64) rfl rfl rfl (Ik _ _ _ (by omega)) (gS (Yk.eqI (a:=(((l++128 :: List.replicate k 0:List UInt8).length)%(64):Nat)) (b:=(56:Nat)) rfl rfl (AZ _ _ _ _) ?_)))))
 refine cD rfl (fun ab=> ?_) fun ab=> ?_
 ·refine gS (Yk.lit1 (b:=0) Mq (vr (B8 (0)) rfl) fun aj ay s=> ?_)
  have a7:=hE.size
  have az:Ak c aj:=Cr ho_v3 s.own
  have ac:=s.own
  have hE:=hE.trans s.ext
  have ho_v3:=Stab.own _ _ _ _ _ _ _ _ ho_v3 s.ext
  refine gS (Yk.appendRB _ _ w.heap.size (.int .u8 0) S2 SH rfl S2 (l++128 :: List.replicate k 0) ([(0:UInt8)]) (CI ho_v3 f) (RB.of (RB.ofOwn ac) (vr aj rfl)) (by simp;omega) hE.size fun ad a0 ak t=> ?_)
  have t:Grew ay a0 c ad:= .eqv f t
  have hE:=Ag hE t ho_v3 (Nat.le_refl _)
  have ac:=Cl ac t az
  clear ho_v3
  refine gK (And.intro ⟨k+1,ad,j,r,rfl,hE,CJ ak (by simp[List.replicate_succ']),by simp at ab;omega,trivial⟩ ?_)
  show l.length+65-Bx (ad)<l.length+65-Bx (aw 3)
  rw[q3]
  have qn:=C1 ak
  rw[qn,ql3]
  simp
  omega
 refine gS (Yk.lenRB S2 (RB.of (hr.keep hE) j) (gS (Yk.convI Pb HR rfl (EC (l.length) (by omega)) (gS (Yk.bin (xv:= .int .u64 ((l.length:Nat):Int)) (yv:= .int .u64 ((8:Nat):Int)) rfl rfl rfl (Lu _ _ _ (by omega)) ?_)))))
 obtain⟨Z,hZ⟩:∃Z,Z=l++128 :: List.replicate k 0:=⟨_,rfl⟩
 have ho_v3:ax.ownsRow w.heap.size 5 1 c (Z:List UInt8).length (Lib.byteCells (Z)):=(hZ.symm:l++128 :: List.replicate k 0=Z)▸ho_v3
 have hZl:Z.length=l.length+1+k:=by rw[hZ];simp;omega
 refine gL (fun(ρ:Ai) (wz:World)=>∃i:Nat,∃m:Value,ρ 0=(v:Value)∧ρ 2=((Value.slice none 0 0):Value)∧ρ 4=(.int .u64 (((l.length)*(8):Nat):Int):Value)∧ρ 5=(NI i:Value)∧ρ 3=(m:Value)∧Ext w wz∧wz.ownsRow w.heap.size 5 1 m (Z++(Sha.be64 (8*l.length)).take i:List UInt8).length (Lib.byteCells (Z++(Sha.be64 (8*l.length)).take i))∧(i≤8)∧True) (fun ρ _=>8-(intOf (ρ 5)).toNat) ⟨0,c,j,r,rfl,rfl,f,hE,CJ ho_v3 (by simp),by omega,trivial⟩ ?_
 clear ho_v3
 clear hE
 rintro a1 a8 ⟨i,m,j,r,T4,u,f,hE,g,hi,-⟩
 have q5:=u
 have ql3:=C1 g
 refine gS (Yk.eqI (a:=(i:Nat)) (b:=(8:Nat)) u rfl (AO _ _ _ _) ?_)
 refine cD rfl (fun am=> ?_) fun am=> ?_
 ·refine gS (Yk.bin (xv:=NI 8) (yv:=NI i) rfl u rfl (BH _ _ _ (by omega)) (gS (Yk.bin (xv:=NI 56) (yv:=NI ((8)*(i))) rfl rfl rfl (BL _ _ _ (by omega) (by omega)) (gS (Yk.convI Pb Nd rfl (EC ((56)-((8)*(i))) (by omega)) (gS (Yk.bin (xv:= .int .u64 (((l.length)*(8):Nat):Int)) (yv:= .int .u64 (((56)-((8)*(i)):Nat):Int)) T4 rfl rfl (Lw _ _ _ _ (by omega)) (gS (Yk.convI HR Ds rfl (HA (((l.length)*(8))/2^((56)-((8)*(i))))) (gS (Yk.lit1 (b:=UInt8.ofNat (((l.length)*(8))/2^((56)-((8)*(i))))) Mq (vr (B8 (UInt8.ofNat (((l.length)*(8))/2^((56)-((8)*(i)))))) rfl) fun an a2 x=> ?_)))))))))))
  have a9:=hE.size
  have a3:Ak m an:=Cr g x.own
  have ae:=x.own
  have hE:=hE.trans x.ext
  have g:=Stab.own _ _ _ _ _ _ _ _ g x.ext
  refine gS (Yk.appendRB _ _ w.heap.size (.int .u8 0) S2 SH rfl S2 (Z++(Sha.be64 (8*l.length)).take i) ([(UInt8.ofNat (((l.length)*(8))/2^((56)-((8)*(i)))):UInt8)]) (CI g f) (RB.of (RB.ofOwn ae) (vr an rfl)) (by simp[Sha.be64];omega) hE.size fun ao a4 a5 y=> ?_)
  have y:Grew a2 a4 m ao:= .eqv f y
  have hE:=Ag hE y g (Nat.le_refl _)
  have ae:=Cl ae y a3
  clear g
  refine gS (Yk.bin (xv:=NI i) (yv:=NI 1) u rfl rfl (Ap _ _ _ (by omega)) (gK (And.intro ⟨i+1,ao,j,r,T4,rfl,rfl,hE,CJ a5 (by rw[Sha.be64_take _ _ am,List.append_assoc,Nat.mul_comm l.length 8]),by omega,trivial⟩ ?_)))
  show 8-(intOf (NI ((i)+(1)))).toNat<8-(intOf (a1 5)).toNat
  rw[q5]
  simp only[intOf,Int.toNat_natCast];omega
 refine AX rfl f ?_
 exact⟨_,rfl,CJ g (by simp at ab;rw[hZ,show i=8 by omega,show k=(119-l.length%64)%64 by omega,List.take_of_length_le (by simp[Sha.be64])];simp[Sha.tail]),Ext.grown hE⟩
open Go.RowKit
set_option maxRecDepth 100000
def HashAt(w:World)(g:Nat)(p:List UInt8):Prop:=∃s r,Sha.At p s r∧w.heap[g]? =some (.cells (hashL s r (p.length%64) p.length).toArray 142 (0,0))
theorem HashAt.keep{w w' :World}{g:Nat}{p:List UInt8}(h:HashAt w g p)(k:Ext w w'):HashAt w' g p:=by
  obtain⟨s,r,h1,h2⟩:=h
  exact⟨s,r,h1,eb k h2⟩
theorem sha6_ty125:Tryz.prog.underlying 125=some (.pointer 142):=by kernel_rfl
theorem sha6_fo142_3:A3 Tryz.prog 142 3 73:=fun b o w=>by simp[go_sem]
theorem Gh:A3 Tryz.prog 142 1 8:=fun b o w=>by simp[go_sem]
theorem Dw:A3 Tryz.prog 142 2 72:=fun b o w=>by simp[go_sem]
theorem HS:Tryz.prog.underlying 140=some (.array 64 5):=by kernel_rfl
theorem NA:(Tryz.prog.info? 5).map (·.size)=some 1:=by kernel_rfl
theorem Gi:A3 Tryz.prog 142 0 0:=fun b o w=>by simp[go_sem]
theorem NB:Plain Tryz.prog 98:=fun _ _=>by kernel_rfl
theorem Rs(w:World)(hG:Laid w):
    Calls Tryz.prog 79 #[] w fun e w' =>∃g,e = .returned (PQ g 0)∧w.heap.size≤g∧HashAt w' g []∧Ext w w' :=by
  obtain⟨tF,fF,hF0⟩:=hG.first
  refine gG (args:= []) Tryz.func79 rfl 4 rfl rfl ?_
  have hE:=Ext.refl w
  refine gS (Yk.loadAll rfl (eb hE hF0) A9 rfl DA (gS (Yk.run (v:= .agg (hashL Sha.first (List.replicate 64 0) 0 0).toArray) (by kernel_rfl) (gS (Yk.box (cs:=(hashL Sha.first (List.replicate 64 0) 0 0:List Value).toArray) (vr (.agg (hashL Sha.first (List.replicate 64 0) 0 0).toArray) rfl) fun a c i b f j=> ?_)))))
  have h:=b;clear b
  have k:a<c.heap.size:=by omega
  refine AX rfl (vr (PQ a 0) rfl) ?_
  have hE:=hE.trans f
  exact⟨_,rfl,by omega,⟨_,_,Sha.at_nil,h⟩,hE⟩

theorem IW(w:World)(hG:Laid w)(g:Nat)(hh:1<g)(p:List UInt8)(hH:HashAt w g p)(v:Value)(c:List UInt8)(hc:RB w v c)(hv:v.ownBlock≠some g)(hb:p.length+c.length<4611686018427387904):
    Calls Tryz.prog 80 #[PQ g 0,v] w fun e w' =>e = .returned (.tuple #[])∧HashAt w' g (p++c)∧w.grownBy w' (some g):=by
  obtain⟨s,r,hat,y⟩:=hH
  have hs:=hat.slen
  have hr:=hat.len
  obtain⟨f,hf⟩:∃f,f=p.length%64:=⟨_,rfl⟩
  rw[←hf]at y
  obtain⟨N,hN⟩:∃N,p.length+c.length=N:=⟨_,rfl⟩
  have hgr:w.grownBy w (some g):=World.grownBy.refl _ _
  refine gG (args:= [PQ g 0,v]) Tryz.func80 rfl 60 rfl rfl (gS (Yk.eqlNil sha6_ty125 rfl (cF rfl (gS (Yk.nilCheck rfl (gS (Yk.fieldAt sha6_fo142_3 rfl (gS (Yk.cell1 Pb rfl rfl (cellAt y (hashL_size hs hr)) (gS (Yk.lenRB S2 (RB.of hc rfl) (gS (Yk.bin (xv:=NI p.length) (yv:=NI c.length) rfl rfl rfl (Ap _ _ _ (by omega)) (gS (Yk.nilCheck rfl (gS (Yk.fieldAt sha6_fo142_3 rfl (gS (Yk.storeC (i:=73) (v:=NI ((p.length)+(c.length))) rfl rfl y (by rw[Cd hs hr];omega) Ph rfl rfl fun w4 ay ao b3=> ?_)))))))))))))))))))
  have hc:=RB.kept hc ao (.inr hv)
  have hG:Laid w4:=Laid.kept hG ao hh
  have hgr:w.grownBy w4 (some g):=Aq hgr ao (fun _ e=> .inl e)
  clear y
  have y:=ay;clear ay
  have b4:=bl y
  have y:w4.heap[g]? =some (.cells (hashL s r f N).toArray 142 (0,0)):=AF y (by rw[FQ hs hr,hN])
  refine gL (fun(ρ:Ai) (wz:World)=>∃m:Nat,∃s1:List UInt32,∃r1:List UInt8,∃f1:Nat,∃v1:Value,ρ 0=(PQ g 0:Value)∧ρ 6=(.bool (false):Value)∧ρ 1=(v1:Value)∧Laid wz∧w.grownBy wz (some g)∧RB wz v1 (c.drop m)∧wz.heap[g]? =some (.cells (hashL s1 r1 f1 N).toArray 142 (0,0))∧(m≤c.length)∧(Sha.At (p++c.take m) s1 r1)∧(f1=(p++c.take m).length%64)∧(OB v1 g)∧True) (fun ρ _=>Bx (ρ 1)) ⟨0,s,r,f,v,rfl,rfl,rfl,hG,hgr,hc,AF y (rfl),by omega,by simpa using hat,by simpa using hf,hv,trivial⟩ ?_
  clear hc
  clear y
  clear hG hgr
  rintro az ag ⟨m,s1,r1,f1,v1,q,T6,T1,hG,hgr,t,hb0l,hm,hat1,hf1,hv1,-⟩
  have q1:=T1
  have ql1:=t.sliceLen
  have u:=hat1.slen
  have ap:=hat1.len
  have hf64:f1<64:=by omega
  refine gS (Yk.lenRB S2 (RB.of t T1) (gS (Yk.eqI (a:=((c.drop m:List UInt8).length:Nat)) (b:=(0:Nat)) rfl rfl (Ca _ _ _ _) ?_)))
  refine cD rfl (fun hc1' => ?_) fun hc1' => ?_
  · obtain⟨X,hX⟩:∃X,X=(c.drop m).take (64-f1):=⟨_,rfl⟩
    obtain⟨n,hn⟩:∃n,n=X.length:=⟨_,rfl⟩
    have hxl:X.length=n:=hn.symm
    have hcl:(c.drop m).length=c.length-m:=List.length_drop
    have hnm:Nat.min (c.drop m).length (64-f1)=n:=by rw[hn,hX,List.length_take];exact Nat.min_comm _ _
    have b5:0<n:=by rw[←hnm];exact Nat.lt_min.2 ⟨hc1',by omega⟩
    have b6:f1+n≤64:=by(have:n≤64-f1:=by rw[←hnm];exact Nat.min_le_right _ _);omega
    have a6:n≤(c.drop m).length:=by rw[←hnm];exact Nat.min_le_left _ _
    have hXn:X=(c.drop m).take n:=by rw[hX,←hnm];simp[List.take_eq_take_iff];exact Nat.min_comm _ _
    have htk:(p++c.take m)++X=p++c.take (m+n):=by rw[List.append_assoc,hXn,List.take_add]
    
    refine gR ?_
    refine JI 9 [Is (PQ g 0),Is (PQ g 0),Is (PQ g 8),Is (PQ g 0),Is (PQ g 0),Is (PQ g 72),Is (NI f1),Is (.slice (some ⟨g,8+f1,none⟩) (64-f1) (64-f1)),Is (v1),fun x w' =>x=NI n∧w'.heap[g]? =some (.cells (hashL s1 (r1.take f1++X++r1.drop (f1+n)) f1 N).toArray 142 (0,0))∧ag.grownBy w' (some g),fun x w' =>x=NI n∧w'.heap[g]? =some (.cells (hashL s1 (r1.take f1++X++r1.drop (f1+n)) f1 N).toArray 142 (0,0))∧ag.grownBy w' (some g)] (by kernel_rfl) [19,20,21,22,23,24,25,26,27,28,4] (by kernel_rfl) (by kernel_rfl) (by kernel_rfl) rfl (SZ ⟨(fun _ _ _ hp he=>⟨hp.1,eb he hp.2.1,Aq hp.2.2 he.grown (fun _ e=>by cases e)⟩),(fun _ _ _ hp he=>⟨hp.1,eb he hp.2.1,Aq hp.2.2 he.grown (fun _ e=>by cases e)⟩),trivial⟩) (SZ trivial) ?a7 ?hQ1003
    case a7=>
      refine⟨?_,?_,?_,?_,?_,?_,?_,?_,?_,?_,?_,trivial⟩
      · refine AC rfl fun σ w1 hC h=> ?_
        have e0:=(AR (h 0 (by decide))).trans q
        have hC:Ext _ w1:=hC
        exact Yk.move e0 ⟨Ext.refl _,rfl⟩
      · refine AC rfl fun σ w1 hC h=> ?_
        have a8:=AR (h 19 (by decide))
        have hC:Ext _ w1:=hC
        exact Yk.nilCheck a8 ⟨Ext.refl _,rfl⟩
      · refine AC rfl fun σ w1 hC h=> ?_
        have a9:=AR (h 20 (by decide))
        have hC:Ext _ w1:=hC
        exact Yk.fieldAt Gh a9 ⟨Ext.refl _,rfl⟩
      · refine AC rfl fun σ w1 hC h=> ?_
        have e0:=(AR (h 0 (by decide))).trans q
        have hC:Ext _ w1:=hC
        exact Yk.move e0 ⟨Ext.refl _,rfl⟩
      · refine AC rfl fun σ w1 hC h=> ?_
        have ba:=AR (h 22 (by decide))
        have hC:Ext _ w1:=hC
        exact Yk.nilCheck ba ⟨Ext.refl _,rfl⟩
      · refine AC rfl fun σ w1 hC h=> ?_
        have bb:=AR (h 23 (by decide))
        have hC:Ext _ w1:=hC
        exact Yk.fieldAt Dw bb ⟨Ext.refl _,rfl⟩
      · refine AC rfl fun σ w1 hC h=> ?_
        have bc:=AR (h 24 (by decide))
        have hC:Ext _ w1:=hC
        exact Yk.cell1 Pb rfl bc (cellAt (eb hC hb0l) (FA u ap)) ⟨Ext.refl _,rfl⟩
      · refine AC rfl fun σ w1 hC h=> ?_
        have bd:=AR (h 21 (by decide))
        have be:=AR (h 25 (by decide))
        have hC:Ext _ w1:=hC
        exact Yk.sliceArrL HS Fy bd be (by omega) ⟨Ext.refl _,rfl⟩
      · refine AC rfl fun σ w1 hC h=> ?_
        have e1:=(AR (h 1 (by decide))).trans T1
        have hC:Ext _ w1:=hC
        exact Yk.move e1 ⟨Ext.refl _,rfl⟩
      · refine AC rfl fun σ w1 hC h=> ?_
        have bf:=AR (h 26 (by decide))
        have bg:=AR (h 27 (by decide))
        have hC:Ext _ w1:=hC
        refine Yk.copyB (.tmp 26) (.tmp 27) (o:=8+f1) S2 NA bf (l:=c.drop m) (by show RB w1 (σ 27) _;rw[bg];exact t.keep hC) (eb hC hb0l) (by rw[hnm];simp only[List.size_toArray,Cd u ap];omega) ?_
        refine⟨trivial,by rw[hnm];rfl,?_,?_⟩
        · rw[hnm,←hX,←hxl]
          have:=Mk (f:=f1) (n:=N) (at_:=f1) (x:=X) u ap (by omega)
          rw[this]
          exact setRow_heap w1 g _ _ _ _ (eb hC hb0l)
        · exact Aq (OU hC.grown (some g)) ⟨rfl,rfl,rfl,by simp,fun k _ hk=>setRow_other w1 g k _ (fun e=>hk (by rw[e]))⟩ (fun _ e=> .inl e)
      · refine AC rfl fun σ w1 hC h=> ?_
        have bh:(fun x w' =>x=NI n∧w'.heap[g]? =some (.cells (hashL s1 (r1.take f1++X++r1.drop (f1+n)) f1 N).toArray 142 (0,0))∧ag.grownBy w' (some g)) (σ 28) w1:=h 28 (by decide)
        exact Yk.assign rfl ⟨Ext.refl _,bh⟩
    intro a0 ah he hf
    obtain⟨-,-,-,-,-,-,-,-,-,-,k4,-⟩:=hf
    obtain⟨q,T1,T6,-⟩:=he.hold [(0,_),(1,_),(6,_)] ⟨q,T1,T6,trivial⟩ rfl
    clear he
    have k4:(fun x w' =>x=NI n∧w'.heap[g]? =some (.cells (hashL s1 (r1.take f1++X++r1.drop (f1+n)) f1 N).toArray 142 (0,0))∧ag.grownBy w' (some g)) (a0 4) ah:=k4
    obtain⟨b7,T4⟩:∃v,a0 4=v:=⟨_,rfl⟩
    rw[T4]at k4
    have bi:=k4;clear k4
    obtain⟨hv4,a1,ar⟩:=bi
    rw[hv4]at T4
    have hG:Laid ah:=Laid.kept hG ar hh
    have hgr:w.grownBy ah (some g):=Aq hgr ar (fun _ e=> .inl e)
    have t:=RB.kept t ar (.inr hv1)
    clear hb0l
    have j:=a1;clear a1
    obtain⟨r2,ai⟩:∃r2,r2=r1.take f1++X++r1.drop (f1+n):=⟨_,rfl⟩
    have hr2l:r2.length=64:=by rw[ai];simp only[List.length_append,List.length_take,List.length_drop];omega
    have j:ah.heap[g]? =some (.cells (hashL s1 r2 f1 N).toArray 142 (0,0)):=AF j (by rw[←ai])
    refine gX (gS (Yk.nilCheck q (gS (Yk.fieldAt Dw rfl (gS (Yk.cell1 Pb rfl rfl (cellAt j (FA u hr2l)) (gS (Yk.bin (xv:=NI f1) (yv:=NI n) rfl T4 rfl (Ap _ _ _ (by omega)) (gS (Yk.nilCheck q (gS (Yk.fieldAt Dw rfl (gS (Yk.storeC (i:=72) (v:=NI ((f1)+(n))) rfl rfl j (by rw[Cd u hr2l];omega) Ph rfl rfl fun au a2 av b8=> ?_))))))))))))))
    have hG:Laid au:=Laid.kept hG av hh
    have hgr:w.grownBy au (some g):=Aq hgr av (fun _ e=> .inl e)
    have t:=RB.kept t av (.inr hv1)
    clear j
    have j:=a2;clear a2
    have b9:=bl j
    have j:au.heap[g]? =some (.cells (hashL s1 r2 (f1+n) N).toArray 142 (0,0)):=AF j (FP u hr2l)
    refine gS (Yk.sliceLo (xs:=c.drop m) (l:=n) S2 Fy T1 t T4 (a6) fun af z ha29=> ?_)
    have aj:OB af g:=fun e=>hv1 (ha29.symm.trans e)
    refine gS (Yk.nilCheck q (gS (Yk.fieldAt Dw rfl (gS (Yk.cell1 Pb rfl rfl (cellAt j (FA u hr2l)) (gS (Yk.eqI (a:=((f1+n):Nat)) (b:=(64:Nat)) rfl rfl (AY _ _ _ _) ?_)))))))
    refine cD rfl (fun bj=> ?_) fun bj=> ?_
    · have hr2f:r2=r1.take f1++X:=by rw[ai,List.drop_of_length_le (by omega),List.append_nil]
      obtain⟨R,hR⟩:∃R,R=Sha.rounds s1 r2:=⟨_,rfl⟩
      have HRl:R.length=8:=by rw[hR,Sha.rounds_length _ _ u]
      have hatF:Sha.At ((p++c.take m)++X) R r2:=by rw[hR,hr2f,hf1];exact hat1.fill X (by omega)
      have hfF:0=((p++c.take m)++X).length%64:=by rw[List.length_append];omega
      refine gR ?_
      refine Ii 12 (fun(a_ b_:World)=>b_.heap[g]? =some (.cells ((cellsU R).toList++(hashL s1 r2 (f1+n) N).drop (cellsU R).size).toArray 142 (0,0))∧a_.grownBy b_ (some g)∧b_.heap.size=a_.heap.size) [Is (PQ g 0),Is (PQ g 0),Is (PQ g 0),Is (PQ g 0),Is (.agg (cellsU s1)),Is (PQ g 0),Is (PQ g 0),Is (PQ g 8),Is (.slice (some ⟨g,8,none⟩) 64 64),Is (.agg (cellsU R)),Is (PQ g 0),Is (PQ g 0),(fun _ _=>True)] (by kernel_rfl) [45,46,47,48,49,50,51,52,53,54,55,56] (by kernel_rfl) (by kernel_rfl) (by kernel_rfl) rfl (OR ⟨Stab.any,trivial⟩) (OR ⟨Stab.any,trivial⟩) ?bk ?hQ2007
      case bk=>
        refine⟨?_,?_,?_,?_,?_,?_,?_,?_,?_,?_,?_,?_,?_,trivial⟩
        · refine AC rfl fun σ w1 hC h=> ?_
          have e0:=(AR (h 0 (by decide))).trans q
          have hC:Ext _ w1:=hC
          exact Yk.move e0 ⟨Ext.refl _,rfl⟩
        · refine AC rfl fun σ w1 hC h=> ?_
          have e0:=(AR (h 0 (by decide))).trans q
          have hC:Ext _ w1:=hC
          exact Yk.move e0 ⟨Ext.refl _,rfl⟩
        · refine AC rfl fun σ w1 hC h=> ?_
          have bm:=AR (h 46 (by decide))
          have hC:Ext _ w1:=hC
          exact Yk.nilCheck bm ⟨Ext.refl _,rfl⟩
        · refine AC rfl fun σ w1 hC h=> ?_
          have bn:=AR (h 47 (by decide))
          have hC:Ext _ w1:=hC
          exact Yk.fieldAt Gi bn ⟨Ext.refl _,rfl⟩
        · refine AC rfl fun σ w1 hC h=> ?_
          have bo:=AR (h 48 (by decide))
          have hC:Ext _ w1:=hC
          exact Yk.loadPart (cs:=s1.map fun x=>U x) bo (GR (eb hC j)) A9 rfl (by rw[List.length_map,u];exact DA) ⟨Ext.refl _,rfl⟩
        · refine AC rfl fun σ w1 hC h=> ?_
          have e0:=(AR (h 0 (by decide))).trans q
          have hC:Ext _ w1:=hC
          exact Yk.move e0 ⟨Ext.refl _,rfl⟩
        · refine AC rfl fun σ w1 hC h=> ?_
          have bp:=AR (h 50 (by decide))
          have hC:Ext _ w1:=hC
          exact Yk.nilCheck bp ⟨Ext.refl _,rfl⟩
        · refine AC rfl fun σ w1 hC h=> ?_
          have bq:=AR (h 51 (by decide))
          have hC:Ext _ w1:=hC
          exact Yk.fieldAt Gh bq ⟨Ext.refl _,rfl⟩
        · refine AC rfl fun σ w1 hC h=> ?_
          have br:=AR (h 52 (by decide))
          have hC:Ext _ w1:=hC
          exact Yk.sliceArr HS Fy br ⟨Ext.refl _,rfl⟩
        · refine AC rfl fun σ w1 hC h=> ?_
          have bs:=AR (h 49 (by decide))
          have bt:=AR (h 53 (by decide))
          have hC:Ext _ w1:=hC
          refine Yk.callA2 NB bs bt ((Mj _ (hG.keep hC) s1 u _ r2 (Q7 u hr2l (eb hC j)) hr2l).mono ?_)
          rintro e w2 ⟨rfl,hx⟩
          exact⟨_,rfl,hx,by rw[hR];rfl⟩
        · refine AC rfl fun σ w1 hC h=> ?_
          have bv:=AR (h 45 (by decide))
          have hC:Ext _ w1:=hC
          exact Yk.nilCheck bv ⟨Ext.refl _,rfl⟩
        · refine AC rfl fun σ w1 hC h=> ?_
          have bw:=AR (h 55 (by decide))
          have hC:Ext _ w1:=hC
          exact Yk.fieldAt Gi bw ⟨Ext.refl _,rfl⟩
        · refine AC rfl fun σ w1 hC h=> ?_
          have bx:=AR (h 56 (by decide))
          have bz:=AR (h 54 (by decide))
          have hC:Ext _ w1:=hC
          exact Yk.storeHd bx bz (eb hC j) (by rw[E5,HRl,Cd u hr2l];omega) (by rw[E5,HRl];exact DA) (C9 _) fun w2 h1 h2 h3=>⟨⟨h1,h2,h3⟩,trivial⟩
      intro b0 a3 aw ak b1 he hf
      obtain⟨-,-,-,-,-,-,-,-,-,-,-,-,-⟩:=hf
      obtain⟨q,T1,T4,T6,-⟩:=he.hold [(0,_),(1,af),(4,_),(6,_)] ⟨q,rfl,T4,T6,trivial⟩ rfl
      clear he
      have hG:Laid a3:=(hG.keep ak)
      have hgr:w.grownBy a3 (some g):=Aq hgr ak.grown (fun _ e=>by cases e)
      obtain⟨a4,al,ca⟩:=b1
      have hG:Laid aw:=Laid.kept hG al hh
      have hgr:w.grownBy aw (some g):=Aq hgr al (fun _ e=> .inl e)
      have t:=t.keep ak
      have t:=RB.kept t al (.inr hv1)
      have z:=z.keep ak
      have z:=RB.kept z al (.inr aj)
      clear j
      have j:=a4;clear a4
      have j:aw.heap[g]? =some (.cells (hashL R r2 (f1+n) N).toArray 142 (0,0)):=AF j (by rw[E5,HRl];exact La u)
      refine gX (gS (Yk.nilCheck q (gS (Yk.fieldAt Dw rfl (gS (Yk.storeC (i:=72) (v:=NI 0) rfl rfl j (by rw[Cd HRl hr2l];omega) Ph rfl rfl fun ax a5 am cb=> ?_))))))
      have hG:Laid ax:=Laid.kept hG am hh
      have hgr:w.grownBy ax (some g):=Aq hgr am (fun _ e=> .inl e)
      have t:=RB.kept t am (.inr hv1)
      have z:=RB.kept z am (.inr aj)
      clear j
      have j:=a5;clear a5
      have cc:=bl j
      have j:ax.heap[g]? =some (.cells (hashL R r2 0 N).toArray 142 (0,0)):=AF j (FP HRl hr2l)
      refine gK (And.intro ⟨m+n,R,r2,0,af,q,T6,T1,hG,hgr,(show RB _ _ _ from(by rw[←List.drop_drop];exact z)),AF j (rfl),by omega,by rw[←htk];exact hatF,by rw[←htk];exact hfF,aj,trivial⟩ ?_)
      show Bx (b0 1)<Bx (az 1)
      rw[T1,q1]
      have q3:=z.sliceLen
      have q4:=ql1
      rw[q3,q4]
      simp only[List.length_drop]
      omega
    have hatP:Sha.At ((p++c.take m)++X) s1 r2:=by rw[ai,←hxl,hf1];exact hat1.put X (by omega)
    have hfP:f1+n=((p++c.take m)++X).length%64:=by rw[List.length_append];omega
    refine gK (And.intro ⟨m+n,s1,r2,f1+n,af,q,T6,rfl,hG,hgr,(show RB _ _ _ from(by rw[←List.drop_drop];exact z)),AF j (rfl),by omega,by rw[←htk];exact hatP,by rw[←htk];exact hfP,aj,trivial⟩ ?_)
    show Bx (af)<Bx (az 1)
    rw[q1]
    have q3:=z.sliceLen
    have q4:=ql1
    rw[q3,q4]
    simp only[List.length_drop]
    omega
  have hcF:=hc1'
  refine rt0 rfl ?_
  have hml:m=c.length:=by have:=hcF;simp at this;omega
  subst hml
  refine⟨rfl,⟨s1,r1,by simpa using hat1,?_⟩,hgr⟩
  have e1:f1=(p++c).length%64:=by simpa using hf1
  have e2:N=(p++c).length:=by rw[←hN,List.length_append]
  rw[←e1,←e2]
  exact hb0l
open Go.RowKit
set_option maxRecDepth 100000
theorem NC(s:List UInt32)(r:List UInt8)(f n:Nat):∀v∈(hashL s r f n).toArray.toList,v.oneCell' =true:=by
 intro v hv
 simp[hashL,Lib.byteCells]at hv
 rcases hv with ⟨_,_,rfl⟩ | ⟨_,_,rfl⟩ | rfl | rfl <;> rfl
namespace Sha
def outs(s:List UInt32)(i:Nat):List UInt8:=(out s).take (4*i)++List.replicate (32-4*i) 0
theorem out_length:∀s:List UInt32,(out s).length=4*s.length
 | []=>rfl
 | x :: s=>by
  have:=out_length s
  unfold out at *
  rw[List.flatMap_cons,List.length_append,this]
  simp
  omega
theorem outs_length(s:List UInt32)(hs:s.length=8)(i:Nat)(hi:i≤8):(outs s i).length=32:=by
 unfold outs
 rw[List.length_append,List.length_take,List.length_replicate,out_length,hs]
 omega
theorem outs_all(s:List UInt32)(hs:s.length=8):outs s 8=out s:=by
 unfold outs
 rw[List.take_of_length_le (by rw[out_length,hs];exact Nat.le_refl _)]
 simp
theorem outs_step(s:List UInt32)(hs:s.length=8)(i:Nat)(hi:i<8):
  ((((outs s i).set (4*i) (s.getD i 0>>>24).toUInt8).set (4*i+1) (s.getD i 0>>>16).toUInt8).set (4*i+2) (s.getD i 0>>>8).toUInt8).set (4*i+3) (s.getD i 0).toUInt8=outs s (i+1):=by
 match s,hs with
 | [a,b,c,d,e,f,g,h],_=>
  have:i=0∨i=1∨i=2∨i=3∨i=4∨i=5∨i=6∨i=7:=by omega
  rcases this with rfl | rfl | rfl | rfl | rfl | rfl | rfl | rfl <;> rfl
theorem sum_length(p:List UInt8):(sum p).length=32:=by
 unfold sum
 rw[out_length,blocks_length _ _ _ rfl]
end Sha
theorem GV:(Tryz.prog.info? 142).map (·.size)=some 74:=by kernel_rfl
theorem IX{d:Option Tmp}{ty:TypeId}{pos:String}{af:Array Edge}{gd:Option (Nat × Bool)}(σ:Operand→Value)(w:World):(execOp σ ⟨d, .alloc 54,ty,pos,af,gd⟩).run Tryz.prog w = .ok (.value (PQ w.heap.size 0)) (w.alloc (.cells (Lib.byteCells (List.replicate 32 0)).toArray 54)):=by kernel_rfl
theorem Mv:∃fs,Tryz.prog.underlying 142=some (.struct fs):=Es (by kernel_rfl)
theorem Mw{d:Option Tmp}{ty:TypeId}{pos:String}{af:Array Edge}{gd:Option (Nat × Bool)}(σ:Operand→Value)(w:World):(execOp σ ⟨d, .alloc 142,ty,pos,af,gd⟩).run Tryz.prog w = .ok (.value (PQ w.heap.size 0)) (w.alloc (.cells (hashL (List.replicate 8 0) (List.replicate 64 0) 0 0).toArray 142)):=by kernel_rfl
theorem ND:Plain Tryz.prog 80:=fun _ _=>by kernel_rfl
theorem NE(w:World)(hG:Laid w)(g:Nat)(p:List UInt8)(hH:HashAt w g p)(hp:p.length<1152921504606846976):
  Calls Tryz.prog 81 #[PQ g 0] w fun e w' =>e = .returned (AB (Sha.sum p))∧Ext w w' :=by
 obtain⟨s,r,hat,c⟩:=hH
 have hs:=hat.slen
 have hr:=hat.len
 obtain⟨f,hf⟩:∃f,f=p.length%64:=⟨_,rfl⟩
 obtain⟨N,hN⟩:∃N,p.length=N:=⟨_,rfl⟩
 rw[←hf,hN]at c
 have hw2:1<w.heap.size:=hG.two
 refine gG (args:= [PQ g 0]) Tryz.func81 rfl 85 rfl rfl ?_
 have hE:=Ext.refl w
 refine gS (Yk.alloc (cs:=(Lib.byteCells (List.replicate 32 0)).toArray) IX fun n2 w3 b4 bf bg ct=> ?_)
 have cu:=AE (bl c) b4
 have h:=bf;clear bf
 have cv:n2<w3.heap.size:=by omega
 have c:=eb bg c
 refine gS (Yk.eqlNil sha6_ty125 rfl (cF rfl (gS (Yk.nilCheck rfl (gS (Yk.loadAll rfl c (Mv).choose_spec rfl (by rw[List.size_toArray,Cd hs hr];exact GV) (gS (Yk.alloc (cs:=(hashL (List.replicate 8 0) (List.replicate 64 0) 0 0).toArray) Mw fun y b5 bh bi a4 cw=> ?_))))))))
 have m:=Ext.refl w3
 have hE:=hE.trans bg
 have bj:=hE.size
 have cx:=AE (bl c) bh
 have cy:=AE (bl h) bh
 have o:=bi;clear bi
 have cz:y<b5.heap.size:=by omega
 refine gS (Yk.storeAll (vr (PQ y 0) rfl) (vr (.agg (hashL s r f N).toArray) rfl) o (by rw[List.size_toArray,List.size_toArray,Cd hs hr];rfl) (by rw[List.size_toArray,Cd hs hr];exact GV) (NC s r f N) fun af bk a5 c0=> ?_)
 have c:=eb a4 c
 have c:=kb a5 c (by omega)
 have hE:=hE.trans a4
 have hE:=Aa hE a5 (Nat.le_trans bj (by omega))
 have h:=eb a4 h
 have h:=kb a5 h (by omega)
 have m:=m.trans a4
 have m:=Aa m a5 (Nat.le_trans (Nat.le_refl _) (by omega))
 clear o
 have o:=bk;clear bk
 have c1:=bl o
 refine gS (Yk.lit1 (b:=128) Mq (vr (B8 (128)) rfl) fun a6 c2 ag=> ?_)
 have q:=Ext.refl af
 have bm:=hE.size
 have bn:=m.size
 have b6:OB a6 g:=Ao ag.own (bl c)
 have b7:OB a6 n2:=Ao ag.own (bl h)
 have b8:OB a6 y:=Ao ag.own (bl o)
 have bo:=ag.own
 have c:=eb ag.ext c
 have hE:=hE.trans ag.ext
 have h:=eb ag.ext h
 have m:=m.trans ag.ext
 have o:=eb ag.ext o
 have q:=q.trans ag.ext
 refine gL (fun(ρ:Ai) (wz:World)=>∃k:Nat,∃v4:Value,ρ 0=(PQ g 0:Value)∧ρ 2=(PQ n2 0:Value)∧ρ 3=(PQ y 0:Value)∧ρ 11=(.bool (false):Value)∧ρ 4=(v4:Value)∧wz.heap[g]? =some (.cells (hashL s r f N).toArray 142 (0,0))∧Ext w wz∧wz.heap[n2]? =some (.cells (Lib.byteCells (List.replicate 32 0)).toArray 54 (0,0))∧Ext w3 wz∧wz.heap[y]? =some (.cells (hashL s r f N).toArray 142 (0,0))∧Ext af wz∧wz.ownsRow af.heap.size 5 1 v4 (128 :: List.replicate k 0:List UInt8).length (Lib.byteCells (128 :: List.replicate k 0))∧(k≤(119-N%64)%64)∧(OB v4 g)∧(OB v4 n2)∧(OB v4 y)∧True) (fun ρ _=>65-Bx (ρ 4)) ⟨0,a6,rfl,rfl,rfl,rfl,rfl,c,hE,h,m,o,q,CJ bo (rfl),Nat.zero_le _,b6,b7,b8,trivial⟩ ?_
 clear bo
 clear c hE h m o q
 rintro b9 ca ⟨k,v4,T0,T2,T3,ao,T4,c,hE,h,m,o,q,ho_v4,hk,hap_v4_g,hap_v4_n2,hap_v4_n14,-⟩
 have q4:=T4
 have ql4:=C1 ho_v4
 refine gS (Yk.nilCheck T0 (gS (Yk.fieldAt sha6_fo142_3 rfl (gS (Yk.cell1 Pb rfl rfl (cellAt c (hashL_size hs hr)) (gS (Yk.lenRB S2 (RB.of (RB.ofOwn ho_v4) T4) (gS (Yk.bin (xv:=NI N) (yv:=NI ((128 :: List.replicate k 0:List UInt8).length)) rfl rfl rfl (Ap _ _ _ (by simp;omega)) (gS (Yk.bin (xv:=NI ((N)+((128 :: List.replicate k 0:List UInt8).length))) (yv:=NI 64) rfl rfl rfl (Ik _ _ _ (by omega)) (gS (Yk.eqI (a:=(((N)+((128 :: List.replicate k 0:List UInt8).length))%(64):Nat)) (b:=(56:Nat)) rfl rfl (AZ _ _ _ _) ?_)))))))))))))
 refine cD rfl (fun bb=> ?_) fun bb=> ?_
 ·refine gS (Yk.lit1 (b:=0) Mq (vr (B8 (0)) rfl) fun bp cb al=> ?_)
  have c3:=hE.size
  have c4:=m.size
  have c5:=q.size
  have cc:Ak v4 bp:=Cr ho_v4 al.own
  have bc:=al.own
  have q:=q.trans al.ext
  have ho_v4:=Stab.own _ _ _ _ _ _ _ _ ho_v4 al.ext
  refine gS (Yk.appendRB _ _ af.heap.size (.int .u8 0) S2 SH rfl S2 (128 :: List.replicate k 0) ([(0:UInt8)]) (CI ho_v4 T4) (RB.of (RB.ofOwn bc) (vr bp rfl)) (by simp;omega) q.size fun ax cd bq ac=> ?_)
  have ac:Grew cb cd v4 ax:= .eqv T4 ac
  have c:=eb al.ext c
  have ce:OB ax g:=Ax ac hap_v4_g (bl c)
  have h:=eb al.ext h
  have cf:OB ax n2:=Ax ac hap_v4_n2 (bl h)
  have o:=eb al.ext o
  have cg:OB ax y:=Ax ac hap_v4_n14 (bl o)
  have c:=Am c ac hap_v4_g
  have hE:=hE.trans al.ext
  have hE:=Ag hE ac ho_v4 bm
  have h:=Am h ac hap_v4_n2
  have m:=m.trans al.ext
  have m:=Ag m ac ho_v4 bn
  have o:=Am o ac hap_v4_n14
  have q:=Ag q ac ho_v4 (Nat.le_refl _)
  have bc:=Cl bc ac cc
  clear ho_v4
  refine gK (And.intro ⟨k+1,ax,T0,T2,T3,ao,rfl,c,hE,h,m,o,q,CJ bq (by simp[List.replicate_succ']),by simp at bb;omega,ce,cf,cg,trivial⟩ ?_)
  show 65-Bx (ax)<65-Bx (b9 4)
  rw[q4]
  have qn:=C1 bq
  rw[qn,ql4]
  simp
  omega
 refine gS (Yk.nilCheck T0 (gS (Yk.fieldAt sha6_fo142_3 rfl (gS (Yk.cell1 Pb rfl rfl (cellAt c (hashL_size hs hr)) (gS (Yk.convI Pb HR rfl (EC (N) (by omega)) (gS (Yk.bin (xv:= .int .u64 ((N:Nat):Int)) (yv:= .int .u64 ((8:Nat):Int)) rfl rfl rfl (Lu _ _ _ (by omega)) ?_)))))))))
 obtain⟨Z,hZ⟩:∃Z,Z=(128:UInt8) :: List.replicate k 0:=⟨_,rfl⟩
 have ho_v4:ca.ownsRow af.heap.size 5 1 v4 (Z:List UInt8).length (Lib.byteCells (Z)):=(hZ.symm:128 :: List.replicate k 0=Z)▸ho_v4
 have hZl:Z.length=1+k:=by rw[hZ];simp;omega
 refine gL (fun(ρ:Ai) (wz:World)=>∃i:Nat,∃z:Value,ρ 0=(PQ g 0:Value)∧ρ 2=(PQ n2 0:Value)∧ρ 3=(PQ y 0:Value)∧ρ 5=(.int .u64 (((N)*(8):Nat):Int):Value)∧ρ 11=(.bool (false):Value)∧ρ 36=(NI i:Value)∧ρ 4=(z:Value)∧wz.heap[g]? =some (.cells (hashL s r f N).toArray 142 (0,0))∧Ext w wz∧wz.heap[n2]? =some (.cells (Lib.byteCells (List.replicate 32 0)).toArray 54 (0,0))∧Ext w3 wz∧wz.heap[y]? =some (.cells (hashL s r f N).toArray 142 (0,0))∧Ext af wz∧wz.ownsRow af.heap.size 5 1 z (Z++(Sha.be64 (8*N)).take i:List UInt8).length (Lib.byteCells (Z++(Sha.be64 (8*N)).take i))∧(i≤8)∧(OB z g)∧(OB z n2)∧(OB z y)∧True) (fun ρ _=>8-(intOf (ρ 36)).toNat) ⟨0,v4,T0,T2,T3,rfl,ao,rfl,T4,c,hE,h,m,o,q,CJ ho_v4 (by simp),by omega,hap_v4_g,hap_v4_n2,hap_v4_n14,trivial⟩ ?_
 clear ho_v4
 clear c hE h m o q
 rintro ch ci ⟨i,z,T0,T2,T3,T5,ao,ap,T4,c,hE,h,m,o,q,n,hi,hap_v5_g,hap_v5_n2,hap_v5_n14,-⟩
 have q36:=ap
 have ql4:=C1 n
 refine gS (Yk.eqI (a:=(i:Nat)) (b:=(8:Nat)) ap rfl (AO _ _ _ _) ?_)
 refine cD rfl (fun br=> ?_) fun br=> ?_
 ·refine gS (Yk.bin (xv:=NI 8) (yv:=NI i) rfl ap rfl (BH _ _ _ (by omega)) (gS (Yk.bin (xv:=NI 56) (yv:=NI ((8)*(i))) rfl rfl rfl (BL _ _ _ (by omega) (by omega)) (gS (Yk.bin (xv:= .int .u64 (((N)*(8):Nat):Int)) (yv:=NI ((56)-((8)*(i)))) T5 rfl rfl (Lw _ _ _ _ (by omega)) (gS (Yk.convI HR Ds rfl (HA (((N)*(8))/2^((56)-((8)*(i))))) (gS (Yk.lit1 (b:=UInt8.ofNat (((N)*(8))/2^((56)-((8)*(i))))) Mq (vr (B8 (UInt8.ofNat (((N)*(8))/2^((56)-((8)*(i)))))) rfl) fun bs cj am=> ?_)))))))))
  have c6:=hE.size
  have c7:=m.size
  have c8:=q.size
  have ck:Ak z bs:=Cr n am.own
  have bd:=am.own
  have q:=q.trans am.ext
  have n:=Stab.own _ _ _ _ _ _ _ _ n am.ext
  refine gS (Yk.appendRB _ _ af.heap.size (.int .u8 0) S2 SH rfl S2 (Z++(Sha.be64 (8*N)).take i) ([(UInt8.ofNat (((N)*(8))/2^((56)-((8)*(i)))):UInt8)]) (CI n T4) (RB.of (RB.ofOwn bd) (vr bs rfl)) (by simp[Sha.be64];omega) q.size fun a1 cl cm ad=> ?_)
  have ad:Grew cj cl z a1:= .eqv T4 ad
  have c:=eb am.ext c
  have cn:OB a1 g:=Ax ad hap_v5_g (bl c)
  have h:=eb am.ext h
  have co:OB a1 n2:=Ax ad hap_v5_n2 (bl h)
  have o:=eb am.ext o
  have cp:OB a1 y:=Ax ad hap_v5_n14 (bl o)
  have c:=Am c ad hap_v5_g
  have hE:=hE.trans am.ext
  have hE:=Ag hE ad n bm
  have h:=Am h ad hap_v5_n2
  have m:=m.trans am.ext
  have m:=Ag m ad n bn
  have o:=Am o ad hap_v5_n14
  have q:=Ag q ad n (Nat.le_refl _)
  have bd:=Cl bd ad ck
  clear n
  refine gS (Yk.bin (xv:=NI i) (yv:=NI 1) ap rfl rfl (Ap _ _ _ (by omega)) (gK (And.intro ⟨i+1,a1,T0,T2,T3,T5,ao,rfl,rfl,c,hE,h,m,o,q,CJ cm (by rw[Sha.be64_take _ _ br,List.append_assoc,Nat.mul_comm N 8]),by omega,cn,co,cp,trivial⟩ ?_)))
  show 8-(intOf (NI ((i)+(1)))).toNat<8-(intOf (ch 36)).toNat
  rw[q36]
  simp only[intOf,Int.toNat_natCast];omega
 obtain⟨Q,hQ⟩:∃Q,Q=Z++(Sha.be64 (8*N)).take i:=⟨_,rfl⟩
 have n:ci.ownsRow af.heap.size 5 1 z (Q:List UInt8).length (Lib.byteCells (Q)):=(hQ.symm:Z++(Sha.be64 (8*N)).take i=Q)▸n
 have hQt:Q=Sha.tail p.length:=by simp at bb;rw[hQ,hZ,show i=8 by omega,show k=(119-p.length%64)%64 by omega,List.take_of_length_le (by simp[Sha.be64]),←hN];simp[Sha.tail]
 have hQl:Q.length≤100:=by rw[hQ];simp[Sha.be64];omega
 refine gS (Yk.callA2 ND T3 T4 ((IW _ (hG.keep hE) y (by omega) p ⟨s,r,hat,by rw[←hf,hN];exact o⟩ z Q (RB.ofOwn n) hap_v5_n14 (by omega)).mono ?_))
 rintro e bt ⟨rfl,⟨s2,r2,hat2,t⟩,a2⟩
 refine⟨_,rfl,?_⟩
 have c:=kb a2 c (by omega)
 have hE:=Aa hE a2 (Nat.le_trans bj (by omega))
 have h:=kb a2 h (by omega)
 have m:=Aa m a2 (Nat.le_trans (Nat.le_refl _) (by omega))
 clear q
 have n:=A5 n a2 hap_v5_n14
 clear o
 have ae:=hat2.slen
 have c9:=hat2.len
 refine gS (Yk.alloc (cs:=(Lib.byteCells (List.replicate 32 0)).toArray) IX fun a7 cq be bu aq da=> ?_)
 have u:=Ext.refl bt
 have a8:=hE.size
 have a9:=m.size
 have db:=AE (bl c) be
 have dc:=AE (bl h) be
 have dd:=AE (bl t) be
 have ba:OB z a7:=By n (by omega)
 have bv:=bu;clear bu
 have de:a7<cq.heap.size:=by omega
 have c:=eb aq c
 have hE:=hE.trans aq
 have h:=eb aq h
 have m:=m.trans aq
 have n:=Stab.own _ _ _ _ _ _ _ _ n aq
 have t:=eb aq t
 have u:=u.trans aq
 refine gS (Yk.fieldAt Gi T3 (gS (Yk.loadPart (cs:=s2.map fun x=>U x) rfl (GR t) A9 rfl (by rw[List.length_map,ae];exact DA) (gL (fun(ρ:Ai) (wz:World)=>∃j:Nat,ρ 0=(PQ g 0:Value)∧ρ 2=(PQ n2 0:Value)∧ρ 3=(PQ y 0:Value)∧ρ 4=(z:Value)∧ρ 5=(.int .u64 (((N)*(8):Nat):Int):Value)∧ρ 7=(PQ a7 0:Value)∧ρ 11=(.bool (false):Value)∧ρ 36=(NI i:Value)∧ρ 52=(.agg (s2.map fun x=>U x).toArray:Value)∧ρ 53=(NI j:Value)∧wz.heap[g]? =some (.cells (hashL s r f N).toArray 142 (0,0))∧Ext w wz∧wz.heap[n2]? =some (.cells (Lib.byteCells (List.replicate 32 0)).toArray 54 (0,0))∧Ext w3 wz∧wz.ownsRow af.heap.size 5 1 z (Q:List UInt8).length (Lib.byteCells (Q))∧wz.heap[y]? =some (.cells (hashL s2 r2 ((p++Q).length%64) (p++Q).length).toArray 142 (0,0))∧Ext bt wz∧wz.heap[a7]? =some (.cells (Lib.byteCells (Sha.outs s2 j)).toArray 54 (0,0))∧(j≤8)∧True) (fun ρ _=>8-(intOf (ρ 53)).toNat) ⟨0,T0,T2,T3,T4,T5,rfl,ao,ap,rfl,rfl,c,hE,h,m,n,t,u,AF bv (rfl),by omega,trivial⟩ ?_))))
 clear bv
 clear c hE h m n t u
 rintro cr df ⟨j,T0,T2,T3,T4,T5,T7,ao,ap,bw,an,c,hE,h,m,n,t,u,hb128l,hj,-⟩
 have q53:=an
 refine gS (Yk.eqI (a:=(j:Nat)) (b:=(8:Nat)) an rfl (AO _ _ _ _) ?_)
 refine cD rfl (fun bx=> ?_) fun bx=> ?_
 ·refine gS (Yk.idxU (l:=s2) (i:=j) A9 AV rfl A0 bw an (by omega) (ae) (gS (Yk.bin (xv:=NI 4) (yv:=NI j) rfl an rfl (BH _ _ _ (by omega)) (gS (Yk.bin (xv:=NI 4) (yv:=NI j) rfl an rfl (BH _ _ _ (by omega)) (gS (Yk.bin (xv:=NI ((4)*(j))) (yv:=NI 1) rfl rfl rfl (Ap _ _ _ (by omega)) (gS (Yk.bin (xv:=NI 4) (yv:=NI j) rfl an rfl (BH _ _ _ (by omega)) (gS (Yk.bin (xv:=NI ((4)*(j))) (yv:=NI 2) rfl rfl rfl (Ap _ _ _ (by omega)) (gS (Yk.bin (xv:=NI 4) (yv:=NI j) rfl an rfl (BH _ _ _ (by omega)) (gS (Yk.bin (xv:=NI ((4)*(j))) (yv:=NI 3) rfl rfl rfl (Ap _ _ _ (by omega)) (gS (Yk.bin rfl rfl rfl (DM _ _ _ 24 (by decide)) (gS (Yk.narrow AV Ds rfl (gS (Yk.bin rfl rfl rfl (DM _ _ _ 16 (by decide)) (gS (Yk.narrow AV Ds rfl (gS (Yk.bin rfl rfl rfl (DM _ _ _ 8 (by decide)) (gS (Yk.narrow AV Ds rfl (gS (Yk.narrow AV Ds rfl (gS (Yk.atArr0 (i:=(4)*(j)) IU Fy T7 rfl (by omega) ?_)))))))))))))))))))))))))))))))
  refine gS (Yk.storeB8 (i:=(4)*(j)) (v:=((s2.getD (j) 0)>>>24).toUInt8) rfl rfl hb128l (by rw[Sha.outs_length _ ae _ (by omega)];omega) NA fun dh bz ar di=> ?_)
  have c:=kb ar c (by omega)
  have hE:=Aa hE ar (Nat.le_trans a8 (by omega))
  have h:=kb ar h (by omega)
  have m:=Aa m ar (Nat.le_trans a9 (by omega))
  have n:=A5 n ar ba
  have t:=kb ar t (by omega)
  have u:=Aa u ar (Nat.le_trans (Nat.le_refl _) (by omega))
  clear hb128l
  have hb128l:=bz;clear bz
  have dj:=bl hb128l
  refine gS (Yk.atArr0 (i:=((4)*(j))+(1)) IU Fy T7 rfl (by omega) (gS (Yk.storeB8 (i:=((4)*(j))+(1)) (v:=((s2.getD (j) 0)>>>16).toUInt8) rfl rfl hb128l (by rw[List.length_set,Sha.outs_length _ ae _ (by omega)];omega) NA fun dk b0 au dl=> ?_)))
  have c:=kb au c (by omega)
  have hE:=Aa hE au (Nat.le_trans a8 (by omega))
  have h:=kb au h (by omega)
  have m:=Aa m au (Nat.le_trans a9 (by omega))
  have n:=A5 n au ba
  have t:=kb au t (by omega)
  have u:=Aa u au (Nat.le_trans (Nat.le_refl _) (by omega))
  clear hb128l
  have hb128l:=b0;clear b0
  have dm:=bl hb128l
  refine gS (Yk.atArr0 (i:=((4)*(j))+(2)) IU Fy T7 rfl (by omega) (gS (Yk.storeB8 (i:=((4)*(j))+(2)) (v:=((s2.getD (j) 0)>>>8).toUInt8) rfl rfl hb128l (by rw[List.length_set,List.length_set,Sha.outs_length _ ae _ (by omega)];omega) NA fun dn b1 av dp=> ?_)))
  have c:=kb av c (by omega)
  have hE:=Aa hE av (Nat.le_trans a8 (by omega))
  have h:=kb av h (by omega)
  have m:=Aa m av (Nat.le_trans a9 (by omega))
  have n:=A5 n av ba
  have t:=kb av t (by omega)
  have u:=Aa u av (Nat.le_trans (Nat.le_refl _) (by omega))
  clear hb128l
  have hb128l:=b1;clear b1
  have dq:=bl hb128l
  refine gS (Yk.atArr0 (i:=((4)*(j))+(3)) IU Fy T7 rfl (by omega) (gS (Yk.storeB8 (i:=((4)*(j))+(3)) (v:=(s2.getD (j) 0).toUInt8) rfl rfl hb128l (by rw[List.length_set,List.length_set,List.length_set,Sha.outs_length _ ae _ (by omega)];omega) NA fun dr b2 aw ds=> ?_)))
  have c:=kb aw c (by omega)
  have hE:=Aa hE aw (Nat.le_trans a8 (by omega))
  have h:=kb aw h (by omega)
  have m:=Aa m aw (Nat.le_trans a9 (by omega))
  have n:=A5 n aw ba
  have t:=kb aw t (by omega)
  have u:=Aa u aw (Nat.le_trans (Nat.le_refl _) (by omega))
  clear hb128l
  have hb128l:=b2;clear b2
  have dt:=bl hb128l
  refine gS (Yk.bin (xv:=NI j) (yv:=NI 1) an rfl rfl (Ap _ _ _ (by omega)) (gK (And.intro ⟨j+1,T0,T2,T3,T4,T5,T7,ao,ap,bw,rfl,c,hE,h,m,n,t,u,AF hb128l (congrArg Lib.byteCells (Sha.outs_step s2 ae j bx)),by omega,trivial⟩ ?_)))
  show 8-(intOf (NI ((j)+(1)))).toNat<8-(intOf (cr 53)).toNat
  rw[q53]
  simp only[intOf,Int.toNat_natCast];omega
 refine gS (Yk.loadAll T7 hb128l IU rfl (by rw[List.size_toArray,Lib.byteCells_length,Sha.outs_length _ ae _ (by omega)];exact R5) (gS (Yk.storeAll T2 (vr (AB (Sha.outs s2 j)) rfl) h (by rw[List.size_toArray,Lib.byteCells_length,Sha.outs_length _ ae _ (by omega)];rfl) (by rw[List.size_toArray,Lib.byteCells_length,Sha.outs_length _ ae _ (by omega)];exact R5) (Ah _) fun du b3 a3 dv=> ?_)))
 have c:=kb a3 c (by omega)
 have hE:=Aa hE a3 (Nat.le_trans (Nat.le_refl _) (by omega))
 clear m
 have n:=A5 n a3 hap_v5_n2
 have t:=kb a3 t (by omega)
 clear u
 have hb128l:=kb a3 hb128l (by omega)
 clear h
 have h:=b3;clear b3
 have dw:=bl h
 refine F6 rfl (ResF.row T2 h IU rfl (by rw[List.size_toArray,Lib.byteCells_length,Sha.outs_length _ ae _ (by omega)];exact R5)) ?_
 refine⟨?_,hE⟩
 have e:Sha.outs s2 j=Sha.sum p:=by rw[show j=8 by omega,Sha.outs_all s2 ae,hat2.state,hQt];rfl
 rw[e]

open Go.RowKit
set_option maxRecDepth 100000
theorem HashAt.other{w w' :World}{g b:Nat}{p:List UInt8}(h:HashAt w g p)(hg:w.grownBy w' (some b))(hne:g≠b):HashAt w' g p:=by
 obtain⟨s,r,h1,h2⟩:=h
 exact⟨s,r,h1,(hg.block g (bl h2) (by simpa using hne)).trans h2⟩
theorem Gj(ls:List (List UInt8))(i:Nat)(hi:i<ls.length):(ls.take (i+1)).flatten=(ls.take i).flatten++ls.getD i []:=by
 rw[List.take_succ_eq_append_getElem hi,List.flatten_append]
 simp[hi]
theorem HT(ls:List (List UInt8))(i:Nat)(hi:i<ls.length):(ls.take i).flatten.length+(ls.getD i []).length≤ls.flatten.length:=by
 have h1:=Gj ls i hi
 have h2:ls.flatten=(ls.take (i+1)).flatten++(ls.drop (i+1)).flatten:=by rw[←List.flatten_append,List.take_append_drop]
 rw[h2,h1]
 simp only[List.length_append]
 omega
theorem NF:Plain Tryz.prog 79:=fun _ _=>by kernel_rfl
theorem IY:Tryz.prog.underlying 26=some (.slice 35):=by kernel_rfl
theorem NG:∀w' :World,(sizeOf 35).run Tryz.prog w' = .ok 1 w' :=fun _=>by kernel_rfl
theorem NH:Plain Tryz.prog 81:=fun _ _=>by kernel_rfl
theorem Iy(w:World)(g:Nat)(p:List UInt8)(hH:HashAt w g p)(v:Value)(hc:RB w v [])(hb:p.length<4611686018427387904):
  Calls Tryz.prog 80 #[PQ g 0,v] w fun e w' =>e = .returned (.tuple #[])∧HashAt w' g p∧w.grownBy w' (some g):=by
 obtain⟨s,r,hat,c⟩:=hH
 have hs:=hat.slen
 have hr:=hat.len
 obtain⟨f,hf⟩:∃f,f=p.length%64:=⟨_,rfl⟩
 rw[←hf]at c
 have hgr:w.grownBy w (some g):=World.grownBy.refl _ _
 refine gG (args:= [PQ g 0,v]) Tryz.func80 rfl 60 rfl rfl (gS (Yk.eqlNil sha6_ty125 rfl (cF rfl (gS (Yk.nilCheck rfl (gS (Yk.fieldAt sha6_fo142_3 rfl (gS (Yk.cell1 Pb rfl rfl (cellAt c (hashL_size hs hr)) (gS (Yk.lenRB S2 (RB.of hc rfl) (gS (Yk.bin (xv:=NI p.length) (yv:=NI ((([]:List UInt8):List UInt8).length)) rfl rfl rfl (Ap _ _ _ (by simp;omega)) (gS (Yk.nilCheck rfl (gS (Yk.fieldAt sha6_fo142_3 rfl (gS (Yk.storeC (i:=73) (v:=NI ((p.length)+((([]:List UInt8):List UInt8).length))) rfl rfl c (by rw[Cd hs hr];omega) Ph rfl rfl fun h j k m=> ?_)))))))))))))))))))
 have hc:RB h v ([]:List UInt8):=RB.nilAny hc
 have hgr:w.grownBy h (some g):=Aq hgr k (fun _ e=> .inl e)
 clear c
 have c:=j;clear j
 have n:=bl c
 have c:h.heap[g]? =some (.cells (hashL s r f p.length).toArray 142 (0,0)):=AF c (FQ hs hr)
 refine gL (fun(ρ:Ai) (wz:World)=>ρ 0=(PQ g 0:Value)∧ρ 6=(.bool (false):Value)∧ρ 1=(v:Value)∧RB wz v ([]:List UInt8)∧w.grownBy wz (some g)∧wz.heap[g]? =some (.cells (hashL s r f p.length).toArray 142 (0,0))∧True) (fun ρ _=>0) ⟨rfl,rfl,rfl,hc,hgr,c,trivial⟩ ?_
 clear hc hgr c
 rintro o q ⟨t,u,l,hc,hgr,c,-⟩
 refine gS (Yk.lenRB S2 (RB.of hc l) (gS (Yk.eqI (a:=((([]:List UInt8):List UInt8).length:Nat)) (b:=(0:Nat)) rfl rfl (Ca _ _ _ _) (cF ((rfl).trans (congrArg Value.bool (decide_eq_false (by simp)))) (rt0 rfl ?_)))))
 exact⟨rfl,⟨s,r,hat,by rw[←hf];exact c⟩,hgr⟩

theorem NJ(w:World)(hG:Laid w)(g:Nat)(hh:1<g)(p:List UInt8)(hH:HashAt w g p)(v:Value)(c:List UInt8)(hc:RB w v c)(hv:0<c.length→v.ownBlock≠some g)(hb:p.length+c.length<4611686018427387904):
  Calls Tryz.prog 80 #[PQ g 0,v] w fun e w' =>e = .returned (.tuple #[])∧HashAt w' g (p++c)∧w.grownBy w' (some g):=by
 by_cases h0:0<c.length
 ·exact IW w hG g hh p hH v c hc (hv h0) hb
 ·have:c= []:=List.eq_nil_of_length_eq_zero (by omega)
  subst this
  rw[List.append_nil]
  exact Iy w g p hH v hc (by simpa using hb)

theorem Rt(w:World)(hG:Laid w)(v:Value)(ls:List (List UInt8))(hls:RBs w v ls)(hb:ls.flatten.length<1152921504606846976)(hlen:ls.length<1152921504606846976):
    Calls Tryz.prog 43 #[v] w fun e w' =>e = .returned (AB (Sha.sum ls.flatten))∧Ext w w' :=by
 have hw2:1<w.heap.size:=hG.two
 refine gG (args:= [v]) Tryz.func43 rfl 19 rfl rfl ?_
 have hE:=Ext.refl w
 refine gS (Yk.alloc (cs:=(Lib.byteCells (List.replicate 32 0)).toArray) IX fun g j ag p aa ah=> ?_)
 have c:=p;clear p
 have ai:g<j.heap.size:=by omega
 have hE:=hE.trans aa
 refine gS (Yk.callA0 NF ((Rs _ (hG.keep hE)).mono ?_))
 rintro e aj ⟨gH,rfl,q,r,k⟩
 refine⟨_,rfl,?_⟩
 have f:=Ext.refl j
 have ab:=hE.size
 have ak:g<gH:=by have:=(bl c);omega
 have hE:=hE.trans k
 have c:=eb k c
 have f:=f.trans k
 refine gS (Yk.lenRBs IY (RBs.of (hls.keep hE) rfl) (gL (fun(ρ:Ai) (wz:World)=>∃i:Nat,ρ 0=(v:Value)∧ρ 2=(PQ g 0:Value)∧ρ 3=(PQ gH 0:Value)∧ρ 7=(v:Value)∧ρ 8=(NI ls.length:Value)∧ρ 9=(NI i:Value)∧Ext w wz∧wz.heap[g]? =some (.cells (Lib.byteCells (List.replicate 32 0)).toArray 54 (0,0))∧Ext j wz∧HashAt wz gH ((ls.take i).flatten)∧(i≤ls.length)∧True) (fun ρ _=>ls.length-(intOf (ρ 9)).toNat) ⟨0,rfl,rfl,rfl,rfl,rfl,rfl,hE,c,f,by simpa using r,Nat.zero_le _,trivial⟩ ?_))
 clear r
 clear hE c f
 rintro ac al ⟨i,T0,l,m,s,t,h,hE,c,f,hHi,hi,-⟩
 have q9:=h
 refine gS (Yk.eqI (a:=(i:Nat)) (b:=(ls.length:Nat)) h t (AO _ _ _ _) ?_)
 refine cD rfl (fun hi3=> ?_) fun hi3=> ?_
 ·refine gS (Yk.atRBs0 (ls:=ls) (i:=i) hE IY NG hls s h (hi3) fun am ae u x=>(gS (Yk.loadC S2 rfl (PCell.of u rfl) ?_)))
  clear u
  refine gS (Yk.callA2 ND m rfl ((NJ _ (hG.keep hE) gH (by omega) ((ls.take i).flatten) hHi ae (ls.getD (i) []) (x.keep hE) (fun h0 hb=>by have:=RB.lt x h0 hb;omega) (by have:=HT ls i hi3;omega)).mono ?_))
  rintro e an ⟨rfl,af,n⟩
  refine⟨_,rfl,?_⟩
  have hE:=Aa hE n (Nat.le_trans ab q)
  have c:=kb n c (by omega)
  have f:=Aa f n (Nat.le_trans (Nat.le_refl _) q)
  clear hHi
  refine gS (Yk.bin (xv:=NI i) (yv:=NI 1) h rfl rfl (Ap _ _ _ (by have:=hlen;omega)) (gK (And.intro ⟨i+1,T0,l,m,s,t,rfl,hE,c,f,(show HashAt _ _ _ from by rw[Gj ls i hi3];exact af),by omega,trivial⟩ ?_)))
  show ls.length-(intOf (NI ((i)+(1)))).toNat<ls.length-(intOf (ac 9)).toNat
  rw[q9]
  simp only[intOf,Int.toNat_natCast];omega
 have hfl:(ls.take i).flatten=ls.flatten:=by rw[List.take_of_length_le (by omega)]
 have hfl2:=congrArg List.length hfl
 refine gS (Yk.callA1 NH m ((NE _ (hG.keep hE) gH ((ls.take i).flatten) hHi (by omega)).mono ?_))
 rintro e ao ⟨rfl,o⟩
 refine⟨_,rfl,?_⟩
 have c:=eb o c
 refine gS (Yk.storeAll l (vr (AB (Sha.sum ((ls.take i).flatten))) rfl) c (by rw[List.size_toArray,Lib.byteCells_length,Sha.sum_length];rfl) (by rw[List.size_toArray,Lib.byteCells_length,Sha.sum_length];exact R5) (Ah _) fun ap y z aq=> ?_)
 have hE:=hE.trans o
 have hE:=Aa hE z (Nat.le_trans (Nat.le_refl _) (by omega))
 clear f
 have hHi:=hHi.keep o
 have hHi:=HashAt.other hHi z (by omega)
 clear c
 have c:=y;clear y
 have ar:=bl c
 refine F6 rfl (ResF.row l c IU rfl (by rw[List.size_toArray,Lib.byteCells_length,Sha.sum_length];exact R5)) ?_
 rw[hfl]
 exact⟨rfl,hE⟩
open Go.RowKit
set_option linter.unusedVariables false
set_option linter.unusedSimpArgs false
def zid32:List UInt8:=List.replicate 32 0
inductive Stp where
  | add (b:List UInt8)
  | sync
  | rem
def Ce(D:An)(s:List UInt8):Stp→An × Nat
  | .add b=>Af D s b
  | .sync=>Aw D s
  | .rem=>Ar D s
def AS(D:An)(s:List UInt8):List Stp→An × Nat
  | []=>(D,0)
  | a :: r=>if(Ce D s a).2≠0 then Ce D s a else AS (Ce D s a).1 s r
theorem DC(D:An)(s:List UInt8)(a:Stp)(r:List Stp):AS D s (a :: r)=if(Ce D s a).2≠0 then Ce D s a else AS (Ce D s a).1 s r:=rfl
def A8(D:An)(id:List UInt8):List UInt8 × Nat:=
  if(Az D (Ad id)).2=4∨((Az D (Ad id)).2=0∧Sha.sum (Az D (Ad id)).1≠id)then([],12)else Az D (Ad id)
def Cm(r:An × Nat)(id:List UInt8):An × List UInt8 × List UInt8 × Nat:=if r.2≠0 then(r.1,zid32,[],r.2)else(r.1,id,[],0)
def A2(D:An)(b:List UInt8):An × List UInt8 × List UInt8 × Nat:=
  if(Az D (Ad (Sha.sum b))).2=4 then Cm (AS D (Ad (Sha.sum b)) [.add b, .sync]) (Sha.sum b)
  else if(Az D (Ad (Sha.sum b))).2≠0 then(D,zid32,[],(Az D (Ad (Sha.sum b))).2)
  else if(Az D (Ad (Sha.sum b))).1=b then Cm (AS D (Ad (Sha.sum b)) [.sync]) (Sha.sum b)
  else if Sha.sum (Az D (Ad (Sha.sum b))).1=Sha.sum b then(D,Sha.sum b,(Az D (Ad (Sha.sum b))).1,7)
  else Cm (AS D (Ad (Sha.sum b)) [.rem, .add b, .sync]) (Sha.sum b)
def BY(D:An)(id:List UInt8):An × Nat:=if(Ar D (Ad id)).2=4 then((Ar D (Ad id)).1,12)else Ar D (Ad id)
def BK(D:An)(s:List UInt8):Option (List UInt8):=
  if(AP [111,45] s).2=true∧(AQ (AP [111,45] s).1).2=true∧(A8 D (AQ (AP [111,45] s).1).1).2=0 then some (AQ (AP [111,45] s).1).1 else none
def E7(D:An):List (List UInt8):=(As D).filterMap (BK D)
section
variable {P : Program} {K : Value → World → Prop} {ρ : Ai} {w : World} {d : Option Tmp} {ty : TypeId} {pos : String} {af : Array Edge} {gd : Option (Nat × Bool)}
theorem Yk.cloB{f:FuncId}(hp:Plain P f){c:Operand}{args:Array Operand}{at_:Array TypeId}{bd caps:Array Value}(hc:Ab ρ c = .func (.func f) bd caps)(vs:Array Value)(hv:bd++args.map (Ab ρ)++caps=vs) 
    (h:Calls P f vs w fun e w' =>∃v,e = .returned v∧K v w'):Yk P K ((execOp (Ab ρ) ⟨d, .call ⟨.value c,args,at_⟩,ty,pos,af,gd⟩).run P w):=by
  subst hv
  refine Yk.enter (f:=f) (args:=bd++args.map (Ab ρ)++caps) (w' :=w) ?_ h
  unfold execOp
  simp[resolve,hc,Deferred.ofValue,invoke,hp _ w]
theorem Yk.stp{f:FuncId}{c x:Operand}{v y u:Value}{bd caps:Array Value}{R:Dk→World→Prop}{at_:Array TypeId}(hp:Plain P f)(hc:Ab ρ c=v)(hve:v = .func (.func f) bd caps)(hx:Ab ρ x=y) 
    (h:Calls P f (bd ++ #[y]++caps) w fun e w' =>∃H',e = .returned u∧R H' w') (hk:∀H' w',R H' w' →K u w'):Yk P K ((execOp (Ab ρ) ⟨d, .call ⟨.value c,#[x],at_⟩,ty,pos,af,gd⟩).run P w):=
  Yk.cloB hp (hc.trans hve) _ (by simp[hx]) (h.mono fun e w' ⟨H',q1,q2⟩=>⟨_,q1,hk H' w' q2⟩)
theorem Yk.mkFuncB{f:Fn}{x:Operand}{v:Value}(hx:Ab ρ x=v)(hk:K (.func f #[v] #[]) w):Yk P K ((execOp (Ab ρ) ⟨d, .makeFunc f #[x] #[],ty,pos,af,gd⟩).run P w):=by
  refine Yk.run (v:= .func f #[v] #[]) ?_ hk
  unfold execOp
  simp[hx,Instr.makeFunc]
end
section
variable {wb w w' : World} {g : Nat} {H H' : Dk} {D D' : An}
def StpAt(w:World)(g:Nat)(H:Dk)(n:Nat)(v:Value):Stp→Prop
  | .add b=>∃bd bb vb,v = .func (.func 45) #[] #[PQ bd 0,PQ bb 0]∧w.heap[bd]? =some (.cells ([PQ g 0]).toArray 24 (0,0))∧w.heap[bb]? =some (.cells ([vb]).toArray 35 (0,0))∧RB w vb b∧(b= []∨∀i,vb.ownBlock=some i→¬A1 H n i)∧b.length≤300
  | .sync=>v = .func (.func 48) #[PQ g 0] #[]
  | .rem=>v = .func (.func 49) #[PQ g 0] #[]
theorem DkW.off(hW:DkW wb w g H D w' H' D'){v:Value}{b:List UInt8}(hr:RB w v b)(ho:b= []∨∀i,v.ownBlock=some i→¬A1 H D.files.length i):b= []∨∀i,v.ownBlock=some i→¬A1 H' D'.files.length i:=by
  rcases ho with h0 | ho
  · exact .inl h0
  · by_cases hb:b= []
    · exact .inl hb
    · refine .inr fun i hi q=> ?_
      rcases hW.foot i q with q | q
      · exact ho i hi q
      · have:=RB.lt hr (List.length_pos_iff.2 hb) hi
        omega
theorem StpAt.step(hD:DkG wb w g H D)(hW:DkW wb w g H D w' H' D'){v:Value}{a:Stp}(h:StpAt w g H D.files.length v a):StpAt w' g H' D'.files.length v a:=by
  cases a with
  | sync=>exact h
  | rem=>exact h
  | add b=>
    obtain⟨bd,bb,vb,e,h1,h2,h3,h4,h5⟩:=h
    exact⟨bd,bb,vb,e,hD.box hW.chg h1 (by decide) (by decide) (by decide) (by decide),hD.box hW.chg h2 (by decide) (by decide) (by decide) (by decide),h3.chg hW.chg h4,hW.off h3 h4,h5⟩
theorem StpAt.ext{n:Nat}{v:Value}{a:Stp}(h:StpAt w g H n v a)(k:Ext w w'):StpAt w' g H n v a:=by
  cases a with
  | sync=>exact h
  | rem=>exact h
  | add b=>
    obtain⟨bd,bb,vb,e,h1,h2,h3,h4,h5⟩:=h
    exact⟨bd,bb,vb,e,Ext.blk' k h1,Ext.blk' k h2,h3.keep k,h4,h5⟩
theorem DkW.ofExt(h:DkG wb w g H D)(k:Ext w w'):DkW wb w g H D w' H D:=⟨h.keep k,Chg.ofExt k,fun _ q=> .inl q⟩
theorem DkW.setT(h:DkW wb w g H D w' H' D'){a:World}{b:Nat}{cs:Array Value}{t:TypeId}{fr:Nat × Nat}(hg:w'.grownBy a (some b))(hb:w'.heap[b]? =some (.cells cs t fr))(hw:w.heap.size≤b)(h1:t≠52)(h2:t≠105)(h3:t≠5)(h4:t≠107)(h5:t≠81)(h6:t≠9)(hwb:wb.heap.size≤w.heap.size):DkW wb w g H D a H' D' :=
  ⟨h.g.setT hg hb (Nat.le_trans hwb hw) h1 h2 h3 h4 h5 h6,Chg.set h.chg hg (.inr hw),h.foot⟩
theorem DkW.trans{a:World}{H2:Dk}{D2:An}(h:DkW wb w g H D w' H' D')(k:DkW wb w' g H' D' a H2 D2):DkW wb w g H D a H2 D2:=
  ⟨k.g,h.chg.trans k.chg h.foot,fun i q=>(k.foot i q).elim (h.foot i) fun r=> .inr (Nat.le_trans h.chg.size r)⟩
end
theorem FE{D:An}(h:Co D)(s:List UInt8):(Az D s).1.length<1099511627776:=by
  unfold Az
  split
  · exact show(0:Nat)<1099511627776 by omega
  · rename_i k _
    show(AJ D k).1.length<_
    by_cases hk:k<D.files.length
    · exact h.files _ (F8 hk)
    · unfold AJ
      rw[List.getD_eq_getElem?_getD,List.getElem?_eq_none (by omega)]
      decide
theorem DBd.step{n:Nat}{D:An}(h:DBd n D)(s:List UInt8):∀(a:Stp),(∀b,a = .add b→b.length≤300)→DBd (n+1) (Ce D s a).1
  | .add b,hb=>h.append s (hb b rfl)
  | .sync,_=>h.sync s
  | .rem,_=>h.drop s
open Go.RowKit
set_option maxRecDepth 100000
set_option linter.unusedVariables false
set_option linter.unusedSimpArgs false
structure StpsAt (w : World) (g : Nat) (H : Dk) (n : Nat) (vs : List Value) (ac : List Stp) : Prop where
 len:vs.length=ac.length
 at_:∀i,i<ac.length→StpAt w g H n (vs.getD i undef) (ac.getD i .sync)
theorem StpsAt.ext{w w' :World}{g n:Nat}{H:Dk}{vs:List Value}{ac:List Stp}(h:StpsAt w g H n vs ac)(k:Ext w w'):StpsAt w' g H n vs ac:=⟨h.len,fun i hi=>(h.at_ i hi).ext k⟩
theorem StpsAt.step{wb w w' :World}{g:Nat}{H H' :Dk}{D D' :An}{vs:List Value}{ac:List Stp}(h:StpsAt w g H D.files.length vs ac)(hD:DkG wb w g H D)(hW:DkW wb w g H D w' H' D'):StpsAt w' g H' D'.files.length vs ac:=⟨h.len,fun i hi=>(h.at_ i hi).step hD hW⟩
theorem DkW.keep{wb w w' a:World}{g:Nat}{H H' :Dk}{D D' :An}(h:DkW wb w g H D w' H' D')(k:Ext w' a):DkW wb w g H D a H' D' :=⟨h.g.keep k,h.chg.keep k,h.foot⟩
theorem IZ{l:List Stp}{i:Nat}(h:i<l.length):l.drop i=l.getD i .sync :: l.drop (i+1):=by
 rw[List.getD_eq_getElem?_getD,List.getElem?_eq_getElem h]
 simp
theorem PD:Plain Tryz.prog 24:=fun _ _=>by kernel_rfl
theorem I0:Tryz.prog.underlying 131=some (.slice 96):=by kernel_rfl
theorem PE:∀w' :World,(sizeOf 96).run Tryz.prog w' = .ok 1 w' :=fun _=>by kernel_rfl
theorem PF:Tryz.prog.underlying 96=some (.func #[9] #[56] false):=by kernel_rfl
set_option maxHeartbeats 1600000
theorem NK(wb w:World)(g:Nat)(H:Dk)(D:An)(hD:DkG wb w g H D)(s:List UInt8)(bd bb:Nat)(vb:Value)(b:List UInt8)(hbd:w.heap[bd]? =some (.cells ([PQ g 0]).toArray 24 (0,0)))(hbb:w.heap[bb]? =some (.cells ([vb]).toArray 35 (0,0)))(hr:RB w vb b)(hoff:b= []∨∀i,vb.ownBlock=some i→¬A1 H D.files.length i)(hbl:b.length<1099511627776)(hL:Co D):
  Calls Tryz.prog 45 #[St s,PQ bd 0,PQ bb 0] w fun e w' =>∃H',e = .returned (NI (Af D s b).2)∧DkW wb w g H D w' H' ((Af D s b).1):=by
 refine gG (args:= [St (s),PQ bd 0,PQ bb 0]) Tryz.func45 rfl 9 rfl rfl ?_
 have hE:=Ext.refl w
 refine gS (Yk.cell1 JU rfl rfl (cellAt hbd rfl) (gS (Yk.cell1 S2 rfl rfl (cellAt hbb rfl) (gS (Yk.callA3 PD rfl rfl rfl (((hD.keep hE).appendW s vb b (hr.keep hE) hoff hbl hL).mono ?_))))))
 rintro e a ⟨H2,rfl,hW⟩
 refine⟨_,rfl,?_⟩
 refine AX rfl (vr (NI ((Af D s b).2)) rfl) ?_
 exact⟨H2,rfl,hW⟩

theorem PG{wb w:World}{g:Nat}{H:Dk}{D:An}(hD:DkG wb w g H D)(hL:Co D)(s:List UInt8){v:Value}{a:Stp}(h:StpAt w g H D.files.length v a):
  ∃f bd caps,v = .func (.func f) bd caps∧Plain Tryz.prog f∧Calls Tryz.prog f (bd ++ #[St s]++caps) w fun e w' =>∃H',e = .returned (NI (Ce D s a).2)∧DkW wb w g H D w' H' (Ce D s a).1:=by
 cases a with
 | sync=>exact⟨_,_,_,h,fun _ _=>by kernel_rfl,hD.syncW s hL⟩
 | rem=>exact⟨_,_,_,h,fun _ _=>by kernel_rfl,hD.dropW s hL⟩
 | add b=>
  obtain⟨bd,bb,vb,e,h1,h2,h3,h4,h5⟩:=h
  exact⟨_,_,_,e,fun _ _=>by kernel_rfl,NK wb w g H D hD s bd bb vb b h1 h2 h3 h4 (by omega) hL⟩
theorem Hd(wb w:World)(g:Nat)(H:Dk)(D:An)(hD:DkG wb w g H D)(s:List UInt8)(rb:Nat)(vs:List Value)(ac:List Stp)(hrb:w.heap[rb]? =some (.cells vs.toArray 96 (0,0)))(k:StpsAt w g H D.files.length vs ac)(n:Nat)(hB:DBd n D)(hn:n+ac.length≤100000)(hbs:∀a∈ac,∀b,a = .add b→b.length≤300):
  Calls Tryz.prog 47 #[St s, .slice (some ⟨rb,0,none⟩) vs.length vs.length] w fun e w' =>∃H',e = .returned (NI (AS D s ac).2)∧DkW wb w g H D w' H' ((AS D s ac).1):=by
 have hal:=k.len
 have hvm:vs.length≤maxLen:=by simp only[maxLen];omega
 refine gG (args:= [St (s), .slice (some ⟨rb,0,none⟩) vs.length vs.length]) Tryz.func47 rfl 21 rfl rfl ?_
 have hE:=Ext.refl w
 refine gS (Yk.lenSl I0 rfl (gL (fun(ρ:Ai) (wz:World)=>∃i:Nat,∃Hi:Dk,∃Di:An,ρ 0=(St (s):Value)∧ρ 1=(.slice (some ⟨rb,0,none⟩) vs.length vs.length:Value)∧ρ 8=(.slice (some ⟨rb,0,none⟩) vs.length vs.length:Value)∧ρ 9=(NI vs.length:Value)∧ρ 10=(NI i:Value)∧wz.heap[rb]? =some (.cells vs.toArray 96 (0,0))∧DkW wb w g H D wz Hi Di∧StpsAt wz g Hi Di.files.length vs ac∧(i≤ac.length)∧(AS D s ac=AS Di s (ac.drop i))∧(DBd (n+i) Di)∧True) (fun ρ _=>ac.length-(intOf (ρ 10)).toNat) ⟨0,H,D,rfl,rfl,rfl,rfl,rfl,hrb,DkW.ofExt hD hE,k.ext hE,Nat.zero_le _,rfl,hB,trivial⟩ ?_))
 clear hE
 clear hrb
 rintro p u ⟨i,Hi,Di,l,q,m,o,c,hrb,hW,hA,hi,hq,hBi,-⟩
 have q10:=c
 refine gS (Yk.eqI (a:=(i:Nat)) (b:=(vs.length:Nat)) c o (AO _ _ _ _) ?_)
 refine cD rfl (fun f=> ?_) fun f=> ?_
 ·have hlt:i<ac.length:=by have h:=f;rw[hal]at h;exact h
  have hcell:vs[i]? =some (vs.getD i undef):=by rw[List.getD_eq_getElem?_getD,List.getElem?_eq_getElem (by rw[hal];exact hlt)];rfl
  refine gS (Yk.atSl0 (i:=i) I0 PE m c (by rw[hal];exact hlt) (gS (Yk.cell1 PF rfl rfl (cellAt hrb hcell) ?_)))
  obtain⟨fi,bi,ci,hvi,hpl,hcl⟩:=PG hW.g (hBi.lt (by omega)) s (hA.at_ i hlt)
  refine gS (Yk.stp hpl rfl hvi l hcl fun H2 v hW2=> ?_)
  have hW3:=hW.trans hW2
  have hrb:=hW.g.box hW2.chg hrb (by decide) (by decide) (by decide) (by decide)
  have r:=hA.step hW.g hW2
  refine gS (Yk.eqI (a:=((Ce Di s (ac.getD i .sync)).2:Nat)) (b:=(0:Nat)) rfl rfl (AZ _ _ _ _) ?_)
  refine cD rfl (fun j=> ?_) fun j=> ?_
  ·refine AX rfl (vr (NI ((Ce Di s (ac.getD i .sync)).2)) rfl) ?_
   have hV:AS D s ac=Ce Di s (ac.getD i .sync):=by rw[hq,IZ hlt,DC,if_pos j]
   exact⟨H2,by rw[hV],by rw[hV];exact hW3⟩
  have hst:¬(Ce Di s (ac.getD i .sync)).2≠0:=j
  have hq3:AS D s ac=AS (Ce Di s (ac.getD i .sync)).1 s (ac.drop (i+1)):=by rw[hq,IZ hlt,DC,if_neg hst]
  have t:=hBi.step s (ac.getD i .sync) (hbs _ (DR .sync hlt))
  refine gS (Yk.bin (xv:=NI i) (yv:=NI 1) c rfl rfl (Ap _ _ _ (by omega)) (gK (And.intro ⟨i+1,H2,(Ce Di s (ac.getD i .sync)).1,l,q,m,o,rfl,hrb,hW3,r,by omega,hq3,t,trivial⟩ ?_)))
  show ac.length-(intOf (NI ((i)+(1)))).toNat<ac.length-(intOf (p 10)).toNat
  rw[q10]
  simp only[intOf,Int.toNat_natCast];omega
 refine AX rfl (vr (NI 0) rfl) ?_
 have hie:i=ac.length:=by have h:=f;rw[hal]at h;omega
 have hV:AS D s ac=(Di,0):=by rw[hq,hie,List.drop_length];rfl
 exact⟨Hi,by rw[hV],by rw[hV];exact hW⟩
open Go.RowKit
set_option maxRecDepth 100000
set_option linter.unusedVariables false
set_option linter.unusedSimpArgs false
theorem stps1{w:World}{g n:Nat}{H:Dk}{v:Value}{a:Stp}(h:StpAt w g H n v a):StpsAt w g H n [v] [a]:=⟨rfl,fun i hi=>by
 have:i=0:=by simp at hi;omega
 subst this
 exact h⟩
theorem ST{w:World}{g n:Nat}{H:Dk}{v b:Value}{a a2:Stp}(h:StpAt w g H n v a)(h2:StpAt w g H n b a2):StpsAt w g H n [v,b] [a,a2]:=⟨rfl,fun i hi=>by
 match i,hi with
 | 0,_=>exact h
 | 1,_=>exact h2⟩
theorem SU{w:World}{g n:Nat}{H:Dk}{v b c:Value}{a a2 a3:Stp}(h:StpAt w g H n v a)(h2:StpAt w g H n b a2)(h3:StpAt w g H n c a3):StpsAt w g H n [v,b,c] [a,a2,a3]:=⟨rfl,fun i hi=>by
 match i,hi with
 | 0,_=>exact h
 | 1,_=>exact h2
 | 2,_=>exact h3⟩
section
variable {P : Program} {K : Value → World → Prop} {ρ : Ai} {w : World} {d : Option Tmp} {ty : TypeId} {pos : String} {af : Array Edge} {gd : Option (Nat × Bool)}
theorem Yk.litF1{t e:TypeId}{x0:Operand}{a:Value}(h0:Ab ρ x0=a)(hr:∀w:World,(Instr.buildSlice t 1 #[(0,a)]).run P w = .ok (.slice (some ⟨w.heap.size,0,none⟩) 1 1) (w.alloc (.cells #[a] e))) 
  (hk:∀n w',w.heap.size=n→w'.heap[n]? =some (.cells ([a]).toArray e (0,0))→Ext w w' →w'.heap.size=n+1→K (.slice (some ⟨n,0,none⟩) 1 1) w'):Yk P K ((execOp (Ab ρ) ⟨d, .buildSlice t 1 #[(0,x0)],ty,pos,af,gd⟩).run P w):=by
 have hr' :(execOp (Ab ρ) ⟨d, .buildSlice t 1 #[(0,x0)],ty,pos,af,gd⟩).run P w = .ok (.value (.slice (some ⟨w.heap.size,0,none⟩) 1 1)) (w.alloc (.cells #[a] e)):=by
  unfold execOp
  simp only[List.map_toArray,List.map_cons,List.map_nil,h0,Sem.run_bind,hr,Result.andThen_ok,Sem.run_pure]
 rw[hr']
 exact hk _ _ rfl (heap_alloc_new w _) ((Below.refl _ _).alloc (Nat.le_refl _) _) (by simp)
theorem Yk.litF2{t e:TypeId}{x0 x1:Operand}{a b:Value}(h0:Ab ρ x0=a)(h1:Ab ρ x1=b)(hr:∀w:World,(Instr.buildSlice t 2 #[(0,a),(1,b)]).run P w = .ok (.slice (some ⟨w.heap.size,0,none⟩) 2 2) (w.alloc (.cells #[a,b] e))) 
  (hk:∀n w',w.heap.size=n→w'.heap[n]? =some (.cells ([a,b]).toArray e (0,0))→Ext w w' →w'.heap.size=n+1→K (.slice (some ⟨n,0,none⟩) 2 2) w'):Yk P K ((execOp (Ab ρ) ⟨d, .buildSlice t 2 #[(0,x0),(1,x1)],ty,pos,af,gd⟩).run P w):=by
 have hr' :(execOp (Ab ρ) ⟨d, .buildSlice t 2 #[(0,x0),(1,x1)],ty,pos,af,gd⟩).run P w = .ok (.value (.slice (some ⟨w.heap.size,0,none⟩) 2 2)) (w.alloc (.cells #[a,b] e)):=by
  unfold execOp
  simp only[List.map_toArray,List.map_cons,List.map_nil,h0,h1,Sem.run_bind,hr,Result.andThen_ok,Sem.run_pure]
 rw[hr']
 exact hk _ _ rfl (heap_alloc_new w _) ((Below.refl _ _).alloc (Nat.le_refl _) _) (by simp)
theorem Yk.litF3{t e:TypeId}{x0 x1 x2:Operand}{a b c:Value}(h0:Ab ρ x0=a)(h1:Ab ρ x1=b)(h2:Ab ρ x2=c)(hr:∀w:World,(Instr.buildSlice t 3 #[(0,a),(1,b),(2,c)]).run P w = .ok (.slice (some ⟨w.heap.size,0,none⟩) 3 3) (w.alloc (.cells #[a,b,c] e))) 
  (hk:∀n w',w.heap.size=n→w'.heap[n]? =some (.cells ([a,b,c]).toArray e (0,0))→Ext w w' →w'.heap.size=n+1→K (.slice (some ⟨n,0,none⟩) 3 3) w'):Yk P K ((execOp (Ab ρ) ⟨d, .buildSlice t 3 #[(0,x0),(1,x1),(2,x2)],ty,pos,af,gd⟩).run P w):=by
 have hr' :(execOp (Ab ρ) ⟨d, .buildSlice t 3 #[(0,x0),(1,x1),(2,x2)],ty,pos,af,gd⟩).run P w = .ok (.value (.slice (some ⟨w.heap.size,0,none⟩) 3 3)) (w.alloc (.cells #[a,b,c] e)):=by
  unfold execOp
  simp only[List.map_toArray,List.map_cons,List.map_nil,h0,h1,h2,Sem.run_bind,hr,Result.andThen_ok,Sem.run_pure]
 rw[hr']
 exact hk _ _ rfl (heap_alloc_new w _) ((Below.refl _ _).alloc (Nat.le_refl _) _) (by simp)
end
theorem GJ(w:World)(hG:Laid w)(v:Value)(l:List UInt8)(h:RBs w v [l])(hl:l.length≤1099511627776):
  Calls Tryz.prog 43 #[v] w fun e w' =>e = .returned (AB (Sha.sum l))∧Ext w w' :=by
 have:=Rt w hG v [l] h (by simp;omega) (by simp)
 simpa using this
theorem Gk(ao:Option Addr)(n c:Nat)(w:World):(Instr.buildSlice 26 1 #[(0, .slice ao n c)]).run Tryz.prog w = .ok (.slice (some ⟨w.heap.size,0,none⟩) 1 1) (w.alloc (.cells #[.slice ao n c] 35)):=by kernel_rfl
theorem Ke:Plain Tryz.prog 43:=fun _ _=>by kernel_rfl
theorem PH:Plain Tryz.prog 44:=fun _ _=>by kernel_rfl
theorem PI:Plain Tryz.prog 46:=fun _ _=>by kernel_rfl
theorem Ru(f0:Fn)(a0 c0:Array Value)(f1:Fn)(a1 c1:Array Value)(w:World):(Instr.buildSlice 131 2 #[(0, .func f0 a0 c0),(1, .func f1 a1 c1)]).run Tryz.prog w = .ok (.slice (some ⟨w.heap.size,0,none⟩) 2 2) (w.alloc (.cells #[.func f0 a0 c0, .func f1 a1 c1] 96)):=by kernel_rfl
theorem He:Plain Tryz.prog 47:=fun _ _=>by kernel_rfl
theorem Rv(f0:Fn)(a0 c0:Array Value)(w:World):(Instr.buildSlice 131 1 #[(0, .func f0 a0 c0)]).run Tryz.prog w = .ok (.slice (some ⟨w.heap.size,0,none⟩) 1 1) (w.alloc (.cells #[.func f0 a0 c0] 96)):=by kernel_rfl
theorem PJ:Tryz.prog.eqGuardType Tryz.prog.depth 54=false:=by kernel_rfl
theorem Rw(f0:Fn)(a0 c0:Array Value)(f1:Fn)(a1 c1:Array Value)(f2:Fn)(a2 c2:Array Value)(w:World):(Instr.buildSlice 131 3 #[(0, .func f0 a0 c0),(1, .func f1 a1 c1),(2, .func f2 a2 c2)]).run Tryz.prog w = .ok (.slice (some ⟨w.heap.size,0,none⟩) 3 3) (w.alloc (.cells #[.func f0 a0 c0, .func f1 a1 c1, .func f2 a2 c2] 96)):=by kernel_rfl
set_option maxHeartbeats 1600000
theorem NL(wb w:World)(g:Nat)(H:Dk)(D:An)(hD:DkG wb w g H D)(hG:Laid wb)(vb:Value)(b:List UInt8)(hr:RB w vb b)(hoff:b= []∨∀i,vb.ownBlock=some i→¬A1 H D.files.length i)(hbl:b.length≤300)(n:Nat)(hB:DBd n D)(hn:n≤99000):
  Calls Tryz.prog 16 #[PQ g 0,vb] w fun e w' =>∃H' vo,e = .returned (.tuple #[AB ((A2 D b).2.1),vo,NI (A2 D b).2.2.2])∧RB w' vo (A2 D b).2.2.1∧DkW wb w g H D w' H' (A2 D b).1:=by
 refine gG (args:= [PQ g 0,vb]) Tryz.func16 rfl 70 rfl rfl ?_
 have hE:=Ext.refl w
 refine gS (Yk.box1 (vr (PQ g 0) rfl) rfl fun o w3 cd a1 bq ce=> ?_)
 have f:=a1;clear a1
 have cf:o<w3.heap.size:=by omega
 have hE:=hE.trans bq
 refine gS (Yk.box1 (vr vb rfl) (RB.one (hr.keep hE)).1 fun p br bs a2 a3 cg=> ?_)
 have ch:=hE.size
 have ci:=AE (bl f) bs
 have h:=a2;clear a2
 have cj:p<br.heap.size:=by omega
 refine gS (Yk.alloc (cs:=(Lib.byteCells (List.replicate 32 0)).toArray) IX fun j a4 a5 a6 aj ck=> ?_)
 have hE:=hE.trans a3
 have ak:=hE.size
 have f:=eb a3 f
 have cl:=AE (bl f) a5
 have cm:=AE (bl h) a5
 have c:=a6;clear a6
 have cn:j<a4.heap.size:=by omega
 have hE:=hE.trans aj
 have hW:DkW wb w g H D a4 H D:=DkW.ofExt hD hE
 have hwb:=hD.ext.size
 have hrl:=FE (hB.lt (by omega)) (Ad (Sha.sum b))
 have h:=eb aj h
 refine gS (Yk.cell1 S2 rfl rfl (cellAt h rfl) (gS (Yk.lenRB S2 (RB.of (hr.keep hE) rfl) (gS (Yk.eqI (a:=(b.length:Nat)) (b:=(262144:Nat)) rfl rfl (Ca _ _ _ _) (kF (by omega) (cF rfl (gS (Yk.cell1 S2 rfl rfl (cellAt h rfl) (gS (Yk.rows1 Gk (RB.of (hr.keep hE) (vr vb rfl)) fun bt bu a7 al=> ?_)))))))))))
 have hW:DkW wb w g H (D) bu H (D):=(hW.keep al)
 refine gS (Yk.callA1 Ke rfl ((GJ _ (hG.keep (hW).g.ext) bt b a7 (by omega)).mono ?_))
 rintro e bv ⟨rfl,am⟩
 refine⟨_,rfl,?_⟩
 have hW:DkW wb w g H (D) bv H (D):=(hW.keep am)
 have hZ1:=al.trans am
 have c:=eb hZ1 c
 refine gS (Yk.storeAll (vr (PQ j 0) rfl) (vr (AB (Sha.sum b)) rfl) c (by exact Bg (Sha.sum_length _) List.length_replicate) (by exact Ae (Sha.sum_length _)) (Ah _) fun bw a8 ad co=> ?_)
 have hE:=hE.trans hZ1
 have hE:=Aa hE ad (Nat.le_trans ak (by omega))
 have f:=eb ((aj.trans al).trans am) f
 have f:=kb ad f (by omega)
 have h:=eb hZ1 h
 have h:=kb ad h (by omega)
 have hW:DkW wb w g H (D) bw H (D):=DkW.setT hW ad c (by omega) (by decide) (by decide) (by decide) (by decide) (by decide) (by decide) hwb
 clear a7
 clear c
 have c:=a8;clear a8
 have cp:=bl c
 refine gS (Yk.loadAll rfl c IU rfl (by exact Ae (Sha.sum_length _)) (gS (Yk.callA1 PH rfl ((Eh _ (Sha.sum b) (Sha.sum_length _)).mono ?_))))
 rintro e bx ⟨rfl,u⟩
 refine⟨_,rfl,?_⟩
 have hW:DkW wb w g H (D) bx H (D):=(hW.keep u)
 have f:=eb u f
 refine gS (Yk.mkFunc (vs:= #[PQ o 0,PQ p 0]) (by simp only[List.map_toArray,List.map_cons,List.map_nil];exact congrArg List.toArray (D4 (vr (PQ o 0) rfl) (vr (PQ p 0) rfl))) (gS (Yk.cell1 JU rfl rfl (cellAt f rfl) (gS (Yk.callA2 PI rfl rfl (((hW).g.read (Ad (Sha.sum b)) (hB.lt (by omega))).mono ?_))))))
 rintro e bz ⟨z,rfl,a9,q⟩
 refine⟨_,rfl,?_⟩
 have c:=eb u c
 have ba:OB z j:=Ao a9 (bl c)
 have hW:DkW wb w g H (D) bz H (D):=(hW.keep q)
 have k:=RB.ofOwn a9
 refine gS (Yk.extract (vs:= [z,NI ((Az D (Ad (Sha.sum b))).2)]) rfl rfl (gS (Yk.extract (vs:= [z,NI ((Az D (Ad (Sha.sum b))).2)]) rfl rfl (gS (Yk.eqI (a:=((Az D (Ad (Sha.sum b))).2:Nat)) (b:=(4:Nat)) rfl rfl (AY _ _ _ _) ?_)))))
 refine cD rfl (fun x=> ?_) fun x=> ?_
 ·have hV:A2 D b=Cm (AS D (Ad (Sha.sum b)) [.add b, .sync]) (Sha.sum b):=by unfold A2;rw[if_pos x]
  have f:=eb q f
  refine gS (Yk.cell1 JU rfl rfl (cellAt f rfl) (gS (Yk.mkFuncB (vr (PQ g 0) rfl) (gS (Yk.litF2 (vr (.func (.func 45) #[] #[PQ o 0,PQ p 0]) rfl) (vr (.func (.func 48) #[PQ g 0] #[]) rfl) (fun w=>Ru _ _ _ _ _ _ w) fun b66 b0 cq bb ae cr=> ?_)))))
  have hW:DkW wb w g H (D) b0 H (D):=(hW.keep ae)
  have hWc:=hW
  have hZ2:=(u.trans q).trans ae
  have hE:=hE.trans hZ2
  have h:=eb hZ2 h
  have f:=eb ae f
  refine gS (Yk.callA2 He rfl rfl ((Hd wb _ g H D hWc.g (Ad (Sha.sum b)) b66 [.func (.func 45) #[] #[PQ o 0,PQ p 0], .func (.func 48) #[PQ g 0] #[]] [.add b, .sync] bb (ST (show StpAt _ _ _ _ _ (.add b)from⟨o,p,vb,rfl,f,h,(hr.keep hE),hoff,hbl⟩) (show StpAt _ _ _ _ _ (.sync)from rfl)) n hB (by simp;omega) (by simp[hbl])).mono ?_))
  rintro e an ⟨H72,rfl,hW73⟩
  refine⟨_,rfl,?_⟩
  have hWn:=hWc.trans hW73
  have f:an.heap[o]? =some (.cells (([PQ g 0]:List Value)).toArray 24 (0,0)):=DkG.box hWc.g hW73.chg f (by decide) (by decide) (by decide) (by decide)
  have h:an.heap[p]? =some (.cells (([vb]:List Value)).toArray 35 (0,0)):=DkG.box hWc.g hW73.chg h (by decide) (by decide) (by decide) (by decide)
  have c:=eb (q.trans ae) c
  have c:an.heap[j]? =some (.cells (Lib.byteCells (Sha.sum b)).toArray 54 (0,0)):=DkG.box hWc.g hW73.chg c (by decide) (by decide) (by decide) (by decide)
  clear hE
  clear hW
  clear k
  clear bb
  have hW:=hWn
  refine gS (Yk.eqI (a:=((AS D (Ad (Sha.sum b)) [.add b, .sync]).2:Nat)) (b:=(0:Nat)) rfl rfl (AZ _ _ _ _) ?_)
  refine cD rfl (fun r=> ?_) fun r=> ?_
  ·refine gS (Yk.run (v:=AB (List.replicate 32 0)) (by kernel_rfl) (gS (Yk.storeAll (vr (PQ j 0) rfl) (vr (AB (List.replicate 32 0)) rfl) c (by exact Bg List.length_replicate (Sha.sum_length _)) (by exact Ae List.length_replicate) (Ah _) fun b1 bc ao ct=> ?_)))
   have f:=kb ao f (by omega)
   have h:=kb ao h (by omega)
   have hW:DkW wb w g H (D) b1 H72 ((AS D (Ad (Sha.sum b)) [.add b, .sync]).1):=DkW.setT hW ao c (by omega) (by decide) (by decide) (by decide) (by decide) (by decide) (by decide) hwb
   clear c
   have c:=bc;clear bc
   have cu:=bl c
   refine HF rfl (ResF.row rfl c IU rfl (by exact Ae List.length_replicate)) (vr (Value.slice none 0 0) rfl) (vr (NI ((AS D (Ad (Sha.sum b)) [.add b, .sync]).2)) rfl) ?_
   have hF:Cm (AS D (Ad (Sha.sum b)) [.add b, .sync]) (Sha.sum b)=((AS D (Ad (Sha.sum b)) [.add b, .sync]).1,zid32,[],(AS D (Ad (Sha.sum b)) [.add b, .sync]).2):=if_pos r
   exact⟨H72,_,by rw[hV,hF];rfl,by rw[hV,hF];exact RB.nil _,by rw[hV,hF];exact hW⟩
  refine gS (Yk.loadAll rfl c IU rfl (by exact Ae (Sha.sum_length _)) (gS (Yk.storeAll (vr (PQ j 0) rfl) (vr (AB (Sha.sum b)) rfl) c (by exact Bg (Sha.sum_length _) (Sha.sum_length _)) (by exact Ae (Sha.sum_length _)) (Ah _) fun b2 bd ap cv=> ?_)))
  have f:=kb ap f (by omega)
  have h:=kb ap h (by omega)
  have hW:DkW wb w g H (D) b2 H72 ((AS D (Ad (Sha.sum b)) [.add b, .sync]).1):=DkW.setT hW ap c (by omega) (by decide) (by decide) (by decide) (by decide) (by decide) (by decide) hwb
  clear c
  have c:=bd;clear bd
  have cw:=bl c
  refine HF rfl (ResF.row rfl c IU rfl (by exact Ae (Sha.sum_length _))) (vr (Value.slice none 0 0) rfl) (vr (NI 0) rfl) ?_
  have hF:Cm (AS D (Ad (Sha.sum b)) [.add b, .sync]) (Sha.sum b)=((AS D (Ad (Sha.sum b)) [.add b, .sync]).1,(Sha.sum b),[],0):=if_neg r
  exact⟨H72,_,by rw[hV,hF],by rw[hV,hF];exact RB.nil _,by rw[hV,hF];exact hW⟩
 refine gS (Yk.eqI (a:=((Az D (Ad (Sha.sum b))).2:Nat)) (b:=(0:Nat)) rfl rfl (AZ _ _ _ _) ?_)
 refine cD rfl (fun y=> ?_) fun y=> ?_
 ·have hV:A2 D b=(D,zid32,[],(Az D (Ad (Sha.sum b))).2):=by unfold A2;rw[if_neg x,if_pos y]
  have c:=eb q c
  refine gS (Yk.eqI (a:=((Az D (Ad (Sha.sum b))).2:Nat)) (b:=(0:Nat)) rfl rfl (AZ _ _ _ _) (kT (y) (cT rfl (gS (Yk.run (v:=AB (List.replicate 32 0)) (by kernel_rfl) (gS (Yk.storeAll (vr (PQ j 0) rfl) (vr (AB (List.replicate 32 0)) rfl) c (by exact Bg List.length_replicate (Sha.sum_length _)) (by exact Ae List.length_replicate) (Ah _) fun b3 be aa cx=> ?_)))))))
  have hZ3:=u.trans q
  have hE:=hE.trans hZ3
  have hE:=Aa hE aa (Nat.le_trans ak (by omega))
  have f:=eb q f
  have f:=kb aa f (by omega)
  have h:=eb hZ3 h
  have h:=kb aa h (by omega)
  have hW:DkW wb w g H (D) b3 H (D):=DkW.setT hW aa c (by omega) (by decide) (by decide) (by decide) (by decide) (by decide) (by decide) hwb
  have k:=RB.kept k aa (.inr ba)
  clear c
  have c:=be;clear be
  have cy:=bl c
  refine HF rfl (ResF.row rfl c IU rfl (by exact Ae List.length_replicate)) (vr (Value.slice none 0 0) rfl) (vr (NI ((Az D (Ad (Sha.sum b))).2)) rfl) ?_
  exact⟨H,_,by rw[hV];rfl,by rw[hV];exact RB.nil _,by rw[hV];exact hW⟩
 have hZ4:=u.trans q
 have hE:=hE.trans hZ4
 have h:=eb hZ4 h
 refine gS (Yk.convRB S2 Ds Io (RB.of k rfl) (gS (Yk.cell1 S2 rfl rfl (cellAt h rfl) (gS (Yk.convRB S2 Ds Io (RB.of (hr.keep hE) rfl) (gS (Yk.eqSt (l:=(Az D (Ad (Sha.sum b))).1) (m:=b) (.inl rfl) rfl rfl (decide ((Az D (Ad (Sha.sum b))).1=b)) rfl ?_)))))))
 refine cD rfl (fun af=> ?_) fun af=> ?_
 ·have hV:A2 D b=Cm (AS D (Ad (Sha.sum b)) [.sync]) (Sha.sum b):=by unfold A2;rw[if_neg x,if_neg y,if_pos af]
  have f:=eb q f
  refine gS (Yk.cell1 JU rfl rfl (cellAt f rfl) (gS (Yk.mkFuncB (vr (PQ g 0) rfl) (gS (Yk.litF1 (vr (.func (.func 48) #[PQ g 0] #[]) rfl) (fun w=>Rv _ _ _ w) fun b99 b4 cz bf ag c0=> ?_)))))
  have hW:DkW wb w g H (D) b4 H (D):=(hW.keep ag)
  have hWc:=hW
  refine gS (Yk.callA2 He rfl rfl ((Hd wb _ g H D hWc.g (Ad (Sha.sum b)) b99 [.func (.func 48) #[PQ g 0] #[]] [.sync] bf (stps1 (show StpAt _ _ _ _ _ (.sync)from rfl)) n hB (by simp;omega) (by simp[hbl])).mono ?_))
  rintro e aq ⟨H105,rfl,hW106⟩
  refine⟨_,rfl,?_⟩
  have hWn:=hWc.trans hW106
  have f:=eb ag f
  have f:aq.heap[o]? =some (.cells (([PQ g 0]:List Value)).toArray 24 (0,0)):=DkG.box hWc.g hW106.chg f (by decide) (by decide) (by decide) (by decide)
  have h:=eb ag h
  have h:aq.heap[p]? =some (.cells (([vb]:List Value)).toArray 35 (0,0)):=DkG.box hWc.g hW106.chg h (by decide) (by decide) (by decide) (by decide)
  have c:=eb (q.trans ag) c
  have c:aq.heap[j]? =some (.cells (Lib.byteCells (Sha.sum b)).toArray 54 (0,0)):=DkG.box hWc.g hW106.chg c (by decide) (by decide) (by decide) (by decide)
  clear hE
  clear hW
  clear k
  clear bf
  have hW:=hWn
  refine gS (Yk.eqI (a:=((AS D (Ad (Sha.sum b)) [.sync]).2:Nat)) (b:=(0:Nat)) rfl rfl (AZ _ _ _ _) ?_)
  refine cD rfl (fun r=> ?_) fun r=> ?_
  ·refine gS (Yk.run (v:=AB (List.replicate 32 0)) (by kernel_rfl) (gS (Yk.storeAll (vr (PQ j 0) rfl) (vr (AB (List.replicate 32 0)) rfl) c (by exact Bg List.length_replicate (Sha.sum_length _)) (by exact Ae List.length_replicate) (Ah _) fun b5 bg ar c1=> ?_)))
   have f:=kb ar f (by omega)
   have h:=kb ar h (by omega)
   have hW:DkW wb w g H (D) b5 H105 ((AS D (Ad (Sha.sum b)) [.sync]).1):=DkW.setT hW ar c (by omega) (by decide) (by decide) (by decide) (by decide) (by decide) (by decide) hwb
   clear c
   have c:=bg;clear bg
   have c2:=bl c
   refine HF rfl (ResF.row rfl c IU rfl (by exact Ae List.length_replicate)) (vr (Value.slice none 0 0) rfl) (vr (NI ((AS D (Ad (Sha.sum b)) [.sync]).2)) rfl) ?_
   have hF:Cm (AS D (Ad (Sha.sum b)) [.sync]) (Sha.sum b)=((AS D (Ad (Sha.sum b)) [.sync]).1,zid32,[],(AS D (Ad (Sha.sum b)) [.sync]).2):=if_pos r
   exact⟨H105,_,by rw[hV,hF];rfl,by rw[hV,hF];exact RB.nil _,by rw[hV,hF];exact hW⟩
  refine gS (Yk.loadAll rfl c IU rfl (by exact Ae (Sha.sum_length _)) (gS (Yk.storeAll (vr (PQ j 0) rfl) (vr (AB (Sha.sum b)) rfl) c (by exact Bg (Sha.sum_length _) (Sha.sum_length _)) (by exact Ae (Sha.sum_length _)) (Ah _) fun b6 bh au c3=> ?_)))
  have f:=kb au f (by omega)
  have h:=kb au h (by omega)
  have hW:DkW wb w g H (D) b6 H105 ((AS D (Ad (Sha.sum b)) [.sync]).1):=DkW.setT hW au c (by omega) (by decide) (by decide) (by decide) (by decide) (by decide) (by decide) hwb
  clear c
  have c:=bh;clear bh
  have c4:=bl c
  refine HF rfl (ResF.row rfl c IU rfl (by exact Ae (Sha.sum_length _))) (vr (Value.slice none 0 0) rfl) (vr (NI 0) rfl) ?_
  have hF:Cm (AS D (Ad (Sha.sum b)) [.sync]) (Sha.sum b)=((AS D (Ad (Sha.sum b)) [.sync]).1,(Sha.sum b),[],0):=if_neg r
  exact⟨H105,_,by rw[hV,hF],by rw[hV,hF];exact RB.nil _,by rw[hV,hF];exact hW⟩
 refine BV [0,3,1,2,4,5] [1,2] [] [3] fun bi ab=> ?_
 have hW:DkW wb w g H (D) bi H (D):=(hW.keep ab)
 have ah:=Ext.refl bi
 have hZ5:=q.trans ab
 have c:=eb hZ5 c
 have k:=k.keep ab
 refine BM ah ?_
 refine yf (fun _ ⟨hZ,_⟩=>Yk.loadAll rfl (eb hZ c) IU rfl (by exact Ae (Sha.sum_length _)) zz) (yE (Yk.rows1 Gk (RB.of k (vr z rfl)) fun b7 bj av s=> ?_))
 have hW:DkW wb w g H (D) bj H (D):=(hW.keep s)
 have ah:=ah.trans s
 refine⟨ah,?_⟩
 have aw:=Ext.refl bj
 refine yE (Yk.callA1 Ke rfl ((GJ _ (hG.keep (hW).g.ext) b7 ((Az D (Ad (Sha.sum b))).1) av (by omega)).mono ?_))
 rintro e b8 ⟨rfl,t⟩
 refine⟨_,rfl,?_⟩
 have hW:DkW wb w g H (D) b8 H (D):=(hW.keep t)
 have aw:=aw.trans t
 refine⟨aw,?_⟩
 refine ys (Yk.eqArr (l1:=(Sha.sum ((Az D (Ad (Sha.sum b))).1))) (l2:=(Sha.sum b)) IU Ds Fy PJ rfl rfl ((Sha.sum_length _)) ((Sha.sum_length _)) zz) ?_
 refine cD rfl (fun ax=> ?_) fun ax=> ?_
 ·have hV:A2 D b=(D,(Sha.sum b),(Az D (Ad (Sha.sum b))).1,7):=by unfold A2;rw[if_neg x,if_neg y,if_neg af,if_pos ax]
  have hZ6:=s.trans t
  have c:=eb hZ6 c
  refine gS (Yk.loadAll rfl c IU rfl (by exact Ae (Sha.sum_length _)) (gS (Yk.storeAll (vr (PQ j 0) rfl) (vr (AB (Sha.sum b)) rfl) c (by exact Bg (Sha.sum_length _) (Sha.sum_length _)) (by exact Ae (Sha.sum_length _)) (Ah _) fun b9 bk ac c5=> ?_)))
  have hZ7:=(ab.trans s).trans t
  have hE:=hE.trans hZ7
  have hE:=Aa hE ac (Nat.le_trans ak (by omega))
  have f:=eb ((hZ5.trans s).trans t) f
  have f:=kb ac f (by omega)
  have h:=eb hZ7 h
  have h:=kb ac h (by omega)
  have hW:DkW wb w g H (D) b9 H (D):=DkW.setT hW ac c (by omega) (by decide) (by decide) (by decide) (by decide) (by decide) (by decide) hwb
  have k:=k.keep hZ6
  have k:=RB.kept k ac (.inr ba)
  clear av
  clear c
  have c:=bk;clear bk
  have c6:=bl c
  refine HF rfl (ResF.row rfl c IU rfl (by exact Ae (Sha.sum_length _))) (vr z rfl) (vr (NI 7) rfl) ?_
  exact⟨H,_,by rw[hV],by rw[hV];exact k,by rw[hV];exact hW⟩
 have hV:A2 D b=Cm (AS D (Ad (Sha.sum b)) [.rem, .add b, .sync]) (Sha.sum b):=by unfold A2;rw[if_neg x,if_neg y,if_neg af,if_neg ax]
 have f:=eb ((hZ5.trans s).trans t) f
 refine gS (Yk.cell1 JU rfl rfl (cellAt f rfl) (gS (Yk.mkFuncB (vr (PQ g 0) rfl) (gS (Yk.cell1 JU rfl rfl (cellAt f rfl) (gS (Yk.mkFuncB (vr (PQ g 0) rfl) (gS (Yk.litF3 (vr (.func (.func 49) #[PQ g 0] #[]) rfl) (vr (.func (.func 45) #[] #[PQ o 0,PQ p 0]) rfl) (vr (.func (.func 48) #[PQ g 0] #[]) rfl) (fun w=>Rw _ _ _ _ _ _ _ _ _ w) fun b140 ca c7 bm ai c8=> ?_)))))))))
 have hW:DkW wb w g H (D) ca H (D):=(hW.keep ai)
 have hWc:=hW
 have hZ8:=((ab.trans s).trans t).trans ai
 have hE:=hE.trans hZ8
 have h:=eb hZ8 h
 have f:=eb ai f
 refine gS (Yk.callA2 He rfl rfl ((Hd wb _ g H D hWc.g (Ad (Sha.sum b)) b140 [.func (.func 49) #[PQ g 0] #[], .func (.func 45) #[] #[PQ o 0,PQ p 0], .func (.func 48) #[PQ g 0] #[]] [.rem, .add b, .sync] bm (SU (show StpAt _ _ _ _ _ (.rem)from rfl) (show StpAt _ _ _ _ _ (.add b)from⟨o,p,vb,rfl,f,h,(hr.keep hE),hoff,hbl⟩) (show StpAt _ _ _ _ _ (.sync)from rfl)) n hB (by simp;omega) (by simp[hbl])).mono ?_))
 rintro e ay ⟨H146,rfl,hW147⟩
 refine⟨_,rfl,?_⟩
 have hWn:=hWc.trans hW147
 have f:ay.heap[o]? =some (.cells (([PQ g 0]:List Value)).toArray 24 (0,0)):=DkG.box hWc.g hW147.chg f (by decide) (by decide) (by decide) (by decide)
 have h:ay.heap[p]? =some (.cells (([vb]:List Value)).toArray 35 (0,0)):=DkG.box hWc.g hW147.chg h (by decide) (by decide) (by decide) (by decide)
 have hZ9:=(s.trans t).trans ai
 have c:=eb hZ9 c
 have c:ay.heap[j]? =some (.cells (Lib.byteCells (Sha.sum b)).toArray 54 (0,0)):=DkG.box hWc.g hW147.chg c (by decide) (by decide) (by decide) (by decide)
 clear hE
 clear hW
 clear k
 clear av
 clear bm
 have hW:=hWn
 refine gS (Yk.eqI (a:=((AS D (Ad (Sha.sum b)) [.rem, .add b, .sync]).2:Nat)) (b:=(0:Nat)) rfl rfl (AZ _ _ _ _) ?_)
 refine cD rfl (fun r=> ?_) fun r=> ?_
 ·refine gS (Yk.run (v:=AB (List.replicate 32 0)) (by kernel_rfl) (gS (Yk.storeAll (vr (PQ j 0) rfl) (vr (AB (List.replicate 32 0)) rfl) c (by exact Bg List.length_replicate (Sha.sum_length _)) (by exact Ae List.length_replicate) (Ah _) fun cb bn az c9=> ?_)))
  have f:=kb az f (by omega)
  have h:=kb az h (by omega)
  have hW:DkW wb w g H (D) cb H146 ((AS D (Ad (Sha.sum b)) [.rem, .add b, .sync]).1):=DkW.setT hW az c (by omega) (by decide) (by decide) (by decide) (by decide) (by decide) (by decide) hwb
  clear c
  have c:=bn;clear bn
  have da:=bl c
  refine HF rfl (ResF.row rfl c IU rfl (by exact Ae List.length_replicate)) (vr (Value.slice none 0 0) rfl) (vr (NI ((AS D (Ad (Sha.sum b)) [.rem, .add b, .sync]).2)) rfl) ?_
  have hF:Cm (AS D (Ad (Sha.sum b)) [.rem, .add b, .sync]) (Sha.sum b)=((AS D (Ad (Sha.sum b)) [.rem, .add b, .sync]).1,zid32,[],(AS D (Ad (Sha.sum b)) [.rem, .add b, .sync]).2):=if_pos r
  exact⟨H146,_,by rw[hV,hF];rfl,by rw[hV,hF];exact RB.nil _,by rw[hV,hF];exact hW⟩
 refine gS (Yk.loadAll rfl c IU rfl (by exact Ae (Sha.sum_length _)) (gS (Yk.storeAll (vr (PQ j 0) rfl) (vr (AB (Sha.sum b)) rfl) c (by exact Bg (Sha.sum_length _) (Sha.sum_length _)) (by exact Ae (Sha.sum_length _)) (Ah _) fun cc bo a0 db=> ?_)))
 have f:=kb a0 f (by omega)
 have h:=kb a0 h (by omega)
 have hW:DkW wb w g H (D) cc H146 ((AS D (Ad (Sha.sum b)) [.rem, .add b, .sync]).1):=DkW.setT hW a0 c (by omega) (by decide) (by decide) (by decide) (by decide) (by decide) (by decide) hwb
 clear c
 have c:=bo;clear bo
 have dc:=bl c
 refine HF rfl (ResF.row rfl c IU rfl (by exact Ae (Sha.sum_length _))) (vr (Value.slice none 0 0) rfl) (vr (NI 0) rfl) ?_
 have hF:Cm (AS D (Ad (Sha.sum b)) [.rem, .add b, .sync]) (Sha.sum b)=((AS D (Ad (Sha.sum b)) [.rem, .add b, .sync]).1,(Sha.sum b),[],0):=if_neg r
 exact⟨H146,_,by rw[hV,hF],by rw[hV,hF];exact RB.nil _,by rw[hV,hF];exact hW⟩
open Go.RowKit
set_option maxRecDepth 100000
set_option linter.unusedVariables false
set_option linter.unusedSimpArgs false
theorem PK:Plain Tryz.prog 19:=fun _ _=>by kernel_rfl
theorem PL:Plain Tryz.prog 49:=fun _ _=>by kernel_rfl
set_option maxHeartbeats 1600000
theorem HU(wb w:World)(g:Nat)(H:Dk)(D:An)(hD:DkG wb w g H D)(hG:Laid wb)(hL:Co D)(id:List UInt8)(hid:id.length=32):
  Calls Tryz.prog 19 #[PQ g 0,AB id] w fun e w' =>∃v,e = .returned (.tuple #[v,NI (A8 D id).2])∧RB w' v (A8 D id).1∧Ext w w' :=by
 refine gG (args:= [PQ g 0,AB id]) Tryz.func19 rfl 30 rfl rfl ?_
 have hE:=Ext.refl w
 refine gS (Yk.box (cs:=(Lib.byteCells id:List Value).toArray) (vr (AB id) rfl) fun t u ai p x aj=> ?_)
 have h:=p;clear p
 have ak:t<u.heap.size:=by omega
 refine gS (Yk.loadAll rfl h IU rfl (by exact Ae hid) (gS (Yk.callA1 PH rfl ((Eh _ id hid).mono ?_))))
 rintro e al ⟨rfl,r⟩
 refine⟨_,rfl,?_⟩
 have hE:=hE.trans (x.trans r)
 refine gS (Yk.callA2 PI rfl rfl (((hD.keep hE).read (Ad id) hL).mono ?_))
 rintro e am ⟨f,rfl,y,i⟩
 refine⟨_,rfl,?_⟩
 have c:=RB.ofOwn y
 refine gS (Yk.extract (vs:= [f,NI ((Az D (Ad id)).2)]) rfl rfl (gS (Yk.extract (vs:= [f,NI ((Az D (Ad id)).2)]) rfl rfl ?_)))
 have hrl:=FE hL (Ad id)
 by_cases h4:(Az D (Ad id)).2=4
 ·refine BV [0,1,2,3,4,5,6,9,7,8,10,11,12] [7,8] [] [9] fun z aa=> ?_
  have ab:=Ext.refl z
  refine BM ab ?_
  refine ys (Yk.eqI (a:=((Az D (Ad id)).2:Nat)) (b:=(4:Nat)) rfl rfl (AY _ _ _ _) zz) (kT (h4) (ys (Yk.pickT rfl rfl zz) (cT rfl (Dh rfl (vr (Value.slice none 0 0) rfl) (vr (NI 12) rfl) ?_))))
  have hV:A8 D id=([],12):=if_pos (.inl h4)
  have hE:=hE.trans (i.trans aa)
  exact⟨_,by rw[hV],by rw[hV];exact RB.nil _,hE⟩
 by_cases h0:(Az D (Ad id)).2=0
 ·refine BV [0,1,2,3,4,5,6,9,7,8,10,11,12] [7,8] [] [9] fun ac l=> ?_
  have j:=Ext.refl ac
  have h:=eb ((r.trans i).trans l) h
  have c:=c.keep l
  refine BM j ?_
  refine ys (Yk.eqI (a:=((Az D (Ad id)).2:Nat)) (b:=(4:Nat)) rfl rfl (AY _ _ _ _) zz) (kF (h4) (ys (Yk.eqI (a:=((Az D (Ad id)).2:Nat)) (b:=(0:Nat)) rfl rfl (AY _ _ _ _) zz) (kT (h0) (yf (fun _ ⟨hZ,_⟩=>Yk.loadAll rfl (eb hZ h) IU rfl (by exact Ae hid) zz) (yE (Yk.rows1 Gk (RB.of c (vr f rfl)) fun ad ae af m=> ?_))))))
  have j:=j.trans m
  refine⟨j,?_⟩
  have n:=Ext.refl ae
  have hE:=hE.trans ((i.trans l).trans m)
  refine yE (Yk.callA1 Ke rfl ((GJ _ (hG.keep ((hD.keep hE)).ext) ad ((Az D (Ad id)).1) af (by omega)).mono ?_))
  rintro e an ⟨rfl,k⟩
  refine⟨_,rfl,?_⟩
  have n:=n.trans k
  refine⟨n,?_⟩
  refine ys (Yk.neArr (l1:=(Sha.sum ((Az D (Ad id)).1))) (l2:=id) IU Ds Fy PJ rfl rfl ((Sha.sum_length _)) (hid) zz) (ys (Yk.pickT rfl rfl zz) (ys (Yk.pickF rfl rfl zz) ?_))
  refine cD rfl (fun o=> ?_) fun o=> ?_
  ·refine Dh rfl (vr (Value.slice none 0 0) rfl) (vr (NI 12) rfl) ?_
   have hV:A8 D id=([],12):=if_pos (.inr ⟨h0,o⟩)
   have hE:=hE.trans k
   exact⟨_,by rw[hV],by rw[hV];exact RB.nil _,hE⟩
  refine Dh rfl (vr f rfl) (vr (NI ((Az D (Ad id)).2)) rfl) ?_
  have hV:A8 D id=(Az D (Ad id)):=if_neg (fun q=>q.elim h4 fun q=>o q.2)
  have hZ1:=m.trans k
  have c:=c.keep hZ1
  have hE:=hE.trans k
  exact⟨_,by rw[hV],by rw[hV];exact c,hE⟩
 refine BV [0,1,2,3,4,5,6,9,7,8,10,11,12] [7,8] [] [9] fun ag s=> ?_
 have ah:=Ext.refl ag
 refine BM ah ?_
 refine ys (Yk.eqI (a:=((Az D (Ad id)).2:Nat)) (b:=(4:Nat)) rfl rfl (AY _ _ _ _) zz) (kF (h4) (ys (Yk.eqI (a:=((Az D (Ad id)).2:Nat)) (b:=(0:Nat)) rfl rfl (AY _ _ _ _) zz) (kF (h0) (ys (Yk.pickF rfl rfl zz) (ys (Yk.pickF rfl rfl zz) (cF rfl (Dh rfl (vr f rfl) (vr (NI ((Az D (Ad id)).2)) rfl) ?_)))))))
 have hV:A8 D id=(Az D (Ad id)):=if_neg (fun q=>q.elim h4 fun q=>h0 q.1)
 have hE:=hE.trans (i.trans s)
 have c:=c.keep s
 exact⟨_,by rw[hV],by rw[hV];exact c,hE⟩

theorem LG(wb w:World)(g:Nat)(H:Dk)(D:An)(hD:DkG wb w g H D)(hG:Laid wb)(hL:Co D)(id:List UInt8)(hid:id.length=32):
  Calls Tryz.prog 21 #[PQ g 0,AB id] w fun e w' =>e = .returned (.bool (decide ((A8 D id).2=0)))∧Ext w w' :=by
 refine gG (args:= [PQ g 0,AB id]) Tryz.func21 rfl 15 rfl rfl ?_
 have hE:=Ext.refl w
 refine gS (Yk.box (cs:=(Lib.byteCells id:List Value).toArray) (vr (AB id) rfl) fun h i m c j n=> ?_)
 have k:=c;clear c
 have o:h<i.heap.size:=by omega
 have hE:=hE.trans j
 refine gS (Yk.loadAll rfl k IU rfl (by exact Ae hid) (gS (Yk.callA2 PK rfl rfl ((HU wb _ g H D (hD.keep hE) hG hL id hid).mono ?_))))
 rintro e p ⟨f,rfl,q,l⟩
 refine⟨_,rfl,?_⟩
 refine gS (Yk.extract (vs:= [f,NI ((A8 D id).2)]) rfl rfl (gS (Yk.extract (vs:= [f,NI ((A8 D id).2)]) rfl rfl (gS (Yk.eqI (a:=((A8 D id).2:Nat)) (b:=(0:Nat)) rfl rfl (AY _ _ _ _) (AX rfl (vr (.bool (decide (((A8 D id).2:Nat)=(0)))) rfl) ?_))))))
 have hE:=hE.trans l
 exact⟨rfl,hE⟩

theorem PM(wb w:World)(g:Nat)(H:Dk)(D:An)(hD:DkG wb w g H D)(hL:Co D)(id:List UInt8)(hid:id.length=32):
  Calls Tryz.prog 22 #[PQ g 0,AB id] w fun e w' =>∃H',e = .returned (NI (BY D id).2)∧DkW wb w g H D w' H' (BY D id).1:=by
 refine gG (args:= [PQ g 0,AB id]) Tryz.func22 rfl 13 rfl rfl ?_
 have hE:=Ext.refl w
 refine gS (Yk.box (cs:=(Lib.byteCells id:List Value).toArray) (vr (AB id) rfl) fun h i n f j o=> ?_)
 have k:=f;clear f
 have p:h<i.heap.size:=by omega
 refine gS (Yk.loadAll rfl k IU rfl (by exact Ae hid) (gS (Yk.callA1 PH rfl ((Eh _ id hid).mono ?_))))
 rintro e l ⟨rfl,m⟩
 refine⟨_,rfl,?_⟩
 have hE:=hE.trans (j.trans m)
 have hDc:=(hD.keep hE)
 have hWa:DkW wb w g H D l H D:=DkW.ofExt hD hE
 refine gS (Yk.callA2 PL rfl rfl ((hDc.dropW (Ad id) hL).mono ?_))
 rintro e q ⟨H2,rfl,hW2⟩
 refine⟨_,rfl,?_⟩
 have hW:=hWa.trans hW2
 refine gS (Yk.eqI (a:=((Ar D (Ad id)).2:Nat)) (b:=(4:Nat)) rfl rfl (AY _ _ _ _) ?_)
 refine cD rfl (fun c=> ?_) fun c=> ?_
 ·refine AX rfl (vr (NI 12) rfl) ?_
  have hV:BY D id=((Ar D (Ad id)).1,12):=if_pos c
  exact⟨H2,by rw[hV],by rw[hV];exact hW⟩
 refine AX rfl (vr (NI ((Ar D (Ad id)).2)) rfl) ?_
 have hV:BY D id=Ar D (Ad id):=if_neg c
 exact⟨H2,by rw[hV],by rw[hV];exact hW⟩
end Go.Proofs.YtejpjjhkjdpeaaaGreatDoor
