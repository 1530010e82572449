/- Part 7 of what stands behind these statements: laws and walks of the functions that are reached. Conditions: those that each theorem names. -/
import Derived.Test.YtcegdjpdnlaleaaDoorQ6
set_option linter.unusedVariables false
namespace Go.Proofs.YtcegdjpdnlaleaaDoor
open Go.RowKit
set_option maxRecDepth 100000
set_option maxHeartbeats 1600000
theorem FB(w:World)(n:Nat)(hn:n<9223372036854775808):
  Calls Tryd.prog 60 #[NI n] w fun e w' =>∃v',e = .returned v' ∧NewB 5 w w' v' (AI n):=by
 refine AA (args:= [NI n]) Tryd.func60 rfl 15 rfl (Nat.le_of_ble_eq_true rfl) ?_
 intro f hb
 have a:f 0=(NI n:Value):=hb.get 0
 clear hb
 have hE:=Ext.refl w
 refine sk fun j g=>(wt (oA rfl (oZ (tN (g _ _ (sk fun k h=>(wt (oM rfl (oS rfl (Yk.bin (xv:=NI n) (yv:=NI 16777216) a rfl rfl (EU _ _ _ (by omega) (by decide)) (oS rfl (Yk.convI NA u5 (vr (NI ((n)/(16777216))) rfl) (DX ((n)/(16777216))) (oM rfl (oS rfl (Yk.bin (xv:=NI n) (yv:=NI 65536) a rfl rfl (EU _ _ _ (by omega) (by decide)) (oS rfl (Yk.convI NA u5 (vr (NI ((n)/(65536))) rfl) (DX ((n)/(65536))) (oM rfl (oS rfl (Yk.bin (xv:=NI n) (yv:=NI 256) a rfl rfl (EU _ _ _ (by omega) (by decide)) (oS rfl (Yk.convI NA u5 (vr (NI ((n)/(256))) rfl) (DX ((n)/(256))) ?_))))))))))))))))))))))
 refine oM rfl (oS rfl (Yk.convI NA u5 a (DX (n)) (oS rfl (Yk.lit4 (b0:=UInt8.ofNat ((n)/(16777216))) (b1:=UInt8.ofNat ((n)/(65536))) (b2:=UInt8.ofNat ((n)/(256))) (b3:=UInt8.ofNat (n)) Mj (vr (B8 (UInt8.ofNat ((n)/(16777216)))) rfl) (vr (B8 (UInt8.ofNat ((n)/(65536)))) rfl) (vr (B8 (UInt8.ofNat ((n)/(256)))) rfl) (vr (B8 (UInt8.ofNat (n))) rfl) fun c l b=> ?_))))
 have hE:=hE.trans b.ext
 have i:=b.own;clear b
 refine oA rfl (oZ (tN (h _ _ (As (Ao (fn:=Tryd.f60) _ rfl [c] (c) rfl ⟨rfl,trivial⟩ ?_)))))
 exact⟨_,rfl,⟨i,hE.grown⟩⟩

theorem FS(w:World)(x y:Bs)(hx:x.length=32)(hy:y.length=32):
  Calls Tryd.prog 74 #[AB x,AB y] w fun e w' =>e = .returned (.int .i64 (Lib.compareBytes x y))∧Ext w w' :=by
 refine AA (args:= [AB x,AB y]) Tryd.func74 rfl 24 rfl (Nat.le_of_ble_eq_true rfl) ?_
 intro au hb
 have m:au 0=(AB x:Value):=hb.get 0
 have n:au 1=(AB y:Value):=hb.get 1
 clear hb
 have hE:=Ext.refl w
 refine sk fun K1 ax=>(wt (oS rfl (Yk.box (cs:=(Lib.byteCells x:List Value).toArray) m fun q w3 b0 av ay b1=> ?_)))
 have hE:=hE.trans ay
 have f:=av;clear av
 have b2:q<w3.heap.size:=by omega
 refine oS rfl (Yk.box (cs:=(Lib.byteCells y:List Value).toArray) n fun r az a0 aw al b3=> ?_)
 have o:=Ext.refl w3
 have b4:=hE
 have b5:=hE.size
 have b6:=AT (bl f) a0
 have hE:=hE.trans al
 have f:=eb al f
 have o:=o.trans al
 have k:=aw;clear aw
 have b7:r<az.heap.size:=by omega
 refine oA rfl (oZ (tN (ax _ _ (sk fun b8 a1=>(sk fun b9 a2=>(wt (oA rfl (AH [(0,AB x),(1,AB y),(2,PQ q 0),(3,PQ r 0),(4,NI 0),(5,NI 0)] ⟨m,n,rfl,rfl,rfl,rfl,trivial⟩ fun ca ⟨m,n,g,j,T4,c,_⟩=>(tN (a2 _ _ (Aj (AX (fun(ρ:Aq) (wz:World)=>∃i:Nat,ρ 0=(AB x:Value)∧ρ 1=(AB y:Value)∧ρ 2=(PQ q 0:Value)∧ρ 3=(PQ r 0:Value)∧ρ 5=(NI i:Value)∧Ext w wz∧wz.heap[q]? =some (.cells (Lib.byteCells x).toArray 38 (0,0))∧Ext w3 wz∧wz.heap[r]? =some (.cells (Lib.byteCells y).toArray 38 (0,0))∧(i≤32)∧(Lib.compareBytes x y=Lib.compareBytes (x.drop i) (y.drop i))∧True) (fun ρ _=>32-(intOf (ρ 5)).toNat) ⟨0,m,n,g,j,c,hE,f,o,k,Nat.zero_le _,rfl,trivial⟩ ?_))))))))))))
 clear hE f o k
 rintro a3 cc ⟨i,m,n,g,j,c,hE,f,o,k,hi,hc,-⟩
 have q5:=c
 by_cases hlt:i<32
 ·have hca:=O8 (x:=x) (y:=y) (i:=i) (by omega) (by omega)
  by_cases q1:(x.getD i 0).toNat<(y.getD i 0).toNat
  ·rw[if_pos q1]at hca
   refine sk fun cd a4=>(sk fun ce a5=>(wt (oM rfl (oS rfl (Yk.eqI (a:=(i:Nat)) (b:=(32:Nat)) c rfl (AN _ _ _ _) (oZ (tN (a5 _ _ (AE (vr (.bool (true)) (congrArg Value.bool (decide_eq_true (hlt)))) (Ah (tN (a4 _ _ (sk fun cf cg=>(Aj (sk fun ch ci=>(sk fun cj a6=> ?_))))))))))))))))
   refine Be [Is (NI i),Is (PQ q i),Is (B8 ((x).getD (i) 0)),Is (NI i),Is (PQ r i),Is (B8 ((y).getD (i) 0)),Is (.bool (true))] (by kernel_rfl) [10,11,12,13,14,15,16] (by kernel_rfl) (by kernel_rfl) (HC trivial) ?a7 ?hQ1004
   case a7=>
    refine⟨?_,?_,?_,?_,?_,?_,?_,trivial⟩
    ·refine Aa rfl fun σ w1 hC h=> ?_
     have l:=(Ab (h 5 (by decide))).trans c
     exact Yk.move l ⟨Ext.refl _,rfl⟩
    ·refine Aa rfl fun σ w1 hC h=> ?_
     have s:=(Ab (h 2 (by decide))).trans g
     have v:=Ab (h 10 (by decide))
     exact Yk.atArr0 (i:=i) Ow Ls s v (by omega) ⟨Ext.refl _,rfl⟩
    ·refine Aa rfl fun σ w1 hC h=> ?_
     have z:=Ab (h 11 (by decide))
     exact Yk.cell1 u5 rfl z (Ai (eb hC f) (CE (i:=i) (by omega))) ⟨Ext.refl _,rfl⟩
    ·refine Aa rfl fun σ w1 hC h=> ?_
     have l:=(Ab (h 5 (by decide))).trans c
     exact Yk.move l ⟨Ext.refl _,rfl⟩
    ·refine Aa rfl fun σ w1 hC h=> ?_
     have t:=(Ab (h 3 (by decide))).trans j
     have aa:=Ab (h 13 (by decide))
     exact Yk.atArr0 (i:=i) Ow Ls t aa (by omega) ⟨Ext.refl _,rfl⟩
    ·refine Aa rfl fun σ w1 hC h=> ?_
     have ab:=Ab (h 14 (by decide))
     exact Yk.cell1 u5 rfl ab (Ai (eb hC k) (CE (i:=i) (by omega))) ⟨Ext.refl _,rfl⟩
    ·refine Aa rfl fun σ w1 hC h=> ?_
     have ac:=Ab (h 12 (by decide))
     have ad:=Ab (h 15 (by decide))
     exact Yk.eqI (a:=(((x).getD (i) 0).toNat:Nat)) (b:=(((y).getD (i) 0).toNat:Nat)) ac ad (AN _ _ _ _) ⟨Ext.refl _,(congrArg Value.bool (decide_eq_true (q1)))⟩
   intro a8 ck af he hf
   obtain⟨-,-,-,-,-,-,k16,-⟩:=hf
   obtain⟨m,n,g,j,c,u,-⟩:=he.hold [(0,_),(1,_),(2,_),(3,_),(5,_),(7,_)] ⟨m,n,g,j,c,(congrArg Value.bool (decide_eq_true (hlt))),trivial⟩ rfl
   clear he
   have hE:=hE.trans af
   have f:=eb af f
   have o:=o.trans af
   have k:=eb af k
   have p:a8 16 = .bool (true):=k16
   clear k16
   refine tN (a6 _ _ (AE p (sk fun cl a9=>(wt (oA rfl (oZ (tN (a9 _ _ (As (Am (AR (Am (Am (AR (Am (Ao (fn:=Tryd.f74) _ rfl [.int .i64 (-1:Int)] (.int .i64 (-1:Int)) rfl ⟨rfl,trivial⟩ ?_))))))))))))))))
   refine⟨?_,hE⟩
   rw[hc,hca]
  rw[if_neg q1]at hca
  by_cases q2:(y.getD i 0).toNat<(x.getD i 0).toNat
  ·rw[if_pos q2]at hca
   refine sk fun cm ba=>(sk fun cn bb=>(wt (oM rfl (oS rfl (Yk.eqI (a:=(i:Nat)) (b:=(32:Nat)) c rfl (AN _ _ _ _) (oZ (tN (bb _ _ (AE (vr (.bool (true)) (congrArg Value.bool (decide_eq_true (hlt)))) (Ah (tN (ba _ _ (sk fun co cp=>(Aj (sk fun cq bc=>(sk fun cr bd=> ?_))))))))))))))))
   refine Be [Is (NI i),Is (PQ q i),Is (B8 ((x).getD (i) 0)),Is (NI i),Is (PQ r i),Is (B8 ((y).getD (i) 0)),Is (.bool (false))] (by kernel_rfl) [10,11,12,13,14,15,16] (by kernel_rfl) (by kernel_rfl) (HC trivial) ?be ?hQ2004
   case be=>
    refine⟨?_,?_,?_,?_,?_,?_,?_,trivial⟩
    ·refine Aa rfl fun σ w1 hC h=> ?_
     have l:=(Ab (h 5 (by decide))).trans c
     exact Yk.move l ⟨Ext.refl _,rfl⟩
    ·refine Aa rfl fun σ w1 hC h=> ?_
     have s:=(Ab (h 2 (by decide))).trans g
     have v:=Ab (h 10 (by decide))
     exact Yk.atArr0 (i:=i) Ow Ls s v (by omega) ⟨Ext.refl _,rfl⟩
    ·refine Aa rfl fun σ w1 hC h=> ?_
     have z:=Ab (h 11 (by decide))
     exact Yk.cell1 u5 rfl z (Ai (eb hC f) (CE (i:=i) (by omega))) ⟨Ext.refl _,rfl⟩
    ·refine Aa rfl fun σ w1 hC h=> ?_
     have l:=(Ab (h 5 (by decide))).trans c
     exact Yk.move l ⟨Ext.refl _,rfl⟩
    ·refine Aa rfl fun σ w1 hC h=> ?_
     have t:=(Ab (h 3 (by decide))).trans j
     have aa:=Ab (h 13 (by decide))
     exact Yk.atArr0 (i:=i) Ow Ls t aa (by omega) ⟨Ext.refl _,rfl⟩
    ·refine Aa rfl fun σ w1 hC h=> ?_
     have ab:=Ab (h 14 (by decide))
     exact Yk.cell1 u5 rfl ab (Ai (eb hC k) (CE (i:=i) (by omega))) ⟨Ext.refl _,rfl⟩
    ·refine Aa rfl fun σ w1 hC h=> ?_
     have ac:=Ab (h 12 (by decide))
     have ad:=Ab (h 15 (by decide))
     exact Yk.eqI (a:=(((x).getD (i) 0).toNat:Nat)) (b:=(((y).getD (i) 0).toNat:Nat)) ac ad (AN _ _ _ _) ⟨Ext.refl _,(congrArg Value.bool (decide_eq_false (q1)))⟩
   intro bf ct ag he hf
   obtain⟨-,-,-,-,-,-,k16,-⟩:=hf
   obtain⟨m,n,g,j,c,u,-⟩:=he.hold [(0,_),(1,_),(2,_),(3,_),(5,_),(7,_)] ⟨m,n,g,j,c,(congrArg Value.bool (decide_eq_true (hlt))),trivial⟩ rfl
   clear he
   have hE:=hE.trans ag
   have f:=eb ag f
   have o:=o.trans ag
   have k:=eb ag k
   have p:bf 16 = .bool (false):=k16
   clear k16
   refine tN (bd _ _ (Ar p (Ah (tN (bc _ _ (sk fun cu bg=> ?_))))))
   refine Be [Is (NI i),Is (PQ q i),Is (B8 ((x).getD (i) 0)),Is (NI i),Is (PQ r i),Is (B8 ((y).getD (i) 0)),Is (.bool (true))] (by kernel_rfl) [17,18,19,20,21,22,23] (by kernel_rfl) (by kernel_rfl) (HC trivial) ?bh ?hQ3006
   case bh=>
    refine⟨?_,?_,?_,?_,?_,?_,?_,trivial⟩
    ·refine Aa rfl fun σ w1 hC h=> ?_
     have l:=(Ab (h 5 (by decide))).trans c
     exact Yk.move l ⟨Ext.refl _,rfl⟩
    ·refine Aa rfl fun σ w1 hC h=> ?_
     have s:=(Ab (h 2 (by decide))).trans g
     have am:=Ab (h 17 (by decide))
     exact Yk.atArr0 (i:=i) Ow Ls s am (by omega) ⟨Ext.refl _,rfl⟩
    ·refine Aa rfl fun σ w1 hC h=> ?_
     have an:=Ab (h 18 (by decide))
     exact Yk.cell1 u5 rfl an (Ai (eb hC f) (CE (i:=i) (by omega))) ⟨Ext.refl _,rfl⟩
    ·refine Aa rfl fun σ w1 hC h=> ?_
     have l:=(Ab (h 5 (by decide))).trans c
     exact Yk.move l ⟨Ext.refl _,rfl⟩
    ·refine Aa rfl fun σ w1 hC h=> ?_
     have t:=(Ab (h 3 (by decide))).trans j
     have ao:=Ab (h 20 (by decide))
     exact Yk.atArr0 (i:=i) Ow Ls t ao (by omega) ⟨Ext.refl _,rfl⟩
    ·refine Aa rfl fun σ w1 hC h=> ?_
     have ap:=Ab (h 21 (by decide))
     exact Yk.cell1 u5 rfl ap (Ai (eb hC k) (CE (i:=i) (by omega))) ⟨Ext.refl _,rfl⟩
    ·refine Aa rfl fun σ w1 hC h=> ?_
     have aq:=Ab (h 19 (by decide))
     have ar:=Ab (h 22 (by decide))
     exact Yk.eqI (a:=(((x).getD (i) 0).toNat:Nat)) (b:=(((y).getD (i) 0).toNat:Nat)) aq ar (Bm _ _ _ _) ⟨Ext.refl _,(congrArg Value.bool (decide_eq_true (q2)))⟩
   intro bi cv ah he hf
   obtain⟨-,-,-,-,-,-,k23,-⟩:=hf
   obtain⟨m,n,g,j,c,u,p,-⟩:=he.hold [(0,_),(1,_),(2,_),(3,_),(5,_),(7,_),(16,_)] ⟨m,n,g,j,c,u,p,trivial⟩ rfl
   clear he
   have hE:=hE.trans ah
   have f:=eb ah f
   have o:=o.trans ah
   have k:=eb ah k
   have ae:bi 23 = .bool (true):=k23
   clear k23
   refine tN (bg _ _ (AE ae (sk fun cw bj=>(wt (oA rfl (oZ (tN (bj _ _ (As (AR (Am (Am (AR (Am (Ao (fn:=Tryd.f74) _ rfl [NI 1] (NI 1) rfl ⟨rfl,trivial⟩ ?_)))))))))))))))
   refine⟨?_,hE⟩
   rw[hc,hca];rfl
  rw[if_neg q2]at hca
  refine sk fun cx bk=>(sk fun cy bm=>(wt (oM rfl (oS rfl (Yk.eqI (a:=(i:Nat)) (b:=(32:Nat)) c rfl (AN _ _ _ _) (oZ (tN (bm _ _ (AE (vr (.bool (true)) (congrArg Value.bool (decide_eq_true (hlt)))) (Ah (tN (bk _ _ (sk fun cz bn=>(Aj (sk fun c0 bo=>(sk fun c1 bp=> ?_))))))))))))))))
  refine Be [Is (NI i),Is (PQ q i),Is (B8 ((x).getD (i) 0)),Is (NI i),Is (PQ r i),Is (B8 ((y).getD (i) 0)),Is (.bool (false))] (by kernel_rfl) [10,11,12,13,14,15,16] (by kernel_rfl) (by kernel_rfl) (HC trivial) ?bq ?hQ4004
  case bq=>
   refine⟨?_,?_,?_,?_,?_,?_,?_,trivial⟩
   ·refine Aa rfl fun σ w1 hC h=> ?_
    have l:=(Ab (h 5 (by decide))).trans c
    exact Yk.move l ⟨Ext.refl _,rfl⟩
   ·refine Aa rfl fun σ w1 hC h=> ?_
    have s:=(Ab (h 2 (by decide))).trans g
    have v:=Ab (h 10 (by decide))
    exact Yk.atArr0 (i:=i) Ow Ls s v (by omega) ⟨Ext.refl _,rfl⟩
   ·refine Aa rfl fun σ w1 hC h=> ?_
    have z:=Ab (h 11 (by decide))
    exact Yk.cell1 u5 rfl z (Ai (eb hC f) (CE (i:=i) (by omega))) ⟨Ext.refl _,rfl⟩
   ·refine Aa rfl fun σ w1 hC h=> ?_
    have l:=(Ab (h 5 (by decide))).trans c
    exact Yk.move l ⟨Ext.refl _,rfl⟩
   ·refine Aa rfl fun σ w1 hC h=> ?_
    have t:=(Ab (h 3 (by decide))).trans j
    have aa:=Ab (h 13 (by decide))
    exact Yk.atArr0 (i:=i) Ow Ls t aa (by omega) ⟨Ext.refl _,rfl⟩
   ·refine Aa rfl fun σ w1 hC h=> ?_
    have ab:=Ab (h 14 (by decide))
    exact Yk.cell1 u5 rfl ab (Ai (eb hC k) (CE (i:=i) (by omega))) ⟨Ext.refl _,rfl⟩
   ·refine Aa rfl fun σ w1 hC h=> ?_
    have ac:=Ab (h 12 (by decide))
    have ad:=Ab (h 15 (by decide))
    exact Yk.eqI (a:=(((x).getD (i) 0).toNat:Nat)) (b:=(((y).getD (i) 0).toNat:Nat)) ac ad (AN _ _ _ _) ⟨Ext.refl _,(congrArg Value.bool (decide_eq_false (q1)))⟩
  intro br c2 ai he hf
  obtain⟨-,-,-,-,-,-,k16,-⟩:=hf
  obtain⟨m,n,g,j,c,u,-⟩:=he.hold [(0,_),(1,_),(2,_),(3,_),(5,_),(7,_)] ⟨m,n,g,j,c,(congrArg Value.bool (decide_eq_true (hlt))),trivial⟩ rfl
  clear he
  have hE:=hE.trans ai
  have f:=eb ai f
  have o:=o.trans ai
  have k:=eb ai k
  have p:br 16 = .bool (false):=k16
  clear k16
  refine tN (bp _ _ (Ar p (Ah (tN (bo _ _ (sk fun c3 bs=> ?_))))))
  refine Be [Is (NI i),Is (PQ q i),Is (B8 ((x).getD (i) 0)),Is (NI i),Is (PQ r i),Is (B8 ((y).getD (i) 0)),Is (.bool (false))] (by kernel_rfl) [17,18,19,20,21,22,23] (by kernel_rfl) (by kernel_rfl) (HC trivial) ?bt ?hQ5006
  case bt=>
   refine⟨?_,?_,?_,?_,?_,?_,?_,trivial⟩
   ·refine Aa rfl fun σ w1 hC h=> ?_
    have l:=(Ab (h 5 (by decide))).trans c
    exact Yk.move l ⟨Ext.refl _,rfl⟩
   ·refine Aa rfl fun σ w1 hC h=> ?_
    have s:=(Ab (h 2 (by decide))).trans g
    have am:=Ab (h 17 (by decide))
    exact Yk.atArr0 (i:=i) Ow Ls s am (by omega) ⟨Ext.refl _,rfl⟩
   ·refine Aa rfl fun σ w1 hC h=> ?_
    have an:=Ab (h 18 (by decide))
    exact Yk.cell1 u5 rfl an (Ai (eb hC f) (CE (i:=i) (by omega))) ⟨Ext.refl _,rfl⟩
   ·refine Aa rfl fun σ w1 hC h=> ?_
    have l:=(Ab (h 5 (by decide))).trans c
    exact Yk.move l ⟨Ext.refl _,rfl⟩
   ·refine Aa rfl fun σ w1 hC h=> ?_
    have t:=(Ab (h 3 (by decide))).trans j
    have ao:=Ab (h 20 (by decide))
    exact Yk.atArr0 (i:=i) Ow Ls t ao (by omega) ⟨Ext.refl _,rfl⟩
   ·refine Aa rfl fun σ w1 hC h=> ?_
    have ap:=Ab (h 21 (by decide))
    exact Yk.cell1 u5 rfl ap (Ai (eb hC k) (CE (i:=i) (by omega))) ⟨Ext.refl _,rfl⟩
   ·refine Aa rfl fun σ w1 hC h=> ?_
    have aq:=Ab (h 19 (by decide))
    have ar:=Ab (h 22 (by decide))
    exact Yk.eqI (a:=(((x).getD (i) 0).toNat:Nat)) (b:=(((y).getD (i) 0).toNat:Nat)) aq ar (Bm _ _ _ _) ⟨Ext.refl _,(congrArg Value.bool (decide_eq_false (q2)))⟩
  intro bu c4 aj he hf
  obtain⟨-,-,-,-,-,-,k23,-⟩:=hf
  obtain⟨m,n,g,j,c,u,p,-⟩:=he.hold [(0,_),(1,_),(2,_),(3,_),(5,_),(7,_),(16,_)] ⟨m,n,g,j,c,u,p,trivial⟩ rfl
  clear he
  have hE:=hE.trans aj
  have f:=eb aj f
  have o:=o.trans aj
  have k:=eb aj k
  have ae:bu 23 = .bool (false):=k23
  clear k23
  refine tN (bs _ _ (Ar ae (Ah (bN (tN (bn _ _ (wt (oM rfl (oS rfl (Yk.bin (xv:=NI i) (yv:=NI 1) c rfl rfl (Ak _ _ _ (by omega)) (oA rfl (AH [(0,AB x),(1,AB y),(2,PQ q 0),(3,PQ r 0),(5,NI ((i)+(1))),(7, .bool (true)),(16, .bool (false)),(23, .bool (false))] ⟨m,n,g,j,rfl,u,p,ae,trivial⟩ fun bv ⟨m,n,g,j,c,u,p,ae,_⟩=>(tN (And.intro ⟨i+1,m,n,g,j,c,hE,f,o,k,by omega,hc.trans hca,trivial⟩ ?_))))))))))))))
  show 32-(intOf (bv 5)).toNat<32-(intOf (a3 5)).toNat
  rw[c,q5]
  simp only[intOf,Int.toNat_natCast];omega
 refine sk fun c5 c6=>(sk fun c7 bw=>(wt (oM rfl (oS rfl (Yk.eqI (a:=(i:Nat)) (b:=(32:Nat)) c rfl (AN _ _ _ _) (oZ (tN (bw _ _ (Ar (vr (.bool (false)) (congrArg Value.bool (decide_eq_false (hlt)))) (AJ (Ag (Ag (Ap (tN (a1 _ _ (sk fun c8 bx=>(wt (oA rfl (oZ (tN (bx _ _ (As ?_))))))))))))))))))))))
 refine Ao (fn:=Tryd.f74) _ rfl [NI 0] (NI 0) rfl ⟨rfl,trivial⟩ ?_
 refine⟨?_,hE⟩
 rw[hc,List.drop_of_length_le (by omega),List.drop_of_length_le (by omega)];rfl

theorem I2(w:World)(v:Value)(l:List Bs)(hr:RG 32 Lib.byteCells w v l)(hll:l.length<9223372036854775807)(id:Bs)(hid:id.length=32):
  Calls Tryd.prog 31 #[v,AB id] w fun e w' =>e = .returned (.bool (decide (id∈l)))∧Ext w w' :=by
 refine AA (args:= [v,AB id]) Tryd.func31 rfl 18 rfl (Nat.le_of_ble_eq_true rfl) ?_
 intro ab hb
 have c:ab 0=(v:Value):=hb.get 0
 have g:ab 1=(AB id:Value):=hb.get 1
 clear hb
 have hE:=Ext.refl w
 refine sk fun K1 af=>(wt (oS rfl (Yk.box (cs:=(Lib.byteCells id:List Value).toArray) g fun n w3 a3 ac ah a4=> ?_)))
 have hE:=hE.trans ah
 have m:=ac;clear ac
 have a5:n<w3.heap.size:=by omega
 refine oA rfl (oZ (tN (af _ _ (sk fun a6 ai=>(sk fun a7 aj=>(wt (oA rfl (AH [(0,v),(1,AB id),(3,PQ n 0),(4, .bool (false)),(5,NI 0)] ⟨c,g,rfl,rfl,rfl,trivial⟩ fun a8 ⟨c,g,j,T4,f,_⟩=>(tN (aj _ _ (Aj (AX (fun(ρ:Aq) (wz:World)=>∃i:Nat,ρ 0=(v:Value)∧ρ 1=(AB id:Value)∧ρ 3=(PQ n 0:Value)∧ρ 5=(NI i:Value)∧Ext w wz∧wz.heap[n]? =some (.cells (Lib.byteCells id).toArray 38 (0,0))∧(i≤l.length)∧(id∉l.take i)∧True) (fun ρ _=>l.length-(intOf (ρ 5)).toNat) ⟨0,c,g,j,f,hE,m,Nat.zero_le _,(by simp),trivial⟩ ?_))))))))))))
 clear hE m
 rintro ak ba ⟨i,c,g,j,f,hE,m,hi,hn,-⟩
 have q5:=f
 by_cases hlt:i<l.length
 ·have hel:(l.getD i []).length=32:=A5 (RG.elem hr [] hlt)
  by_cases q1:l.getD i []=id
  ·refine sk fun bb al=>(sk fun bc am=>(wt (oM rfl (oM rfl (oS rfl (Yk.lenRG JD (RG.of (hr.keep hE) c) (oS rfl (Yk.eqI (a:=(i:Nat)) (b:=(l.length:Nat)) f rfl (AN _ _ _ _) (oZ (tN (am _ _ (AE (vr (.bool (true)) (congrArg Value.bool (decide_eq_true (hlt)))) (Ah (tN (al _ _ (sk fun bd be=>(Aj (sk fun bf an=> ?_))))))))))))))))))
   refine Be [Is (v),Is (NI i),fun x w' =>PR (Lib.byteCells (l.getD (i) ([]:List UInt8))) x w',Is (AB (l.getD (i) ([]:List UInt8))),Is (AB id),Is (.bool (true))] (by kernel_rfl) [12,13,14,15,16,17] (by kernel_rfl) (by kernel_rfl) (Ef ⟨(fun _ _ _ h k=>PR.keep h k),(DV trivial)⟩) ?ao ?hQ1004
   case ao=>
    refine⟨?_,?_,?_,?_,?_,?_,trivial⟩
    ·refine Aa rfl fun σ w1 hC h=> ?_
     have p:=(Ab (h 0 (by decide))).trans c
     exact Yk.move p ⟨Ext.refl _,rfl⟩
    ·refine Aa rfl fun σ w1 hC h=> ?_
     have q:=(Ab (h 5 (by decide))).trans f
     exact Yk.move q ⟨Ext.refl _,rfl⟩
    ·refine Aa rfl fun σ w1 hC h=> ?_
     have r:=Ab (h 12 (by decide))
     have s:=Ab (h 13 (by decide))
     exact Yk.atRG JD Mn (by decide) ([]:List UInt8) (RG.of (hr.keep (hE.trans hC)) r) s (by omega) fun v h=>⟨Ext.refl _,h⟩
    ·refine Aa rfl fun σ w1 hC h=> ?_
     have t:(fun x w' =>PR (Lib.byteCells (l.getD (i) ([]:List UInt8))) x w') (σ 14) w1:=h 14 (by decide)
     exact Yk.loadPR t Ow rfl (by rw[RG.elem hr ([]:List UInt8) (by omega)];exact L9) ⟨Ext.refl _,rfl⟩
    ·refine Aa rfl fun σ w1 hC h=> ?_
     have u:=(Ab (h 3 (by decide))).trans j
     exact Yk.loadAll u (eb hC m) Ow rfl (by exact AM hid) ⟨Ext.refl _,rfl⟩
    ·refine Aa rfl fun σ w1 hC h=> ?_
     have y:=Ab (h 15 (by decide))
     have z:=Ab (h 16 (by decide))
     exact Yk.eqArr (l1:=(l.getD (i) ([]:List UInt8))) (l2:=id) Ow u5 Ls M4 y z (hel) (hid) ⟨Ext.refl _,(congrArg Value.bool (decide_eq_true (q1)))⟩
   intro ap bg ad he hf
   obtain⟨-,-,-,-,-,k17,-⟩:=hf
   obtain⟨c,g,j,f,T9,-⟩:=he.hold [(0,_),(1,_),(3,_),(5,_),(9,_)] ⟨c,g,j,f,(congrArg Value.bool (decide_eq_true (hlt))),trivial⟩ rfl
   clear he
   have hE:=hE.trans ad
   have m:=eb ad m
   have o:ap 17 = .bool (true):=k17
   clear k17
   refine tN (an _ _ (AE o (sk fun bh aq=>(wt (oA rfl (oZ (tN (aq _ _ (As (AR (Am (Am (AR (Am (Ao (fn:=Tryd.f31) _ rfl [.bool (true)] (.bool (true)) rfl ⟨rfl,trivial⟩ ?_)))))))))))))))
   exact⟨by rw[decide_eq_true (show id∈l from q1▸A6 [] hlt)],hE⟩
  refine sk fun bi ar=>(sk fun bj au=>(wt (oM rfl (oM rfl (oS rfl (Yk.lenRG JD (RG.of (hr.keep hE) c) (oS rfl (Yk.eqI (a:=(i:Nat)) (b:=(l.length:Nat)) f rfl (AN _ _ _ _) (oZ (tN (au _ _ (AE (vr (.bool (true)) (congrArg Value.bool (decide_eq_true (hlt)))) (Ah (tN (ar _ _ (sk fun bk av=>(Aj (sk fun bm aw=> ?_))))))))))))))))))
  refine Be [Is (v),Is (NI i),fun x w' =>PR (Lib.byteCells (l.getD (i) ([]:List UInt8))) x w',Is (AB (l.getD (i) ([]:List UInt8))),Is (AB id),Is (.bool (false))] (by kernel_rfl) [12,13,14,15,16,17] (by kernel_rfl) (by kernel_rfl) (Ef ⟨(fun _ _ _ h k=>PR.keep h k),(DV trivial)⟩) ?ax ?hQ2004
  case ax=>
   refine⟨?_,?_,?_,?_,?_,?_,trivial⟩
   ·refine Aa rfl fun σ w1 hC h=> ?_
    have p:=(Ab (h 0 (by decide))).trans c
    exact Yk.move p ⟨Ext.refl _,rfl⟩
   ·refine Aa rfl fun σ w1 hC h=> ?_
    have q:=(Ab (h 5 (by decide))).trans f
    exact Yk.move q ⟨Ext.refl _,rfl⟩
   ·refine Aa rfl fun σ w1 hC h=> ?_
    have r:=Ab (h 12 (by decide))
    have s:=Ab (h 13 (by decide))
    exact Yk.atRG JD Mn (by decide) ([]:List UInt8) (RG.of (hr.keep (hE.trans hC)) r) s (by omega) fun v h=>⟨Ext.refl _,h⟩
   ·refine Aa rfl fun σ w1 hC h=> ?_
    have t:(fun x w' =>PR (Lib.byteCells (l.getD (i) ([]:List UInt8))) x w') (σ 14) w1:=h 14 (by decide)
    exact Yk.loadPR t Ow rfl (by rw[RG.elem hr ([]:List UInt8) (by omega)];exact L9) ⟨Ext.refl _,rfl⟩
   ·refine Aa rfl fun σ w1 hC h=> ?_
    have u:=(Ab (h 3 (by decide))).trans j
    exact Yk.loadAll u (eb hC m) Ow rfl (by exact AM hid) ⟨Ext.refl _,rfl⟩
   ·refine Aa rfl fun σ w1 hC h=> ?_
    have y:=Ab (h 15 (by decide))
    have z:=Ab (h 16 (by decide))
    exact Yk.eqArr (l1:=(l.getD (i) ([]:List UInt8))) (l2:=id) Ow u5 Ls M4 y z (hel) (hid) ⟨Ext.refl _,(congrArg Value.bool (decide_eq_false (q1)))⟩
  intro ay bn ae he hf
  obtain⟨-,-,-,-,-,k17,-⟩:=hf
  obtain⟨c,g,j,f,T9,-⟩:=he.hold [(0,_),(1,_),(3,_),(5,_),(9,_)] ⟨c,g,j,f,(congrArg Value.bool (decide_eq_true (hlt))),trivial⟩ rfl
  clear he
  have hE:=hE.trans ae
  have m:=eb ae m
  have o:ay 17 = .bool (false):=k17
  clear k17
  refine tN (aw _ _ (Ar o (Ah (bN (tN (av _ _ (wt (oM rfl (oS rfl (Yk.bin (xv:=NI i) (yv:=NI 1) f rfl rfl (Ak _ _ _ (by omega)) (oA rfl (AH [(0,v),(1,AB id),(3,PQ n 0),(5,NI ((i)+(1))),(9, .bool (true)),(17, .bool (false))] ⟨c,g,j,rfl,T9,o,trivial⟩ fun az ⟨c,g,j,f,T9,o,_⟩=>(tN (And.intro ⟨i+1,c,g,j,f,hE,m,by omega,OX hlt hn q1,trivial⟩ ?_))))))))))))))
  show l.length-(intOf (az 5)).toNat<l.length-(intOf (ak 5)).toNat
  rw[f,q5]
  simp only[intOf,Int.toNat_natCast];omega
 refine sk fun bo bp=>(sk fun bq a0=>(wt (oM rfl (oM rfl (oS rfl (Yk.lenRG JD (RG.of (hr.keep hE) c) (oS rfl (Yk.eqI (a:=(i:Nat)) (b:=(l.length:Nat)) f rfl (AN _ _ _ _) (oZ (tN (a0 _ _ (Ar (vr (.bool (false)) (congrArg Value.bool (decide_eq_false (hlt)))) (AJ (Ag (Ag (Ap (tN (ai _ _ (sk fun br a1=>(wt (oA rfl (oZ ?_))))))))))))))))))))))
 refine tN (a1 _ _ (As (Ao (fn:=Tryd.f31) _ rfl [.bool (false)] (.bool (false)) rfl ⟨rfl,trivial⟩ ?_)))
 rw[show i=l.length by omega,List.take_length]at hn
 exact⟨by rw[decide_eq_false hn],hE⟩

open Go.RowKit
def BF(o:List Bs)(j:Nat)(y:Bs):List Bs:=o.take j++y :: o.drop j
theorem Nm(o:List Bs)(j:Nat)(y:Bs):(BF o j y).length=o.length+1:=by
  unfold BF
  rw[List.length_append,List.length_cons,List.length_take,List.length_drop]
  omega
theorem Nn(o:List Bs)(x:Bs):o++ [x]=BF o o.length x:=by unfold BF;simp
section
variable {o : List Bs} {j : Nat} {x y : Bs}
theorem OY(h:0<j)(hj:j≤o.length):(BF o j y).getD (j-1) []=o.getD (j-1) []:=by
  unfold BF
  rw[Ds _ _ _ (by rw[List.length_take];omega),List.getD_eq_getElem?_getD,List.getElem?_take,if_pos (by omega),←List.getD_eq_getElem?_getD]
theorem It(hj:j≤o.length):(BF o j y).set j x=BF o j x:=by
  unfold BF
  have hl:(o.take j).length=j:=by rw[List.length_take];omega
  rw[List.set_append_right _ _ (by omega),hl,Nat.sub_self,List.set_cons_zero]
theorem No(h:0<j)(hj:j≤o.length):BF o j (o.getD (j-1) [])=BF o (j-1) (o.getD (j-1) []):=by
  unfold BF
  obtain⟨i,rfl⟩:∃i,j=i+1:=⟨j-1,by omega⟩
  rw[Nat.add_sub_cancel,GT [] (show i<o.length by omega),List.take_succ_eq_append_getElem (by omega),List.getD_eq_getElem?_getD,List.getElem?_eq_getElem (show i<o.length by omega),List.append_assoc]
  rfl
theorem Kb:(BF o j x).Perm (x :: o):=by
  unfold BF
  have:=List.perm_middle (a:=x) (l₁:=o.take j) (l₂:=o.drop j)
  rwa [List.take_append_drop]at this
theorem Ll(ho:CI o)(hj:j≤o.length)(h1:∀k,j≤k→k<o.length→0<Lib.compareBytes (o.getD k []) x)(h2:j=0∨¬0<Lib.compareBytes (o.getD (j-1) []) x):CI (BF o j x):=by
  unfold BF CI at *
  have hg:∀k (hk:k<o.length),o.getD k []=o[k]:=fun k hk=>by rw[List.getD_eq_getElem?_getD,List.getElem?_eq_getElem hk];rfl
  have hsplit:=ho
  rw[←List.take_append_drop j o,List.pairwise_append]at hsplit
  obtain⟨ha,hb,hc⟩:=hsplit
  have hx:∀z∈o.drop j,Lib.compareBytes x z≤0:=fun z hz=>by
    obtain⟨k,hk,rfl⟩:=List.getElem_of_mem hz
    rw[List.length_drop]at hk
    have:=h1 (j+k) (by omega) (by omega)
    rw[hg _ (by omega)]at this
    rw[List.getElem_drop]
    have:=FK x (o[j+k]'(by omega))
    omega
  have hy:∀z∈o.take j,Lib.compareBytes z x≤0:=fun z hz=>by
    obtain⟨k,hk,rfl⟩:=List.getElem_of_mem hz
    rw[List.length_take]at hk
    rcases h2 with h2 | h2
    · omega
    · rw[hg _ (by omega)]at h2
      rw[List.getElem_take]
      by_cases e:k=j-1
      · subst e;omega
      · exact EC (List.pairwise_iff_getElem.1 ho k (j-1) (by omega) (by omega) (by omega)) (by omega)
  rw[List.pairwise_append]
  refine⟨ha,List.pairwise_cons.2 ⟨hx,hb⟩,fun a ha' b hb' => ?_⟩
  rcases List.mem_cons.1 hb' with rfl | hb'
  · exact hy a ha'
  · exact hc a ha' b hb'
end
open Go.RowKit
set_option maxRecDepth 100000
theorem Oe:∀(cs:Array Value),cs.size=32→∀w:World,(Instr.buildSlice 47 1 #[(0, .agg cs)]).run Tryd.prog w = .ok (.slice (some ⟨w.heap.size,0,none⟩) 1 1) (w.alloc (.cells cs 38))
 | ⟨[c0,c1,c2,c3,c4,c5,c6,c7,c8,c9,c10,c11,c12,c13,c14,c15,c16,c17,c18,c19,c20,c21,c22,c23,c24,c25,c26,c27,c28,c29,c30,c31]⟩,_,w=>NK c0 c1 c2 c3 c4 c5 c6 c7 c8 c9 c10 c11 c12 c13 c14 c15 c16 c17 c18 c19 c20 c21 c22 c23 c24 c25 c26 c27 c28 c29 c30 c31 w
theorem Kc:A2 Tryd.prog 74:=fun _ _=>by kernel_rfl
set_option maxHeartbeats 1600000
theorem KP(w:World)(v:Value)(l:List Bs)(hr:RG 32 Lib.byteCells w v l)(hll:l.length≤1099511627776):
  Calls Tryd.prog 61 #[v] w fun e w' =>∃v',e = .returned v' ∧OG w.heap.size 38 32 Lib.byteCells w' v' (Az l)∧Ext w w' :=by
 refine AA (args:= [v]) Tryd.func61 rfl 54 rfl (Nat.le_of_ble_eq_true rfl) ?_
 intro a9 hb
 have f:a9 0=(v:Value):=hb.get 0
 clear hb
 have hE:=Ext.refl w
 refine sk fun K1 ba=>(wt (oA rfl (oZ (tN (ba _ _ (sk fun K2 bb=>(wt (oA rfl (oZ ?_)))))))))
 have hrow0:OG w.heap.size 38 32 Lib.byteCells w (Value.slice none 0 0) ([]:List Bs):=OG.nil _ _ _ _ _
 refine tN (bb _ _ (sk fun K3 bc=>(sk fun K4 bd=>(wt (oA rfl (AH [(0,v),(2,(Value.slice none 0 0)),(3,(Value.slice none 0 0)),(4,NI 0)] ⟨f,rfl,rfl,rfl,trivial⟩ fun cj ⟨f,p,m,c,_⟩=>(tN (bd _ _ (Aj (AX (fun(ρ:Aq) (wz:World)=>∃i:Nat,∃o:List Bs,∃vo:Value,ρ 0=(v:Value)∧ρ 2=((Value.slice none 0 0):Value)∧ρ 4=(NI i:Value)∧ρ 3=(vo:Value)∧Ext w wz∧OG w.heap.size 38 32 (Lib.byteCells) wz vo (o)∧(i≤l.length)∧(CI o)∧(o.Perm (l.take i))∧True) (fun ρ _=>l.length-(intOf (ρ 4)).toNat) ⟨0,[],(Value.slice none 0 0),f,p,c,m,hE,B5 hrow0 (rfl),Nat.zero_le _,List.Pairwise.nil,(by simp),trivial⟩ ?_))))))))))
 clear hrow0
 clear hE
 rintro ax w7 ⟨i,o,vo,f,p,c,m,hE,hr_vo,hi,ha,hp,-⟩
 have q4:=c
 by_cases hlt:i<l.length
 ·obtain⟨x,hx⟩:∃x,x=l.getD i []:=⟨_,rfl⟩
  have xlen:x.length=32:=by rw[hx];exact A5 (RG.elem hr [] hlt)
  have hol:o.length=i:=by rw[hp.length_eq,List.length_take];omega
  refine sk fun K8 be=>(sk fun K9 bf=>(wt (oM rfl (oM rfl (oS rfl (Yk.lenRG JD (RG.of (hr.keep hE) f) (oS rfl (Yk.eqI (a:=(i:Nat)) (b:=(l.length:Nat)) c rfl (AN _ _ _ _) (oZ (tN (bf _ _ (AE (vr (.bool (true)) (congrArg Value.bool (decide_eq_true (hlt)))) (Ah (tN (be _ _ (sk fun cn ay=>(Aj (sk fun co bg=>(wt ?_)))))))))))))))))))
  refine oM rfl (oS rfl (Yk.lenRG JD (RG.of (RG.ofOwn hr_vo) m) (oA rfl (oZ (tN (bg _ _ (sk fun cp bh=>(wt (oM rfl (oM rfl (oM rfl ?_)))))))))))
  have az:(Lib.byteCells (l.getD (i) ([]:List UInt8))).length=32:=(RG.elem (hr.keep hE) ([]:List UInt8) (by omega))
  refine oS rfl (Yk.atRG JD Mn (by decide) ([]:List UInt8) (RG.of (hr.keep hE) f) c (by omega) fun bi aa=>(oS rfl (Yk.loadPR (PR.of aa (vr bi rfl)) Ow rfl (by rw[az];exact L9) (oS rfl (Yk.lit1G (a:=(l.getD (i) ([]:List UInt8))) (enc:=Lib.byteCells) (vr (AB (l.getD (i) ([]:List UInt8))) rfl) (by rw[Lib.byteCells_length];exact(A5 (az))) Oe fun bj bk a0 ab=> ?_)))))
  have hE:=hE.trans ab
  have hr_vo:=hr_vo.keep ab
  have aa:=PR.keep aa ab
  refine oS rfl (Yk.appendRG _ _ w.heap.size _ 32 JD pk6_ig38.choose_spec.1 pk6_ig38.choose_spec.2 JD (o) ([(l.getD (i) ([]:List UInt8))]) (OG.of hr_vo m) (RG.of a0 (vr bj rfl)) (fun _ _=>AF _) (by simp only[List.length_cons,List.length_nil];omega) (by simp only[List.length_cons,List.length_nil];omega) hE.size fun ac bm a1 ad=> ?_)
  have ad:Grew bk bm vo ac:= .eqv m ad
  have hE:=AC hE ad hr_vo.2 (Nat.le_refl _)
  clear hr_vo
  clear aa
  clear a0
  refine oA rfl (AH [(0,v),(2,(Value.slice none 0 0)),(3,ac),(4,NI i),(5,NI o.length),(9, .bool (true))] ⟨f,p,rfl,c,rfl,(congrArg Value.bool (decide_eq_true (hlt))),trivial⟩ fun cq ⟨f,p,m,c,n,q,_⟩=>(tN (bh _ _ (sk fun cr a2=>(Aj (AX (fun(ρ:Aq) (wz:World)=>∃j:Nat,∃y:Bs,∃vp:Value,ρ 0=(v:Value)∧ρ 2=((Value.slice none 0 0):Value)∧ρ 4=(NI i:Value)∧ρ 9=(.bool (true):Value)∧ρ 5=(NI j:Value)∧ρ 3=(vp:Value)∧Ext w wz∧OG w.heap.size 38 32 (Lib.byteCells) wz vp (BF o j y)∧(j≤o.length)∧(∀k,j≤k→k<o.length→0<Lib.compareBytes (o.getD k []) x)∧True) (fun ρ _=>(intOf (ρ 5)).toNat) ⟨o.length,x,ac,f,p,c,q,n,m,hE,B5 a1 ((by rw[←hx];exact Nn o x)),Nat.le_refl _,(fun k h1 h2=>by omega),trivial⟩ ?_))))))
  clear a1
  clear hE
  rintro bn cs ⟨j,y,vp,f,p,c,q,n,m,hE,hr_vp,hj,hgt,-⟩
  have q5:=n
  have hil:=Nm o j y
  obtain⟨g,hg⟩:=OG.block hr_vp (i:=0) (by omega)
  by_cases hj0:j=0
  ·have hstop:j=0∨¬0<Lib.compareBytes (o.getD (j-1) []) x:= .inl hj0
   refine sk fun ct cu=>(sk fun cv bo=> ?_)
   refine Be [Is (NI j),Is (.bool (false)),Is (.bool (false)),Is undef,Is undef,Is undef,Is undef,Is undef,Is undef,Is undef,Is undef,Is undef,Is undef,Is undef,Is (.bool (false))] (by kernel_rfl) [21,22,23,24,25,26,27,28,29,30,31,32,33,34,35] (by kernel_rfl) (by kernel_rfl) (DV (Ct trivial)) ?bp ?hQ1007
   case bp=>
    refine⟨?_,?_,?_,?_,?_,?_,?_,?_,?_,?_,?_,?_,?_,?_,?_,trivial⟩
    ·refine Aa rfl fun σ w1 hC h=> ?_
     have s:=(Ab (h 5 (by decide))).trans n
     exact Yk.move s ⟨Ext.refl _,rfl⟩
    ·refine Aa rfl fun σ w1 hC h=> ?_
     have t:=Ab (h 21 (by decide))
     exact Yk.eqI (a:=(j:Nat)) (b:=(0:Nat)) t rfl (Bm _ _ _ _) ⟨Ext.refl _,(congrArg Value.bool (decide_eq_false (by omega)))⟩
    ·refine Aa rfl fun σ w1 hC h=> ?_
     have u:=Ab (h 22 (by decide))
     exact Yk.move u ⟨Ext.refl _,rfl⟩
    ·refine AS 2 true 23 rfl rfl (fun x _ (h:x = .bool false)=>by rw[h];intro h;cases h) fun _=>rfl
    ·refine AS 2 true 23 rfl rfl (fun x _ (h:x = .bool false)=>by rw[h];intro h;cases h) fun _=>rfl
    ·refine AS 2 true 23 rfl rfl (fun x _ (h:x = .bool false)=>by rw[h];intro h;cases h) fun _=>rfl
    ·refine AS 2 true 23 rfl rfl (fun x _ (h:x = .bool false)=>by rw[h];intro h;cases h) fun _=>rfl
    ·refine AS 2 true 23 rfl rfl (fun x _ (h:x = .bool false)=>by rw[h];intro h;cases h) fun _=>rfl
    ·refine AS 2 true 23 rfl rfl (fun x _ (h:x = .bool false)=>by rw[h];intro h;cases h) fun _=>rfl
    ·refine AS 2 true 23 rfl rfl (fun x _ (h:x = .bool false)=>by rw[h];intro h;cases h) fun _=>rfl
    ·refine AS 2 true 23 rfl rfl (fun x _ (h:x = .bool false)=>by rw[h];intro h;cases h) fun _=>rfl
    ·refine AS 2 true 23 rfl rfl (fun x _ (h:x = .bool false)=>by rw[h];intro h;cases h) fun _=>rfl
    ·refine AS 2 true 23 rfl rfl (fun x _ (h:x = .bool false)=>by rw[h];intro h;cases h) fun _=>rfl
    ·refine AS 2 true 23 rfl rfl (fun x _ (h:x = .bool false)=>by rw[h];intro h;cases h) fun _=>rfl
    ·refine Aa rfl fun σ w1 hC h=> ?_
     have z:=Ab (h 23 (by decide))
     exact Yk.pickF z (vr (.bool (false)) rfl) ⟨Ext.refl _,rfl⟩
   intro bq cw a3 he hf
   obtain⟨-,-,-,-,-,-,-,-,-,-,-,-,-,-,k35,-⟩:=hf
   obtain⟨f,p,m,c,n,q,-⟩:=he.hold [(0,_),(2,_),(3,_),(4,_),(5,_),(9,_)] ⟨f,p,m,c,n,q,trivial⟩ rfl
   clear he
   have hE:=hE.trans a3
   have hr_vp:=hr_vp.keep a3
   have r:bq 35 = .bool (false):=k35
   clear k35
   refine tN (bo _ _ (Ar r (AJ (Ag (Ag (Ap (tN (a2 _ _ (wt (oM rfl (oM rfl (oM rfl (oM rfl ?_)))))))))))))
   have br:(Lib.byteCells (l.getD (i) ([]:List UInt8))).length=32:=(RG.elem (hr.keep hE) ([]:List UInt8) (by omega))
   refine oS rfl (Yk.atRG JD Mn (by decide) ([]:List UInt8) (RG.of (hr.keep hE) f) c (by omega) fun bs a4=>(oS rfl (Yk.loadPR (PR.of a4 (vr bs rfl)) Ow rfl (by rw[br];exact L9) (oS rfl (Yk.atOwnK (k:=32) (i:=j) JD Mn m hr_vp.2 hg n (by omega) (oS rfl (Yk.storeOG (i:=j) (a:=(l.getD (i) ([]:List UInt8))) ([]:List UInt8) (vr (.pointer (some ⟨g,j*32,none⟩)) rfl) (vr (AB (l.getD (i) ([]:List UInt8))) rfl) hr_vp hg (by omega) (by rw[Lib.byteCells_length,←hx];exact xlen) (AF _) L9 fun cx ae bt=> ?_)))))))
   have hE:=AC hE bt hr_vp.2 (Nat.le_refl _)
   clear hr_vp
   clear a4
   have ae:=B5 (l' :=BF o j x) ae (by rw[←hx];exact It hj)
   refine oZ (bN (tN (ay _ _ (wt (oM rfl (oS rfl (Yk.bin (xv:=NI i) (yv:=NI 1) c rfl rfl (Ak _ _ _ (by omega)) (oA rfl (AH [(0,v),(2,(Value.slice none 0 0)),(3,vp),(4,NI ((i)+(1))),(5,NI j),(9, .bool (true)),(35, .bool (false))] ⟨f,p,m,rfl,n,q,r,trivial⟩ fun bu ⟨f,p,m,c,n,q,r,_⟩=> ?_)))))))))
   refine tN (And.intro ⟨i+1,BF o j x,vp,f,p,c,m,hE,B5 ae (rfl),by omega,Ll ha hj hgt hstop,(by rw[List.take_succ_eq_append_getElem hlt];have h1:=Kb (o:=o) (j:=j) (x:=x);rw[hx,List.getD_eq_getElem?_getD,List.getElem?_eq_getElem hlt]at h1 ⊢;exact(h1.trans (hp.cons _)).trans (List.perm_append_comm (l₁:= [_]))),trivial⟩ ?_)
   show l.length-(intOf (bu 4)).toNat<l.length-(intOf (ax 4)).toNat
   rw[c,q4]
   simp only[intOf,Int.toNat_natCast];omega
  have hjp:0<j:=by omega
  have hge:=OY (y:=y) hjp hj
  have ylen:(o.getD (j-1) []).length=32:=by rw[←hge];exact A5 (hr_vp.1 _ (A6 [] (by omega)))
  by_cases hq:0<Lib.compareBytes (o.getD (j-1) []) x
  ·refine sk fun cy bv=>(sk fun cz bw=> ?_)
   refine Be [Is (NI j),Is (.bool (true)),Is (.bool (true)),Is (vp),Is (NI j),Is (NI ((j)-(1))),fun x w' =>PR (Lib.byteCells ((BF o j y).getD ((j)-(1)) ([]:List UInt8))) x w',Is (AB ((BF o j y).getD ((j)-(1)) ([]:List UInt8))),Is (v),Is (NI i),fun x w' =>PR (Lib.byteCells (l.getD (i) ([]:List UInt8))) x w',Is (AB (l.getD (i) ([]:List UInt8))),Is (.int .i64 (Lib.compareBytes (((BF o j y).getD ((j)-(1)) ([]:List UInt8))) ((l.getD (i) ([]:List UInt8))):Int)),Is (.bool (true)),Is (.bool (true))] (by kernel_rfl) [21,22,23,24,25,26,27,28,29,30,31,32,33,34,35] (by kernel_rfl) (by kernel_rfl) (Gd ⟨(fun _ _ _ h k=>PR.keep h k),(DV ⟨(fun _ _ _ h k=>PR.keep h k),(Gl trivial)⟩)⟩) ?bx ?hQ2007
   case bx=>
    refine⟨?_,?_,?_,?_,?_,?_,?_,?_,?_,?_,?_,?_,?_,?_,?_,trivial⟩
    ·refine Aa rfl fun σ w1 hC h=> ?_
     have s:=(Ab (h 5 (by decide))).trans n
     exact Yk.move s ⟨Ext.refl _,rfl⟩
    ·refine Aa rfl fun σ w1 hC h=> ?_
     have t:=Ab (h 21 (by decide))
     exact Yk.eqI (a:=(j:Nat)) (b:=(0:Nat)) t rfl (Bm _ _ _ _) ⟨Ext.refl _,(congrArg Value.bool (decide_eq_true (hjp)))⟩
    ·refine Aa rfl fun σ w1 hC h=> ?_
     have u:=Ab (h 22 (by decide))
     exact Yk.move u ⟨Ext.refl _,rfl⟩
    ·refine Ay 2 true 23 rfl rfl (fun _ _ h=>h) fun σ w1 hC h=> ?_
     have e3:=(Ab (h 3 (by decide))).trans m
     exact Yk.move e3 ⟨Ext.refl _,rfl⟩
    ·refine Ay 2 true 23 rfl rfl (fun _ _ h=>h) fun σ w1 hC h=> ?_
     have s:=(Ab (h 5 (by decide))).trans n
     exact Yk.move s ⟨Ext.refl _,rfl⟩
    ·refine Ay 2 true 23 rfl rfl (fun _ _ h=>h) fun σ w1 hC h=> ?_
     have ag:=Ab (h 25 (by decide))
     exact Yk.bin (xv:=NI j) (yv:=NI 1) ag rfl rfl (Bj _ _ _ (by omega) (by omega)) ⟨Ext.refl _,rfl⟩
    ·refine Ay 2 true 23 rfl rfl (fun _ _ h=>h) fun σ w1 hC h=> ?_
     have ah:=Ab (h 24 (by decide))
     have ai:=Ab (h 26 (by decide))
     exact Yk.atRG JD Mn (by decide) ([]:List UInt8) (RG.of (RG.ofOwn (hr_vp.keep hC)) ah) ai (by omega) fun v h=>⟨Ext.refl _,h⟩
    ·refine Ay 2 true 23 rfl rfl (fun _ _ h=>h) fun σ w1 hC h=> ?_
     have aj:(fun x w' =>PR (Lib.byteCells ((BF o j y).getD ((j)-(1)) ([]:List UInt8))) x w') (σ 27) w1:=h 27 (by decide)
     exact Yk.loadPR aj Ow rfl (by rw[RG.elem (RG.ofOwn hr_vp) ([]:List UInt8) (by omega)];exact L9) ⟨Ext.refl _,rfl⟩
    ·refine Ay 2 true 23 rfl rfl (fun _ _ h=>h) fun σ w1 hC h=> ?_
     have e0:=(Ab (h 0 (by decide))).trans f
     exact Yk.move e0 ⟨Ext.refl _,rfl⟩
    ·refine Ay 2 true 23 rfl rfl (fun _ _ h=>h) fun σ w1 hC h=> ?_
     have e4:=(Ab (h 4 (by decide))).trans c
     exact Yk.move e4 ⟨Ext.refl _,rfl⟩
    ·refine Ay 2 true 23 rfl rfl (fun _ _ h=>h) fun σ w1 hC h=> ?_
     have am:=Ab (h 29 (by decide))
     have an:=Ab (h 30 (by decide))
     exact Yk.atRG JD Mn (by decide) ([]:List UInt8) (RG.of (hr.keep (hE.trans hC)) am) an (by omega) fun v h=>⟨Ext.refl _,h⟩
    ·refine Ay 2 true 23 rfl rfl (fun _ _ h=>h) fun σ w1 hC h=> ?_
     have ao:(fun x w' =>PR (Lib.byteCells (l.getD (i) ([]:List UInt8))) x w') (σ 31) w1:=h 31 (by decide)
     exact Yk.loadPR ao Ow rfl (by rw[RG.elem hr ([]:List UInt8) (by omega)];exact L9) ⟨Ext.refl _,rfl⟩
    ·refine Ay 2 true 23 rfl rfl (fun _ _ h=>h) fun σ w1 hC h=> ?_
     have ap:=Ab (h 28 (by decide))
     have aq:=Ab (h 32 (by decide))
     refine Yk.callA2 Kc ap aq ((FS _ (((BF o j y).getD ((j)-(1)) ([]:List UInt8))) ((l.getD (i) ([]:List UInt8))) (by rw[hge];exact ylen) (by rw[←hx];exact xlen)).mono ?_)
     rintro e w2 ⟨rfl,hx⟩
     exact⟨_,rfl,hx,rfl⟩
    ·refine Ay 2 true 23 rfl rfl (fun _ _ h=>h) fun σ w1 hC h=> ?_
     have ar:=Ab (h 33 (by decide))
     exact Yk.eqI ar (vr (NI 0) rfl) (Ot _ .i64 (Lib.compareBytes (((BF o j y).getD ((j)-(1)) ([]:List UInt8))) ((l.getD (i) ([]:List UInt8))):Int) ((0:Nat):Int)) ⟨Ext.refl _,(congrArg Value.bool (decide_eq_true (by rw[hge,←hx];exact hq)))⟩
    ·refine Aa rfl fun σ w1 hC h=> ?_
     have z:=Ab (h 23 (by decide))
     have au:=Ab (h 34 (by decide))
     exact Yk.pickT z au ⟨Ext.refl _,rfl⟩
   intro b0 c0 a5 he hf
   obtain⟨-,-,-,-,-,-,-,-,-,-,-,-,-,-,k35,-⟩:=hf
   obtain⟨f,p,m,c,n,q,-⟩:=he.hold [(0,_),(2,_),(3,_),(4,_),(5,_),(9,_)] ⟨f,p,m,c,n,q,trivial⟩ rfl
   clear he
   have hE:=hE.trans a5
   have hr_vp:=hr_vp.keep a5
   have r:b0 35 = .bool (true):=k35
   clear k35
   refine tN (bw _ _ (AE r (Ah (tN (bv _ _ (Aj (sk fun c1 b1=>(wt (oM rfl (oM rfl (oM rfl (oM rfl (oS rfl (Yk.bin (xv:=NI j) (yv:=NI 1) n rfl rfl (Bj _ _ _ (by omega) (by omega)) ?_))))))))))))))
   have b2:(Lib.byteCells ((BF o j y).getD ((j)-(1)) ([]:List UInt8))).length=32:=(RG.elem (RG.ofOwn hr_vp) ([]:List UInt8) (by omega))
   refine oS rfl (Yk.atRG JD Mn (by decide) ([]:List UInt8) (RG.of (RG.ofOwn hr_vp) m) (vr (NI ((j)-(1))) rfl) (by omega) fun b3 a6=>(oS rfl (Yk.loadPR (PR.of a6 (vr b3 rfl)) Ow rfl (by rw[b2];exact L9) (oS rfl (Yk.atOwnK (k:=32) (i:=j) JD Mn m hr_vp.2 hg n (by omega) (oS rfl (Yk.storeOG (i:=j) (a:=((BF o j y).getD ((j)-(1)) ([]:List UInt8))) ([]:List UInt8) (vr (.pointer (some ⟨g,j*32,none⟩)) rfl) (vr (AB ((BF o j y).getD ((j)-(1)) ([]:List UInt8))) rfl) hr_vp hg (by omega) (by rw[Lib.byteCells_length,hge];exact ylen) (AF _) L9 fun c2 av b4=> ?_)))))))
   have hE:=AC hE b4 hr_vp.2 (Nat.le_refl _)
   clear hr_vp
   clear a6
   have av:=B5 (l' :=BF o (j-1) (o.getD (j-1) [])) av (by rw[hge,It hj];exact No hjp hj)
   refine oZ (tN (b1 _ _ (wt (oM rfl (oS rfl (Yk.bin (xv:=NI j) (yv:=NI 1) n rfl rfl (Bj _ _ _ (by omega) (by omega)) (oA rfl (AH [(0,v),(2,(Value.slice none 0 0)),(3,vp),(4,NI i),(5,NI ((j)-(1))),(9, .bool (true)),(35, .bool (true))] ⟨f,p,m,c,rfl,q,r,trivial⟩ fun b5 ⟨f,p,m,c,n,q,r,_⟩=>(bN (tN (And.intro ⟨j-1,o.getD (j-1) [],vp,f,p,c,q,n,m,hE,B5 av (rfl),by omega,(fun k h1 h2=>by by_cases e:k=j-1;rw[e];exact hq;exact hgt k (by omega) h2),trivial⟩ ?_)))))))))))
   show(intOf (b5 5)).toNat<(intOf (bn 5)).toNat
   rw[n,q5]
   simp only[intOf,Int.toNat_natCast];omega
  have hstop:j=0∨¬0<Lib.compareBytes (o.getD (j-1) []) x:= .inr hq
  refine sk fun c3 c4=>(sk fun c5 b6=> ?_)
  refine Be [Is (NI j),Is (.bool (true)),Is (.bool (true)),Is (vp),Is (NI j),Is (NI ((j)-(1))),fun x w' =>PR (Lib.byteCells ((BF o j y).getD ((j)-(1)) ([]:List UInt8))) x w',Is (AB ((BF o j y).getD ((j)-(1)) ([]:List UInt8))),Is (v),Is (NI i),fun x w' =>PR (Lib.byteCells (l.getD (i) ([]:List UInt8))) x w',Is (AB (l.getD (i) ([]:List UInt8))),Is (.int .i64 (Lib.compareBytes (((BF o j y).getD ((j)-(1)) ([]:List UInt8))) ((l.getD (i) ([]:List UInt8))):Int)),Is (.bool (false)),Is (.bool (false))] (by kernel_rfl) [21,22,23,24,25,26,27,28,29,30,31,32,33,34,35] (by kernel_rfl) (by kernel_rfl) (Gd ⟨(fun _ _ _ h k=>PR.keep h k),(DV ⟨(fun _ _ _ h k=>PR.keep h k),(Gl trivial)⟩)⟩) ?b7 ?hQ3007
  case b7=>
   refine⟨?_,?_,?_,?_,?_,?_,?_,?_,?_,?_,?_,?_,?_,?_,?_,trivial⟩
   ·refine Aa rfl fun σ w1 hC h=> ?_
    have s:=(Ab (h 5 (by decide))).trans n
    exact Yk.move s ⟨Ext.refl _,rfl⟩
   ·refine Aa rfl fun σ w1 hC h=> ?_
    have t:=Ab (h 21 (by decide))
    exact Yk.eqI (a:=(j:Nat)) (b:=(0:Nat)) t rfl (Bm _ _ _ _) ⟨Ext.refl _,(congrArg Value.bool (decide_eq_true (hjp)))⟩
   ·refine Aa rfl fun σ w1 hC h=> ?_
    have u:=Ab (h 22 (by decide))
    exact Yk.move u ⟨Ext.refl _,rfl⟩
   ·refine Ay 2 true 23 rfl rfl (fun _ _ h=>h) fun σ w1 hC h=> ?_
    have e3:=(Ab (h 3 (by decide))).trans m
    exact Yk.move e3 ⟨Ext.refl _,rfl⟩
   ·refine Ay 2 true 23 rfl rfl (fun _ _ h=>h) fun σ w1 hC h=> ?_
    have s:=(Ab (h 5 (by decide))).trans n
    exact Yk.move s ⟨Ext.refl _,rfl⟩
   ·refine Ay 2 true 23 rfl rfl (fun _ _ h=>h) fun σ w1 hC h=> ?_
    have ag:=Ab (h 25 (by decide))
    exact Yk.bin (xv:=NI j) (yv:=NI 1) ag rfl rfl (Bj _ _ _ (by omega) (by omega)) ⟨Ext.refl _,rfl⟩
   ·refine Ay 2 true 23 rfl rfl (fun _ _ h=>h) fun σ w1 hC h=> ?_
    have ah:=Ab (h 24 (by decide))
    have ai:=Ab (h 26 (by decide))
    exact Yk.atRG JD Mn (by decide) ([]:List UInt8) (RG.of (RG.ofOwn (hr_vp.keep hC)) ah) ai (by omega) fun v h=>⟨Ext.refl _,h⟩
   ·refine Ay 2 true 23 rfl rfl (fun _ _ h=>h) fun σ w1 hC h=> ?_
    have aj:(fun x w' =>PR (Lib.byteCells ((BF o j y).getD ((j)-(1)) ([]:List UInt8))) x w') (σ 27) w1:=h 27 (by decide)
    exact Yk.loadPR aj Ow rfl (by rw[RG.elem (RG.ofOwn hr_vp) ([]:List UInt8) (by omega)];exact L9) ⟨Ext.refl _,rfl⟩
   ·refine Ay 2 true 23 rfl rfl (fun _ _ h=>h) fun σ w1 hC h=> ?_
    have e0:=(Ab (h 0 (by decide))).trans f
    exact Yk.move e0 ⟨Ext.refl _,rfl⟩
   ·refine Ay 2 true 23 rfl rfl (fun _ _ h=>h) fun σ w1 hC h=> ?_
    have e4:=(Ab (h 4 (by decide))).trans c
    exact Yk.move e4 ⟨Ext.refl _,rfl⟩
   ·refine Ay 2 true 23 rfl rfl (fun _ _ h=>h) fun σ w1 hC h=> ?_
    have am:=Ab (h 29 (by decide))
    have an:=Ab (h 30 (by decide))
    exact Yk.atRG JD Mn (by decide) ([]:List UInt8) (RG.of (hr.keep (hE.trans hC)) am) an (by omega) fun v h=>⟨Ext.refl _,h⟩
   ·refine Ay 2 true 23 rfl rfl (fun _ _ h=>h) fun σ w1 hC h=> ?_
    have ao:(fun x w' =>PR (Lib.byteCells (l.getD (i) ([]:List UInt8))) x w') (σ 31) w1:=h 31 (by decide)
    exact Yk.loadPR ao Ow rfl (by rw[RG.elem hr ([]:List UInt8) (by omega)];exact L9) ⟨Ext.refl _,rfl⟩
   ·refine Ay 2 true 23 rfl rfl (fun _ _ h=>h) fun σ w1 hC h=> ?_
    have ap:=Ab (h 28 (by decide))
    have aq:=Ab (h 32 (by decide))
    refine Yk.callA2 Kc ap aq ((FS _ (((BF o j y).getD ((j)-(1)) ([]:List UInt8))) ((l.getD (i) ([]:List UInt8))) (by rw[hge];exact ylen) (by rw[←hx];exact xlen)).mono ?_)
    rintro e w2 ⟨rfl,hx⟩
    exact⟨_,rfl,hx,rfl⟩
   ·refine Ay 2 true 23 rfl rfl (fun _ _ h=>h) fun σ w1 hC h=> ?_
    have ar:=Ab (h 33 (by decide))
    exact Yk.eqI ar (vr (NI 0) rfl) (Ot _ .i64 (Lib.compareBytes (((BF o j y).getD ((j)-(1)) ([]:List UInt8))) ((l.getD (i) ([]:List UInt8))):Int) ((0:Nat):Int)) ⟨Ext.refl _,(congrArg Value.bool (decide_eq_false (by rw[hge,←hx];exact hq)))⟩
   ·refine Aa rfl fun σ w1 hC h=> ?_
    have z:=Ab (h 23 (by decide))
    have au:=Ab (h 34 (by decide))
    exact Yk.pickT z au ⟨Ext.refl _,rfl⟩
  intro b8 c6 a7 he hf
  obtain⟨-,-,-,-,-,-,-,-,-,-,-,-,-,-,k35,-⟩:=hf
  obtain⟨f,p,m,c,n,q,-⟩:=he.hold [(0,_),(2,_),(3,_),(4,_),(5,_),(9,_)] ⟨f,p,m,c,n,q,trivial⟩ rfl
  clear he
  have hE:=hE.trans a7
  have hr_vp:=hr_vp.keep a7
  have r:b8 35 = .bool (false):=k35
  clear k35
  refine tN (b6 _ _ (Ar r (AJ (Ag (Ag (Ap (tN (a2 _ _ (wt (oM rfl (oM rfl (oM rfl (oM rfl ?_)))))))))))))
  have b9:(Lib.byteCells (l.getD (i) ([]:List UInt8))).length=32:=(RG.elem (hr.keep hE) ([]:List UInt8) (by omega))
  refine oS rfl (Yk.atRG JD Mn (by decide) ([]:List UInt8) (RG.of (hr.keep hE) f) c (by omega) fun ca a8=>(oS rfl (Yk.loadPR (PR.of a8 (vr ca rfl)) Ow rfl (by rw[b9];exact L9) (oS rfl (Yk.atOwnK (k:=32) (i:=j) JD Mn m hr_vp.2 hg n (by omega) (oS rfl (Yk.storeOG (i:=j) (a:=(l.getD (i) ([]:List UInt8))) ([]:List UInt8) (vr (.pointer (some ⟨g,j*32,none⟩)) rfl) (vr (AB (l.getD (i) ([]:List UInt8))) rfl) hr_vp hg (by omega) (by rw[Lib.byteCells_length,←hx];exact xlen) (AF _) L9 fun c7 aw cb=> ?_)))))))
  have hE:=AC hE cb hr_vp.2 (Nat.le_refl _)
  clear hr_vp
  clear a8
  have aw:=B5 (l' :=BF o j x) aw (by rw[←hx];exact It hj)
  refine oZ (bN (tN (ay _ _ (wt (oM rfl (oS rfl (Yk.bin (xv:=NI i) (yv:=NI 1) c rfl rfl (Ak _ _ _ (by omega)) (oA rfl (AH [(0,v),(2,(Value.slice none 0 0)),(3,vp),(4,NI ((i)+(1))),(5,NI j),(9, .bool (true)),(35, .bool (false))] ⟨f,p,m,rfl,n,q,r,trivial⟩ fun cc ⟨f,p,m,c,n,q,r,_⟩=> ?_)))))))))
  refine tN (And.intro ⟨i+1,BF o j x,vp,f,p,c,m,hE,B5 aw (rfl),by omega,Ll ha hj hgt hstop,(by rw[List.take_succ_eq_append_getElem hlt];have h1:=Kb (o:=o) (j:=j) (x:=x);rw[hx,List.getD_eq_getElem?_getD,List.getElem?_eq_getElem hlt]at h1 ⊢;exact(h1.trans (hp.cons _)).trans (List.perm_append_comm (l₁:= [_]))),trivial⟩ ?_)
  show l.length-(intOf (cc 4)).toNat<l.length-(intOf (ax 4)).toNat
  rw[c,q4]
  simp only[intOf,Int.toNat_natCast];omega
 refine sk fun c8 c9=>(sk fun da cd=>(wt (oM rfl (oM rfl (oS rfl (Yk.lenRG JD (RG.of (hr.keep hE) f) (oS rfl (Yk.eqI (a:=(i:Nat)) (b:=(l.length:Nat)) c rfl (AN _ _ _ _) (oZ (tN (cd _ _ (Ar (vr (.bool (false)) (congrArg Value.bool (decide_eq_false (hlt)))) (AJ (Ag (Ag (Ap (tN (bc _ _ (sk fun db ce=>(wt (oM rfl (oA rfl ?_))))))))))))))))))))))
 refine oZ (tN (ce _ _ (As (Ao (fn:=Tryd.f61) _ rfl [vo] (vo) rfl ⟨m,trivial⟩ ?_))))
 rw[show i=l.length by omega,List.take_length]at hp
 exact⟨_,rfl,B5 hr_vo (IB ha hp),hE⟩
open Go.RowKit
abbrev Kd(n:Nat):List Value:= [NI n]
section
variable {P : Program} {K : Value → World → Prop} {ρ : Aq} {w : World} {d : Option Tmp} {ty : TypeId} {pos : String} {af : Array Edge} {gd : Option (Nat × Bool)}
theorem Yk.lit1S{α:Type}{enc:α→List Value}{t e:TypeId}{x:Operand}{a:α}{u:Value}(hx:Ad ρ x=u)(hu:enc a= [u]) 
    (hr:∀w:World,(Instr.buildSlice t 1 #[(0,u)]).run P w = .ok (.slice (some ⟨w.heap.size,0,none⟩) 1 1) (w.alloc (.cells #[u] e)))
    (hk:∀v w',RG 1 enc w' v [a]→Ext w w' →K v w'):Yk P K ((execOp (Ad ρ) ⟨d, .buildSlice t 1 #[(0,x)],ty,pos,af,gd⟩).run P w):=by
  have hE:Ext w (w.alloc (.cells #[u] e)):=(Below.refl _ _).alloc (Nat.le_refl _) _
  have hb:(w.alloc (.cells #[u] e)).heap[w.heap.size]? =some (.cells ([u]:List Value).toArray e (0,0)):=heap_alloc_new w _
  refine Yk.value (v:= .slice (some ⟨w.heap.size,0,none⟩) 1 1) (w' :=w.alloc (.cells #[u] e)) ?_ (hk _ _ ⟨fun y hy=>by rw[List.mem_singleton.1 hy,hu];rfl,by simp[hu],_,1,rfl,Nat.le_refl _,by simp[maxLen],(fun h=>by cases h),fun q hq j z hz=> ?_⟩ hE)
  · unfold execOp
    simp only[List.map_toArray,List.map_cons,List.map_nil,hx,Sem.run_bind,hr,Result.andThen_ok,Sem.run_pure]
  · cases hq
    rw[Addr.add_lit,Nat.zero_add]
    exact Ai hb (by simpa [hu] using hz)
theorem Yk.atArrPR{t e:TypeId}{n:Nat}(ht:P.underlying t=some (.array n e))(he:∀w' :World,(sizeOf e).run P w' = .ok 1 w'){x y:Operand}{l:List UInt8}{i:Nat}{kd:IntKind} 
    (h:PR (Lib.byteCells l) (Ad ρ x) w) (hy:Ad ρ y = .int kd (i:Int)) (hi:i<n) (hl:i<l.length) (hk:∀v,PCell (B8 (l.getD i 0)) v w→K v w):Yk P K ((execOp (Ad ρ) ⟨d, .indexAddr t x y,ty,pos,af,gd⟩).run P w):=by
  obtain⟨b,o,hx,hr⟩:=h
  exact Yk.atArr ht he hx hy hi (hk _ ⟨_,rfl,hr i _ (CE hl)⟩)
theorem Yk.slicePR{t e:TypeId}{n:Nat}(ht:P.underlying t=some (.array n e))(he:∀w' :World,(sizeOf e).run P w' = .ok 1 w'){x:Operand}{l:List UInt8} 
    (h:PR (Lib.byteCells l) (Ad ρ x) w) (hl:l.length=n) (hn:n≤1048576) (hk:∀v,RB w v l→K v w):Yk P K ((execOp (Ad ρ) ⟨d, .slice t x none none none,ty,pos,af,gd⟩).run P w):=by
  obtain⟨b,o,hx,hr⟩:=h
  subst hl
  refine Yk.sliceArr ht he hx (hk _ ⟨by rw[Lib.byteCells_length,Nat.mul_one],_,_,rfl,Nat.le_refl _,by unfold maxLen;omega,(fun h=>by cases h),fun a ha j u hu=> ?_⟩)
  cases ha
  rw[Addr.add_lit]
  exact hr j u hu
end
theorem L3(ids:List Bs)(c k:Nat)(h:k<ids.length):((ids.take (k+1)).countP fun id=>decide (Dj id≤c))=((ids.take k).countP fun id=>decide (Dj id≤c))+if Dj (ids.getD k [])≤c then 1 else 0:=by
  rw[List.take_succ_eq_append_getElem h,List.countP_append,List.countP_singleton]
  rw[List.getD_eq_getElem?_getD,List.getElem?_eq_getElem h]
  simp only[decide_eq_true_eq]
  rfl
theorem Np(ids:List Bs)(c:Nat)(h:c<256):((AY ids).take (c+1)).flatMap AI=((AY ids).take c).flatMap AI++AI (ids.countP fun id=>decide (Dj id≤c)):=by
  rw[List.take_succ_eq_append_getElem (by rw[BC];exact h),List.flatMap_append,List.flatMap_singleton]
  congr 2
  have:=E1 ids c h
  rw[List.getD_eq_getElem?_getD,List.getElem?_eq_getElem (by rw[BC];exact h)]at this
  exact this
def Iu(ids:List Bs)(places:List Nat)(id:Bs):Nat:=((ids.zip places).lookup id).getD 0
def Ed(ids:List Bs)(places:List Nat)(id:Bs):Bs:=id++AI (Iu ids places id)
def DU(ids:List Bs)(places:List Nat)(id:Bs)(k:Nat):Bs:=id++if id∈ids.take k then AI (Iu ids places id)else []
theorem Nq(ids:List Bs)(places:List Nat)(id:Bs):DU ids places id 0=id:=by unfold DU;simp
theorem Of{ids:List Bs}{places:List Nat}{id:Bs}{k:Nat}(hn:ids.Nodup)(hl:ids.length=places.length)(hk:k<ids.length)(h:ids.getD k []=id):DU ids places id (k+1)=DU ids places id k++AI (places.getD k 0):=by
  have hg:ids[k]=id:=by rw[List.getD_eq_getElem?_getD,List.getElem?_eq_getElem hk]at h;exact h
  have h1:id∉ids.take k:=fun hm=>by
    obtain⟨j,hj,e⟩:=List.getElem_of_mem hm
    rw[List.length_take]at hj
    rw[List.getElem_take]at e
    exact List.pairwise_iff_getElem.1 hn j k (by omega) hk (by omega) (e.trans hg.symm)
  have h2:id∈ids.take (k+1):=by rw[List.take_succ_eq_append_getElem hk,hg];simp
  unfold DU
  rw[if_neg h1,if_pos h2,List.append_nil]
  congr 2
  unfold Iu
  rw[Dw ids places k id (places.getD k 0) hn (by rw[List.getElem?_eq_getElem hk,hg]) (Dl 0 (by omega))]
  rfl
theorem Nr{ids:List Bs}{places:List Nat}{id:Bs}{k:Nat}(hk:k<ids.length)(h:ids.getD k []≠id):DU ids places id (k+1)=DU ids places id k:=by
  have hg:ids[k]≠id:=by rw[List.getD_eq_getElem?_getD,List.getElem?_eq_getElem hk]at h;exact h
  unfold DU
  have:(id∈ids.take (k+1))↔id∈ids.take k:=by
    rw[List.take_succ_eq_append_getElem hk]
    simp only[List.mem_append,List.mem_singleton]
    exact⟨fun q=>q.resolve_right (fun e=>hg e.symm), .inl⟩
  by_cases q:id∈ids.take k
  · rw[if_pos q,if_pos (this.2 q)]
  · rw[if_neg q,if_neg (fun e=>q (this.1 e))]
theorem Og{ids:List Bs}{places:List Nat}{id:Bs}{k:Nat}(h:id∈ids)(hk:ids.length≤k):DU ids places id k=Ed ids places id:=by
  unfold DU Ed
  rw[List.take_of_length_le hk,if_pos h]
theorem Oh(ids:List Bs)(places:List Nat){id:Bs}(k:Nat)(h:id.length=32):(DU ids places id k).length≤36:=by
  unfold DU
  rw[List.length_append,h]
  split
  · rw[C7];omega
  · simp
theorem EI{α:Type}(k:Nat){g:α→Bs}:∀ {l:List α} (_:∀x∈l,(g x).length=k),(l.flatMap g).length=k*l.length
  | [],_=>by simp
  | a :: l,h=>by rw[List.flatMap_cons,List.length_append,h a (by simp),EI k (fun x hx=>h x (by simp[hx])),List.length_cons,Nat.mul_succ,Nat.add_comm]
theorem Ke(g:Bs→Bs){l:List Bs}{i:Nat}(h:i<l.length):(l.take (i+1)).flatMap g=(l.take i).flatMap g++g (l.getD i []):=by
  rw[List.take_succ_eq_append_getElem h,List.flatMap_append,List.flatMap_singleton,List.getD_eq_getElem?_getD,List.getElem?_eq_getElem h]
  rfl
def OZ(ids:List Bs)(places:List Nat)(at_:Nat):Bs:=(AY ids).flatMap AI++(Az ids).flatMap (Ed ids places)++AI at_
theorem Kf{ids:List Bs}{places:List Nat}{id:Bs}(h:id.length=32):(Ed ids places id).length=36:=by unfold Ed;rw[List.length_append,h,C7]
open Go.RowKit
set_option maxRecDepth 100000
theorem Hz:A2 Tryd.prog 60:=fun _ _=>by kernel_rfl
theorem Oi:A2 Tryd.prog 61:=fun _ _=>by kernel_rfl
set_option maxHeartbeats 1600000
theorem GU(w:World)(v:Value)(ps:List Pt)(hr:RG 2 partC w v ps)(hps:PartsOk w ps)(i:Nat)(hi:i<ps.length)(hi60:i≤60)(D:Nat→Nat)(hD:∀j,j≤i→(ps.getD j dPt).base<j∧D j=if(ps.getD j dPt).base<0 then 0 else D (ps.getD j dPt).base.toNat+1):
  Calls Tryd.prog 32 #[v,NI i] w fun e w' =>e = .returned (NI (D i))∧Ext w w' :=by
 refine AA (args:= [v,NI i]) Tryd.func32 rfl 20 rfl (Nat.le_of_ble_eq_true rfl) ?_
 intro h hb
 have b:h 0=(v:Value):=hb.get 0
 have a:h 1=(NI i:Value):=hb.get 1
 clear hb
 have hE:=Ext.refl w
 refine sk fun K1 r=>(wt (oA rfl (oZ (tN (r _ _ (sk fun K2 s=>(wt (oA rfl (AH [(0,v),(1,NI i),(4,NI 0),(5,NI 0)] ⟨b,a,rfl,rfl,trivial⟩ fun al ⟨b,a,g,f,_⟩=>(tN (s _ _ (sk fun K4 t=>(Aj (AX (fun(ρ:Aq) (wz:World)=>∃c:Nat,∃n:Nat,ρ 0=(v:Value)∧ρ 4=(NI 0:Value)∧ρ 1=(NI c:Value)∧ρ 5=(NI n:Value)∧Ext w wz∧(c≤i)∧(n+D c=D i)∧(n+c≤i)∧True) (fun ρ _=>(intOf (ρ 1)).toNat) ⟨i,0,b,g,a,f,hE,Nat.le_refl _,by omega,by omega,trivial⟩ ?_))))))))))))))
 clear hE
 rintro u w6 ⟨c,n,b,g,a,f,hE,hc,hn,hnc,-⟩
 have q1:=a
 obtain⟨hlt,hDc⟩:=hD c hc
 have hpb: -9223372036854775808≤(ps.getD (c) dPt).base∧(ps.getD (c) dPt).base≤9223372036854775807:=(hps _ (A6 dPt (by omega))).2
 by_cases hb:(ps.getD (c) dPt).base<0
 ·rw[if_pos hb]at hDc
  refine sk fun K7 ap=>(sk fun K8 x=>(wt (oM rfl (oM rfl ?_))))
  have ar:(partC (ps.getD (c) dPt)).length=2:=(RG.elem (hr.keep hE) dPt (by omega))
  refine oS rfl (Yk.atRG CD ER (by decide) dPt (RG.of (hr.keep hE) b) a (by omega) fun y k=>(oS rfl (Yk.fieldPR (n:=1) KO (PR.of k (vr y rfl)) fun z l=>(oS rfl (Yk.loadC NA rfl (PR.cell (PR.of l (vr z rfl)) (show _=some (.int .i64 ((ps.getD (c) dPt).base:Int):Value)from rfl)) (oS rfl (Yk.eqI (vr (.int .i64 ((ps.getD (c) dPt).base:Int)) rfl) (vr (NI 0) rfl) (FV _ .i64 ((ps.getD (c) dPt).base:Int) ((0:Nat):Int)) (oZ ?_))))))))
  clear k
  clear l
  refine tN (x _ _ (Ar (vr (.bool (false)) (congrArg Value.bool (decide_eq_false (by omega)))) (AJ (Ag (Ag (Ap (tN (t _ _ (sk fun au aa=>(wt (oM rfl (oA rfl (oZ (tN (aa _ _ (As (Ao (fn:=Tryd.f32) _ rfl [NI n] (NI n) rfl ⟨f,trivial⟩ ?_)))))))))))))))))
  exact⟨by rw[show n=D i by omega],hE⟩
 rw[if_neg hb]at hDc
 have hbi:(ps.getD (c) dPt).base.toNat<c:=by omega
 refine sk fun av ab=>(sk fun aw ac=>(wt (oM rfl (oM rfl ?_))))
 have ax:(partC (ps.getD (c) dPt)).length=2:=(RG.elem (hr.keep hE) dPt (by omega))
 refine oS rfl (Yk.atRG CD ER (by decide) dPt (RG.of (hr.keep hE) b) a (by omega) fun ad m=>(oS rfl (Yk.fieldPR (n:=1) KO (PR.of m (vr ad rfl)) fun ae o=>(oS rfl (Yk.loadC NA rfl (PR.cell (PR.of o (vr ae rfl)) (show _=some (.int .i64 ((ps.getD (c) dPt).base:Int):Value)from rfl)) (oS rfl (Yk.eqI (vr (.int .i64 ((ps.getD (c) dPt).base:Int)) rfl) (vr (NI 0) rfl) (FV _ .i64 ((ps.getD (c) dPt).base:Int) ((0:Nat):Int)) (oZ ?_))))))))
 clear m
 clear o
 refine tN (ac _ _ (AE (vr (.bool (true)) (congrArg Value.bool (decide_eq_true (by omega)))) (Ah (tN (ab _ _ (Aj (sk fun ay af=>(wt (oM rfl (oM rfl ?_))))))))))
 have az:(partC (ps.getD (c) dPt)).length=2:=(RG.elem (hr.keep hE) dPt (by omega))
 refine oS rfl (Yk.atRG CD ER (by decide) dPt (RG.of (hr.keep hE) b) a (by omega) fun ag p=>(oS rfl (Yk.fieldPR (n:=1) KO (PR.of p (vr ag rfl)) fun ah q=>(oS rfl (Yk.loadC NA rfl (PR.cell (PR.of q (vr ah rfl)) (show _=some (.int .i64 ((ps.getD (c) dPt).base:Int):Value)from rfl)) (oA rfl (oZ ?_)))))))
 clear p
 clear q
 refine tN (af _ _ (wt (oM rfl (oS rfl (Yk.bin (xv:=NI n) (yv:=NI 1) f rfl rfl (Ak _ _ _ (by omega)) (oA rfl (AH [(0,v),(1, .int .i64 ((ps.getD (c) dPt).base:Int)),(4,NI 0),(5,NI ((n)+(1))),(11, .bool (true))] ⟨b,rfl,g,rfl,(congrArg Value.bool (decide_eq_true (by omega))),trivial⟩ fun ai ⟨b,a,g,f,a0,_⟩=>(bN (tN (And.intro ⟨(ps.getD (c) dPt).base.toNat,n+1,b,g,a.trans (congrArg (Value.int .i64) (Int.toNat_of_nonneg (by omega)).symm),f,hE,by omega,by omega,by omega,trivial⟩ ?_))))))))))
 show(intOf (ai 1)).toNat<(intOf (u 1)).toNat
 rw[a,q1]
 simp only[intOf,Int.toNat_natCast];omega

theorem L4(w:World)(vi vp:Value)(ids:List Bs)(places:List Nat)(n:Nat)(hr:RG 32 Lib.byteCells w vi ids)(hs:RG 1 Kd w vp places)(hll:ids.length=places.length)(ee:ids.length≤4096)(hnd:ids.Nodup)(h32:∀id∈ids,id.length=32)(hpl:∀p∈places,p<9223372036854775808)(hn:n<9223372036854775808):
  Calls Tryd.prog 35 #[NI n,vi,vp] w fun e w' =>∃v',e = .returned v' ∧NewB 5 w w' v' (OZ ids places n):=by
 refine AA (args:= [NI n,vi,vp]) Tryd.func35 rfl 78 rfl (Nat.le_of_ble_eq_true rfl) ?_
 intro a1 hb
 have r:a1 0=(NI n:Value):=hb.get 0
 have f:a1 1=(vi:Value):=hb.get 1
 have s:a1 2=(vp:Value):=hb.get 2
 clear hb
 have hE:=Ext.refl w
 refine sk fun K1 b4=>(wt (oA rfl (oZ (tN (b4 _ _ (sk fun K2 b5=>(wt (oA rfl (oZ ?_)))))))))
 have hrow0:w.ownsRow w.heap.size 5 1 (Value.slice none 0 0) ([]:List UInt8).length (Lib.byteCells ([]:List UInt8)):=World.ownsRow_nil _ _ _ 1
 refine tN (b5 _ _ (sk fun K3 b6=>(sk fun K4 b7=>(wt (oA rfl (AH [(0,NI n),(1,vi),(2,vp),(6,(Value.slice none 0 0)),(7,(Value.slice none 0 0)),(8,NI 0)] ⟨r,f,s,rfl,rfl,rfl,trivial⟩ fun ej ⟨r,f,s,t,j,g,_⟩=>(tN (b7 _ _ (Aj (AX (fun(ρ:Aq) (wz:World)=>∃c:Nat,∃va:Value,ρ 0=(NI n:Value)∧ρ 1=(vi:Value)∧ρ 2=(vp:Value)∧ρ 6=((Value.slice none 0 0):Value)∧ρ 8=(NI c:Value)∧ρ 7=(va:Value)∧Ext w wz∧wz.ownsRow w.heap.size 5 1 va (((AY ids).take c).flatMap AI:List UInt8).length (Lib.byteCells (((AY ids).take c).flatMap AI))∧(c≤256)∧True) (fun ρ _=>256-(intOf (ρ 8)).toNat) ⟨0,(Value.slice none 0 0),r,f,s,t,g,j,hE,BI hrow0 ((by simp)),Nat.zero_le _,trivial⟩ ?_))))))))))
 clear hrow0
 clear hE
 rintro b8 w7 ⟨c,va,r,f,s,t,g,j,hE,hr_va,hc,-⟩
 have q8:=g
 by_cases hlt:c<256
 ·have hA:(((AY ids).take c).flatMap AI).length≤1024:=by rw[Fl,List.length_take];omega
  refine sk fun K8 b9=>(sk fun K9 ca=>(wt (oM rfl (oS rfl (Yk.eqI (a:=(c:Nat)) (b:=(256:Nat)) g rfl (AN _ _ _ _) (oZ (tN (ca _ _ (AE (vr (.bool (true)) (congrArg Value.bool (decide_eq_true (hlt)))) (Ah (tN (b9 _ _ (sk fun en cb=>(Aj (sk fun eo cc=>(wt (oA rfl (oZ ?_))))))))))))))))))
  refine tN (cc _ _ (sk fun ep cd=>(sk fun eq ce=>(wt (oA rfl (AH [(0,NI n),(1,vi),(2,vp),(6,(Value.slice none 0 0)),(7,va),(8,NI c),(9,NI 0),(10,NI 0),(15, .bool (true))] ⟨r,f,s,t,j,g,rfl,rfl,(congrArg Value.bool (decide_eq_true (hlt))),trivial⟩ fun er ⟨r,f,s,t,j,g,T9,ac,u,_⟩=>(tN (ce _ _ (Aj (AX (fun(ρ:Aq) (wz:World)=>∃k1:Nat,ρ 0=(NI n:Value)∧ρ 1=(vi:Value)∧ρ 2=(vp:Value)∧ρ 6=((Value.slice none 0 0):Value)∧ρ 7=(va:Value)∧ρ 8=(NI c:Value)∧ρ 15=(.bool (true):Value)∧ρ 10=(NI k1:Value)∧ρ 9=(NI ((ids.take k1).countP fun id=>decide (Dj id≤c)):Value)∧Ext w wz∧wz.ownsRow w.heap.size 5 1 va (((AY ids).take c).flatMap AI:List UInt8).length (Lib.byteCells (((AY ids).take c).flatMap AI))∧(k1≤ids.length)∧True) (fun ρ _=>ids.length-(intOf (ρ 10)).toNat) ⟨0,r,f,s,t,j,g,u,ac,T9,hE,hr_va,Nat.zero_le _,trivial⟩ ?_))))))))))
  clear hE hr_va
  rintro bn cf ⟨k1,r,f,s,t,j,g,u,ac,T9,hE,hr_va,hk,-⟩
  have q10:=ac
  by_cases ad:k1<ids.length
  ·have hcn:=L3 ids c k1 ad
   have hcl:((ids.take k1).countP fun id=>decide (Dj id≤c))≤k1:=Nat.le_trans List.countP_le_length (by rw[List.length_take];omega)
   by_cases q1:Dj (ids.getD k1 [])≤c
   ·rw[if_pos q1]at hcn
    refine sk fun es cg=>(sk fun et ch=>(wt (oM rfl (oM rfl (oS rfl (Yk.lenRG JD (RG.of (hr.keep hE) f) (oS rfl (Yk.eqI (a:=(k1:Nat)) (b:=(ids.length:Nat)) ac rfl (AN _ _ _ _) (oZ (tN (ch _ _ (AE (vr (.bool (true)) (congrArg Value.bool (decide_eq_true (ad)))) (Ah (tN (cg _ _ (sk fun eu ci=>(Aj (sk fun ew cj=>(wt ?_)))))))))))))))))))
    refine oM rfl (oM rfl ?_)
    have ck:(Lib.byteCells (ids.getD (k1) ([]:List UInt8))).length=32:=(RG.elem (hr.keep hE) ([]:List UInt8) (by omega))
    refine oS rfl (Yk.atRG JD Mn (by decide) ([]:List UInt8) (RG.of (hr.keep hE) f) ac (by omega) fun cl bo=>(oS rfl (Yk.atArrPR (l:=ids.getD (k1) ([]:List UInt8)) (i:=0) Ow Ls (PR.of bo (vr cl rfl)) (vr (NI 0) rfl) (by decide) (by rw[(A5 ck)];first | decide | omega) fun cm bp=>(oS rfl (Yk.loadC u5 rfl (PCell.of bp (vr cm rfl)) (oS rfl (Yk.convI u5 NA (vr (B8 ((ids.getD (k1) ([]:List UInt8)).getD (0) 0)) rfl) (FI .i64 ((ids.getD (k1) ([]:List UInt8)).getD (0) 0) (fun n hn=>Cy n (by omega))) (oM rfl (oS rfl (Yk.eqI (a:=(((ids.getD (k1) ([]:List UInt8)).getD (0) 0).toNat:Nat)) (b:=(c:Nat)) rfl g (C5 _ _ _ _) (oZ ?_)))))))))))
    clear bo
    clear bp
    refine tN (cj _ _ (AE (vr (.bool (true)) (congrArg Value.bool (decide_eq_true (q1)))) (wt (oM rfl (oS rfl (Yk.bin (xv:=NI ((ids.take k1).countP fun id=>decide (Dj id≤c))) (yv:=NI 1) T9 rfl rfl (Ak _ _ _ (by omega)) (oA rfl (oZ (bN (tN (ci _ _ (wt (oM rfl (oS rfl (Yk.bin (xv:=NI k1) (yv:=NI 1) ac rfl rfl (Ak _ _ _ (by omega)) (oA rfl (AH [(0,NI n),(1,vi),(2,vp),(6,(Value.slice none 0 0)),(7,va),(8,NI c),(9,NI (((ids.take k1).countP fun id=>decide (Dj id≤c))+(1))),(10,NI ((k1)+(1))),(15, .bool (true)),(21, .bool (true)),(31, .bool (true))] ⟨r,f,s,t,j,g,rfl,rfl,u,(congrArg Value.bool (decide_eq_true (ad))),(congrArg Value.bool (decide_eq_true (q1))),trivial⟩ fun cn ⟨r,f,s,t,j,g,T9,ac,u,bq,co,_⟩=>(tN (And.intro ⟨k1+1,r,f,s,t,j,g,u,ac,T9.trans (congrArg (fun n:Nat=>NI n) hcn.symm),hE,hr_va,by omega,trivial⟩ ?_)))))))))))))))))))
    show ids.length-(intOf (cn 10)).toNat<ids.length-(intOf (bn 10)).toNat
    rw[ac,q10]
    simp only[intOf,Int.toNat_natCast];omega
   rw[if_neg q1]at hcn
   refine sk fun ex cp=>(sk fun ey cq=>(wt (oM rfl (oM rfl (oS rfl (Yk.lenRG JD (RG.of (hr.keep hE) f) (oS rfl (Yk.eqI (a:=(k1:Nat)) (b:=(ids.length:Nat)) ac rfl (AN _ _ _ _) (oZ (tN (cq _ _ (AE (vr (.bool (true)) (congrArg Value.bool (decide_eq_true (ad)))) (Ah (tN (cp _ _ (sk fun ez cr=>(Aj (sk fun e0 cs=>(wt ?_)))))))))))))))))))
   refine oM rfl (oM rfl ?_)
   have ct:(Lib.byteCells (ids.getD (k1) ([]:List UInt8))).length=32:=(RG.elem (hr.keep hE) ([]:List UInt8) (by omega))
   refine oS rfl (Yk.atRG JD Mn (by decide) ([]:List UInt8) (RG.of (hr.keep hE) f) ac (by omega) fun cu br=>(oS rfl (Yk.atArrPR (l:=ids.getD (k1) ([]:List UInt8)) (i:=0) Ow Ls (PR.of br (vr cu rfl)) (vr (NI 0) rfl) (by decide) (by rw[(A5 ct)];first | decide | omega) fun cv bs=>(oS rfl (Yk.loadC u5 rfl (PCell.of bs (vr cv rfl)) (oS rfl (Yk.convI u5 NA (vr (B8 ((ids.getD (k1) ([]:List UInt8)).getD (0) 0)) rfl) (FI .i64 ((ids.getD (k1) ([]:List UInt8)).getD (0) 0) (fun n hn=>Cy n (by omega))) (oM rfl (oS rfl (Yk.eqI (a:=(((ids.getD (k1) ([]:List UInt8)).getD (0) 0).toNat:Nat)) (b:=(c:Nat)) rfl g (C5 _ _ _ _) (oZ ?_)))))))))))
   clear br
   clear bs
   refine tN (cs _ _ (Ar (vr (.bool (false)) (congrArg Value.bool (decide_eq_false (q1)))) (Ah (bN (tN (cr _ _ (wt (oM rfl (oS rfl (Yk.bin (xv:=NI k1) (yv:=NI 1) ac rfl rfl (Ak _ _ _ (by omega)) (oA rfl (AH [(0,NI n),(1,vi),(2,vp),(6,(Value.slice none 0 0)),(7,va),(8,NI c),(9,NI ((ids.take k1).countP fun id=>decide (Dj id≤c))),(10,NI ((k1)+(1))),(15, .bool (true)),(21, .bool (true)),(31, .bool (false))] ⟨r,f,s,t,j,g,T9,rfl,u,(congrArg Value.bool (decide_eq_true (ad))),(congrArg Value.bool (decide_eq_false (q1))),trivial⟩ fun cw ⟨r,f,s,t,j,g,T9,ac,u,bq,co,_⟩=>(tN (And.intro ⟨k1+1,r,f,s,t,j,g,u,ac,T9.trans (congrArg (fun n:Nat=>NI n) hcn.symm),hE,hr_va,by omega,trivial⟩ ?_))))))))))))))
   show ids.length-(intOf (cw 10)).toNat<ids.length-(intOf (bn 10)).toNat
   rw[ac,q10]
   simp only[intOf,Int.toNat_natCast];omega
  refine sk fun e2 e3=>(sk fun e4 cx=>(wt (oM rfl (oM rfl (oS rfl (Yk.lenRG JD (RG.of (hr.keep hE) f) (oS rfl (Yk.eqI (a:=(k1:Nat)) (b:=(ids.length:Nat)) ac rfl (AN _ _ _ _) (oZ (tN (cx _ _ (Ar (vr (.bool (false)) (congrArg Value.bool (decide_eq_false (ad)))) (AJ (Ag (Ag (Ap (tN (cd _ _ (wt (oM rfl (oM rfl (oS rfl (Yk.callA1 Hz T9 ?_)))))))))))))))))))))))
  refine(FB _ ((ids.take k1).countP fun id=>decide (Dj id≤c)) (Nat.lt_of_le_of_lt (Nat.le_trans List.countP_le_length (by rw[List.length_take];exact Nat.min_le_left _ _)) (show k1<9223372036854775808 by omega))).mono ?_
  rintro e cy ⟨ar,rfl,ai⟩
  refine⟨_,rfl,?_⟩
  have a3:=Ext.refl cf
  have e5:=hE
  have e6:=hE.size
  have bt:Ae va ar:=A4 hr_va ai.own
  have e7:Ae ar va:=A0 hr_va ai.own
  have hE:=hE.trans ai.ext
  have hr_va:=Stab.own _ _ _ _ _ _ _ _ hr_va ai.ext
  have a3:=a3.trans ai.ext
  have ay:=ai.own;clear ai
  refine oS rfl (Yk.appendRB _ _ w.heap.size (.int .u8 0) DT FW rfl DT (((AY ids).take c).flatMap AI) (AI ((ids.take k1).countP fun id=>decide (Dj id≤c))) (BB hr_va j) (RB.of (RB.ofOwn ay) (vr ar rfl)) (by rw[C7];omega) hE.size fun au cz c0 av=> ?_)
  have av:Grew cy cz va au:= .eqv j av
  have c1:Ae au ar:=Au av bt ay
  have e8:Ae ar au:=fun k h1 h2=>c1 k h2 h1
  have hE:=AC hE av hr_va (Nat.le_refl _)
  clear hr_va
  clear a3
  have ay:=Bg ay av bt
  refine oA rfl (oZ (bN (tN (cb _ _ (wt (oM rfl (oS rfl (Yk.bin (xv:=NI c) (yv:=NI 1) g rfl rfl (Ak _ _ _ (by omega)) (oA rfl (AH [(0,NI n),(1,vi),(2,vp),(6,(Value.slice none 0 0)),(7,au),(8,NI ((c)+(1))),(9,NI ((ids.take k1).countP fun id=>decide (Dj id≤c))),(10,NI k1),(15, .bool (true)),(21, .bool (false))] ⟨r,f,s,t,rfl,rfl,T9,ac,u,(congrArg Value.bool (decide_eq_false (ad))),trivial⟩ fun c2 ⟨r,f,s,t,j,g,T9,ac,u,bq,_⟩=>(tN (And.intro ⟨c+1,au,r,f,s,t,g,j,hE,BI c0 ((by rw[show k1=ids.length by omega,List.take_length];exact(Np ids c hlt).symm)),by omega,trivial⟩ ?_))))))))))))
  show 256-(intOf (c2 8)).toNat<256-(intOf (b8 8)).toNat
  rw[g,q8]
  simp only[intOf,Int.toNat_natCast];omega
 refine sk fun e9 fa=>(sk fun fb c3=>(wt (oM rfl (oS rfl (Yk.eqI (a:=(c:Nat)) (b:=(256:Nat)) g rfl (AN _ _ _ _) (oZ (tN (c3 _ _ (Ar (vr (.bool (false)) (congrArg Value.bool (decide_eq_false (hlt)))) (AJ (Ag (Ag (Ap (tN (b6 _ _ (sk fun fc c4=>(wt (oM rfl (oS rfl (Yk.callA1 Oi f ((KP _ vi ids (hr.keep hE) (by omega)).mono ?_)))))))))))))))))))))
 rintro e fd ⟨z,rfl,o,a4⟩
 refine⟨_,rfl,?_⟩
 have a5:=Ext.refl w7
 have fe:=hE
 have ff:=hE.size
 have c5:Ae va z:=A4 hr_va o.2
 have fg:Ae z va:=A0 hr_va o.2
 have hE:=hE.trans a4
 have hr_va:=Stab.own _ _ _ _ _ _ _ _ hr_va a4
 have a5:=a5.trans a4
 refine oA rfl (oZ (tN (c4 _ _ (sk fun fh c6=>(sk fun fi c7=>(wt (oA rfl (AH [(0,NI n),(1,vi),(2,vp),(6,(Value.slice none 0 0)),(7,va),(8,NI c),(11,z),(12,NI 0),(15, .bool (false))] ⟨r,f,s,t,j,g,rfl,rfl,(congrArg Value.bool (decide_eq_false (hlt))),trivial⟩ fun fj ⟨r,f,s,t,j,g,aa,y,u,_⟩=>(tN (c7 _ _ (Aj (AX (fun(ρ:Aq) (wz:World)=>∃q:Nat,∃vb:Value,ρ 0=(NI n:Value)∧ρ 1=(vi:Value)∧ρ 2=(vp:Value)∧ρ 6=((Value.slice none 0 0):Value)∧ρ 8=(NI c:Value)∧ρ 11=(z:Value)∧ρ 15=(.bool (false):Value)∧ρ 12=(NI q:Value)∧ρ 7=(vb:Value)∧Ext w wz∧OG w7.heap.size 38 32 (Lib.byteCells) wz z (Az ids)∧wz.ownsRow w.heap.size 5 1 vb ((AY ids).flatMap AI++((Az ids).take q).flatMap (Ed ids places):List UInt8).length (Lib.byteCells ((AY ids).flatMap AI++((Az ids).take q).flatMap (Ed ids places)))∧(q≤ids.length)∧(Ae vb z)∧True) (fun ρ _=>ids.length-(intOf (ρ 12)).toNat) ⟨0,va,r,f,s,t,g,aa,u,y,j,hE,o,BI hr_va ((by rw[show c=256 by omega,List.take_of_length_le (by rw[BC];exact Nat.le_refl _)];simp)),Nat.zero_le _,c5,trivial⟩ ?_))))))))))))
 clear hr_va
 clear a5
 clear hE o
 rintro c8 bu ⟨q,vb,r,f,s,t,g,aa,u,y,j,hE,o,hr_vb,hq,hap_vb_v58,-⟩
 have q12:=y
 by_cases hlt:q<ids.length
 ·have hX:((Az ids).getD (q) ([]:List UInt8))∈ids:=DO.1 (A6 [] (by rw[BQ];exact hlt))
  have hX32:(((Az ids).getD (q) ([]:List UInt8))).length=32:=h32 _ hX
  have hR:((AY ids).flatMap AI++((Az ids).take q).flatMap (Ed ids places)).length≤1024+36*q:=by rw[List.length_append,Fl,BC,EI 36 (fun x hx=>Kf (h32 _ (DO.1 (List.mem_of_mem_take hx)))),List.length_take];omega
  refine sk fun fk c9=>(sk fun fl da=>(wt (oM rfl (oM rfl (oS rfl (Yk.lenRG JD (RG.of (RG.ofOwn o) aa) (oS rfl (Yk.eqI (a:=(q:Nat)) (b:=(((Az ids)).length:Nat)) y rfl (AN _ _ _ _) (oZ (tN (da _ _ (AE (vr (.bool (true)) (congrArg Value.bool (decide_eq_true (by rw[BQ];exact hlt)))) (Ah (tN (c9 _ _ (sk fun fm db=>(Aj (sk fun fo dc=>(wt ?_)))))))))))))))))))
  refine oM rfl (oM rfl (oM rfl ?_))
  have dd:(Lib.byteCells (((Az ids)).getD (q) ([]:List UInt8))).length=32:=(RG.elem (RG.ofOwn o) ([]:List UInt8) (by rw[BQ];omega))
  refine oS rfl (Yk.atRG JD Mn (by decide) ([]:List UInt8) (RG.of (RG.ofOwn o) aa) y (by rw[BQ];omega) fun de bv=>(oS rfl (Yk.slicePR (l:=((Az ids)).getD (q) ([]:List UInt8)) Ow Ls (PR.of bv (vr de rfl)) (A5 dd) (by decide) fun df bw=>(oS rfl (Yk.appendRB _ _ w.heap.size (.int .u8 0) DT FW rfl DT ((AY ids).flatMap AI++((Az ids).take q).flatMap (Ed ids places)) (((Az ids)).getD (q) ([]:List UInt8)) (BB hr_vb j) (RB.of bw (vr df rfl)) (by rw[hX32];omega) hE.size fun aw dg bx ax=> ?_)))))
  have ax:Grew bu dg vb aw:= .eqv j ax
  have bz:Ae aw z:=Au ax hap_vb_v58 o.2
  have fp:Ae z aw:=fun k h1 h2=>bz k h2 h1
  have hE:=AC hE ax hr_vb (Nat.le_refl _)
  have o:=By o ax hap_vb_v58
  clear hr_vb
  clear bv
  clear bw
  refine oA rfl (oZ (tN (dc _ _ (sk fun fq dh=>(wt (oA rfl (AH [(0,NI n),(1,vi),(2,vp),(6,(Value.slice none 0 0)),(7,aw),(8,NI c),(11,z),(12,NI q),(13,NI 0),(15, .bool (false)),(43, .bool (true))] ⟨r,f,s,t,rfl,g,aa,y,rfl,u,(congrArg Value.bool (decide_eq_true (by rw[BQ];exact hlt))),trivial⟩ fun fr ⟨r,f,s,t,j,g,aa,y,ab,u,ae,_⟩=>(tN (dh _ _ (Aj (AX (fun(ρ:Aq) (wz:World)=>∃m:Nat,∃vc:Value,ρ 0=(NI n:Value)∧ρ 1=(vi:Value)∧ρ 2=(vp:Value)∧ρ 6=((Value.slice none 0 0):Value)∧ρ 8=(NI c:Value)∧ρ 11=(z:Value)∧ρ 12=(NI q:Value)∧ρ 15=(.bool (false):Value)∧ρ 43=(.bool (true):Value)∧ρ 13=(NI m:Value)∧ρ 7=(vc:Value)∧Ext w wz∧OG w7.heap.size 38 32 (Lib.byteCells) wz z (Az ids)∧wz.ownsRow w.heap.size 5 1 vc ((AY ids).flatMap AI++((Az ids).take q).flatMap (Ed ids places)++DU ids places ((Az ids).getD (q) ([]:List UInt8)) m:List UInt8).length (Lib.byteCells ((AY ids).flatMap AI++((Az ids).take q).flatMap (Ed ids places)++DU ids places ((Az ids).getD (q) ([]:List UInt8)) m))∧(m≤ids.length)∧(Ae vc z)∧True) (fun ρ _=>ids.length-(intOf (ρ 13)).toNat) ⟨0,aw,r,f,s,t,g,aa,y,u,ae,ab,j,hE,o,BI bx ((by rw[Nq])),Nat.zero_le _,bz,trivial⟩ ?_)))))))))))
  clear bx
  clear hE o
  rintro b0 fs ⟨m,vc,r,f,s,t,g,aa,y,u,ae,ab,j,hE,o,hr_vc,hm,hap_vc_v58,-⟩
  have q13:=ab
  by_cases ad:m<ids.length
  ·have hel:(ids.getD m []).length=32:=A5 (RG.elem hr [] ad)
   have hRK:((AY ids).flatMap AI++((Az ids).take q).flatMap (Ed ids places)++DU ids places ((Az ids).getD (q) ([]:List UInt8)) m).length≤1100+36*q:=by rw[List.length_append];have:=Oh ids places m hX32;omega
   have hpm:places.getD m 0<9223372036854775808:=hpl _ (A6 0 (by omega))
   by_cases q1:ids.getD m []=((Az ids).getD (q) ([]:List UInt8))
   ·refine sk fun ft di=>(sk fun fu dj=>(wt (oM rfl (oM rfl (oS rfl (Yk.lenRG JD (RG.of (hr.keep hE) f) (oS rfl (Yk.eqI (a:=(m:Nat)) (b:=(ids.length:Nat)) ab rfl (AN _ _ _ _) (oZ (tN (dj _ _ (AE (vr (.bool (true)) (congrArg Value.bool (decide_eq_true (ad)))) (Ah (tN (di _ _ (sk fun fv dk=>(Aj (sk fun fw dl=> ?_))))))))))))))))))
    refine Be [Is (vi),Is (NI m),fun x w' =>PR (Lib.byteCells (ids.getD (m) ([]:List UInt8))) x w',Is (AB (ids.getD (m) ([]:List UInt8))),Is (z),Is (NI q),fun x w' =>PR (Lib.byteCells (((Az ids)).getD (q) ([]:List UInt8))) x w',Is (AB (((Az ids)).getD (q) ([]:List UInt8))),Is (.bool (true))] (by kernel_rfl) [58,59,60,61,62,63,64,65,66] (by kernel_rfl) (by kernel_rfl) (Ef ⟨(fun _ _ _ h k=>PR.keep h k),(DV ⟨(fun _ _ _ h k=>PR.keep h k),(Ef trivial)⟩)⟩) ?dm ?hQ3020
    case dm=>
     refine⟨?_,?_,?_,?_,?_,?_,?_,?_,?_,trivial⟩
     ·refine Aa rfl fun σ w1 hC h=> ?_
      have e1:=(Ab (h 1 (by decide))).trans f
      exact Yk.move e1 ⟨Ext.refl _,rfl⟩
     ·refine Aa rfl fun σ w1 hC h=> ?_
      have a7:=(Ab (h 13 (by decide))).trans ab
      exact Yk.move a7 ⟨Ext.refl _,rfl⟩
     ·refine Aa rfl fun σ w1 hC h=> ?_
      have a8:=Ab (h 58 (by decide))
      have a9:=Ab (h 59 (by decide))
      exact Yk.atRG JD Mn (by decide) ([]:List UInt8) (RG.of (hr.keep (hE.trans hC)) a8) a9 (by omega) fun v h=>⟨Ext.refl _,h⟩
     ·refine Aa rfl fun σ w1 hC h=> ?_
      have ba:(fun x w' =>PR (Lib.byteCells (ids.getD (m) ([]:List UInt8))) x w') (σ 60) w1:=h 60 (by decide)
      exact Yk.loadPR ba Ow rfl (by rw[RG.elem hr ([]:List UInt8) (by omega)];exact L9) ⟨Ext.refl _,rfl⟩
     ·refine Aa rfl fun σ w1 hC h=> ?_
      have bb:=(Ab (h 11 (by decide))).trans aa
      exact Yk.move bb ⟨Ext.refl _,rfl⟩
     ·refine Aa rfl fun σ w1 hC h=> ?_
      have bc:=(Ab (h 12 (by decide))).trans y
      exact Yk.move bc ⟨Ext.refl _,rfl⟩
     ·refine Aa rfl fun σ w1 hC h=> ?_
      have bd:=Ab (h 62 (by decide))
      have be:=Ab (h 63 (by decide))
      exact Yk.atRG JD Mn (by decide) ([]:List UInt8) (RG.of (RG.ofOwn (o.keep hC)) bd) be (by rw[BQ];omega) fun v h=>⟨Ext.refl _,h⟩
     ·refine Aa rfl fun σ w1 hC h=> ?_
      have bf:(fun x w' =>PR (Lib.byteCells (((Az ids)).getD (q) ([]:List UInt8))) x w') (σ 64) w1:=h 64 (by decide)
      exact Yk.loadPR bf Ow rfl (by rw[RG.elem (RG.ofOwn o) ([]:List UInt8) (by rw[BQ];omega)];exact L9) ⟨Ext.refl _,rfl⟩
     ·refine Aa rfl fun σ w1 hC h=> ?_
      have bg:=Ab (h 61 (by decide))
      have bh:=Ab (h 65 (by decide))
      exact Yk.eqArr (l1:=(ids.getD (m) ([]:List UInt8))) (l2:=(((Az ids)).getD (q) ([]:List UInt8))) Ow u5 Ls M4 bg bh (hel) (hX32) ⟨Ext.refl _,(congrArg Value.bool (decide_eq_true (q1)))⟩
    intro dn dp bi he hf
    obtain⟨-,-,-,-,-,-,-,-,k66,-⟩:=hf
    obtain⟨r,f,s,t,j,g,aa,y,ab,u,ae,aq,-⟩:=he.hold [(0,_),(1,_),(2,_),(6,_),(7,_),(8,_),(11,_),(12,_),(13,_),(15,_),(43,_),(55,_)] ⟨r,f,s,t,j,g,aa,y,ab,u,ae,(congrArg Value.bool (decide_eq_true (ad))),trivial⟩ rfl
    clear he
    have hE:=hE.trans bi
    have o:=o.keep bi
    have hr_vc:=Stab.own _ _ _ _ _ _ _ _ hr_vc bi
    have aj:dn 66 = .bool (true):=k66
    clear k66
    refine tN (dl _ _ (AE aj (wt (oM rfl (oM rfl (oM rfl ?_))))))
    have fx:(Kd (places.getD (m) 0)).length=1:=(RG.elem (hs.keep hE) 0 (by omega))
    refine oS rfl (Yk.atRG ID FL (by decide) 0 (RG.of (hs.keep hE) s) ab (by omega) fun dq dr=>(oS rfl (Yk.loadC NA rfl (PR.cell (PR.of dr (vr dq rfl)) (show _=some (NI (places.getD (m) 0):Value)from rfl)) (oS rfl (Yk.callA1 Hz (vr (NI (places.getD (m) 0)) rfl) ((FB _ (places.getD (m) 0) (hpm)).mono ?_))))))
    rintro e ds ⟨ak,rfl,ag⟩
    refine⟨_,rfl,?_⟩
    have bj:=Ext.refl dp
    have fy:=hE
    have fz:=hE.size
    have f0:Ae z ak:=A4 o.2 ag.own
    have f1:Ae ak z:=A0 o.2 ag.own
    have b1:Ae vc ak:=A4 hr_vc ag.own
    have f2:Ae ak vc:=A0 hr_vc ag.own
    have hE:=hE.trans ag.ext
    have o:=o.keep ag.ext
    have hr_vc:=Stab.own _ _ _ _ _ _ _ _ hr_vc ag.ext
    have bj:=bj.trans ag.ext
    have az:=ag.own;clear ag
    refine oS rfl (Yk.appendRB _ _ w.heap.size (.int .u8 0) DT FW rfl DT ((AY ids).flatMap AI++((Az ids).take q).flatMap (Ed ids places)++DU ids places ((Az ids).getD (q) ([]:List UInt8)) m) (AI (places.getD (m) 0)) (BB hr_vc j) (RB.of (RB.ofOwn az) (vr ak rfl)) (by rw[C7];omega) hE.size fun al dt du am=> ?_)
    have am:Grew ds dt vc al:= .eqv j am
    have b2:Ae al z:=Au am hap_vc_v58 o.2
    have f3:Ae z al:=fun k h1 h2=>b2 k h2 h1
    have dv:Ae al ak:=Au am b1 az
    have f4:Ae ak al:=fun k h1 h2=>dv k h2 h1
    have hE:=AC hE am hr_vc (Nat.le_refl _)
    have o:=By o am hap_vc_v58
    clear hr_vc
    clear bj
    have az:=Bg az am b1
    refine oA rfl (oZ (bN (tN (dk _ _ (wt (oM rfl (oS rfl (Yk.bin (xv:=NI m) (yv:=NI 1) ab rfl rfl (Ak _ _ _ (by omega)) (oA rfl (AH [(0,NI n),(1,vi),(2,vp),(6,(Value.slice none 0 0)),(7,al),(8,NI c),(11,z),(12,NI q),(13,NI ((m)+(1))),(15, .bool (false)),(43, .bool (true)),(55, .bool (true)),(66, .bool (true))] ⟨r,f,s,t,rfl,g,aa,y,rfl,u,ae,aq,aj,trivial⟩ fun dw ⟨r,f,s,t,j,g,aa,y,ab,u,ae,aq,aj,_⟩=>(tN (And.intro ⟨m+1,al,r,f,s,t,g,aa,y,u,ae,ab,j,hE,o,BI du ((by rw[Of hnd hll ad q1,List.append_assoc])),by omega,b2,trivial⟩ ?_))))))))))))
    show ids.length-(intOf (dw 13)).toNat<ids.length-(intOf (b0 13)).toNat
    rw[ab,q13]
    simp only[intOf,Int.toNat_natCast];omega
   refine sk fun f5 dx=>(sk fun f6 dy=>(wt (oM rfl (oM rfl (oS rfl (Yk.lenRG JD (RG.of (hr.keep hE) f) (oS rfl (Yk.eqI (a:=(m:Nat)) (b:=(ids.length:Nat)) ab rfl (AN _ _ _ _) (oZ (tN (dy _ _ (AE (vr (.bool (true)) (congrArg Value.bool (decide_eq_true (ad)))) (Ah (tN (dx _ _ (sk fun f7 dz=>(Aj (sk fun f8 d0=> ?_))))))))))))))))))
   refine Be [Is (vi),Is (NI m),fun x w' =>PR (Lib.byteCells (ids.getD (m) ([]:List UInt8))) x w',Is (AB (ids.getD (m) ([]:List UInt8))),Is (z),Is (NI q),fun x w' =>PR (Lib.byteCells (((Az ids)).getD (q) ([]:List UInt8))) x w',Is (AB (((Az ids)).getD (q) ([]:List UInt8))),Is (.bool (false))] (by kernel_rfl) [58,59,60,61,62,63,64,65,66] (by kernel_rfl) (by kernel_rfl) (Ef ⟨(fun _ _ _ h k=>PR.keep h k),(DV ⟨(fun _ _ _ h k=>PR.keep h k),(Ef trivial)⟩)⟩) ?d1 ?hQ4020
   case d1=>
    refine⟨?_,?_,?_,?_,?_,?_,?_,?_,?_,trivial⟩
    ·refine Aa rfl fun σ w1 hC h=> ?_
     have e1:=(Ab (h 1 (by decide))).trans f
     exact Yk.move e1 ⟨Ext.refl _,rfl⟩
    ·refine Aa rfl fun σ w1 hC h=> ?_
     have a7:=(Ab (h 13 (by decide))).trans ab
     exact Yk.move a7 ⟨Ext.refl _,rfl⟩
    ·refine Aa rfl fun σ w1 hC h=> ?_
     have a8:=Ab (h 58 (by decide))
     have a9:=Ab (h 59 (by decide))
     exact Yk.atRG JD Mn (by decide) ([]:List UInt8) (RG.of (hr.keep (hE.trans hC)) a8) a9 (by omega) fun v h=>⟨Ext.refl _,h⟩
    ·refine Aa rfl fun σ w1 hC h=> ?_
     have ba:(fun x w' =>PR (Lib.byteCells (ids.getD (m) ([]:List UInt8))) x w') (σ 60) w1:=h 60 (by decide)
     exact Yk.loadPR ba Ow rfl (by rw[RG.elem hr ([]:List UInt8) (by omega)];exact L9) ⟨Ext.refl _,rfl⟩
    ·refine Aa rfl fun σ w1 hC h=> ?_
     have bb:=(Ab (h 11 (by decide))).trans aa
     exact Yk.move bb ⟨Ext.refl _,rfl⟩
    ·refine Aa rfl fun σ w1 hC h=> ?_
     have bc:=(Ab (h 12 (by decide))).trans y
     exact Yk.move bc ⟨Ext.refl _,rfl⟩
    ·refine Aa rfl fun σ w1 hC h=> ?_
     have bd:=Ab (h 62 (by decide))
     have be:=Ab (h 63 (by decide))
     exact Yk.atRG JD Mn (by decide) ([]:List UInt8) (RG.of (RG.ofOwn (o.keep hC)) bd) be (by rw[BQ];omega) fun v h=>⟨Ext.refl _,h⟩
    ·refine Aa rfl fun σ w1 hC h=> ?_
     have bf:(fun x w' =>PR (Lib.byteCells (((Az ids)).getD (q) ([]:List UInt8))) x w') (σ 64) w1:=h 64 (by decide)
     exact Yk.loadPR bf Ow rfl (by rw[RG.elem (RG.ofOwn o) ([]:List UInt8) (by rw[BQ];omega)];exact L9) ⟨Ext.refl _,rfl⟩
    ·refine Aa rfl fun σ w1 hC h=> ?_
     have bg:=Ab (h 61 (by decide))
     have bh:=Ab (h 65 (by decide))
     exact Yk.eqArr (l1:=(ids.getD (m) ([]:List UInt8))) (l2:=(((Az ids)).getD (q) ([]:List UInt8))) Ow u5 Ls M4 bg bh (hel) (hX32) ⟨Ext.refl _,(congrArg Value.bool (decide_eq_false (q1)))⟩
   intro d2 f9 bk he hf
   obtain⟨-,-,-,-,-,-,-,-,k66,-⟩:=hf
   obtain⟨r,f,s,t,j,g,aa,y,ab,u,ae,aq,-⟩:=he.hold [(0,_),(1,_),(2,_),(6,_),(7,_),(8,_),(11,_),(12,_),(13,_),(15,_),(43,_),(55,_)] ⟨r,f,s,t,j,g,aa,y,ab,u,ae,(congrArg Value.bool (decide_eq_true (ad))),trivial⟩ rfl
   clear he
   have hE:=hE.trans bk
   have o:=o.keep bk
   have hr_vc:=Stab.own _ _ _ _ _ _ _ _ hr_vc bk
   have aj:d2 66 = .bool (false):=k66
   clear k66
   refine tN (d0 _ _ (Ar aj (Ah (bN (tN (dz _ _ (wt (oM rfl (oS rfl (Yk.bin (xv:=NI m) (yv:=NI 1) ab rfl rfl (Ak _ _ _ (by omega)) (oA rfl (AH [(0,NI n),(1,vi),(2,vp),(6,(Value.slice none 0 0)),(7,vc),(8,NI c),(11,z),(12,NI q),(13,NI ((m)+(1))),(15, .bool (false)),(43, .bool (true)),(55, .bool (true)),(66, .bool (false))] ⟨r,f,s,t,j,g,aa,y,rfl,u,ae,aq,aj,trivial⟩ fun d3 ⟨r,f,s,t,j,g,aa,y,ab,u,ae,aq,aj,_⟩=>(tN (And.intro ⟨m+1,vc,r,f,s,t,g,aa,y,u,ae,ab,j,hE,o,BI hr_vc ((by rw[Nr ad q1])),by omega,hap_vc_v58,trivial⟩ ?_))))))))))))))
   show ids.length-(intOf (d3 13)).toNat<ids.length-(intOf (b0 13)).toNat
   rw[ab,q13]
   simp only[intOf,Int.toNat_natCast];omega
  refine sk fun ga gb=>(sk fun gc d4=>(wt (oM rfl (oM rfl (oS rfl (Yk.lenRG JD (RG.of (hr.keep hE) f) (oS rfl (Yk.eqI (a:=(m:Nat)) (b:=(ids.length:Nat)) ab rfl (AN _ _ _ _) (oZ (tN (d4 _ _ (Ar (vr (.bool (false)) (congrArg Value.bool (decide_eq_false (ad)))) (AJ (Ag (Ag (Ap (bN (tN (db _ _ (wt (oM rfl (oS rfl (Yk.bin (xv:=NI q) (yv:=NI 1) y rfl rfl (Ak _ _ _ (by omega)) ?_)))))))))))))))))))))))
  refine oA rfl (AH [(0,NI n),(1,vi),(2,vp),(6,(Value.slice none 0 0)),(7,vc),(8,NI c),(11,z),(12,NI ((q)+(1))),(13,NI m),(15, .bool (false)),(43, .bool (true)),(55, .bool (false))] ⟨r,f,s,t,j,g,aa,rfl,ab,u,ae,(congrArg Value.bool (decide_eq_false (ad))),trivial⟩ fun d5 ⟨r,f,s,t,j,g,aa,y,ab,u,ae,aq,_⟩=>(tN (And.intro ⟨q+1,vc,r,f,s,t,g,aa,u,y,j,hE,o,BI hr_vc ((by rw[Og hX (by omega),Ke (Ed ids places) (show q<(Az ids).length by rw[BQ];exact hlt),List.append_assoc])),by omega,hap_vc_v58,trivial⟩ ?_)))
  show ids.length-(intOf (d5 12)).toNat<ids.length-(intOf (c8 12)).toNat
  rw[y,q12]
  simp only[intOf,Int.toNat_natCast];omega
 refine sk fun gd ge=>(sk fun gf d6=>(wt (oM rfl (oM rfl (oS rfl (Yk.lenRG JD (RG.of (RG.ofOwn o) aa) (oS rfl (Yk.eqI (a:=(q:Nat)) (b:=(((Az ids)).length:Nat)) y rfl (AN _ _ _ _) (oZ (tN (d6 _ _ (Ar (vr (.bool (false)) (congrArg Value.bool (decide_eq_false (by rw[BQ];exact hlt)))) (AJ (Ag (Ag (Ap (tN (c6 _ _ (sk fun gg d7=>(wt (oM rfl (oM rfl ?_))))))))))))))))))))))
 refine oS rfl (Yk.callA1 Hz r ((FB _ (n) (by omega)).mono ?_))
 rintro e d8 ⟨an,rfl,ah⟩
 refine⟨_,rfl,?_⟩
 have bm:=Ext.refl bu
 have gh:=hE
 have gi:=hE.size
 have gj:Ae z an:=A4 o.2 ah.own
 have gk:Ae an z:=A0 o.2 ah.own
 have b3:Ae vb an:=A4 hr_vb ah.own
 have gl:Ae an vb:=A0 hr_vb ah.own
 have hE:=hE.trans ah.ext
 have o:=o.keep ah.ext
 have hr_vb:=Stab.own _ _ _ _ _ _ _ _ hr_vb ah.ext
 have bm:=bm.trans ah.ext
 have a0:=ah.own;clear ah
 refine oS rfl (Yk.appendRB _ _ w.heap.size (.int .u8 0) DT FW rfl DT ((AY ids).flatMap AI++((Az ids).take q).flatMap (Ed ids places)) (AI (n)) (BB hr_vb j) (RB.of (RB.ofOwn a0) (vr an rfl)) (by rw[C7,List.length_append,Fl,BC,EI 36 (fun x hx=>Kf (h32 _ (DO.1 (List.mem_of_mem_take hx)))),List.length_take];omega) hE.size fun ao d9 ea ap=> ?_)
 have ap:Grew d8 d9 vb ao:= .eqv j ap
 have ec:Ae ao z:=Au ap hap_vb_v58 o.2
 have gm:Ae z ao:=fun k h1 h2=>ec k h2 h1
 have ed:Ae ao an:=Au ap b3 a0
 have gn:Ae an ao:=fun k h1 h2=>ed k h2 h1
 have hE:=AC hE ap hr_vb (Nat.le_refl _)
 have o:=By o ap hap_vb_v58
 clear hr_vb
 clear bm
 have a0:=Bg a0 ap b3
 refine oA rfl (oZ (tN (d7 _ _ (As (Ao (fn:=Tryd.f35) _ rfl [ao] (ao) rfl ⟨rfl,trivial⟩ ?_)))))
 have hqe:q=ids.length:=by omega
 have hfin:=ea
 rw[hqe]at hfin
 rw[List.take_of_length_le (by rw[BQ];exact Nat.le_refl _)]at hfin
 exact⟨_,rfl,⟨hfin,hE.grown⟩⟩
open Go.RowKit
def Cw(B T:List UInt8)(i:Nat):Nat × Nat:=(List.range B.length).foldl (BN B T i) (0,0)
theorem Ns(B:List UInt8)(r:List UInt8)(hr:r.length=8):posOf B (B.length-7) r=posOf B B.length r:=by
  unfold posOf
  by_cases h:B.length≤7
  · have h0:B.length-7=0:=by omega
    rw[h0]
    symm
    rw[List.filter_eq_nil_iff.2]
    · rfl
    · intro j hj he
      have e:=congrArg List.length (eq_of_beq he)
      rw[List.length_take,List.length_drop,hr]at e
      omega
  · rw[show B.length=(B.length-7)+7 by omega,List.range_add,List.filter_append,Nat.add_sub_cancel]
    have:List.filter (fun j=>List.take 8 (List.drop j B)==r) (List.map (fun x=>B.length-7+x) (List.range 7))= []:=by
      rw[List.filter_eq_nil_iff]
      intro j hj he
      obtain⟨x,hx,rfl⟩:=List.mem_map.1 hj
      have e:=congrArg List.length (eq_of_beq he)
      rw[List.length_take,List.length_drop,hr]at e
      omega
    rw[this,List.append_nil]
theorem I3(B T:List UInt8)(i:Nat)(h8:i+8≤T.length):∀k,k≤B.length→((((List.range k).foldl (BN B T i) (0,0)).2<8∧(posOf B k ((T.drop i).take 8)).foldl (BN B T i) (0,0)=(0,0))∨(8≤((List.range k).foldl (BN B T i) (0,0)).2∧(posOf B k ((T.drop i).take 8)).foldl (BN B T i) (0,0)=(List.range k).foldl (BN B T i) (0,0)))
  | 0,_=> .inl ⟨(by show(0:Nat)<8;decide),rfl⟩
  | k+1,hk=>by
    have ih:=I3 B T i h8 k (by omega)
    have hp:posOf B (k+1) ((T.drop i).take 8)=posOf B k ((T.drop i).take 8)++(if((B.drop k).take 8==(T.drop i).take 8)=true then [k]else []):=by
      unfold posOf
      rw[List.range_succ,List.filter_append]
      congr 1
      by_cases h:((B.drop k).take 8==(T.drop i).take 8)=true
      · simp[h]
      · simp[h]
    rw[List.range_succ,List.foldl_append,List.foldl_cons,List.foldl_nil,hp]
    generalize (List.range k).foldl (BN B T i) (0,0)=L at *
    by_cases h:((B.drop k).take 8==(T.drop i).take 8)=true
    · rw[if_pos h,List.foldl_append,List.foldl_cons,List.foldl_nil]
      have he:=eq_of_beq h
      have hl:=congrArg List.length he
      rw[List.length_take,List.length_take,List.length_drop,List.length_drop]at hl
      have h9:=JM 8 (B.drop k) (T.drop i) (by rw[List.length_drop];omega) (by rw[List.length_drop];omega) he
      rcases ih with ⟨h1,h2⟩ | ⟨h1,h2⟩
      · right
        rw[h2,BN,if_pos (by omega),BN,if_pos (show(0:Nat)<_ by omega)]
        exact⟨h9,rfl⟩
      · right
        rw[h2]
        refine⟨?_,rfl⟩
        unfold BN
        split
        · exact h9
        · exact h1
    · rw[if_neg h,List.append_nil]
      have h9:B3 (B.drop k) (T.drop i)<8:=by
        apply Classical.byContradiction
        intro hc
        exact h (by rw[lcp_take (B.drop k) (T.drop i) 8 (by omega)];simp)
      rcases ih with ⟨h1,h2⟩ | ⟨h1,h2⟩
      · left
        refine⟨?_,h2⟩
        unfold BN
        split
        · exact h9
        · exact h1
      · right
        rw[BN,if_neg (by omega)]
        exact⟨h1,h2⟩
theorem Nt(B T:List UInt8)(i:Nat)(hi:i≤T.length):((Cw B T i).2<8∧(BJ B T i).2=0)∨(8≤(Cw B T i).2∧BJ B T i=Cw B T i):=by
  by_cases h8:i+8≤T.length
  · have hb:BJ B T i=(posOf B B.length ((T.drop i).take 8)).foldl (BN B T i) (0,0):=by
      rw[BJ,if_pos h8,Ns B _ (by rw[List.length_take,List.length_drop];omega)]
    rcases I3 B T i h8 B.length (Nat.le_refl _)with ⟨h1,h2⟩ | ⟨h1,h2⟩
    · exact .inl ⟨h1,by rw[hb,h2]⟩
    · exact .inr ⟨h1,by rw[hb,h2];rfl⟩
  · left
    have:=Ii B T i hi (List.range B.length) (0,0) (fun z hz=>by have:=List.mem_range.1 hz;omega) (Nat.zero_le _) (Nat.zero_le _)
    exact⟨by unfold Cw;omega,by rw[BJ,if_neg h8]⟩
open Go.RowKit
set_option maxRecDepth 100000
theorem ES(l:List UInt8)(a m:Nat):(l.drop a).getD m 0=l.getD (a+m) 0:=by simp[List.getD_eq_getElem?_getD]
theorem KQ(w:World)(vb vt:Value)(B T:List UInt8)(hrb:RB w vb B)(hrt:RB w vt T)(ia:Nat)(hia:ia≤T.length)(hB:B.length≤1048576)(hT:T.length≤1048576):
  Calls Tryd.prog 58 #[vb,vt,NI ia] w fun e w' =>e = .returned (.tuple #[NI (Cw B T ia).1,NI (Cw B T ia).2])∧Ext w w' :=by
 refine AA (args:= [vb,vt,NI ia]) Tryd.func58 rfl 56 rfl (Nat.le_of_ble_eq_true rfl) ?_
 intro ax hb
 have f:ax 0=(vb:Value):=hb.get 0
 have j:ax 1=(vt:Value):=hb.get 1
 have k:ax 2=(NI ia:Value):=hb.get 2
 clear hb
 have hE:=Ext.refl w
 refine sk fun K1 bc=>(wt (oA rfl (oA rfl (oZ (tN (bc _ _ (sk fun K2 bd=>(wt (oA rfl (oA rfl (oZ (tN (bd _ _ (sk fun K3 be=>(sk fun K4 bf=>(wt (oA rfl ?_)))))))))))))))))
 refine AH [(0,vb),(1,vt),(2,NI ia),(6,NI 0),(7,NI 0),(8,NI 0),(9,NI 0),(10,NI 0)] ⟨f,j,k,rfl,rfl,rfl,rfl,rfl,trivial⟩ fun cj ⟨f,j,k,r,s,t,o,c,_⟩=>(tN (bf _ _ (Aj (AX (fun(ρ:Aq) (wz:World)=>∃q:Nat,∃p:Nat,∃n:Nat,ρ 0=(vb:Value)∧ρ 1=(vt:Value)∧ρ 2=(NI ia:Value)∧ρ 6=(NI 0:Value)∧ρ 7=(NI 0:Value)∧ρ 10=(NI q:Value)∧ρ 8=(NI p:Value)∧ρ 9=(NI n:Value)∧Ext w wz∧(q≤B.length)∧((List.range q).foldl (BN B T ia) (0,0)=(p,n))∧(p≤B.length)∧(n≤T.length-ia)∧True) (fun ρ _=>B.length-(intOf (ρ 10)).toNat) ⟨0,0,0,f,j,k,r,s,c,t,o,hE,Nat.zero_le _,rfl,Nat.zero_le _,Nat.zero_le _,trivial⟩ ?_))))
 clear hE
 rintro am w7 ⟨q,p,n,f,j,k,r,s,c,t,o,hE,hq,hbp,hp,hn,-⟩
 have q10:=c
 refine sk fun K8 bg=>(sk fun K9 bh=>(wt (oM rfl (oM rfl (oS rfl (Yk.lenRB DT (RB.of (hrb.keep hE) f) (oS rfl (Yk.eqI (a:=(q:Nat)) (b:=(B.length:Nat)) c rfl (AN _ _ _ _) (oZ (tN (bh _ _ ?_)))))))))))
 refine AO ((q)<(B.length)) (vr (.bool (decide ((q)<(B.length)))) rfl) (fun bi=> ?_) (fun bi=> ?_)
 ·refine Ah (tN (bg _ _ (sk fun cn an=>(Aj (sk fun co bj=>(wt (oA rfl (AH [(0,vb),(1,vt),(2,NI ia),(6,NI 0),(7,NI 0),(8,NI p),(9,NI n),(10,NI q),(11,NI 0)] ⟨f,j,k,r,s,t,o,c,rfl,trivial⟩ fun cp ⟨f,j,k,r,s,t,o,c,g,_⟩=>(tN (bj _ _ (sk fun cq ay=>(Aj (AX (fun(ρ:Aq) (wz:World)=>∃m:Nat,ρ 0=(vb:Value)∧ρ 1=(vt:Value)∧ρ 2=(NI ia:Value)∧ρ 6=(NI 0:Value)∧ρ 7=(NI 0:Value)∧ρ 8=(NI p:Value)∧ρ 9=(NI n:Value)∧ρ 10=(NI q:Value)∧ρ 11=(NI m:Value)∧Ext w wz∧(m≤B.length-q)∧(m≤T.length-ia)∧(B3 (B.drop q) (T.drop ia)=m+B3 ((B.drop q).drop m) ((T.drop ia).drop m))∧True) (fun ρ _=>B.length-q-(intOf (ρ 11)).toNat) ⟨0,f,j,k,r,s,t,o,c,g,hE,Nat.zero_le _,Nat.zero_le _,by simp,trivial⟩ ?_)))))))))))))
  clear hE
  rintro bk cr ⟨m,f,j,k,r,s,t,o,c,g,hE,hmb,hmt,hlc,-⟩
  have q11:=g
  by_cases h1:m<B.length-q
  ·by_cases h2:m<T.length-ia
   ·by_cases h3:B.getD (q+m) 0=T.getD (ia+m) 0
    ·refine sk fun cs bm=>(sk fun ct bn=> ?_)
     refine Be [Is (NI m),Is (vb),Is (NI B.length),Is (NI q),Is (NI ((B.length)-(q))),Is (.bool (true)),Is (.bool (true)),Is (NI m),Is (vt),Is (NI T.length),Is (NI ia),Is (NI ((T.length)-(ia))),Is (.bool (true)),Is (.bool (true)),Is (.bool (true)),Is (vb),Is (NI q),Is (NI m),Is (NI ((q)+(m))),PCell (B8 (B.getD ((q)+(m)) 0)),Is (B8 (B.getD ((q)+(m)) 0)),Is (vt),Is (NI ia),Is (NI m),Is (NI ((ia)+(m))),PCell (B8 (T.getD ((ia)+(m)) 0)),Is (B8 (T.getD ((ia)+(m)) 0)),Is (.bool (true)),Is (.bool (true))] (by kernel_rfl) [18,19,20,21,22,23,24,25,26,27,28,29,30,31,32,33,34,35,36,37,38,39,40,41,42,43,44,45,46] (by kernel_rfl) (by kernel_rfl) (HC (Ct ⟨Stab.pcell _,(Iw ⟨Stab.pcell _,(DV trivial)⟩)⟩)) ?bo ?hQ1006
     case bo=>
      refine⟨?_,?_,?_,?_,?_,?_,?_,?_,?_,?_,?_,?_,?_,?_,?_,?_,?_,?_,?_,?_,?_,?_,?_,?_,?_,?_,?_,?_,?_,trivial⟩
      ·refine Aa rfl fun σ w1 hC h=> ?_
       have u:=(Ab (h 11 (by decide))).trans g
       exact Yk.move u ⟨Ext.refl _,rfl⟩
      ·refine Aa rfl fun σ w1 hC h=> ?_
       have y:=(Ab (h 0 (by decide))).trans f
       exact Yk.move y ⟨Ext.refl _,rfl⟩
      ·refine Aa rfl fun σ w1 hC h=> ?_
       have ad:=Ab (h 19 (by decide))
       exact Yk.lenRB DT (RB.of (hrb.keep (hE.trans hC)) ad) ⟨Ext.refl _,rfl⟩
      ·refine Aa rfl fun σ w1 hC h=> ?_
       have z:=(Ab (h 10 (by decide))).trans c
       exact Yk.move z ⟨Ext.refl _,rfl⟩
      ·refine Aa rfl fun σ w1 hC h=> ?_
       have ae:=Ab (h 20 (by decide))
       have af:=Ab (h 21 (by decide))
       exact Yk.bin (xv:=NI B.length) (yv:=NI q) ae af rfl (Bj _ _ _ (by omega) (by omega)) ⟨Ext.refl _,rfl⟩
      ·refine Aa rfl fun σ w1 hC h=> ?_
       have ag:=Ab (h 18 (by decide))
       have ah:=Ab (h 22 (by decide))
       exact Yk.eqI (a:=(m:Nat)) (b:=((B.length)-(q):Nat)) ag ah (AN _ _ _ _) ⟨Ext.refl _,(congrArg Value.bool (decide_eq_true (h1)))⟩
      ·refine Aa rfl fun σ w1 hC h=> ?_
       have ai:=Ab (h 23 (by decide))
       exact Yk.move ai ⟨Ext.refl _,rfl⟩
      ·refine Ay 6 true 24 rfl rfl (fun _ _ h=>h) fun σ w1 hC h=> ?_
       have u:=(Ab (h 11 (by decide))).trans g
       exact Yk.move u ⟨Ext.refl _,rfl⟩
      ·refine Ay 6 true 24 rfl rfl (fun _ _ h=>h) fun σ w1 hC h=> ?_
       have e1:=(Ab (h 1 (by decide))).trans j
       exact Yk.move e1 ⟨Ext.refl _,rfl⟩
      ·refine Ay 6 true 24 rfl rfl (fun _ _ h=>h) fun σ w1 hC h=> ?_
       have ao:=Ab (h 26 (by decide))
       exact Yk.lenRB DT (RB.of (hrt.keep (hE.trans hC)) ao) ⟨Ext.refl _,rfl⟩
      ·refine Ay 6 true 24 rfl rfl (fun _ _ h=>h) fun σ w1 hC h=> ?_
       have e2:=(Ab (h 2 (by decide))).trans k
       exact Yk.move e2 ⟨Ext.refl _,rfl⟩
      ·refine Ay 6 true 24 rfl rfl (fun _ _ h=>h) fun σ w1 hC h=> ?_
       have ap:=Ab (h 27 (by decide))
       have aq:=Ab (h 28 (by decide))
       exact Yk.bin (xv:=NI T.length) (yv:=NI ia) ap aq rfl (Bj _ _ _ (by omega) (by omega)) ⟨Ext.refl _,rfl⟩
      ·refine Ay 6 true 24 rfl rfl (fun _ _ h=>h) fun σ w1 hC h=> ?_
       have ar:=Ab (h 25 (by decide))
       have au:=Ab (h 29 (by decide))
       exact Yk.eqI (a:=(m:Nat)) (b:=((T.length)-(ia):Nat)) ar au (AN _ _ _ _) ⟨Ext.refl _,(congrArg Value.bool (decide_eq_true (h2)))⟩
      ·refine Aa rfl fun σ w1 hC h=> ?_
       have aj:=Ab (h 24 (by decide))
       have av:=Ab (h 30 (by decide))
       exact Yk.pickT aj av ⟨Ext.refl _,rfl⟩
      ·refine Aa rfl fun σ w1 hC h=> ?_
       have ak:=Ab (h 31 (by decide))
       exact Yk.move ak ⟨Ext.refl _,rfl⟩
      ·refine Ay 14 true 32 rfl rfl (fun _ _ h=>h) fun σ w1 hC h=> ?_
       have y:=(Ab (h 0 (by decide))).trans f
       exact Yk.move y ⟨Ext.refl _,rfl⟩
      ·refine Ay 14 true 32 rfl rfl (fun _ _ h=>h) fun σ w1 hC h=> ?_
       have z:=(Ab (h 10 (by decide))).trans c
       exact Yk.move z ⟨Ext.refl _,rfl⟩
      ·refine Ay 14 true 32 rfl rfl (fun _ _ h=>h) fun σ w1 hC h=> ?_
       have u:=(Ab (h 11 (by decide))).trans g
       exact Yk.move u ⟨Ext.refl _,rfl⟩
      ·refine Ay 14 true 32 rfl rfl (fun _ _ h=>h) fun σ w1 hC h=> ?_
       have az:=Ab (h 34 (by decide))
       have a0:=Ab (h 35 (by decide))
       exact Yk.bin (xv:=NI q) (yv:=NI m) az a0 rfl (Ak _ _ _ (by omega)) ⟨Ext.refl _,rfl⟩
      ·refine Ay 14 true 32 rfl rfl (fun _ _ h=>h) fun σ w1 hC h=> ?_
       have a1:=Ab (h 33 (by decide))
       have a2:=Ab (h 36 (by decide))
       exact Yk.atRB (l:=B) (i:=(q)+(m)) DT Ls (RB.of (hrb.keep (hE.trans hC)) a1) a2 (by omega) fun _ h=>⟨Ext.refl _,h⟩
      ·refine Ay 14 true 32 rfl rfl (fun _ _ h=>h) fun σ w1 hC h=> ?_
       have a3:(PCell (B8 (B.getD ((q)+(m)) 0))) (σ 37) w1:=h 37 (by decide)
       exact Yk.loadC u5 rfl a3 ⟨Ext.refl _,rfl⟩
      ·refine Ay 14 true 32 rfl rfl (fun _ _ h=>h) fun σ w1 hC h=> ?_
       have e1:=(Ab (h 1 (by decide))).trans j
       exact Yk.move e1 ⟨Ext.refl _,rfl⟩
      ·refine Ay 14 true 32 rfl rfl (fun _ _ h=>h) fun σ w1 hC h=> ?_
       have e2:=(Ab (h 2 (by decide))).trans k
       exact Yk.move e2 ⟨Ext.refl _,rfl⟩
      ·refine Ay 14 true 32 rfl rfl (fun _ _ h=>h) fun σ w1 hC h=> ?_
       have u:=(Ab (h 11 (by decide))).trans g
       exact Yk.move u ⟨Ext.refl _,rfl⟩
      ·refine Ay 14 true 32 rfl rfl (fun _ _ h=>h) fun σ w1 hC h=> ?_
       have a4:=Ab (h 40 (by decide))
       have a5:=Ab (h 41 (by decide))
       exact Yk.bin (xv:=NI ia) (yv:=NI m) a4 a5 rfl (Ak _ _ _ (by omega)) ⟨Ext.refl _,rfl⟩
      ·refine Ay 14 true 32 rfl rfl (fun _ _ h=>h) fun σ w1 hC h=> ?_
       have a6:=Ab (h 39 (by decide))
       have a7:=Ab (h 42 (by decide))
       exact Yk.atRB (l:=T) (i:=(ia)+(m)) DT Ls (RB.of (hrt.keep (hE.trans hC)) a6) a7 (by omega) fun _ h=>⟨Ext.refl _,h⟩
      ·refine Ay 14 true 32 rfl rfl (fun _ _ h=>h) fun σ w1 hC h=> ?_
       have a8:(PCell (B8 (T.getD ((ia)+(m)) 0))) (σ 43) w1:=h 43 (by decide)
       exact Yk.loadC u5 rfl a8 ⟨Ext.refl _,rfl⟩
      ·refine Ay 14 true 32 rfl rfl (fun _ _ h=>h) fun σ w1 hC h=> ?_
       have a9:=Ab (h 38 (by decide))
       have ba:=Ab (h 44 (by decide))
       exact Yk.eqI (a:=((B.getD ((q)+(m)) 0).toNat:Nat)) (b:=((T.getD ((ia)+(m)) 0).toNat:Nat)) a9 ba (Br _ _ _ _) ⟨Ext.refl _,(congrArg Value.bool (decide_eq_true (congrArg UInt8.toNat h3)))⟩
      ·refine Aa rfl fun σ w1 hC h=> ?_
       have al:=Ab (h 32 (by decide))
       have bb:=Ab (h 45 (by decide))
       exact Yk.pickT al bb ⟨Ext.refl _,rfl⟩
     intro bp cu bq he hf
     obtain⟨-,-,-,-,-,-,-,-,-,-,-,-,-,-,-,-,-,-,-,-,-,-,-,-,-,-,-,-,k46,-⟩:=hf
     obtain⟨f,j,k,r,s,t,o,c,g,-⟩:=he.hold [(0,_),(1,_),(2,_),(6,_),(7,_),(8,_),(9,_),(10,_),(11,_)] ⟨f,j,k,r,s,t,o,c,g,trivial⟩ rfl
     clear he
     have hE:=hE.trans bq
     have v:bp 46 = .bool (true):=k46
     clear k46
     refine tN (bn _ _ (AE v (Ah (tN (bm _ _ (Aj (wt (oM rfl (oS rfl (Yk.bin (xv:=NI m) (yv:=NI 1) g rfl rfl (Ak _ _ _ (by omega)) (oA rfl (AH [(0,vb),(1,vt),(2,NI ia),(6,NI 0),(7,NI 0),(8,NI p),(9,NI n),(10,NI q),(11,NI ((m)+(1))),(46, .bool (true))] ⟨f,j,k,r,s,t,o,c,rfl,v,trivial⟩ fun br ⟨f,j,k,r,s,t,o,c,g,v,_⟩=>(bN (tN (And.intro ⟨m+1,f,j,k,r,s,t,o,c,g,hE,by omega,by omega,by rw[hlc,JG (by rw[List.length_drop];exact h1) (by rw[List.length_drop];exact h2) (by rw[ES,ES];exact h3)];omega,trivial⟩ ?_)))))))))))))))
     show B.length-q-(intOf (br 11)).toNat<B.length-q-(intOf (bk 11)).toNat
     rw[g,q11]
     simp only[intOf,Int.toNat_natCast];omega
    have aw:=Mq (a:=B.drop q) (b:=T.drop ia) (i:=m) (by rw[List.length_drop];exact h1) (by rw[List.length_drop];exact h2) (by rw[ES,ES];exact h3)
    refine sk fun cv cw=>(sk fun cx bs=> ?_)
    refine Be [Is (NI m),Is (vb),Is (NI B.length),Is (NI q),Is (NI ((B.length)-(q))),Is (.bool (true)),Is (.bool (true)),Is (NI m),Is (vt),Is (NI T.length),Is (NI ia),Is (NI ((T.length)-(ia))),Is (.bool (true)),Is (.bool (true)),Is (.bool (true)),Is (vb),Is (NI q),Is (NI m),Is (NI ((q)+(m))),PCell (B8 (B.getD ((q)+(m)) 0)),Is (B8 (B.getD ((q)+(m)) 0)),Is (vt),Is (NI ia),Is (NI m),Is (NI ((ia)+(m))),PCell (B8 (T.getD ((ia)+(m)) 0)),Is (B8 (T.getD ((ia)+(m)) 0)),Is (.bool (false)),Is (.bool (false))] (by kernel_rfl) [18,19,20,21,22,23,24,25,26,27,28,29,30,31,32,33,34,35,36,37,38,39,40,41,42,43,44,45,46] (by kernel_rfl) (by kernel_rfl) (HC (Ct ⟨Stab.pcell _,(Iw ⟨Stab.pcell _,(DV trivial)⟩)⟩)) ?bt ?hQ2006
    case bt=>
     refine⟨?_,?_,?_,?_,?_,?_,?_,?_,?_,?_,?_,?_,?_,?_,?_,?_,?_,?_,?_,?_,?_,?_,?_,?_,?_,?_,?_,?_,?_,trivial⟩
     ·refine Aa rfl fun σ w1 hC h=> ?_
      have u:=(Ab (h 11 (by decide))).trans g
      exact Yk.move u ⟨Ext.refl _,rfl⟩
     ·refine Aa rfl fun σ w1 hC h=> ?_
      have y:=(Ab (h 0 (by decide))).trans f
      exact Yk.move y ⟨Ext.refl _,rfl⟩
     ·refine Aa rfl fun σ w1 hC h=> ?_
      have ad:=Ab (h 19 (by decide))
      exact Yk.lenRB DT (RB.of (hrb.keep (hE.trans hC)) ad) ⟨Ext.refl _,rfl⟩
     ·refine Aa rfl fun σ w1 hC h=> ?_
      have z:=(Ab (h 10 (by decide))).trans c
      exact Yk.move z ⟨Ext.refl _,rfl⟩
     ·refine Aa rfl fun σ w1 hC h=> ?_
      have ae:=Ab (h 20 (by decide))
      have af:=Ab (h 21 (by decide))
      exact Yk.bin (xv:=NI B.length) (yv:=NI q) ae af rfl (Bj _ _ _ (by omega) (by omega)) ⟨Ext.refl _,rfl⟩
     ·refine Aa rfl fun σ w1 hC h=> ?_
      have ag:=Ab (h 18 (by decide))
      have ah:=Ab (h 22 (by decide))
      exact Yk.eqI (a:=(m:Nat)) (b:=((B.length)-(q):Nat)) ag ah (AN _ _ _ _) ⟨Ext.refl _,(congrArg Value.bool (decide_eq_true (h1)))⟩
     ·refine Aa rfl fun σ w1 hC h=> ?_
      have ai:=Ab (h 23 (by decide))
      exact Yk.move ai ⟨Ext.refl _,rfl⟩
     ·refine Ay 6 true 24 rfl rfl (fun _ _ h=>h) fun σ w1 hC h=> ?_
      have u:=(Ab (h 11 (by decide))).trans g
      exact Yk.move u ⟨Ext.refl _,rfl⟩
     ·refine Ay 6 true 24 rfl rfl (fun _ _ h=>h) fun σ w1 hC h=> ?_
      have e1:=(Ab (h 1 (by decide))).trans j
      exact Yk.move e1 ⟨Ext.refl _,rfl⟩
     ·refine Ay 6 true 24 rfl rfl (fun _ _ h=>h) fun σ w1 hC h=> ?_
      have ao:=Ab (h 26 (by decide))
      exact Yk.lenRB DT (RB.of (hrt.keep (hE.trans hC)) ao) ⟨Ext.refl _,rfl⟩
     ·refine Ay 6 true 24 rfl rfl (fun _ _ h=>h) fun σ w1 hC h=> ?_
      have e2:=(Ab (h 2 (by decide))).trans k
      exact Yk.move e2 ⟨Ext.refl _,rfl⟩
     ·refine Ay 6 true 24 rfl rfl (fun _ _ h=>h) fun σ w1 hC h=> ?_
      have ap:=Ab (h 27 (by decide))
      have aq:=Ab (h 28 (by decide))
      exact Yk.bin (xv:=NI T.length) (yv:=NI ia) ap aq rfl (Bj _ _ _ (by omega) (by omega)) ⟨Ext.refl _,rfl⟩
     ·refine Ay 6 true 24 rfl rfl (fun _ _ h=>h) fun σ w1 hC h=> ?_
      have ar:=Ab (h 25 (by decide))
      have au:=Ab (h 29 (by decide))
      exact Yk.eqI (a:=(m:Nat)) (b:=((T.length)-(ia):Nat)) ar au (AN _ _ _ _) ⟨Ext.refl _,(congrArg Value.bool (decide_eq_true (h2)))⟩
     ·refine Aa rfl fun σ w1 hC h=> ?_
      have aj:=Ab (h 24 (by decide))
      have av:=Ab (h 30 (by decide))
      exact Yk.pickT aj av ⟨Ext.refl _,rfl⟩
     ·refine Aa rfl fun σ w1 hC h=> ?_
      have ak:=Ab (h 31 (by decide))
      exact Yk.move ak ⟨Ext.refl _,rfl⟩
     ·refine Ay 14 true 32 rfl rfl (fun _ _ h=>h) fun σ w1 hC h=> ?_
      have y:=(Ab (h 0 (by decide))).trans f
      exact Yk.move y ⟨Ext.refl _,rfl⟩
     ·refine Ay 14 true 32 rfl rfl (fun _ _ h=>h) fun σ w1 hC h=> ?_
      have z:=(Ab (h 10 (by decide))).trans c
      exact Yk.move z ⟨Ext.refl _,rfl⟩
     ·refine Ay 14 true 32 rfl rfl (fun _ _ h=>h) fun σ w1 hC h=> ?_
      have u:=(Ab (h 11 (by decide))).trans g
      exact Yk.move u ⟨Ext.refl _,rfl⟩
     ·refine Ay 14 true 32 rfl rfl (fun _ _ h=>h) fun σ w1 hC h=> ?_
      have az:=Ab (h 34 (by decide))
      have a0:=Ab (h 35 (by decide))
      exact Yk.bin (xv:=NI q) (yv:=NI m) az a0 rfl (Ak _ _ _ (by omega)) ⟨Ext.refl _,rfl⟩
     ·refine Ay 14 true 32 rfl rfl (fun _ _ h=>h) fun σ w1 hC h=> ?_
      have a1:=Ab (h 33 (by decide))
      have a2:=Ab (h 36 (by decide))
      exact Yk.atRB (l:=B) (i:=(q)+(m)) DT Ls (RB.of (hrb.keep (hE.trans hC)) a1) a2 (by omega) fun _ h=>⟨Ext.refl _,h⟩
     ·refine Ay 14 true 32 rfl rfl (fun _ _ h=>h) fun σ w1 hC h=> ?_
      have a3:(PCell (B8 (B.getD ((q)+(m)) 0))) (σ 37) w1:=h 37 (by decide)
      exact Yk.loadC u5 rfl a3 ⟨Ext.refl _,rfl⟩
     ·refine Ay 14 true 32 rfl rfl (fun _ _ h=>h) fun σ w1 hC h=> ?_
      have e1:=(Ab (h 1 (by decide))).trans j
      exact Yk.move e1 ⟨Ext.refl _,rfl⟩
     ·refine Ay 14 true 32 rfl rfl (fun _ _ h=>h) fun σ w1 hC h=> ?_
      have e2:=(Ab (h 2 (by decide))).trans k
      exact Yk.move e2 ⟨Ext.refl _,rfl⟩
     ·refine Ay 14 true 32 rfl rfl (fun _ _ h=>h) fun σ w1 hC h=> ?_
      have u:=(Ab (h 11 (by decide))).trans g
      exact Yk.move u ⟨Ext.refl _,rfl⟩
     ·refine Ay 14 true 32 rfl rfl (fun _ _ h=>h) fun σ w1 hC h=> ?_
      have a4:=Ab (h 40 (by decide))
      have a5:=Ab (h 41 (by decide))
      exact Yk.bin (xv:=NI ia) (yv:=NI m) a4 a5 rfl (Ak _ _ _ (by omega)) ⟨Ext.refl _,rfl⟩
     ·refine Ay 14 true 32 rfl rfl (fun _ _ h=>h) fun σ w1 hC h=> ?_
      have a6:=Ab (h 39 (by decide))
      have a7:=Ab (h 42 (by decide))
      exact Yk.atRB (l:=T) (i:=(ia)+(m)) DT Ls (RB.of (hrt.keep (hE.trans hC)) a6) a7 (by omega) fun _ h=>⟨Ext.refl _,h⟩
     ·refine Ay 14 true 32 rfl rfl (fun _ _ h=>h) fun σ w1 hC h=> ?_
      have a8:(PCell (B8 (T.getD ((ia)+(m)) 0))) (σ 43) w1:=h 43 (by decide)
      exact Yk.loadC u5 rfl a8 ⟨Ext.refl _,rfl⟩
     ·refine Ay 14 true 32 rfl rfl (fun _ _ h=>h) fun σ w1 hC h=> ?_
      have a9:=Ab (h 38 (by decide))
      have ba:=Ab (h 44 (by decide))
      exact Yk.eqI (a:=((B.getD ((q)+(m)) 0).toNat:Nat)) (b:=((T.getD ((ia)+(m)) 0).toNat:Nat)) a9 ba (Br _ _ _ _) ⟨Ext.refl _,(congrArg Value.bool (decide_eq_false (fun h=>h3 (UInt8.toNat_inj.1 h))))⟩
     ·refine Aa rfl fun σ w1 hC h=> ?_
      have al:=Ab (h 32 (by decide))
      have bb:=Ab (h 45 (by decide))
      exact Yk.pickT al bb ⟨Ext.refl _,rfl⟩
    intro bu cy bv he hf
    obtain⟨-,-,-,-,-,-,-,-,-,-,-,-,-,-,-,-,-,-,-,-,-,-,-,-,-,-,-,-,k46,-⟩:=hf
    obtain⟨f,j,k,r,s,t,o,c,g,-⟩:=he.hold [(0,_),(1,_),(2,_),(6,_),(7,_),(8,_),(9,_),(10,_),(11,_)] ⟨f,j,k,r,s,t,o,c,g,trivial⟩ rfl
    clear he
    have hE:=hE.trans bv
    have v:bu 46 = .bool (false):=k46
    clear k46
    refine tN (bs _ _ (Ar v (AJ (Ag (Ag (Ap (tN (ay _ _ (sk fun cz bw=>(wt (oM rfl (oM rfl (oS rfl (Yk.eqI (a:=(m:Nat)) (b:=(n:Nat)) g o (Bm _ _ _ _) (oZ ?_)))))))))))))))
    have hm:B3 (B.drop q) (T.drop ia)=m:=by rw[hlc,aw];rfl
    refine tN (bw _ _ ?_)
    refine AO ((n)<(m)) (vr (.bool (decide ((n)<(m)))) rfl) (fun aa=> ?_) (fun aa=> ?_)
    ·refine wt (oM rfl (oM rfl (oA rfl (oA rfl (oZ (bN (tN (an _ _ (wt (oM rfl (oS rfl (Yk.bin (xv:=NI q) (yv:=NI 1) c rfl rfl (Ak _ _ _ (by omega)) (oA rfl (AH [(0,vb),(1,vt),(2,NI ia),(6,NI 0),(7,NI 0),(8,NI q),(9,NI m),(10,NI ((q)+(1))),(11,NI m),(46, .bool (false))] ⟨f,j,k,r,s,c,g,rfl,g,v,trivial⟩ fun bx ⟨f,j,k,r,s,t,o,c,g,v,_⟩=>(tN (And.intro ⟨q+1,q,m,f,j,k,r,s,c,t,o,hE,by omega,by rw[List.range_succ,List.foldl_append,hbp,List.foldl_cons,List.foldl_nil,BN,hm,if_pos aa],by omega,by omega,trivial⟩ ?_))))))))))))))))
     show B.length-(intOf (bx 10)).toNat<B.length-(intOf (am 10)).toNat
     rw[c,q10]
     simp only[intOf,Int.toNat_natCast];omega
    refine Ah (bN (tN (an _ _ (wt (oM rfl (oS rfl (Yk.bin (xv:=NI q) (yv:=NI 1) c rfl rfl (Ak _ _ _ (by omega)) (oA rfl (AH [(0,vb),(1,vt),(2,NI ia),(6,NI 0),(7,NI 0),(8,NI p),(9,NI n),(10,NI ((q)+(1))),(11,NI m),(46, .bool (false))] ⟨f,j,k,r,s,t,o,rfl,g,v,trivial⟩ fun bz ⟨f,j,k,r,s,t,o,c,g,v,_⟩=>(tN (And.intro ⟨q+1,p,n,f,j,k,r,s,c,t,o,hE,by omega,by rw[List.range_succ,List.foldl_append,hbp,List.foldl_cons,List.foldl_nil,BN,hm,if_neg aa],by omega,by omega,trivial⟩ ?_)))))))))))
    show B.length-(intOf (bz 10)).toNat<B.length-(intOf (am 10)).toNat
    rw[c,q10]
    simp only[intOf,Int.toNat_natCast];omega
   have aw:=JI (a:=B.drop q) (b:=T.drop ia) (i:=m) (by rw[List.length_drop];omega)
   refine sk fun c0 c1=>(sk fun c2 b0=> ?_)
   refine Be [Is (NI m),Is (vb),Is (NI B.length),Is (NI q),Is (NI ((B.length)-(q))),Is (.bool (true)),Is (.bool (true)),Is (NI m),Is (vt),Is (NI T.length),Is (NI ia),Is (NI ((T.length)-(ia))),Is (.bool (false)),Is (.bool (false)),Is (.bool (false)),Is undef,Is undef,Is undef,Is undef,Is undef,Is undef,Is undef,Is undef,Is undef,Is undef,Is undef,Is undef,Is undef,Is (.bool (false))] (by kernel_rfl) [18,19,20,21,22,23,24,25,26,27,28,29,30,31,32,33,34,35,36,37,38,39,40,41,42,43,44,45,46] (by kernel_rfl) (by kernel_rfl) (Iw (Ct (Ct trivial))) ?b1 ?hQ3006
   case b1=>
    refine⟨?_,?_,?_,?_,?_,?_,?_,?_,?_,?_,?_,?_,?_,?_,?_,?_,?_,?_,?_,?_,?_,?_,?_,?_,?_,?_,?_,?_,?_,trivial⟩
    ·refine Aa rfl fun σ w1 hC h=> ?_
     have u:=(Ab (h 11 (by decide))).trans g
     exact Yk.move u ⟨Ext.refl _,rfl⟩
    ·refine Aa rfl fun σ w1 hC h=> ?_
     have y:=(Ab (h 0 (by decide))).trans f
     exact Yk.move y ⟨Ext.refl _,rfl⟩
    ·refine Aa rfl fun σ w1 hC h=> ?_
     have ad:=Ab (h 19 (by decide))
     exact Yk.lenRB DT (RB.of (hrb.keep (hE.trans hC)) ad) ⟨Ext.refl _,rfl⟩
    ·refine Aa rfl fun σ w1 hC h=> ?_
     have z:=(Ab (h 10 (by decide))).trans c
     exact Yk.move z ⟨Ext.refl _,rfl⟩
    ·refine Aa rfl fun σ w1 hC h=> ?_
     have ae:=Ab (h 20 (by decide))
     have af:=Ab (h 21 (by decide))
     exact Yk.bin (xv:=NI B.length) (yv:=NI q) ae af rfl (Bj _ _ _ (by omega) (by omega)) ⟨Ext.refl _,rfl⟩
    ·refine Aa rfl fun σ w1 hC h=> ?_
     have ag:=Ab (h 18 (by decide))
     have ah:=Ab (h 22 (by decide))
     exact Yk.eqI (a:=(m:Nat)) (b:=((B.length)-(q):Nat)) ag ah (AN _ _ _ _) ⟨Ext.refl _,(congrArg Value.bool (decide_eq_true (h1)))⟩
    ·refine Aa rfl fun σ w1 hC h=> ?_
     have ai:=Ab (h 23 (by decide))
     exact Yk.move ai ⟨Ext.refl _,rfl⟩
    ·refine Ay 6 true 24 rfl rfl (fun _ _ h=>h) fun σ w1 hC h=> ?_
     have u:=(Ab (h 11 (by decide))).trans g
     exact Yk.move u ⟨Ext.refl _,rfl⟩
    ·refine Ay 6 true 24 rfl rfl (fun _ _ h=>h) fun σ w1 hC h=> ?_
     have e1:=(Ab (h 1 (by decide))).trans j
     exact Yk.move e1 ⟨Ext.refl _,rfl⟩
    ·refine Ay 6 true 24 rfl rfl (fun _ _ h=>h) fun σ w1 hC h=> ?_
     have ao:=Ab (h 26 (by decide))
     exact Yk.lenRB DT (RB.of (hrt.keep (hE.trans hC)) ao) ⟨Ext.refl _,rfl⟩
    ·refine Ay 6 true 24 rfl rfl (fun _ _ h=>h) fun σ w1 hC h=> ?_
     have e2:=(Ab (h 2 (by decide))).trans k
     exact Yk.move e2 ⟨Ext.refl _,rfl⟩
    ·refine Ay 6 true 24 rfl rfl (fun _ _ h=>h) fun σ w1 hC h=> ?_
     have ap:=Ab (h 27 (by decide))
     have aq:=Ab (h 28 (by decide))
     exact Yk.bin (xv:=NI T.length) (yv:=NI ia) ap aq rfl (Bj _ _ _ (by omega) (by omega)) ⟨Ext.refl _,rfl⟩
    ·refine Ay 6 true 24 rfl rfl (fun _ _ h=>h) fun σ w1 hC h=> ?_
     have ar:=Ab (h 25 (by decide))
     have au:=Ab (h 29 (by decide))
     exact Yk.eqI (a:=(m:Nat)) (b:=((T.length)-(ia):Nat)) ar au (AN _ _ _ _) ⟨Ext.refl _,(congrArg Value.bool (decide_eq_false (h2)))⟩
    ·refine Aa rfl fun σ w1 hC h=> ?_
     have aj:=Ab (h 24 (by decide))
     have av:=Ab (h 30 (by decide))
     exact Yk.pickT aj av ⟨Ext.refl _,rfl⟩
    ·refine Aa rfl fun σ w1 hC h=> ?_
     have ak:=Ab (h 31 (by decide))
     exact Yk.move ak ⟨Ext.refl _,rfl⟩
    ·refine AS 14 true 32 rfl rfl (fun x _ (h:x = .bool false)=>by rw[h];intro h;cases h) fun _=>rfl
    ·refine AS 14 true 32 rfl rfl (fun x _ (h:x = .bool false)=>by rw[h];intro h;cases h) fun _=>rfl
    ·refine AS 14 true 32 rfl rfl (fun x _ (h:x = .bool false)=>by rw[h];intro h;cases h) fun _=>rfl
    ·refine AS 14 true 32 rfl rfl (fun x _ (h:x = .bool false)=>by rw[h];intro h;cases h) fun _=>rfl
    ·refine AS 14 true 32 rfl rfl (fun x _ (h:x = .bool false)=>by rw[h];intro h;cases h) fun _=>rfl
    ·refine AS 14 true 32 rfl rfl (fun x _ (h:x = .bool false)=>by rw[h];intro h;cases h) fun _=>rfl
    ·refine AS 14 true 32 rfl rfl (fun x _ (h:x = .bool false)=>by rw[h];intro h;cases h) fun _=>rfl
    ·refine AS 14 true 32 rfl rfl (fun x _ (h:x = .bool false)=>by rw[h];intro h;cases h) fun _=>rfl
    ·refine AS 14 true 32 rfl rfl (fun x _ (h:x = .bool false)=>by rw[h];intro h;cases h) fun _=>rfl
    ·refine AS 14 true 32 rfl rfl (fun x _ (h:x = .bool false)=>by rw[h];intro h;cases h) fun _=>rfl
    ·refine AS 14 true 32 rfl rfl (fun x _ (h:x = .bool false)=>by rw[h];intro h;cases h) fun _=>rfl
    ·refine AS 14 true 32 rfl rfl (fun x _ (h:x = .bool false)=>by rw[h];intro h;cases h) fun _=>rfl
    ·refine AS 14 true 32 rfl rfl (fun x _ (h:x = .bool false)=>by rw[h];intro h;cases h) fun _=>rfl
    ·refine Aa rfl fun σ w1 hC h=> ?_
     have al:=Ab (h 32 (by decide))
     exact Yk.pickF al (vr (.bool (false)) rfl) ⟨Ext.refl _,rfl⟩
   intro b2 c3 b3 he hf
   obtain⟨-,-,-,-,-,-,-,-,-,-,-,-,-,-,-,-,-,-,-,-,-,-,-,-,-,-,-,-,k46,-⟩:=hf
   obtain⟨f,j,k,r,s,t,o,c,g,-⟩:=he.hold [(0,_),(1,_),(2,_),(6,_),(7,_),(8,_),(9,_),(10,_),(11,_)] ⟨f,j,k,r,s,t,o,c,g,trivial⟩ rfl
   clear he
   have hE:=hE.trans b3
   have v:b2 46 = .bool (false):=k46
   clear k46
   refine tN (b0 _ _ (Ar v (AJ (Ag (Ag (Ap (tN (ay _ _ (sk fun c4 b4=>(wt (oM rfl (oM rfl (oS rfl (Yk.eqI (a:=(m:Nat)) (b:=(n:Nat)) g o (Bm _ _ _ _) (oZ ?_)))))))))))))))
   have hm:B3 (B.drop q) (T.drop ia)=m:=by rw[hlc,aw];rfl
   refine tN (b4 _ _ ?_)
   refine AO ((n)<(m)) (vr (.bool (decide ((n)<(m)))) rfl) (fun aa=> ?_) (fun aa=> ?_)
   ·refine wt (oM rfl (oM rfl (oA rfl (oA rfl (oZ (bN (tN (an _ _ (wt (oM rfl (oS rfl (Yk.bin (xv:=NI q) (yv:=NI 1) c rfl rfl (Ak _ _ _ (by omega)) (oA rfl (AH [(0,vb),(1,vt),(2,NI ia),(6,NI 0),(7,NI 0),(8,NI q),(9,NI m),(10,NI ((q)+(1))),(11,NI m),(46, .bool (false))] ⟨f,j,k,r,s,c,g,rfl,g,v,trivial⟩ fun b5 ⟨f,j,k,r,s,t,o,c,g,v,_⟩=>(tN (And.intro ⟨q+1,q,m,f,j,k,r,s,c,t,o,hE,by omega,by rw[List.range_succ,List.foldl_append,hbp,List.foldl_cons,List.foldl_nil,BN,hm,if_pos aa],by omega,by omega,trivial⟩ ?_))))))))))))))))
    show B.length-(intOf (b5 10)).toNat<B.length-(intOf (am 10)).toNat
    rw[c,q10]
    simp only[intOf,Int.toNat_natCast];omega
   refine Ah (bN (tN (an _ _ (wt (oM rfl (oS rfl (Yk.bin (xv:=NI q) (yv:=NI 1) c rfl rfl (Ak _ _ _ (by omega)) (oA rfl (AH [(0,vb),(1,vt),(2,NI ia),(6,NI 0),(7,NI 0),(8,NI p),(9,NI n),(10,NI ((q)+(1))),(11,NI m),(46, .bool (false))] ⟨f,j,k,r,s,t,o,rfl,g,v,trivial⟩ fun b6 ⟨f,j,k,r,s,t,o,c,g,v,_⟩=>(tN (And.intro ⟨q+1,p,n,f,j,k,r,s,c,t,o,hE,by omega,by rw[List.range_succ,List.foldl_append,hbp,List.foldl_cons,List.foldl_nil,BN,hm,if_neg aa],by omega,by omega,trivial⟩ ?_)))))))))))
   show B.length-(intOf (b6 10)).toNat<B.length-(intOf (am 10)).toNat
   rw[c,q10]
   simp only[intOf,Int.toNat_natCast];omega
  have aw:=JH (a:=B.drop q) (b:=T.drop ia) (i:=m) (by rw[List.length_drop];omega)
  refine sk fun c5 c6=>(sk fun c7 b7=> ?_)
  refine Be [Is (NI m),Is (vb),Is (NI B.length),Is (NI q),Is (NI ((B.length)-(q))),Is (.bool (false)),Is (.bool (false)),Is undef,Is undef,Is undef,Is undef,Is undef,Is undef,Is (.bool (false)),Is (.bool (false)),Is undef,Is undef,Is undef,Is undef,Is undef,Is undef,Is undef,Is undef,Is undef,Is undef,Is undef,Is undef,Is undef,Is (.bool (false))] (by kernel_rfl) [18,19,20,21,22,23,24,25,26,27,28,29,30,31,32,33,34,35,36,37,38,39,40,41,42,43,44,45,46] (by kernel_rfl) (by kernel_rfl) (Iw (Ct (Ct trivial))) ?b8 ?hQ4006
  case b8=>
   refine⟨?_,?_,?_,?_,?_,?_,?_,?_,?_,?_,?_,?_,?_,?_,?_,?_,?_,?_,?_,?_,?_,?_,?_,?_,?_,?_,?_,?_,?_,trivial⟩
   ·refine Aa rfl fun σ w1 hC h=> ?_
    have u:=(Ab (h 11 (by decide))).trans g
    exact Yk.move u ⟨Ext.refl _,rfl⟩
   ·refine Aa rfl fun σ w1 hC h=> ?_
    have y:=(Ab (h 0 (by decide))).trans f
    exact Yk.move y ⟨Ext.refl _,rfl⟩
   ·refine Aa rfl fun σ w1 hC h=> ?_
    have ad:=Ab (h 19 (by decide))
    exact Yk.lenRB DT (RB.of (hrb.keep (hE.trans hC)) ad) ⟨Ext.refl _,rfl⟩
   ·refine Aa rfl fun σ w1 hC h=> ?_
    have z:=(Ab (h 10 (by decide))).trans c
    exact Yk.move z ⟨Ext.refl _,rfl⟩
   ·refine Aa rfl fun σ w1 hC h=> ?_
    have ae:=Ab (h 20 (by decide))
    have af:=Ab (h 21 (by decide))
    exact Yk.bin (xv:=NI B.length) (yv:=NI q) ae af rfl (Bj _ _ _ (by omega) (by omega)) ⟨Ext.refl _,rfl⟩
   ·refine Aa rfl fun σ w1 hC h=> ?_
    have ag:=Ab (h 18 (by decide))
    have ah:=Ab (h 22 (by decide))
    exact Yk.eqI (a:=(m:Nat)) (b:=((B.length)-(q):Nat)) ag ah (AN _ _ _ _) ⟨Ext.refl _,(congrArg Value.bool (decide_eq_false (h1)))⟩
   ·refine Aa rfl fun σ w1 hC h=> ?_
    have ai:=Ab (h 23 (by decide))
    exact Yk.move ai ⟨Ext.refl _,rfl⟩
   ·refine AS 6 true 24 rfl rfl (fun x _ (h:x = .bool false)=>by rw[h];intro h;cases h) fun _=>rfl
   ·refine AS 6 true 24 rfl rfl (fun x _ (h:x = .bool false)=>by rw[h];intro h;cases h) fun _=>rfl
   ·refine AS 6 true 24 rfl rfl (fun x _ (h:x = .bool false)=>by rw[h];intro h;cases h) fun _=>rfl
   ·refine AS 6 true 24 rfl rfl (fun x _ (h:x = .bool false)=>by rw[h];intro h;cases h) fun _=>rfl
   ·refine AS 6 true 24 rfl rfl (fun x _ (h:x = .bool false)=>by rw[h];intro h;cases h) fun _=>rfl
   ·refine AS 6 true 24 rfl rfl (fun x _ (h:x = .bool false)=>by rw[h];intro h;cases h) fun _=>rfl
   ·refine Aa rfl fun σ w1 hC h=> ?_
    have aj:=Ab (h 24 (by decide))
    exact Yk.pickF aj (vr (.bool (false)) rfl) ⟨Ext.refl _,rfl⟩
   ·refine Aa rfl fun σ w1 hC h=> ?_
    have ak:=Ab (h 31 (by decide))
    exact Yk.move ak ⟨Ext.refl _,rfl⟩
   ·refine AS 14 true 32 rfl rfl (fun x _ (h:x = .bool false)=>by rw[h];intro h;cases h) fun _=>rfl
   ·refine AS 14 true 32 rfl rfl (fun x _ (h:x = .bool false)=>by rw[h];intro h;cases h) fun _=>rfl
   ·refine AS 14 true 32 rfl rfl (fun x _ (h:x = .bool false)=>by rw[h];intro h;cases h) fun _=>rfl
   ·refine AS 14 true 32 rfl rfl (fun x _ (h:x = .bool false)=>by rw[h];intro h;cases h) fun _=>rfl
   ·refine AS 14 true 32 rfl rfl (fun x _ (h:x = .bool false)=>by rw[h];intro h;cases h) fun _=>rfl
   ·refine AS 14 true 32 rfl rfl (fun x _ (h:x = .bool false)=>by rw[h];intro h;cases h) fun _=>rfl
   ·refine AS 14 true 32 rfl rfl (fun x _ (h:x = .bool false)=>by rw[h];intro h;cases h) fun _=>rfl
   ·refine AS 14 true 32 rfl rfl (fun x _ (h:x = .bool false)=>by rw[h];intro h;cases h) fun _=>rfl
   ·refine AS 14 true 32 rfl rfl (fun x _ (h:x = .bool false)=>by rw[h];intro h;cases h) fun _=>rfl
   ·refine AS 14 true 32 rfl rfl (fun x _ (h:x = .bool false)=>by rw[h];intro h;cases h) fun _=>rfl
   ·refine AS 14 true 32 rfl rfl (fun x _ (h:x = .bool false)=>by rw[h];intro h;cases h) fun _=>rfl
   ·refine AS 14 true 32 rfl rfl (fun x _ (h:x = .bool false)=>by rw[h];intro h;cases h) fun _=>rfl
   ·refine AS 14 true 32 rfl rfl (fun x _ (h:x = .bool false)=>by rw[h];intro h;cases h) fun _=>rfl
   ·refine Aa rfl fun σ w1 hC h=> ?_
    have al:=Ab (h 32 (by decide))
    exact Yk.pickF al (vr (.bool (false)) rfl) ⟨Ext.refl _,rfl⟩
  intro b9 c8 ca he hf
  obtain⟨-,-,-,-,-,-,-,-,-,-,-,-,-,-,-,-,-,-,-,-,-,-,-,-,-,-,-,-,k46,-⟩:=hf
  obtain⟨f,j,k,r,s,t,o,c,g,-⟩:=he.hold [(0,_),(1,_),(2,_),(6,_),(7,_),(8,_),(9,_),(10,_),(11,_)] ⟨f,j,k,r,s,t,o,c,g,trivial⟩ rfl
  clear he
  have hE:=hE.trans ca
  have v:b9 46 = .bool (false):=k46
  clear k46
  refine tN (b7 _ _ (Ar v (AJ (Ag (Ag (Ap (tN (ay _ _ (sk fun c9 cb=>(wt (oM rfl (oM rfl (oS rfl (Yk.eqI (a:=(m:Nat)) (b:=(n:Nat)) g o (Bm _ _ _ _) (oZ ?_)))))))))))))))
  have hm:B3 (B.drop q) (T.drop ia)=m:=by rw[hlc,aw];rfl
  refine tN (cb _ _ ?_)
  refine AO ((n)<(m)) (vr (.bool (decide ((n)<(m)))) rfl) (fun aa=> ?_) (fun aa=> ?_)
  ·refine wt (oM rfl (oM rfl (oA rfl (oA rfl (oZ (bN (tN (an _ _ (wt (oM rfl (oS rfl (Yk.bin (xv:=NI q) (yv:=NI 1) c rfl rfl (Ak _ _ _ (by omega)) (oA rfl (AH [(0,vb),(1,vt),(2,NI ia),(6,NI 0),(7,NI 0),(8,NI q),(9,NI m),(10,NI ((q)+(1))),(11,NI m),(46, .bool (false))] ⟨f,j,k,r,s,c,g,rfl,g,v,trivial⟩ fun cc ⟨f,j,k,r,s,t,o,c,g,v,_⟩=>(tN (And.intro ⟨q+1,q,m,f,j,k,r,s,c,t,o,hE,by omega,by rw[List.range_succ,List.foldl_append,hbp,List.foldl_cons,List.foldl_nil,BN,hm,if_pos aa],by omega,by omega,trivial⟩ ?_))))))))))))))))
   show B.length-(intOf (cc 10)).toNat<B.length-(intOf (am 10)).toNat
   rw[c,q10]
   simp only[intOf,Int.toNat_natCast];omega
  refine Ah (bN (tN (an _ _ (wt (oM rfl (oS rfl (Yk.bin (xv:=NI q) (yv:=NI 1) c rfl rfl (Ak _ _ _ (by omega)) (oA rfl (AH [(0,vb),(1,vt),(2,NI ia),(6,NI 0),(7,NI 0),(8,NI p),(9,NI n),(10,NI ((q)+(1))),(11,NI m),(46, .bool (false))] ⟨f,j,k,r,s,t,o,rfl,g,v,trivial⟩ fun cd ⟨f,j,k,r,s,t,o,c,g,v,_⟩=>(tN (And.intro ⟨q+1,p,n,f,j,k,r,s,c,t,o,hE,by omega,by rw[List.range_succ,List.foldl_append,hbp,List.foldl_cons,List.foldl_nil,BN,hm,if_neg aa],by omega,by omega,trivial⟩ ?_)))))))))))
  show B.length-(intOf (cd 10)).toNat<B.length-(intOf (am 10)).toNat
  rw[c,q10]
  simp only[intOf,Int.toNat_natCast];omega
 have hqe:q=B.length:=by omega
 refine AJ (Ag (Ag (Ap (tN (be _ _ (sk fun da ce=>(wt (oM rfl (oM rfl (oA rfl (oA rfl (oZ (tN (ce _ _ (As (Ao (fn:=Tryd.f58) _ rfl [NI p,NI n] (.tuple #[NI p,NI n]) rfl ⟨t,o,trivial⟩ ?_))))))))))))))))
 have hP:Cw B T ia=(p,n):=by rw[Cw,←hqe,hbp]
 rw[hP]
 exact⟨rfl,hE⟩
open Go.RowKit
structure RM (w0 w : World) (va : Value) (o : List UInt8) (vb : Value) (ad : List UInt8) : Prop where
  ext:Ext w0 w
  a:w.ownsRow w0.heap.size 5 1 va o.length (Lib.byteCells o)
  b:w.ownsRow w0.heap.size 5 1 vb ad.length (Lib.byteCells ad)
  ap:∀k,va.ownBlock=some k→vb.ownBlock≠some k
section
variable {w0 w w' : World} {va vb : Value} {o ad : List UInt8}
theorem I4{v v' x:Value}{b:Nat}{e:TypeId}{z n:Nat}{xs:List Value}(h:w.ownsRow b e z x n xs)(hx:∀k,x.ownBlock=some k→v.ownBlock≠some k)(gr:Grew w w' v v'):w'.ownsRow b e z x n xs:=
  h.kept gr.by_ (by cases hb:x.ownBlock with | none=>exact .inl rfl | some k=>exact .inr (fun e=>hx k hb e.symm))
theorem Ib{v v' x:Value}(hx:∀k,x.ownBlock=some k→v.ownBlock≠some k)(ht:∀k,x.ownBlock=some k→k<w.heap.size)(gr:Grew w w' v v'):∀k,x.ownBlock=some k→v'.ownBlock≠some k:=fun k hk hv=>by
  rcases gr.fresh k hv with h1 | h1
  · exact hx k hk h1
  · have:=ht k hk;omega
theorem RM.keep(h:RM w0 w va o vb ad)(k:Ext w w'):RM w0 w' va o vb ad:=⟨h.ext.trans k,Stab.own _ _ _ _ _ _ _ _ h.a k,Stab.own _ _ _ _ _ _ _ _ h.b k,h.ap⟩
theorem RM.growA{v' :Value}{o' :List UInt8}(h:RM w0 w va o vb ad)(gr:Grew w w' va v')(ho:w'.ownsRow w0.heap.size 5 1 v' o'.length (Lib.byteCells o')):RM w0 w' v' o' vb ad:=
  have hba:∀k,vb.ownBlock=some k→va.ownBlock≠some k:=fun k hk ha=>h.ap k ha hk
  ⟨AC h.ext gr h.a (Nat.le_refl _),ho,I4 h.b hba gr,fun k hk hb=>Ib hba (fun k hk=>(h.b.lt k hk).2) gr k hb hk⟩
theorem RM.growB{v' :Value}{o' :List UInt8}(h:RM w0 w va o vb ad)(gr:Grew w w' vb v')(ho:w'.ownsRow w0.heap.size 5 1 v' o'.length (Lib.byteCells o')):RM w0 w' va o v' o' :=
  ⟨AC h.ext gr h.b (Nat.le_refl _),I4 h.a h.ap gr,ho,Ib h.ap (fun k hk=>(h.a.lt k hk).2) gr⟩
theorem RM.reset(h:RM w0 w va o vb ad):RM w0 w va o (.slice none 0 0) []:=⟨h.ext,h.a,World.ownsRow_nil _ _ _ 1,fun k _ hk=>by simp[Value.ownBlock]at hk⟩
end
def FC(b:List UInt8):List UInt8:=if b.length=0 then []else Lib.uvarint (2*b.length)++b
theorem Dt(T:List UInt8)(fr to:Nat)(h:fr≤to)(ht:to≤T.length):FC ((T.drop fr).take (to-fr))=B0 T fr to:=by
  have hl:((T.drop fr).take (to-fr)).length=to-fr:=by rw[List.length_take,List.length_drop];omega
  unfold FC B0
  rw[hl]
  by_cases h1:fr<to
  · rw[if_neg (by omega),if_pos h1]
  · rw[if_pos (by omega),if_neg h1]
theorem Ji(T:List UInt8)(fr i:Nat)(h:fr≤i)(hi:i<T.length):(T.drop fr).take (i-fr)++ [T.getD i 0]=(T.drop fr).take (i+1-fr):=by
  rw[show i+1-fr=(i-fr)+1 by omega,List.take_add_one]
  congr 1
  rw[List.getElem?_drop,show fr+(i-fr)=i by omega,List.getElem?_eq_getElem hi]
  simp[List.getD,hi]
open Go.RowKit
set_option maxRecDepth 100000
theorem Eo:A2 Tryd.prog 30:=fun _ _=>by kernel_rfl
theorem L5:A2 Tryd.prog 58:=fun _ _=>by kernel_rfl
theorem Ic:A2 Tryd.prog 59:=fun _ _=>by kernel_rfl
theorem I5(w:World)(v:Value)(b:List UInt8)(hr:RB w v b)(hb:b.length≤1048576):
  Calls Tryd.prog 59 #[v] w fun e w' =>∃v',e = .returned v' ∧RB w' v' (FC b)∧Ext w w' :=by
 refine AA (args:= [v]) Tryd.func59 rfl 12 rfl (Nat.le_of_ble_eq_true rfl) ?_
 intro k hb
 have c:k 0=(v:Value):=hb.get 0
 clear hb
 have hE:=Ext.refl w
 refine sk fun t l=>(wt (oA rfl (oZ (tN (l _ _ (sk fun u m=>(sk fun x n=>(wt (oM rfl (oS rfl (Yk.lenRB DT (RB.of (hr.keep hE) c) (oS rfl (Yk.eqI (a:=(b.length:Nat)) (b:=(0:Nat)) rfl rfl (Br _ _ _ _) (oZ (tN (n _ _ ?_))))))))))))))))
 refine AO ((b.length:Nat)=(0)) (vr (.bool (decide ((b.length:Nat)=(0)))) rfl) (fun hc=> ?_) (fun hc=> ?_)
 ·refine sk fun y o=>(wt (oA rfl (oZ (tN (o _ _ (As (Am (Ao (fn:=Tryd.f59) _ rfl [(Value.slice none 0 0)] ((Value.slice none 0 0)) rfl ⟨rfl,trivial⟩ ?_))))))))
  rw[FC,if_pos hc]
  exact⟨_,rfl,RB.nil _,hE⟩
 refine Ah (tN (m _ _ (sk fun z p=>(wt (oM rfl (oS rfl (Yk.lenRB DT (RB.of (hr.keep hE) c) (oS rfl (Yk.bin (xv:=NI 2) (yv:=NI b.length) rfl rfl rfl (BG _ _ _ (by omega)) (oS rfl (Yk.callA1 Eo (vr (NI ((2)*(b.length))) rfl) ((CG _ ((2)*(b.length)) (by omega)).mono ?_))))))))))))
 rintro e q ⟨j,rfl,f⟩
 refine⟨_,rfl,?_⟩
 have hE:=hE.trans f.ext
 have g:=f.own;clear f
 refine oM rfl (oS rfl (Yk.appendRB _ _ w.heap.size (.int .u8 0) DT FW rfl DT (Lib.uvarint ((2)*(b.length))) (b) (BB g (vr j rfl)) (RB.of (hr.keep hE) c) (by have:=A1 (2*b.length) (by omega);omega) hE.size fun h r s i=> ?_))
 have i:Grew q r j h:=i
 have hE:=AC hE i g (Nat.le_refl _)
 clear g
 refine oA rfl (oZ (tN (p _ _ (As (Ao (fn:=Tryd.f59) _ rfl [h] (h) rfl ⟨rfl,trivial⟩ ?_)))))
 rw[FC,if_neg hc]
 exact⟨_,rfl,RB.ofOwn s,hE⟩

theorem KR(w:World)(vb vt:Value)(B T:List UInt8)(hrb:RB w vb B)(hrt:RB w vt T)(hB:B.length≤1048576)(hT:T.length≤1048576):
  Calls Tryd.prog 34 #[vb,vt] w fun e w' =>∃v',e = .returned v' ∧RB w' v' (Bv B T)∧Ext w w' :=by
 refine AA (args:= [vb,vt]) Tryd.func34 rfl 60 rfl (Nat.le_of_ble_eq_true rfl) ?_
 intro ak hb
 have h:ak 0=(vb:Value):=hb.get 0
 have c:ak 1=(vt:Value):=hb.get 1
 clear hb
 have hE:=Ext.refl w
 refine sk fun K1 a2=>(wt (oA rfl (oZ (tN (a2 _ _ (sk fun K2 a3=>(wt (oM rfl (oS rfl (Yk.lenRB DT (RB.of (hrb.keep hE) h) (oS rfl (Yk.callA1 Eo (vr (NI B.length) rfl) ((CG _ (B.length) (by omega)).mono ?_)))))))))))))
 rintro e w5 ⟨v3,rfl,ai⟩
 refine⟨_,rfl,?_⟩
 have hE:=hE.trans ai.ext
 have s:=ai.own;clear ai
 refine oM rfl (oS rfl (Yk.lenRB DT (RB.of (hrt.keep hE) c) (oS rfl (Yk.callA1 Eo (vr (NI T.length) rfl) ((CG _ (T.length) (by omega)).mono ?_)))))
 rintro e w9 ⟨v7,rfl,t⟩
 refine⟨_,rfl,?_⟩
 have aj:=Ext.refl w5
 have ci:=hE
 have cj:=hE.size
 have al:Ae v3 v7:=A4 s t.own
 have ck:Ae v7 v3:=A0 s t.own
 have hE:=hE.trans t.ext
 have s:=Stab.own _ _ _ _ _ _ _ _ s t.ext
 have aj:=aj.trans t.ext
 have ae:=t.own;clear t
 refine oS rfl (Yk.appendRB _ _ w.heap.size (.int .u8 0) DT FW rfl DT (Lib.uvarint (B.length)) (Lib.uvarint (T.length)) (BB s (vr v3 rfl)) (RB.of (RB.ofOwn ae) (vr v7 rfl)) (by have:=A1 B.length (by omega);have:=A1 T.length (by omega);omega) hE.size fun u am a6 ac=> ?_)
 have ac:Grew w9 am v3 u:=ac
 have a7:Ae u v7:=Au ac al ae
 have cl:Ae v7 u:=fun k h1 h2=>a7 k h2 h1
 have hE:=AC hE ac s (Nat.le_refl _)
 clear s
 clear aj
 have ae:=Bg ae ac al
 refine oA rfl (oZ (tN (a3 _ _ (sk fun cm a8=>(wt (oA rfl (oZ (tN (a8 _ _ (sk fun cn a9=>(sk fun co ba=>(wt (oA rfl (AH [(0,vb),(1,vt),(4,(Value.slice none 0 0)),(5,u),(6,(Value.slice none 0 0)),(7,NI 0)] ⟨h,c,rfl,rfl,rfl,rfl,trivial⟩ fun cp ⟨h,c,q,j,m,g,_⟩=>(tN (ba _ _ (Aj ?_)))))))))))))))))
 have hM0:RM w am u (Lib.uvarint (B.length)++Lib.uvarint (T.length)) (Value.slice none 0 0) ([]):=⟨hE,CU a6 (by have:=hE.size;have:=hE;omega),World.ownsRow_nil _ _ _ 1,fun k _ hk=>by simp[Value.ownBlock]at hk⟩
 refine AX (fun(ρ:Aq) (wz:World)=>∃ia:Nat,∃fr:Nat,∃f:Nat,∃o:List UInt8,∃va:Value,∃vd:Value,ρ 0=(vb:Value)∧ρ 1=(vt:Value)∧ρ 4=((Value.slice none 0 0):Value)∧ρ 7=(NI ia:Value)∧ρ 5=(va:Value)∧ρ 6=(vd:Value)∧Ext w wz∧RM w wz va (o) vd ((T.drop fr).take (ia-fr))∧(Cx B T f ia fr o=Bv B T)∧(T.length≤ia+f)∧(fr≤ia)∧(ia≤T.length)∧(o.length≤20+40*fr)∧True) (fun ρ _=>T.length-(intOf (ρ 7)).toNat) ⟨0,0,T.length,Lib.uvarint (B.length)++Lib.uvarint (T.length),u, .slice none 0 0,h,c,q,g,j,m,hE,(show RM w _ _ _ _ _ from by simpa using hM0),rfl,by omega,Nat.le_refl _,Nat.zero_le _,by have:=A1 B.length (by omega);have:=A1 T.length (by omega);simp only[List.length_append];omega,trivial⟩ ?_
 clear hM0
 clear hE
 rintro an cq ⟨ia,fr,f,o,va,vd,h,c,q,g,j,m,hE,hM,hgo,hf,hfr,hat,hol,-⟩
 have q7:=g
 have hld:((T.drop fr).take (ia-fr)).length=ia-fr:=by rw[List.length_take,List.length_drop];omega
 refine sk fun cr bb=>(sk fun cs bc=>(wt (oM rfl (oM rfl (oS rfl (Yk.lenRB DT (RB.of (hrt.keep hE) c) (oS rfl (Yk.eqI (a:=(ia:Nat)) (b:=(T.length:Nat)) g rfl (AN _ _ _ _) (oZ (tN (bc _ _ ?_)))))))))))
 refine AO ((ia)<(T.length)) (vr (.bool (decide ((ia)<(T.length)))) rfl) (fun v=> ?_) (fun v=> ?_)
 ·obtain⟨f',rfl⟩:∃f',f=f' +1:=⟨f-1,by omega⟩
  refine Ah (tN (bb _ _ (Aj (sk fun ct bd=>(wt (oM rfl (oM rfl (oM rfl (oS rfl (Yk.callA3 L5 h c g ((KQ _ vb vt B T (hrb.keep hE) (hrt.keep hE) ia hat (by omega) (by omega)).mono ?_)))))))))))
  rintro e ao ⟨rfl,ap⟩
  refine⟨_,rfl,?_⟩
  have hE:=hE.trans ap
  have hM:RM w ao va (o) vd ((T.drop fr).take (ia-fr)):=(hM.keep ap)
  refine oM rfl (oS rfl (Yk.extract (vs:= [NI ((Cw B T ia).1),NI ((Cw B T ia).2)]) (vr (.tuple #[NI ((Cw B T ia).1),NI ((Cw B T ia).2)]) rfl) (show _=some (NI ((Cw B T ia).1):Value)from rfl) (oS rfl (Yk.extract (vs:= [NI ((Cw B T ia).1),NI ((Cw B T ia).2)]) (vr (.tuple #[NI ((Cw B T ia).1),NI ((Cw B T ia).2)]) rfl) (show _=some (NI ((Cw B T ia).2):Value)from rfl) (oA rfl (oA rfl (AH [(0,vb),(1,vt),(4,(Value.slice none 0 0)),(5,va),(6,vd),(7,NI ia),(8,NI ((Cw B T ia).1)),(9,NI ((Cw B T ia).2))] ⟨h,c,q,j,m,g,rfl,rfl,trivial⟩ fun cu ⟨h,c,q,j,m,g,x,r,_⟩=> ?_)))))))
  obtain⟨p,hp⟩:∃p,p=(Cw B T ia).1:=⟨_,rfl⟩
  obtain⟨n,hn⟩:∃n,n=(Cw B T ia).2:=⟨_,rfl⟩
  have hbl:=Nt B T ia hat
  rw[←hn]at r hbl
  rw[←hp]at x
  have hble:=Ij B T ia hat
  refine tN (bd _ _ (sk fun cv be=>(sk fun cw bf=>(wt (oM rfl (oS rfl (Yk.eqI (a:=(n:Nat)) (b:=(8:Nat)) r rfl (AN _ _ _ _) (oZ (tN (bf _ _ ?_))))))))))
  refine AO ((n)<(8)) (vr (.bool (decide ((n)<(8)))) rfl) (fun bg=> ?_) (fun bg=> ?_)
  ·have bh:(BJ B T ia).2=0:=by omega
   refine sk fun cx bi=>(wt (oM rfl (oM rfl (oM rfl (oS rfl (Yk.atRB (l:=T) (i:=ia) DT Ls (RB.of (hrt.keep hE) c) g (v) fun bj bk=>(oS rfl (Yk.loadC u5 rfl (PCell.of bk (vr bj rfl)) (oS rfl (Yk.lit1 (b:=T.getD (ia) 0) Mk (vr (B8 (T.getD (ia) 0)) rfl) fun bm cy af=> ?_))))))))))
   have y:=Ext.refl ao
   have cz:=hE
   have c0:=hE.size
   have hE:=hE.trans af.ext
   have y:=y.trans af.ext
   have aq:=af.own;clear af
   refine oS rfl (Yk.appendRB _ _ w.heap.size (.int .u8 0) DT FW rfl DT ((T.drop fr).take (ia-fr)) ([(T.getD (ia) 0:UInt8)]) (BB (hM.keep y).b m) (RB.of (RB.ofOwn aq) (vr bm rfl)) (by rw[List.length_take,List.length_drop];simp;omega) (hM.keep y).ext.size fun ar c1 bn bo=> ?_)
   have hM50:=RM.growB (hM.keep y) (show Grew _ _ _ _ from m▸bo) bn
   have hE:=hM50.ext
   clear y
   clear aq
   refine oA rfl (oZ (tN (bi _ _ (sk fun c2 bp=>(wt (oM rfl (oS rfl (Yk.bin (xv:=NI ia) (yv:=NI 1) g rfl rfl (Ak _ _ _ (by omega)) (oA rfl (AH [(0,vb),(1,vt),(4,(Value.slice none 0 0)),(5,va),(6,ar),(7,NI ((ia)+(1))),(8,NI p),(9,NI n)] ⟨h,c,q,j,rfl,rfl,x,r,trivial⟩ fun bq ⟨h,c,q,j,m,g,x,r,_⟩=>(tN (bp _ _ (AJ (Ag (Ap (tN (And.intro ⟨ia+1,fr,f',o,va,ar,h,c,q,g,j,m,hE,(show RM w _ _ _ _ _ from by rw[←Ji T fr ia hfr v];exact hM50),by rw[Cx,if_pos v,if_pos bh]at hgo;exact hgo,by omega,by omega,by omega,hol,trivial⟩ ?_)))))))))))))))))
   show T.length-(intOf (bq 7)).toNat<T.length-(intOf (an 7)).toNat
   rw[g,q7]
   simp only[intOf,Int.toNat_natCast];omega
  have hbe:BJ B T ia=(p,n):=by rw[hp,hn];exact(hbl.resolve_left (by omega)).2
  rw[hbe]at hble;simp only at hble
  refine Ah (tN (be _ _ (sk fun c3 br=>(wt (oM rfl (oM rfl (oS rfl (Yk.callA1 Ic m ((I5 _ vd ((T.drop fr).take (ia-fr)) (RB.ofOwn hM.b) (by rw[List.length_take,List.length_drop];omega)).mono ?_)))))))))
  rintro e bs ⟨bt,rfl,au,av⟩
  refine⟨_,rfl,?_⟩
  have hE:=hE.trans av
  have hM:RM w bs va (o) vd ((T.drop fr).take (ia-fr)):=(hM.keep av)
  refine oS rfl (Yk.appendRB _ _ w.heap.size (.int .u8 0) DT FW rfl DT (o) (FC ((T.drop fr).take (ia-fr))) (BB hM.a j) (RB.of au (vr bt rfl)) (by have h5:=Ce T fr ia o (by omega);rw[Dd]at h5;rw[Dt T fr ia hfr hat];simp only[List.length_append]at h5;omega) hM.ext.size fun bu bv bw bx=> ?_)
  have hM62:=RM.growA hM (show Grew _ _ _ _ from j▸bx) bw
  have hE:=hM62.ext
  clear hM
  clear au
  refine oA rfl (oZ (tN (br _ _ (sk fun c4 bz=>(wt (oA rfl (oZ ?_)))))))
  have hM64:=RM.reset hM62
  refine tN (bz _ _ (sk fun c5 b0=>(wt (oM rfl (oM rfl (oS rfl (Yk.bin (xv:=NI 2) (yv:=NI n) rfl r rfl (BG _ _ _ (by omega)) (oS rfl (Yk.bin (xv:=NI ((2)*(n))) (yv:=NI 1) rfl rfl rfl (Ak _ _ _ (by omega)) (oS rfl (Yk.callA1 Eo (vr (NI (((2)*(n))+(1))) rfl) ((CG _ (((2)*(n))+(1)) (by omega)).mono ?_))))))))))))
  rintro e c6 ⟨b1,rfl,ag⟩
  refine⟨_,rfl,?_⟩
  have z:=Ext.refl bv
  have c7:=hE
  have c8:=hE.size
  have hE:=hE.trans ag.ext
  have z:=z.trans ag.ext
  have aw:=ag.own;clear ag
  refine oS rfl (Yk.appendRB _ _ w.heap.size (.int .u8 0) DT FW rfl DT ((o)++(FC ((T.drop fr).take (ia-fr)):List UInt8)) (Lib.uvarint (((2)*(n))+(1))) (BB (hM64.keep z).a (vr bu rfl)) (RB.of (RB.ofOwn aw) (vr b1 rfl)) (by have h5:=Ce T fr ia o (by omega);rw[Dd]at h5;rw[Dt T fr ia hfr hat];have h6:=A1 (2*n+1) (by omega);have h7:=A1 p (by omega);simp only[List.length_append]at h5 ⊢;omega) (hM64.keep z).ext.size fun b2 b3 b4 b5=> ?_)
  have hM77:=RM.growA (hM64.keep z) b5 b4
  have hE:=hM77.ext
  clear z
  clear aw
  refine oA rfl (oZ (tN (b0 _ _ (sk fun c9 b6=>(wt (oM rfl (oM rfl (oS rfl (Yk.callA1 Eo x ((CG _ (p) (by omega)).mono ?_))))))))))
  rintro e da ⟨b7,rfl,ah⟩
  refine⟨_,rfl,?_⟩
  have aa:=Ext.refl b3
  have db:=hE
  have dc:=hE.size
  have hE:=hE.trans ah.ext
  have aa:=aa.trans ah.ext
  have ax:=ah.own;clear ah
  refine oS rfl (Yk.appendRB _ _ w.heap.size (.int .u8 0) DT FW rfl DT (((o)++(FC ((T.drop fr).take (ia-fr)):List UInt8))++(Lib.uvarint (((2)*(n))+(1)):List UInt8)) (Lib.uvarint (p)) (BB (hM77.keep aa).a (vr b2 rfl)) (RB.of (RB.ofOwn ax) (vr b7 rfl)) (by have h5:=Ce T fr ia o (by omega);rw[Dd]at h5;rw[Dt T fr ia hfr hat];have h6:=A1 (2*n+1) (by omega);have h7:=A1 p (by omega);simp only[List.length_append]at h5 ⊢;omega) (hM77.keep aa).ext.size fun ay dd b8 b9=> ?_)
  have hM90:=RM.growA (hM77.keep aa) b9 b8
  have hE:=hM90.ext
  clear aa
  clear ax
  refine oA rfl (oZ (tN (b6 _ _ (wt (oM rfl (oM rfl (oS rfl (Yk.bin (xv:=NI ia) (yv:=NI n) g r rfl (Ak _ _ _ (by omega)) (oA rfl (AH [(0,vb),(1,vt),(4,(Value.slice none 0 0)),(5,ay),(6,(Value.slice none 0 0)),(7,NI ((ia)+(n))),(8,NI p),(9,NI n)] ⟨h,c,q,rfl,rfl,rfl,x,r,trivial⟩ fun ca ⟨h,c,q,j,m,g,x,r,_⟩=>(bN (tN (And.intro ⟨ia+n,ia+n,f',(((o)++(FC ((T.drop fr).take (ia-fr)):List UInt8))++(Lib.uvarint (((2)*(n))+(1)):List UInt8))++(Lib.uvarint (p):List UInt8),ay, .slice none 0 0,h,c,q,g,j,m,hE,(show RM w _ _ _ _ _ from by rw[Nat.sub_self,List.take_zero];exact hM90),by rw[Cx,if_pos v,if_neg (by rw[hbe];omega),hbe,Dd]at hgo;rw[Dt T fr ia hfr hat];exact hgo,by omega,by omega,by omega,by rw[Dt T fr ia hfr hat];have h5:=Ce T fr ia o (by omega);rw[Dd]at h5;have h6:=A1 (2*n+1) (by omega);have h7:=A1 p (by omega);simp only[List.length_append]at h5 ⊢;omega,trivial⟩ ?_)))))))))))))
  show T.length-(intOf (ca 7)).toNat<T.length-(intOf (an 7)).toNat
  rw[g,q7]
  simp only[intOf,Int.toNat_natCast];omega
 rw[HM v,Dd]at hgo
 have hie:ia=T.length:=by omega
 refine AJ (Ag (Ag (Ap (tN (a9 _ _ (sk fun de cb=>(wt (oM rfl (oM rfl (oS rfl (Yk.callA1 Ic m ((I5 _ vd ((T.drop fr).take (ia-fr)) (RB.ofOwn hM.b) (by rw[List.length_take,List.length_drop];omega)).mono ?_))))))))))))
 rintro e cc ⟨cd,rfl,az,a0⟩
 refine⟨_,rfl,?_⟩
 have hE:=hE.trans a0
 have hM:RM w cc va (o) vd ((T.drop fr).take (ia-fr)):=(hM.keep a0)
 refine oS rfl (Yk.appendRB _ _ w.heap.size (.int .u8 0) DT FW rfl DT (o) (FC ((T.drop fr).take (ia-fr))) (BB hM.a j) (RB.of az (vr cd rfl)) (by have h5:=Ce T fr ia o (by omega);rw[Dd]at h5;rw[Dt T fr ia hfr hat];simp only[List.length_append]at h5;omega) hM.ext.size fun a1 df ce cf=> ?_)
 have hM101:=RM.growA hM (show Grew _ _ _ _ from j▸cf) ce
 have hE:=hM101.ext
 clear hM
 clear az
 refine oA rfl (oZ (tN (cb _ _ (As (Ao (fn:=Tryd.f34) _ rfl [a1] (a1) rfl ⟨rfl,trivial⟩ ?_)))))
 have hR:=RB.ofOwn hM101.a
 rw[Dt T fr ia hfr hat]at hR
 rw[hie,hgo]at hR
 exact⟨_,rfl,hR,hM101.ext⟩
open Go.RowKit
theorem Kg{ps:List Pt}{i:Nat}{s:BS}{es:List Ent}(I:BInv ps i s es)(hb:(ps.getD i dPt).base<i)(hall:∀j,j<i→(ps.getD j dPt).base<j):
    ∃D:Nat→Nat,(∀j,j≤i→(ps.getD j dPt).base<j∧D j=if(ps.getD j dPt).base<0 then 0 else D (ps.getD j dPt).base.toNat+1)∧D i=depthB (ps.getD i dPt) s:=by
  refine⟨fun j=>if j<i then s.depths.getD j 0 else depthB (ps.getD i dPt) s,fun j hj=> ?_,if_neg (Nat.lt_irrefl _)⟩
  by_cases e:j<i
  · refine⟨hall j e,?_⟩
    dsimp only
    rw[if_pos e]
    by_cases h0:(ps.getD j dPt).base<0
    · rw[if_pos h0]
      exact(I.flat j e h0).2.2
    · obtain⟨k1,-,-,-,k5⟩:=I.upon j e h0
      rw[if_neg h0,if_pos (by omega)]
      exact k5
  · obtain rfl:j=i:=by omega
    refine⟨hb,?_⟩
    dsimp only
    rw[if_neg e]
    unfold depthB
    by_cases h0:(ps.getD j dPt).base<0
    · rw[if_pos h0,if_pos h0]
    · rw[if_neg h0,if_neg h0,if_pos (by omega)]
theorem I6{ps:List Pt}:∀ {i:Nat} {s:BS},CS ps i = .ok s→∀j,j<i→(ps.getD j dPt).base<j
  | 0,_,_,j,hj=>by omega
  | i+1,s,h,j,hj=>by
    cases hb:CS ps i with
    | error e=>rw[Er hb 1]at h;cases h
    | ok s0=>
      rw[Dp hb]at h
      by_cases e:j<i
      · exact I6 hb j e
      · obtain rfl:j=i:=by omega
        unfold Em at h
        split at h
        · cases h
        · rename_i h1
          omega
theorem Kh(w:World)(l:Bs)(hl:l.length≤1099511627776):
    Calls Tryd.prog 33 #[St l] w fun e w' =>∃v',e = .returned v' ∧NewB 5 w w' v' (Bh l):=by
  have h:=Kv w ⟨l.toArray⟩ (by show l.toArray.size+16≤_;rw[List.size_toArray];omega)
  have e:Lib.uvarint (⟨l.toArray⟩:ByteArray).size++(⟨l.toArray⟩:ByteArray).data.toList=Bh l:=by
    unfold Bh
    rw[show(⟨l.toArray⟩:ByteArray).size=l.length by show l.toArray.size=_;rw[List.size_toArray]]
  rw[e]at h
  exact h
open Go.RowKit
set_option maxRecDepth 100000
theorem I7:(Tryd.prog.info? 41).map (·.size)=some 2:=by kernel_rfl
theorem Oj:∃fs,Tryd.prog.underlying 41=some (.struct fs):=Eg (by kernel_rfl)
theorem Ok{d:Option Tmp}{ty:TypeId}{pos:String}{af:Array Edge}{gd:Option (Nat × Bool)}(σ:Operand→Value)(w:World):(execOp σ ⟨d, .alloc 41,ty,pos,af,gd⟩).run Tryd.prog w = .ok (.value (PQ w.heap.size 0)) (w.alloc (.cells ([(Value.slice none 0 0),NI 0]).toArray 41)):=by kernel_rfl
theorem Ki:A2 Tryd.prog 21:=fun _ _=>by kernel_rfl
theorem Kj:A2 Tryd.prog 31:=fun _ _=>by kernel_rfl
theorem Kk:A2 Tryd.prog 32:=fun _ _=>by kernel_rfl
theorem Om:∀(cs:Array Value),cs.size=32→∀w:World,(Instr.buildSlice 47 1 #[(0, .agg cs)]).run Tryd.prog w = .ok (.slice (some ⟨w.heap.size,0,none⟩) 1 1) (w.alloc (.cells cs 38))
 | ⟨[c0,c1,c2,c3,c4,c5,c6,c7,c8,c9,c10,c11,c12,c13,c14,c15,c16,c17,c18,c19,c20,c21,c22,c23,c24,c25,c26,c27,c28,c29,c30,c31]⟩,_,w=>NK c0 c1 c2 c3 c4 c5 c6 c7 c8 c9 c10 c11 c12 c13 c14 c15 c16 c17 c18 c19 c20 c21 c22 c23 c24 c25 c26 c27 c28 c29 c30 c31 w
theorem rf4_ig3:∃z,(Tryd.prog.info? 3).map (fun i=>(i.zero,i.size,i.bytes))=some (some z,1,8)∧z.cells.size=1:=G1 (by kernel_rfl)
theorem Kl:A2 Tryd.prog 33:=fun _ _=>by kernel_rfl
theorem Oo:A2 Tryd.prog 34:=fun _ _=>by kernel_rfl
theorem Oq:A2 Tryd.prog 35:=fun _ _=>by kernel_rfl
set_option maxHeartbeats 3200000
theorem Km(w:World)(v:Value)(ps:List Pt)(hr:RG 2 partC w v ps)(hps:PartsOk w ps)(hL:Co ps):
  Calls Tryd.prog 13 #[v] w fun e w' =>∃v',e = .returned (.tuple #[v',NI (A3 ps).2])∧RB w' v' (A3 ps).1∧Ext w w' :=by
 have hL1:=hL.1
 have huv:=JN (n:=ps.length) (by omega)
 refine AA (args:= [v]) Tryd.func13 rfl 119 rfl (Nat.le_of_ble_eq_true rfl) ?_
 intro e2 hb
 have T0:e2 0=(v:Value):=hb.get 0
 clear hb
 have hE:=Ext.refl w
 refine sk fun K1 e3=>(wt (oA rfl (oA rfl (oZ (tN (e3 _ _ (sk fun K2 e5=>(wt (oS rfl (Yk.lit1 (b:=80) Mk (vr (B8 (80)) rfl) fun v3 w4 cl=> ?_))))))))))
 have hE:=hE.trans cl.ext
 have bz:=cl.own;clear cl
 refine oM rfl (oS rfl (Yk.lenRG CD (RG.of (hr.keep hE) T0) (oS rfl (Yk.callA1 Eo (vr (NI ps.length) rfl) ((CG _ ps.length (by omega)).mono ?_)))))
 rintro e w9 ⟨o,rfl,b0⟩
 refine⟨_,rfl,?_⟩
 have cm:=Ext.refl w4
 have i0:=hE
 have i1:=hE.size
 have dp:Ae v3 o:=A4 bz b0.own
 have i2:Ae o v3:=A0 bz b0.own
 have hE:=hE.trans b0.ext
 have bz:=Stab.own _ _ _ _ _ _ _ _ bz b0.ext
 have cm:=cm.trans b0.ext
 have c:=b0.own;clear b0
 refine oS rfl (Yk.appendRB _ _ w.heap.size (.int .u8 0) DT FW rfl DT ([(80:UInt8)]) (Lib.uvarint ps.length) (BB bz (vr v3 rfl)) (RB.of (RB.ofOwn c) (vr o rfl)) (by simp only[List.length_cons,List.length_nil];omega) hE.size fun bi cn dq b9=> ?_)
 have b9:Grew w9 cn v3 bi:=b9
 have dr:Ae bi o:=Au b9 dp c
 have i3:Ae o bi:=fun k h1 h2=>dr k h2 h1
 have hE:=AC hE b9 bz (Nat.le_refl _)
 clear bz
 clear cm
 have c:=Bg c b9 dp
 refine oA rfl (oZ (tN (e5 _ _ (sk fun i4 e7=>(wt (oA rfl (oZ ?_)))))))
 have hids0:OG w.heap.size 38 32 Lib.byteCells cn (Value.slice none 0 0) ([]:List Bs):=OG.nil _ _ _ _ _
 have e8:Ae (Value.slice none 0 0) o:=fun k h=>by cases h
 have i5:Ae o (Value.slice none 0 0):=fun k _ h=>by cases h
 have fa:Ae (Value.slice none 0 0) bi:=fun k h=>by cases h
 have fb:Ae bi (Value.slice none 0 0):=fun k _ h=>by cases h
 refine tN (e7 _ _ (sk fun i6 fc=>(wt (oA rfl (oZ ?_)))))
 have hpl0:OG w.heap.size 3 1 Kd cn (Value.slice (none) 0 0) ([]:List Nat):=OG.nil _ _ _ _ _
 have fd:Ae (Value.slice (none) 0 0) o:=fun k h=>by cases h
 have i7:Ae o (Value.slice (none) 0 0):=fun k _ h=>by cases h
 have fe:Ae (Value.slice (none) 0 0) bi:=fun k h=>by cases h
 have ff:Ae bi (Value.slice (none) 0 0):=fun k _ h=>by cases h
 have fg:Ae (Value.slice (none) 0 0) (Value.slice none 0 0):=fun k h=>by cases h
 have fh:Ae (Value.slice none 0 0) (Value.slice (none) 0 0):=fun k _ h=>by cases h
 refine tN (fc _ _ (sk fun i8 fi=>(wt (oA rfl (oZ (tN (fi _ _ (sk fun i9 fj=>(sk fun ja fk=>(wt (oA rfl (AH [(0,v),(2,(Value.slice none 0 0)),(3,NI 0),(4,bi),(5,(Value.slice none 0 0)),(6,(Value.slice (none) 0 0)),(7,NI 0),(8,NI 0)] ⟨T0,rfl,rfl,rfl,rfl,rfl,rfl,rfl,trivial⟩ fun jb ⟨T0,T2,T3,T4,T5,T6,T7,T8,_⟩=>(tN (fk _ _ (Aj (AX (fun(ρ:Aq) (wz:World)=>∃i:Nat,∃s:BS,∃vb:Value,∃vi:Value,∃vq:Value,ρ 0=(v:Value)∧ρ 8=(NI i:Value)∧ρ 7=(NI s.total:Value)∧ρ 4=(vb:Value)∧ρ 5=(vi:Value)∧ρ 6=(vq:Value)∧Ext w wz∧wz.ownsRow w4.heap.size 5 1 o (Lib.uvarint ps.length:List UInt8).length (Lib.byteCells (Lib.uvarint ps.length))∧wz.ownsRow w.heap.size 5 1 vb (s.b:List UInt8).length (Lib.byteCells (s.b))∧OG w.heap.size 38 32 (Lib.byteCells) wz vi (s.ids)∧OG w.heap.size 3 1 (Kd) wz vq (s.places)∧(CS ps i = .ok s)∧(i≤ps.length)∧(Ae vb o)∧(Ae vb vi)∧(Ae vb vq)∧(Ae vi o)∧(Ae vi vb)∧(Ae vi vq)∧(Ae vq o)∧(Ae vq vb)∧(Ae vq vi)∧True) (fun ρ _=>ps.length-(intOf (ρ 8)).toNat) ⟨0,⟨80 :: Lib.uvarint ps.length,[],[],[],0⟩,bi,(Value.slice none 0 0),(Value.slice (none) 0 0),T0,T8,T7,T4,T5,T6,hE,c,BI dq (rfl),B5 hids0 (rfl),B5 hpl0 (rfl),rfl,Nat.zero_le _,dr,fb,ff,e8,fa,fh,fd,fe,fg,trivial⟩ ?_))))))))))))))))
 clear dq
 clear hids0
 clear hpl0
 clear hE c
 rintro ds dt ⟨i,s,vb,vi,vq,T0,T8,T7,T4,T5,T6,hE,c,hr_vb,hr_vi,hr_vq,hs,hi,hap_vb_v7,hap_vb_vi,hap_vb_vq,hap_vi_v7,hap_vi_vb,hap_vi_vq,hap_vq_v7,hap_vq_vb,hap_vq_vi,-⟩
 have q8:=T8
 by_cases hlt:i<ps.length
 ·obtain⟨p,hp⟩:∃p,p=ps.getD i dPt:=⟨_,rfl⟩
  have hB:=E3 hL i s hi hs
  have hBi:=hB.ids
  have hBp:=hB.places
  have hBd:=hB.depths
  have hBb:=hB.b
  have hBt:=hB.total
  have hst:=Dp hs
  unfold Em at hst
  rw[←hp]at hst
  have hpm:p∈ps:=by rw[hp];exact A6 dPt hlt
  have hpl:=hL.2 p hpm
  have hpb:=(hps p hpm).2
  have hpr:=(hps p hpm).1
  have h60:=hL.1
  refine sk fun je fl=>(sk fun jf fm=>(wt (oM rfl (oM rfl (oS rfl (Yk.lenRG CD (RG.of (hr.keep hE) T0) (oS rfl (Yk.eqI (a:=(i:Nat)) (b:=(ps.length:Nat)) T8 rfl (AN _ _ _ _) (oZ (tN (fm _ _ (AE (vr (.bool (true)) (congrArg Value.bool (decide_eq_true (hlt)))) (Ah (tN (fl _ _ (sk fun jg du=>(Aj (sk fun jh fo=>(wt ?_)))))))))))))))))))
  refine oM rfl (oM rfl ?_)
  have fp:(partC (ps.getD (i) dPt)).length=2:=(RG.elem (hr.keep hE) dPt (by omega))
  refine oS rfl (Yk.atRG CD ER (by decide) dPt (RG.of (hr.keep hE) T0) T8 (by omega) fun fq dv=>(oS rfl (Yk.loadPR (PR.of dv (vr fq rfl)) (Oj).choose_spec rfl (by rw[fp];exact I7) (oS rfl (Yk.alloc (cs:=([(Value.slice none 0 0),NI 0]).toArray) Ok fun j fr ji dw b6 jj=> ?_)))))
  have af:=Ext.refl dt
  have jk:=hE
  have fs:=hE.size
  have ft:OB o j:=AV c (by omega)
  have ca:OB vb j:=AV hr_vb (by omega)
  have co:OB vi j:=AV hr_vi.2 (by omega)
  have cp:OB vq j:=AV hr_vq.2 (by omega)
  have hE:=hE.trans b6
  have c:=Stab.own _ _ _ _ _ _ _ _ c b6
  have hr_vb:=Stab.own _ _ _ _ _ _ _ _ hr_vb b6
  have hr_vi:=hr_vi.keep b6
  have hr_vq:=hr_vq.keep b6
  have af:=af.trans b6
  have f:=dw;clear dw
  have jl:j<fr.heap.size:=by omega
  refine oS rfl (Yk.storeAll (vr (PQ j 0) rfl) (vr (.agg (partC (ps.getD (i) dPt)).toArray) rfl) f (by rfl) (by exact I7) ((partC_one (RB.one (hps _ (A6 dPt hlt)).1))) fun fu dx b7 jm=> ?_)
  have hE:=Ac hE b7 (Nat.le_trans fs (by omega))
  have c:=A7 c b7 ft
  have hr_vb:=A7 hr_vb b7 ca
  have hr_vi:=OG.kept hr_vi b7 co
  have hr_vq:=OG.kept hr_vq b7 cp
  have af:=Ac af b7 (Nat.le_trans (Nat.le_refl _) (by omega))
  clear f
  have f:=dx;clear dx
  have jn:=bl f
  refine oZ ?_
  clear dv
  have f:fu.heap[j]? =some (.cells ([p.v, .int .i64 (p.base:Int)]).toArray 41 (0,0)):=AZ f (show partC (ps.getD i dPt)= [p.v, .int .i64 (p.base:Int)] by rw[←hp];rfl)
  refine tN (fo _ _ (sk fun jo cq=>(sk fun jp cr=>(wt (oS rfl (Yk.fieldAt FA (vr (PQ j 0) rfl) (oS rfl (Yk.cell1 DT rfl (vr (PQ j 0) rfl) (Ai f (show _=some (p.v:Value)from rfl)) (oS rfl (Yk.lenRB DT (RB.of (hpr.keep hE) (vr p.v rfl)) (oS rfl (Yk.eqI (a:=((p.bytes:List UInt8).length:Nat)) (b:=(262144:Nat)) rfl rfl (Bm _ _ _ _) (oZ ?_)))))))))))))
  by_cases hA:p.base < -1
  ·refine tN (cr _ _ (Ar (vr (.bool (false)) (congrArg Value.bool (decide_eq_false (by omega)))) (Ah (tN (cq _ _ (sk fun jq jr=>(sk fun js fv=>(wt (oS rfl (Yk.fieldAt KO (vr (PQ j 0) rfl) (oS rfl (Yk.cell1 NA rfl (vr (PQ j 1) rfl) (Ai f (show _=some (.int .i64 (p.base:Int):Value)from rfl)) (oS rfl (Yk.eqI (vr (.int .i64 (p.base:Int)) rfl) (vr (.int .i64 (-1:Int)) rfl) (Ej _ .i64 (p.base:Int) (-1:Int)) (oM rfl (oN (d:=34) rfl rfl rfl (vr (.bool (true)) (congrArg Value.bool (decide_eq_true (hA)))) rfl (oN (d:=34) rfl rfl rfl (vr (.bool (true)) (congrArg Value.bool (decide_eq_true (hA)))) rfl (oN (d:=34) rfl rfl rfl (vr (.bool (true)) (congrArg Value.bool (decide_eq_true (hA)))) rfl (oN (d:=34) rfl rfl rfl (vr (.bool (true)) (congrArg Value.bool (decide_eq_true (hA)))) rfl (oS rfl (Yk.pickT (vr (.bool (true)) (congrArg Value.bool (decide_eq_true (hA)))) (vr (.bool (true)) rfl) ?_)))))))))))))))))))))
   refine oZ (tN (fv _ _ (AE (vr (.bool (true)) rfl) (sk fun jt fw=>(wt (oA rfl (oA rfl (oZ (tN (fw _ _ (As (Am (AR (Am (Am (AR (Am (Ao (fn:=Tryd.f13) _ rfl [(Value.slice none 0 0),NI 1] (.tuple #[(Value.slice none 0 0),NI 1]) rfl ⟨rfl,rfl,trivial⟩ ?_))))))))))))))))))
   rw[if_pos (by omega)]at hst
   rw[CA (by omega) hst]
   exact⟨_,rfl,RB.nil _,hE⟩
  by_cases hBq:(i:Int)≤p.base
  ·refine tN (cr _ _ (Ar (vr (.bool (false)) (congrArg Value.bool (decide_eq_false (by omega)))) (Ah (tN (cq _ _ (sk fun ju jv=>(sk fun jw fx=>(wt (oS rfl (Yk.fieldAt KO (vr (PQ j 0) rfl) (oS rfl (Yk.cell1 NA rfl (vr (PQ j 1) rfl) (Ai f (show _=some (.int .i64 (p.base:Int):Value)from rfl)) (oS rfl (Yk.eqI (vr (.int .i64 (p.base:Int)) rfl) (vr (.int .i64 (-1:Int)) rfl) (Ej _ .i64 (p.base:Int) (-1:Int)) (oM rfl (oY (d:=34) rfl rfl (vr (.bool (false)) (congrArg Value.bool (decide_eq_false (hA)))) (Yk.fieldAt KO (vr (PQ j 0) rfl) (oY (d:=34) rfl rfl (vr (.bool (false)) (congrArg Value.bool (decide_eq_false (hA)))) (Yk.cell1 NA rfl (vr (PQ j 1) rfl) (Ai f (show _=some (.int .i64 (p.base:Int):Value)from rfl)) (oY (d:=34) rfl rfl (vr (.bool (false)) (congrArg Value.bool (decide_eq_false (hA)))) (Yk.move T8 (oY (d:=34) rfl rfl (vr (.bool (false)) (congrArg Value.bool (decide_eq_false (hA)))) (Yk.eqI (vr (.int .i64 (p.base:Int)) rfl) (vr (NI i) rfl) (FV _ .i64 (p.base:Int) ((i:Nat):Int)) (oS rfl (Yk.pickF (vr (.bool (false)) (congrArg Value.bool (decide_eq_false (hA)))) (vr (.bool (true)) (congrArg Value.bool (decide_eq_true (by omega)))) ?_)))))))))))))))))))))))))
   refine oZ (tN (fx _ _ (AE (vr (.bool (true)) rfl) (sk fun jx fy=>(wt (oA rfl (oA rfl (oZ (tN (fy _ _ (As (Am (AR (Am (Am (AR (Am (Ao (fn:=Tryd.f13) _ rfl [(Value.slice none 0 0),NI 1] (.tuple #[(Value.slice none 0 0),NI 1]) rfl ⟨rfl,rfl,trivial⟩ ?_))))))))))))))))))
   rw[if_pos (by omega)]at hst
   rw[CA (by omega) hst]
   exact⟨_,rfl,RB.nil _,hE⟩
  rw[if_neg (by omega)]at hst
  refine tN (cr _ _ (Ar (vr (.bool (false)) (congrArg Value.bool (decide_eq_false (by omega)))) (Ah (tN (cq _ _ (sk fun jy fz=>(sk fun jz f0=>(wt (oS rfl (Yk.fieldAt KO (vr (PQ j 0) rfl) (oS rfl (Yk.cell1 NA rfl (vr (PQ j 1) rfl) (Ai f (show _=some (.int .i64 (p.base:Int):Value)from rfl)) (oS rfl (Yk.eqI (vr (.int .i64 (p.base:Int)) rfl) (vr (.int .i64 (-1:Int)) rfl) (Ej _ .i64 (p.base:Int) (-1:Int)) (oM rfl (oY (d:=34) rfl rfl (vr (.bool (false)) (congrArg Value.bool (decide_eq_false (hA)))) (Yk.fieldAt KO (vr (PQ j 0) rfl) (oY (d:=34) rfl rfl (vr (.bool (false)) (congrArg Value.bool (decide_eq_false (hA)))) (Yk.cell1 NA rfl (vr (PQ j 1) rfl) (Ai f (show _=some (.int .i64 (p.base:Int):Value)from rfl)) (oY (d:=34) rfl rfl (vr (.bool (false)) (congrArg Value.bool (decide_eq_false (hA)))) (Yk.move T8 (oY (d:=34) rfl rfl (vr (.bool (false)) (congrArg Value.bool (decide_eq_false (hA)))) (Yk.eqI (vr (.int .i64 (p.base:Int)) rfl) (vr (NI i) rfl) (FV _ .i64 (p.base:Int) ((i:Nat):Int)) (oS rfl (Yk.pickF (vr (.bool (false)) (congrArg Value.bool (decide_eq_false (hA)))) (vr (.bool (false)) (congrArg Value.bool (decide_eq_false (by omega)))) ?_)))))))))))))))))))))))))
  refine oZ (tN (f0 _ _ (Ar (vr (.bool (false)) rfl) (Ah (tN (fz _ _ (sk fun j0 dy=>(wt (oS rfl (Yk.fieldAt FA (vr (PQ j 0) rfl) (oS rfl (Yk.cell1 DT rfl (vr (PQ j 0) rfl) (Ai f (show _=some (p.v:Value)from rfl)) (oS rfl (Yk.callA1 Ki (vr p.v rfl) ((HV _ p.v (p.bytes) (hpr.keep hE) (by omega)).mono ?_)))))))))))))))
  rintro e f1 ⟨rfl,b1⟩
  refine⟨_,rfl,?_⟩
  have hE:=hE.trans b1
  have c:=Stab.own _ _ _ _ _ _ _ _ c b1
  have hr_vb:=Stab.own _ _ _ _ _ _ _ _ hr_vb b1
  have hr_vi:=hr_vi.keep b1
  have hr_vq:=hr_vq.keep b1
  have af:=af.trans b1
  have f:=eb b1 f
  refine oS rfl (Yk.alloc (cs:=(Lib.byteCells (List.replicate 32 0)).toArray) NH fun ag f2 f3 dz bp j1=> ?_)
  have au:=Ext.refl f1
  have j2:=hE
  have j3:=af
  have f4:=hE.size
  have f5:=af.size
  have j4:=AT (bl f) f3
  have f6:OB o ag:=AV c (by omega)
  have cb:OB vb ag:=AV hr_vb (by omega)
  have ct:OB vi ag:=AV hr_vi.2 (by omega)
  have cu:OB vq ag:=AV hr_vq.2 (by omega)
  have hE:=hE.trans bp
  have c:=Stab.own _ _ _ _ _ _ _ _ c bp
  have hr_vb:=Stab.own _ _ _ _ _ _ _ _ hr_vb bp
  have hr_vi:=hr_vi.keep bp
  have hr_vq:=hr_vq.keep bp
  have af:=af.trans bp
  have f:=eb bp f
  have au:=au.trans bp
  have g:=dz;clear dz
  have j5:ag<f2.heap.size:=by omega
  refine oS rfl (Yk.storeAll (vr (PQ ag 0) rfl) (vr (AB (Sha.sum p.bytes)) rfl) g (by exact C6 (Sha.sum_length _) List.length_replicate) (by exact AM (Sha.sum_length _)) (AF _) fun j6 d0 bq j7=> ?_)
  have hE:=Ac hE bq (Nat.le_trans f4 (by omega))
  have c:=A7 c bq f6
  have hr_vb:=A7 hr_vb bq cb
  have hr_vi:=OG.kept hr_vi bq ct
  have hr_vq:=OG.kept hr_vq bq cu
  have af:=Ac af bq (Nat.le_trans f5 (by omega))
  have f:=kb bq f (by omega)
  have au:=Ac au bq (Nat.le_trans (Nat.le_refl _) (by omega))
  clear g
  have g:=d0;clear d0
  have j8:=bl g
  refine oZ ?_
  by_cases hin:Sha.sum p.bytes∈s.ids
  ·rw[if_pos hin]at hst
   refine tN (dy _ _ (sk fun j9 ka=>(sk fun kc f7=>(wt (oM rfl (oS rfl (Yk.loadAll (vr (PQ ag 0) rfl) g Ow rfl (by exact AM (Sha.sum_length _)) (oS rfl (Yk.callA2 Kj T5 (vr (AB (Sha.sum p.bytes)) rfl) (((show Calls _ _ _ _ (fun e w2=>e = .returned (.bool true)∧Ext _ w2)from by have h:=I2 _ vi s.ids (RG.ofOwn hr_vi) (by omega) (Sha.sum p.bytes) (Sha.sum_length _);rw[decide_eq_true hin]at h;exact h)).mono ?_))))))))))
   rintro e kd ⟨rfl,bj⟩
   refine⟨_,rfl,?_⟩
   have hE:=hE.trans bj
   have c:=Stab.own _ _ _ _ _ _ _ _ c bj
   have hr_vb:=Stab.own _ _ _ _ _ _ _ _ hr_vb bj
   have hr_vi:=hr_vi.keep bj
   have hr_vq:=hr_vq.keep bj
   have af:=af.trans bj
   have f:=eb bj f
   have au:=au.trans bj
   have g:=eb bj g
   refine oZ (tN (f7 _ _ (AE (vr (.bool (true)) rfl) (sk fun ke f8=>(wt (oA rfl (oA rfl (oZ (tN (f8 _ _ (As (Am (AR (Am (Am (AR (Am (Ao (fn:=Tryd.f13) _ rfl [(Value.slice none 0 0),NI 11] (.tuple #[(Value.slice none 0 0),NI 11]) rfl ⟨rfl,rfl,trivial⟩ ?_))))))))))))))))))
   rw[CA (by omega) hst]
   exact⟨_,rfl,RB.nil _,hE⟩
  rw[if_neg hin]at hst
  obtain⟨es,hI⟩:=G5 hL i s hi hs
  obtain⟨D,hD,hDi⟩:=Kg hI (by rw[←hp];omega) (I6 hs)
  rw[←hp]at hDi
  refine tN (dy _ _ (sk fun kf d1=>(sk fun kg d2=>(wt (oM rfl (oS rfl (Yk.loadAll (vr (PQ ag 0) rfl) g Ow rfl (by exact AM (Sha.sum_length _)) (oS rfl (Yk.callA2 Kj T5 (vr (AB (Sha.sum p.bytes)) rfl) (((show Calls _ _ _ _ (fun e w2=>e = .returned (.bool false)∧Ext _ w2)from by have h:=I2 _ vi s.ids (RG.ofOwn hr_vi) (by omega) (Sha.sum p.bytes) (Sha.sum_length _);rw[decide_eq_false hin]at h;exact h)).mono ?_))))))))))
  rintro e kh ⟨rfl,bk⟩
  refine⟨_,rfl,?_⟩
  have hE:=hE.trans bk
  have c:=Stab.own _ _ _ _ _ _ _ _ c bk
  have hr_vb:=Stab.own _ _ _ _ _ _ _ _ hr_vb bk
  have hr_vi:=hr_vi.keep bk
  have hr_vq:=hr_vq.keep bk
  have af:=af.trans bk
  have f:=eb bk f
  have au:=au.trans bk
  have g:=eb bk g
  refine oZ ?_
  by_cases hdp:50<depthB p s
  ·rw[if_pos hdp]at hst
   refine tN (d2 _ _ (Ar (vr (.bool (false)) rfl) (Ah (tN (d1 _ _ (sk fun ki kj=>(sk fun kk f9=>(wt (oM rfl (oM rfl (oS rfl (Yk.callA2 Kk T0 T8 (((show Calls _ _ _ _ (fun e w2=>e = .returned (NI (depthB p s))∧Ext _ w2)from by rw[←hDi];exact GU _ v ps (hr.keep hE) (hps.keep hE) i hlt (by omega) D hD)).mono ?_)))))))))))))
   rintro e kl ⟨rfl,bm⟩
   refine⟨_,rfl,?_⟩
   have hE:=hE.trans bm
   have c:=Stab.own _ _ _ _ _ _ _ _ c bm
   have hr_vb:=Stab.own _ _ _ _ _ _ _ _ hr_vb bm
   have hr_vi:=hr_vi.keep bm
   have hr_vq:=hr_vq.keep bm
   have af:=af.trans bm
   have f:=eb bm f
   have au:=au.trans bm
   have g:=eb bm g
   refine oS rfl (Yk.eqI (a:=(depthB p s:Nat)) (b:=(50:Nat)) rfl rfl (Bm _ _ _ _) (oZ (tN (f9 _ _ (AE (vr (.bool (true)) (congrArg Value.bool (decide_eq_true (hdp)))) (sk fun km ga=>(wt (oA rfl (oA rfl (oZ (tN (ga _ _ (As (Am (AR (Am (Am (AR (Am (Ao (fn:=Tryd.f13) _ rfl [(Value.slice none 0 0),NI 17] (.tuple #[(Value.slice none 0 0),NI 17]) rfl ⟨rfl,rfl,trivial⟩ ?_))))))))))))))))))))
   rw[CA (by omega) hst]
   exact⟨_,rfl,RB.nil _,hE⟩
  rw[if_neg hdp]at hst
  have hst3:=hst
  refine tN (d2 _ _ (Ar (vr (.bool (false)) rfl) (Ah (tN (d1 _ _ (sk fun kn gb=>(sk fun ko gc=>(wt (oM rfl (oM rfl (oS rfl (Yk.callA2 Kk T0 T8 (((show Calls _ _ _ _ (fun e w2=>e = .returned (NI (depthB p s))∧Ext _ w2)from by rw[←hDi];exact GU _ v ps (hr.keep hE) (hps.keep hE) i hlt (by omega) D hD)).mono ?_)))))))))))))
  rintro e kp ⟨rfl,bn⟩
  refine⟨_,rfl,?_⟩
  have hE:=hE.trans bn
  have c:=Stab.own _ _ _ _ _ _ _ _ c bn
  have hr_vb:=Stab.own _ _ _ _ _ _ _ _ hr_vb bn
  have hr_vi:=hr_vi.keep bn
  have hr_vq:=hr_vq.keep bn
  have af:=af.trans bn
  have f:=eb bn f
  have au:=au.trans bn
  have g:=eb bn g
  refine oS rfl (Yk.eqI (a:=(depthB p s:Nat)) (b:=(50:Nat)) rfl rfl (Bm _ _ _ _) (oZ (tN (gc _ _ (Ar (vr (.bool (false)) (congrArg Value.bool (decide_eq_false (hdp)))) (Ah (tN (gb _ _ (sk fun kq gd=>(wt (oM rfl (oS rfl (Yk.loadAll (vr (PQ ag 0) rfl) g Ow rfl (by exact AM (Sha.sum_length _)) (oS rfl (Yk.lit1G (a:=(Sha.sum p.bytes)) (enc:=Lib.byteCells) (vr (AB (Sha.sum p.bytes)) rfl) (by rw[Lib.byteCells_length];exact(Sha.sum_length _)) Om fun ge gf d3 bo=> ?_)))))))))))))))
  have hE:=hE.trans bo
  have c:=Stab.own _ _ _ _ _ _ _ _ c bo
  have hr_vb:=Stab.own _ _ _ _ _ _ _ _ hr_vb bo
  have hr_vi:=hr_vi.keep bo
  have hr_vq:=hr_vq.keep bo
  have af:=af.trans bo
  have f:=eb bo f
  have au:=au.trans bo
  have g:=eb bo g
  refine oS rfl (Yk.appendRG _ _ w.heap.size _ 32 JD pk6_ig38.choose_spec.1 pk6_ig38.choose_spec.2 JD (s.ids) ([(Sha.sum p.bytes)]) (OG.of hr_vi T5) (RG.of d3 (vr ge rfl)) (fun _ _=>AF _) (by simp only[List.length_cons,List.length_nil];omega) (by simp only[List.length_cons,List.length_nil];omega) hE.size fun aa gg t a6=> ?_)
  have a6:Grew gf gg vi aa:= .eqv T5 a6
  have cv:Ae aa o:=Au a6 hap_vi_v7 c
  have kr:Ae o aa:=fun k h1 h2=>cv k h2 h1
  have gh:Ae aa vb:=Au a6 hap_vi_vb hr_vb
  have cf:Ae vb aa:=fun k h1 h2=>gh k h2 h1
  have gi:Ae aa vq:=Au a6 hap_vi_vq hr_vq.2
  have d4:Ae vq aa:=fun k h1 h2=>gi k h2 h1
  have ks:OB aa j:=Ax a6 co (bl f)
  have kt:OB aa ag:=Ax a6 ct (bl g)
  have hE:=AC hE a6 hr_vi.2 (Nat.le_refl _)
  have c:=Bg c a6 hap_vi_v7
  have hr_vb:=Bg hr_vb a6 hap_vi_vb
  clear hr_vi
  have hr_vq:=By hr_vq a6 hap_vi_vq
  clear af
  have f:=AP f a6 co
  clear au
  have g:=AP g a6 ct
  clear d3
  refine oA rfl (oZ (tN (gd _ _ (sk fun ku gj=>(wt (oM rfl (oM rfl (oS rfl (Yk.lenRB DT (RB.of (RB.ofOwn hr_vb) T4) (oS rfl (Yk.lit1S (a:=(s.b:List UInt8).length) (enc:=Kd) (vr (NI ((s.b:List UInt8).length)) rfl) rfl (fun w=>LD _ w) fun gk gl d5 b2=> ?_)))))))))))
  have hE:=hE.trans b2
  have c:=Stab.own _ _ _ _ _ _ _ _ c b2
  have hr_vb:=Stab.own _ _ _ _ _ _ _ _ hr_vb b2
  have hr_vq:=hr_vq.keep b2
  have f:=eb b2 f
  have g:=eb b2 g
  have t:=t.keep b2
  refine oS rfl (Yk.appendRG _ _ w.heap.size _ 8 ID rf4_ig3.choose_spec.1 rf4_ig3.choose_spec.2 ID (s.places) ([(s.b:List UInt8).length]) (OG.of hr_vq T6) (RG.of d5 (vr gk rfl)) (fun y hy u hu=>by rw[List.mem_singleton.1 hu];rfl) (by simp only[List.length_cons,List.length_nil];omega) (by simp only[List.length_cons,List.length_nil];omega) hE.size fun ab cg ac a7=> ?_)
  have a7:Grew gl cg vq ab:= .eqv T6 a7
  have cw:Ae ab o:=Au a7 hap_vq_v7 c
  have kv:Ae o ab:=fun k h1 h2=>cw k h2 h1
  have gm:Ae ab vb:=Au a7 hap_vq_vb hr_vb
  have ch:Ae vb ab:=fun k h1 h2=>gm k h2 h1
  have kw:OB ab j:=Ax a7 cp (bl f)
  have kx:OB ab ag:=Ax a7 cu (bl g)
  have cx:Ae ab aa:=Au a7 d4 t.2
  have d6:Ae aa ab:=fun k h1 h2=>cx k h2 h1
  have hE:=AC hE a7 hr_vq.2 (Nat.le_refl _)
  have c:=Bg c a7 hap_vq_v7
  have hr_vb:=Bg hr_vb a7 hap_vq_vb
  clear hr_vq
  have f:=AP f a7 cp
  have g:=AP g a7 cu
  have t:=By t a7 d4
  clear d5
  refine oA rfl (AH [(0,v),(4,vb),(5,aa),(6,ab),(7,NI s.total),(8,NI i),(9,PQ j 0),(10,PQ ag 0),(20, .bool (true)),(30, .bool (false)),(39, .bool (false)),(45, .bool (false)),(49, .bool (false))] ⟨T0,T4,rfl,rfl,T7,T8,rfl,rfl,(congrArg Value.bool (decide_eq_true (hlt))),(congrArg Value.bool (decide_eq_false (by omega))),rfl,rfl,(congrArg Value.bool (decide_eq_false (hdp))),trivial⟩ fun ky ⟨T0,T4,T5,T6,T7,T8,T9,br,bs,bt,bu,bv,bw,_⟩=>(tN (gj _ _ (sk fun kz d7=>(wt (oM rfl (oS rfl (Yk.fieldAt FA T9 (oS rfl (Yk.cell1 DT rfl (vr (PQ j 0) rfl) (Ai f (show _=some (p.v:Value)from rfl)) (oS rfl (Yk.lenRB DT (RB.of (hpr.keep hE) (vr p.v rfl)) (oS rfl (Yk.bin (xv:=NI s.total) (yv:=NI ((p.bytes:List UInt8).length)) T7 rfl rfl (Ak _ _ _ (by omega)) (oA rfl (oZ ?_))))))))))))))))
  by_cases hC0:p.base<0
  ·refine tN (d7 _ _ (sk fun k0 k1=>(sk fun k2 gn=>(wt (oS rfl (Yk.fieldAt KO T9 (oS rfl (Yk.cell1 NA rfl (vr (PQ j 1) rfl) (Ai f (show _=some (.int .i64 (p.base:Int):Value)from rfl)) (oS rfl (Yk.eqI (vr (.int .i64 (p.base:Int)) rfl) (vr (NI 0) rfl) (Ej _ .i64 (p.base:Int) ((0:Nat):Int)) (oZ (tN (gn _ _ (AE (vr (.bool (true)) (congrArg Value.bool (decide_eq_true (hC0)))) (sk fun k3 go=>(wt (oM rfl (oS rfl (Yk.lit1 (b:=0) Mk (vr (B8 (0)) rfl) fun am gp aj=> ?_)))))))))))))))))))
   have cy:=Ext.refl cg
   have k5:=hE
   have k6:=hE.size
   have k7:OB am j:=BO aj.own (bl f)
   have k8:OB am ag:=BO aj.own (bl g)
   have k9:Ae o am:=A4 c aj.own
   have la:Ae am o:=A0 c aj.own
   have d8:Ae vb am:=A4 hr_vb aj.own
   have lb:Ae am vb:=A0 hr_vb aj.own
   have lc:Ae aa am:=A4 t.2 aj.own
   have ld:Ae am aa:=A0 t.2 aj.own
   have le:Ae ab am:=A4 ac.2 aj.own
   have lf:Ae am ab:=A0 ac.2 aj.own
   have hE:=hE.trans aj.ext
   have c:=Stab.own _ _ _ _ _ _ _ _ c aj.ext
   have hr_vb:=Stab.own _ _ _ _ _ _ _ _ hr_vb aj.ext
   have f:=eb aj.ext f
   have g:=eb aj.ext g
   have t:=t.keep aj.ext
   have ac:=ac.keep aj.ext
   have cy:=cy.trans aj.ext
   have bd:=aj.own;clear aj
   refine oS rfl (Yk.appendRB _ _ w.heap.size (.int .u8 0) DT FW rfl DT (s.b) ([(0:UInt8)]) (BB hr_vb T4) (RB.of (RB.ofOwn bd) (vr am rfl)) (by simp only[List.length_cons,List.length_nil];omega) hE.size fun aw d9 b3 ax=> ?_)
   have ax:Grew gp d9 vb aw:= .eqv T4 ax
   have cz:Ae aw o:=Au ax hap_vb_v7 c
   have lg:Ae o aw:=fun k h1 h2=>cz k h2 h1
   have ea:OB aw j:=Ax ax ca (bl f)
   have ec:OB aw ag:=Ax ax cb (bl g)
   have c0:Ae aw aa:=Au ax cf t.2
   have lh:Ae aa aw:=fun k h1 h2=>c0 k h2 h1
   have c1:Ae aw ab:=Au ax ch ac.2
   have li:Ae ab aw:=fun k h1 h2=>c1 k h2 h1
   have c2:Ae aw am:=Au ax d8 bd
   have lj:Ae am aw:=fun k h1 h2=>c2 k h2 h1
   have hE:=AC hE ax hr_vb (Nat.le_refl _)
   have c:=Bg c ax hap_vb_v7
   clear hr_vb
   have f:=AP f ax ca
   have g:=AP g ax cb
   have t:=By t ax cf
   have ac:=By ac ax ch
   clear cy
   have bd:=Bg bd ax d8
   refine oA rfl (oZ (tN (go _ _ (sk fun lk gq=>(wt (oM rfl (oS rfl (Yk.fieldAt FA T9 (oS rfl (Yk.cell1 DT rfl (vr (PQ j 0) rfl) (Ai f (show _=some (p.v:Value)from rfl)) (oS rfl (Yk.convRB DT u5 Lg (RB.of (hpr.keep hE) (vr p.v rfl)) (oS rfl (Yk.callA1 Kl (vr (St (p.bytes)) rfl) ((Kh _ (p.bytes) (by omega)).mono ?_)))))))))))))))
   rintro e gr ⟨ay,rfl,ah⟩
   refine⟨_,rfl,?_⟩
   have c3:=Ext.refl d9
   have ll:=hE
   have lm:=hE.size
   have ln:OB ay j:=BO ah.own (bl f)
   have lo:OB ay ag:=BO ah.own (bl g)
   have lp:Ae o ay:=A4 c ah.own
   have lq:Ae ay o:=A0 c ah.own
   have lr:Ae aa ay:=A4 t.2 ah.own
   have ls:Ae ay aa:=A0 t.2 ah.own
   have lu:Ae ab ay:=A4 ac.2 ah.own
   have lv:Ae ay ab:=A0 ac.2 ah.own
   have lw:Ae am ay:=A4 bd ah.own
   have lx:Ae ay am:=A0 bd ah.own
   have ed:Ae aw ay:=A4 b3 ah.own
   have ly:Ae ay aw:=A0 b3 ah.own
   have hE:=hE.trans ah.ext
   have c:=Stab.own _ _ _ _ _ _ _ _ c ah.ext
   have f:=eb ah.ext f
   have g:=eb ah.ext g
   have t:=t.keep ah.ext
   have ac:=ac.keep ah.ext
   have bd:=Stab.own _ _ _ _ _ _ _ _ bd ah.ext
   have b3:=Stab.own _ _ _ _ _ _ _ _ b3 ah.ext
   have c3:=c3.trans ah.ext
   have ci:=ah.own;clear ah
   refine oS rfl (Yk.appendRB _ _ w.heap.size (.int .u8 0) DT FW rfl DT (s.b++ [(0:UInt8)]) (Bh p.bytes) (BB b3 (vr aw rfl)) (RB.of (RB.ofOwn ci) (vr ay rfl)) (by simp only[List.length_append,List.length_cons,List.length_nil];have:=GP p.bytes;have:=JN (n:=p.bytes.length) (by omega);omega) hE.size fun aq gs gt an=> ?_)
   have an:Grew gr gs aw aq:=an
   have ee:Ae aq o:=Au an cz c
   have lz:Ae o aq:=fun k h1 h2=>ee k h2 h1
   have l0:OB aq j:=Ax an ea (bl f)
   have l1:OB aq ag:=Ax an ec (bl g)
   have ef:Ae aq aa:=Au an c0 t.2
   have gu:Ae aa aq:=fun k h1 h2=>ef k h2 h1
   have eg:Ae aq ab:=Au an c1 ac.2
   have gv:Ae ab aq:=fun k h1 h2=>eg k h2 h1
   have gw:Ae aq am:=Au an c2 bd
   have l2:Ae am aq:=fun k h1 h2=>gw k h2 h1
   have gx:Ae aq ay:=Au an ed ci
   have l3:Ae ay aq:=fun k h1 h2=>gx k h2 h1
   have hE:=AC hE an b3 (Nat.le_refl _)
   have c:=Bg c an cz
   have f:=AP f an ea
   have g:=AP g an ec
   have t:=By t an c0
   have ac:=By ac an c1
   have bd:=Bg bd an c2
   clear b3
   clear c3
   have ci:=Bg ci an ed
   refine oA rfl (AH [(0,v),(4,aq),(5,aa),(6,ab),(7,NI ((s.total)+((p.bytes:List UInt8).length))),(8,NI i),(9,PQ j 0),(10,PQ ag 0),(20, .bool (true)),(30, .bool (false)),(39, .bool (false)),(45, .bool (false)),(49, .bool (false)),(66, .bool (true))] ⟨T0,rfl,T5,T6,rfl,T8,T9,br,bs,bt,bu,bv,bw,(congrArg Value.bool (decide_eq_true (hC0))),trivial⟩ fun l4 ⟨T0,T4,T5,T6,T7,T8,T9,br,bs,bt,bu,bv,bw,cc,_⟩=> ?_)
   have hbn:(bnext ps p s).b=s.b++ [0]++Bh p.bytes:=by unfold bnext;simp only;rw[if_pos hC0]
   refine tN (gq _ _ (AJ (Ag (Ap (tN (du _ _ (wt (oM rfl (oS rfl (Yk.bin (xv:=NI i) (yv:=NI 1) T8 rfl rfl (Ak _ _ _ (by omega)) (oA rfl (AH [(0,v),(4,aq),(5,aa),(6,ab),(7,NI ((s.total)+((p.bytes:List UInt8).length))),(8,NI ((i)+(1))),(9,PQ j 0),(10,PQ ag 0),(20, .bool (true)),(30, .bool (false)),(39, .bool (false)),(45, .bool (false)),(49, .bool (false)),(66, .bool (true))] ⟨T0,T4,T5,T6,T7,rfl,T9,br,bs,bt,bu,bv,bw,cc,trivial⟩ fun gy ⟨T0,T4,T5,T6,T7,T8,T9,br,bs,bt,bu,bv,bw,cc,_⟩=>(tN (And.intro ⟨i+1,bnext ps p s,aq,aa,ab,T0,T8,T7,T4,T5,T6,hE,c,BI gt (by rw[hbn]),B5 t (rfl),B5 ac (rfl),hst3,by omega,ee,ef,eg,cv,gu,d6,cw,gv,cx,trivial⟩ ?_))))))))))))))
   show ps.length-(intOf (gy 8)).toNat<ps.length-(intOf (ds 8)).toNat
   rw[T8,q8]
   simp only[intOf,Int.toNat_natCast];omega
  obtain⟨m,hm⟩:∃m:Nat,p.base=(m:Int):=⟨p.base.toNat,by omega⟩
  have hmi:m<i:=by omega
  have hm32:(s.ids.getD m []).length=32:=hB.len _ (A6 [] (by omega))
  have hpq:=(hps _ (A6 dPt (l:=ps) (i:=m) (by omega))).1
  have hql:=hL.2 _ (A6 dPt (l:=ps) (i:=m) (by omega))
  have hmk:=Fj (ps.getD m dPt).bytes p.bytes (by omega) (by omega)
  have hig:(s.ids++ [Sha.sum p.bytes]).getD m ([]:List UInt8)=s.ids.getD m []:=Ds _ _ _ (by omega)
  have f:cg.heap[j]? =some (.cells ([p.v,NI m]).toArray 41 (0,0)):=AZ f (by rw[hm])
  refine tN (d7 _ _ (sk fun l5 gz=>(sk fun l6 g0=>(wt (oS rfl (Yk.fieldAt KO T9 (oS rfl (Yk.cell1 NA rfl (vr (PQ j 1) rfl) (Ai f (show _=some (NI m:Value)from rfl)) (oS rfl (Yk.eqI (a:=(m:Nat)) (b:=(0:Nat)) rfl rfl (AN _ _ _ _) (oZ (tN (g0 _ _ (Ar (vr (.bool (false)) (congrArg Value.bool (decide_eq_false (by omega)))) (Ah (tN (gz _ _ (sk fun l7 g1=>(wt (oM rfl (oS rfl (Yk.lit1 (b:=1) Mk (vr (B8 (1)) rfl) fun ao g2 ak=> ?_))))))))))))))))))))))
  have c4:=Ext.refl cg
  have l8:=hE
  have l9:=hE.size
  have ma:OB ao j:=BO ak.own (bl f)
  have mb:OB ao ag:=BO ak.own (bl g)
  have mc:Ae o ao:=A4 c ak.own
  have md:Ae ao o:=A0 c ak.own
  have eh:Ae vb ao:=A4 hr_vb ak.own
  have me:Ae ao vb:=A0 hr_vb ak.own
  have mf:Ae aa ao:=A4 t.2 ak.own
  have mg:Ae ao aa:=A0 t.2 ak.own
  have mh:Ae ab ao:=A4 ac.2 ak.own
  have mi:Ae ao ab:=A0 ac.2 ak.own
  have hE:=hE.trans ak.ext
  have c:=Stab.own _ _ _ _ _ _ _ _ c ak.ext
  have hr_vb:=Stab.own _ _ _ _ _ _ _ _ hr_vb ak.ext
  have f:=eb ak.ext f
  have g:=eb ak.ext g
  have t:=t.keep ak.ext
  have ac:=ac.keep ak.ext
  have c4:=c4.trans ak.ext
  have bg:=ak.own;clear ak
  refine oS rfl (Yk.appendRB _ _ w.heap.size (.int .u8 0) DT FW rfl DT (s.b) ([(1:UInt8)]) (BB hr_vb T4) (RB.of (RB.ofOwn bg) (vr ao rfl)) (by simp only[List.length_cons,List.length_nil];omega) hE.size fun a8 ei c5 az=> ?_)
  have az:Grew g2 ei vb a8:= .eqv T4 az
  have c6:Ae a8 o:=Au az hap_vb_v7 c
  have mj:Ae o a8:=fun k h1 h2=>c6 k h2 h1
  have ej:OB a8 j:=Ax az ca (bl f)
  have el:OB a8 ag:=Ax az cb (bl g)
  have c7:Ae a8 aa:=Au az cf t.2
  have mk:Ae aa a8:=fun k h1 h2=>c7 k h2 h1
  have c8:Ae a8 ab:=Au az ch ac.2
  have ml:Ae ab a8:=fun k h1 h2=>c8 k h2 h1
  have c9:Ae a8 ao:=Au az eh bg
  have mm:Ae ao a8:=fun k h1 h2=>c9 k h2 h1
  have hE:=AC hE az hr_vb (Nat.le_refl _)
  have c:=Bg c az hap_vb_v7
  clear hr_vb
  have f:=AP f az ca
  have g:=AP g az cb
  have t:=By t az cf
  have ac:=By ac az ch
  clear c4
  have bg:=Bg bg az eh
  refine oA rfl (oZ (tN (g1 _ _ (sk fun mn g3=>(wt (oM rfl (oM rfl (oS rfl (Yk.fieldAt KO T9 (oS rfl (Yk.cell1 NA rfl (vr (PQ j 1) rfl) (Ai f (show _=some (NI m:Value)from rfl)) ?_)))))))))))
  have g4:(Lib.byteCells (((s.ids)++ [(Sha.sum p.bytes)]).getD (m) ([]:List UInt8))).length=32:=(RG.elem (RG.ofOwn t) ([]:List UInt8) (by rw[List.length_append,List.length_singleton];omega))
  refine oS rfl (Yk.atRG JD Mn (by decide) ([]:List UInt8) (RG.of (RG.ofOwn t) T5) (vr (NI m) rfl) (by rw[List.length_append,List.length_singleton];omega) fun g5 em=>(oS rfl (Yk.slicePR (l:=((s.ids)++ [(Sha.sum p.bytes)]).getD (m) ([]:List UInt8)) Ow Ls (PR.of em (vr g5 rfl)) (A5 g4) (by decide) fun g6 en=>(oS rfl (Yk.appendRB _ _ w.heap.size (.int .u8 0) DT FW rfl DT (s.b++ [(1:UInt8)]) (((s.ids)++ [(Sha.sum p.bytes)]).getD (m) ([]:List UInt8)) (BB c5 (vr a8 rfl)) (RB.of en (vr g6 rfl)) (by rw[hig];simp only[List.length_append,List.length_cons,List.length_nil,hm32];omega) hE.size fun z r cj a0=> ?_)))))
  have a0:Grew ei r a8 z:=a0
  have da:Ae z o:=Au a0 c6 c
  have mo:Ae o z:=fun k h1 h2=>da k h2 h1
  have ck:OB z j:=Ax a0 ej (bl f)
  have eo:OB z ag:=Ax a0 el (bl g)
  have db:Ae z aa:=Au a0 c7 t.2
  have mp:Ae aa z:=fun k h1 h2=>db k h2 h1
  have dc:Ae z ab:=Au a0 c8 ac.2
  have mq:Ae ab z:=fun k h1 h2=>dc k h2 h1
  have dd:Ae z ao:=Au a0 c9 bg
  have mr:Ae ao z:=fun k h1 h2=>dd k h2 h1
  have hE:=AC hE a0 c5 (Nat.le_refl _)
  have c:=Bg c a0 c6
  have f:=AP f a0 ej
  have g:=AP g a0 el
  have t:=By t a0 c7
  have ac:=By ac a0 c8
  have bg:=Bg bg a0 c9
  clear c5
  clear em
  clear en
  refine oA rfl (oZ (tN (g3 _ _ ?_)))
  have de:∀k,Value.ownBlock z=some k→w.heap.size≤k:=fun k hk=>(cj.lt k hk).1
  have hsz_:w.heap.size≤r.heap.size:=hE.size
  refine Cz (Value.ownBlock z) [12] [0] (fun m=>if m=12 then [0,4,5,9,11]else []) (fun m=>if m=12 then [0,4,5,9,11,12,13]else []) [fun x w' =>BU w.heap.size r.heap.size 5 (Value.ownBlock z) (s.b++ [(1:UInt8)]++((s.ids)++ [(Sha.sum p.bytes)]).getD (m) ([]:List UInt8)) x w',Is (v),Is (PQ j 1),Is (NI m),fun x w' =>PR (partC (ps.getD (m) dPt)) x w',fun x w' =>PR (((partC (ps.getD (m) dPt)).drop 0).take 1) x w',Is ((ps.getD (m) dPt).v),Is (PQ j 0),Is (p.v),fun x w' =>RB w' x (Bv ((ps.getD m dPt).bytes) (p.bytes)),Is (St (Bv ((ps.getD m dPt).bytes) (p.bytes))),fun x w' =>RB w' x (Bh (Bv ((ps.getD m dPt).bytes) (p.bytes))),fun x w' =>BU w.heap.size r.heap.size 5 (Value.ownBlock z) ((s.b++ [(1:UInt8)]++((s.ids)++ [(Sha.sum p.bytes)]).getD (m) ([]:List UInt8):List UInt8)++(Bh (Bv ((ps.getD m dPt).bytes) (p.bytes)):List UInt8)) x w',fun x w' =>BU w.heap.size r.heap.size 5 (Value.ownBlock z) ((s.b++ [(1:UInt8)]++((s.ids)++ [(Sha.sum p.bytes)]).getD (m) ([]:List UInt8):List UInt8)++(Bh (Bv ((ps.getD m dPt).bytes) (p.bytes)):List UInt8)) x w'] (by kernel_rfl) [86,87,88,89,90,91,92,93,94,95,96,97,98,4] (by kernel_rfl) (by kernel_rfl) (by kernel_rfl) (by kernel_rfl) (by kernel_rfl) rfl ⟨(fun _ _ _ h k=>⟨Stab.own _ _ _ _ _ _ _ _ h.1 k,h.2⟩),Stab.is _,Stab.is _,Stab.is _,(fun _ _ _ h k=>PR.keep h k),(fun _ _ _ h k=>PR.keep h k),Stab.is _,Stab.is _,Stab.is _,(fun _ _ _ h k=>RB.keep h k),Stab.is _,(fun _ _ _ h k=>RB.keep h k),(fun _ _ _ h k=>⟨Stab.own _ _ _ _ _ _ _ _ h.1 k,h.2⟩),(fun _ _ _ h k=>⟨Stab.own _ _ _ _ _ _ _ _ h.1 k,h.2⟩),trivial⟩ ⟨⟨.inl rfl, .inr (Stab.is _), .inr (Stab.is _), .inr (Stab.is _), .inl rfl, .inl rfl, .inr (Stab.is _), .inr (Stab.is _), .inr (Stab.is _), .inl rfl, .inr (Stab.is _), .inl rfl, .inl rfl, .inl rfl,trivial⟩,trivial⟩ ?g7 ?hQ1026
  case g7=>
   refine⟨?_,?_,?_,?_,?_,?_,?_,?_,?_,?_,?_,?_,?_,?_,trivial⟩
   ·refine Aa rfl fun σ w1 hC h=> ?_
    have hX:Ext r w1:=hC
    have hC:BX r.heap.size (Value.ownBlock z) r w1:=BX.ofExt hX (Nat.le_refl _)
    have e4:σ 4=z:=(Ab (h 4 (by decide))).trans rfl
    exact Yk.move e4 ⟨Ext.refl _,Stab.own _ _ _ _ _ _ _ _ cj hX,fun k hk=> .inl hk⟩
   ·refine Aa rfl fun σ w1 hC h=> ?_
    have hC:BX r.heap.size (Value.ownBlock z) r w1:=hC
    have e0:=(Ab (h 0 (by decide))).trans T0
    exact Yk.move e0 ⟨Ext.refl _,rfl⟩
   ·refine Aa rfl fun σ w1 hC h=> ?_
    have hC:BX r.heap.size (Value.ownBlock z) r w1:=hC
    have e9:=(Ab (h 9 (by decide))).trans T9
    exact Yk.fieldAt KO e9 ⟨Ext.refl _,rfl⟩
   ·refine Aa rfl fun σ w1 hC h=> ?_
    have hC:BX r.heap.size (Value.ownBlock z) r w1:=hC
    have ha:=Ab (h 88 (by decide))
    exact Yk.cell1 NA rfl ha (Ai (BX.blk hC f ck) (show _=some (NI m:Value)from rfl)) ⟨Ext.refl _,rfl⟩
   ·refine Aa rfl fun σ w1 hC h=> ?_
    have hC:BX r.heap.size (Value.ownBlock z) r w1:=hC
    have hc:=Ab (h 87 (by decide))
    have hd:=Ab (h 89 (by decide))
    exact Yk.atRG CD ER (by decide) dPt (RG.of (hr.keep (CB hE hC (by omega) (fun k hk=>by have:=de k hk;omega))) hc) hd (by omega) fun v h=>⟨Ext.refl _,h⟩
   ·refine Aa rfl fun σ w1 hC h=> ?_
    have hC:BX r.heap.size (Value.ownBlock z) r w1:=hC
    have hh:(fun x w' =>PR (partC (ps.getD (m) dPt)) x w') (σ 90) w1:=h 90 (by decide)
    exact Yk.fieldPR (n:=1) FA hh fun v h=>⟨Ext.refl _,h⟩
   ·refine Aa rfl fun σ w1 hC h=> ?_
    have hC:BX r.heap.size (Value.ownBlock z) r w1:=hC
    have hj:(fun x w' =>PR (((partC (ps.getD (m) dPt)).drop 0).take 1) x w') (σ 91) w1:=h 91 (by decide)
    exact Yk.loadC DT rfl (PR.cell hj (show _=some ((ps.getD (m) dPt).v:Value)from rfl)) ⟨Ext.refl _,rfl⟩
   ·refine Aa rfl fun σ w1 hC h=> ?_
    have hC:BX r.heap.size (Value.ownBlock z) r w1:=hC
    have e9:=(Ab (h 9 (by decide))).trans T9
    exact Yk.fieldAt FA e9 ⟨Ext.refl _,rfl⟩
   ·refine Aa rfl fun σ w1 hC h=> ?_
    have hC:BX r.heap.size (Value.ownBlock z) r w1:=hC
    have hl:=Ab (h 93 (by decide))
    exact Yk.cell1 DT rfl hl (Ai (BX.blk hC f ck) (show _=some (p.v:Value)from rfl)) ⟨Ext.refl _,rfl⟩
   ·refine Aa rfl fun σ w1 hC h=> ?_
    have hC:BX r.heap.size (Value.ownBlock z) r w1:=hC
    have hn:=Ab (h 92 (by decide))
    have ht:=Ab (h 94 (by decide))
    refine Yk.callA2 Oo hn ht ((KR _ ((ps.getD (m) dPt).v) (p.v) ((ps.getD m dPt).bytes) (p.bytes) (hpq.keep (CB hE hC (by omega) (fun k hk=>by have:=de k hk;omega))) (hpr.keep (CB hE hC (by omega) (fun k hk=>by have:=de k hk;omega))) (by omega) (by omega)).mono ?_)
    rintro e w2 ⟨_,rfl,hx,ho⟩
    exact⟨_,rfl,ho,hx⟩
   ·refine Aa rfl fun σ w1 hC h=> ?_
    have hC:BX r.heap.size (Value.ownBlock z) r w1:=hC
    have hv:(fun x w' =>RB w' x (Bv ((ps.getD m dPt).bytes) (p.bytes))) (σ 95) w1:=h 95 (by decide)
    exact Yk.convRB DT u5 Lg hv ⟨Ext.refl _,rfl⟩
   ·refine Aa rfl fun σ w1 hC h=> ?_
    have hC:BX r.heap.size (Value.ownBlock z) r w1:=hC
    have hw:=Ab (h 96 (by decide))
    refine Yk.callA1 Kl hw ((Kh _ (Bv ((ps.getD m dPt).bytes) (p.bytes)) (by omega)).mono ?_)
    rintro e w2 ⟨v,rfl,hN⟩
    exact⟨_,rfl,hN.ext,hN.rb⟩
   ·refine Aa rfl fun σ w1 hC h=> ?_
    have hC:BX r.heap.size (Value.ownBlock z) r w1:=hC
    have dg:(fun x w' =>BU w.heap.size r.heap.size 5 (Value.ownBlock z) (s.b++ [(1:UInt8)]++((s.ids)++ [(Sha.sum p.bytes)]).getD (m) ([]:List UInt8)) x w') (σ 86) w1:=h 86 (by decide)
    have hz:(fun x w' =>RB w' x (Bh (Bv ((ps.getD m dPt).bytes) (p.bytes)))) (σ 97) w1:=h 97 (by decide)
    exact Yk.appendRB _ _ w.heap.size (.int .u8 0) DT FW rfl DT (s.b++ [(1:UInt8)]++((s.ids)++ [(Sha.sum p.bytes)]).getD (m) ([]:List UInt8)) (Bh (Bv ((ps.getD m dPt).bytes) (p.bytes))) dg.1 hz (by rw[hig];simp only[List.length_append,List.length_cons,List.length_nil,hm32];have:=GP (Bv (ps.getD m dPt).bytes p.bytes);have:=JN (n:=(Bv (ps.getD m dPt).bytes p.bytes).length) (by omega);omega) (Nat.le_trans hsz_ hC.size) fun v w2 ho hg=>⟨BX.ofGrown hg.by_ hC.size dg.2,ho,fun k hk=>(hg.fresh k hk).elim (dg.2 k) (fun x=> .inr (Nat.le_trans hC.size x))⟩
   ·refine Aa rfl fun σ w1 hC h=> ?_
    have hC:BX r.heap.size (Value.ownBlock z) r w1:=hC
    have h0:(fun x w' =>BU w.heap.size r.heap.size 5 (Value.ownBlock z) ((s.b++ [(1:UInt8)]++((s.ids)++ [(Sha.sum p.bytes)]).getD (m) ([]:List UInt8):List UInt8)++(Bh (Bv ((ps.getD m dPt).bytes) (p.bytes)):List UInt8)) x w') (σ 98) w1:=h 98 (by decide)
    exact Yk.assign rfl ⟨Ext.refl _,h0⟩
  intro ep eq h3 he hf
  obtain⟨-,-,-,-,-,-,-,-,-,-,-,-,-,k4,-⟩:=hf
  obtain⟨T0,T5,T6,T7,T8,T9,br,bs,bt,bu,bv,bw,cc,-⟩:=he.hold [(0,_),(5,_),(6,_),(7,NI ((s.total)+((p.bytes:List UInt8).length))),(8,_),(9,_),(10,_),(20,_),(30,_),(39,_),(45,_),(49,_),(66,_)] ⟨T0,T5,T6,rfl,T8,T9,br,bs,bt,bu,bv,bw,(congrArg Value.bool (decide_eq_false (by omega))),trivial⟩ rfl
  clear he
  have k4:(fun x w' =>BU w.heap.size r.heap.size 5 (Value.ownBlock z) ((s.b++ [(1:UInt8)]++((s.ids)++ [(Sha.sum p.bytes)]).getD (m) ([]:List UInt8):List UInt8)++(Bh (Bv ((ps.getD m dPt).bytes) (p.bytes)):List UInt8)) x w') (ep 4) eq:=k4
  obtain⟨a9,T4⟩:∃v,ep 4=v:=⟨_,rfl⟩
  rw[T4]at k4
  have ba:Grew r eq z a9:=⟨h3.grown,k4.2⟩
  have h4:=k4.1;clear k4
  have er:Ae a9 o:=Au ba da c
  have ms:Ae o a9:=fun k h1 h2=>er k h2 h1
  have mt:OB a9 j:=Ax ba ck (bl f)
  have mu:OB a9 ag:=Ax ba eo (bl g)
  have et:Ae a9 aa:=Au ba db t.2
  have h5:Ae aa a9:=fun k h1 h2=>et k h2 h1
  have eu:Ae a9 ab:=Au ba dc ac.2
  have h6:Ae ab a9:=fun k h1 h2=>eu k h2 h1
  have h7:Ae a9 ao:=Au ba dd bg
  have mv:Ae ao a9:=fun k h1 h2=>h7 k h2 h1
  have hE:=AC hE ba cj (Nat.le_refl _)
  have c:=Bg c ba da
  have f:=AP f ba ck
  have g:=AP g ba eo
  have t:=By t ba db
  have ac:=By ac ba dc
  have bg:=Bg bg ba dd
  clear cj
  have hbn:(bnext ps p s).b=s.b++ [1]++(s.ids++ [Sha.sum p.bytes]).getD m ([]:List UInt8)++Bh (Bv (ps.getD m dPt).bytes p.bytes):=by unfold bnext;simp only;rw[if_neg hC0,hm,Int.toNat_natCast,hig]
  refine bN (tN (du _ _ (wt (oM rfl (oS rfl (Yk.bin (xv:=NI i) (yv:=NI 1) T8 rfl rfl (Ak _ _ _ (by omega)) (oA rfl (AH [(0,v),(4,a9),(5,aa),(6,ab),(7,NI ((s.total)+((p.bytes:List UInt8).length))),(8,NI ((i)+(1))),(9,PQ j 0),(10,PQ ag 0),(20, .bool (true)),(30, .bool (false)),(39, .bool (false)),(45, .bool (false)),(49, .bool (false)),(66, .bool (false))] ⟨T0,T4,T5,T6,T7,rfl,T9,br,bs,bt,bu,bv,bw,cc,trivial⟩ fun h8 ⟨T0,T4,T5,T6,T7,T8,T9,br,bs,bt,bu,bv,bw,cc,_⟩=>(tN (And.intro ⟨i+1,bnext ps p s,a9,aa,ab,T0,T8,T7,T4,T5,T6,hE,c,BI h4 (by rw[hbn]),B5 t (rfl),B5 ac (rfl),hst3,by omega,er,et,eu,cv,h5,d6,cw,h6,cx,trivial⟩ ?_))))))))))
  show ps.length-(intOf (h8 8)).toNat<ps.length-(intOf (ds 8)).toNat
  rw[T8,q8]
  simp only[intOf,Int.toNat_natCast];omega
 refine sk fun mw mx=>(sk fun my h9=>(wt (oM rfl (oM rfl (oS rfl (Yk.lenRG CD (RG.of (hr.keep hE) T0) (oS rfl (Yk.eqI (a:=(i:Nat)) (b:=(ps.length:Nat)) T8 rfl (AN _ _ _ _) (oZ ?_)))))))))
 have hie:i=ps.length:=by omega
 have hB:=E3 hL i s hi hs
 obtain⟨es,hI⟩:=G5 hL i s hi hs
 have hBi:=hB.ids
 have hBp:=hB.places
 have hBb:=hB.b
 have hBt:=hB.total
 have h60:=hL.1
 have hbh:=Ex hB s.b.length
 refine tN (h9 _ _ (Ar (vr (.bool (false)) (congrArg Value.bool (decide_eq_false (hlt)))) (AJ (Ag (Ag (Ap (tN (fj _ _ (sk fun mz ia=>(wt (oM rfl (oM rfl (oS rfl (Yk.lenRB DT (RB.of (RB.ofOwn hr_vb) T4) (oM rfl (oM rfl (oS rfl (Yk.callA3 Oq (vr (NI ((s.b:List UInt8).length)) rfl) T5 T6 ((L4 _ vi vq s.ids s.places s.b.length (RG.ofOwn hr_vi) (RG.ofOwn hr_vq) (by omega) (by omega) hI.nodup (fun x hx=>hB.len x hx) (fun q hq=>by have:=hB.pl q hq;omega) (by omega)).mono ?_)))))))))))))))))))
 rintro e ib ⟨a3,rfl,ar⟩
 refine⟨_,rfl,?_⟩
 have dh:=Ext.refl dt
 have m0:=hE
 have m1:=hE.size
 have m2:Ae o a3:=A4 c ar.own
 have m3:Ae a3 o:=A0 c ar.own
 have ew:Ae vb a3:=A4 hr_vb ar.own
 have m4:Ae a3 vb:=A0 hr_vb ar.own
 have m5:Ae vi a3:=A4 hr_vi.2 ar.own
 have m6:Ae a3 vi:=A0 hr_vi.2 ar.own
 have m7:Ae vq a3:=A4 hr_vq.2 ar.own
 have m8:Ae a3 vq:=A0 hr_vq.2 ar.own
 have hE:=hE.trans ar.ext
 have c:=Stab.own _ _ _ _ _ _ _ _ c ar.ext
 have hr_vb:=Stab.own _ _ _ _ _ _ _ _ hr_vb ar.ext
 have hr_vi:=hr_vi.keep ar.ext
 have hr_vq:=hr_vq.keep ar.ext
 have dh:=dh.trans ar.ext
 have a4:=ar.own;clear ar
 refine oS rfl (Yk.appendRB _ _ w.heap.size (.int .u8 0) DT FW rfl DT (s.b) (BV s s.b.length) (BB hr_vb T4) (RB.of (RB.ofOwn a4) (vr a3 rfl)) (by rw[hbh];omega) hE.size fun a1 ex bb be=> ?_)
 have be:Grew ib ex vb a1:= .eqv T4 be
 have di:Ae a1 o:=Au be hap_vb_v7 c
 have m9:Ae o a1:=fun k h1 h2=>di k h2 h1
 have dj:Ae a1 vi:=Au be hap_vb_vi hr_vi.2
 have na:Ae vi a1:=fun k h1 h2=>dj k h2 h1
 have dk:Ae a1 vq:=Au be hap_vb_vq hr_vq.2
 have nb:Ae vq a1:=fun k h1 h2=>dk k h2 h1
 have dl:Ae a1 a3:=Au be ew a4
 have nc:Ae a3 a1:=fun k h1 h2=>dl k h2 h1
 have hE:=AC hE be hr_vb (Nat.le_refl _)
 have c:=Bg c be hap_vb_v7
 clear hr_vb
 have hr_vi:=By hr_vi be hap_vb_vi
 have hr_vq:=By hr_vq be hap_vb_vq
 clear dh
 have a4:=Bg a4 be ew
 refine oA rfl (oZ ?_)
 obtain⟨C,hCd⟩:∃C,C=s.b++BV s s.b.length:=⟨_,rfl⟩
 have bb:ex.ownsRow w.heap.size 5 1 a1 (C:List UInt8).length (Lib.byteCells (C)):=(hCd.symm:s.b++BV s s.b.length=C)▸bb
 have hCl:C.length≤60000:=by rw[hCd,List.length_append];omega
 refine tN (ia _ _ (sk fun nd ic=>(wt (oM rfl (oS rfl (Yk.callA1 Ki (vr a1 rfl) ((HV _ a1 (C) (RB.ofOwn bb) (by omega)).mono ?_)))))))
 rintro e id ⟨rfl,b8⟩
 refine⟨_,rfl,?_⟩
 have hE:=hE.trans b8
 have c:=Stab.own _ _ _ _ _ _ _ _ c b8
 have hr_vi:=hr_vi.keep b8
 have hr_vq:=hr_vq.keep b8
 have a4:=Stab.own _ _ _ _ _ _ _ _ a4 b8
 have bb:=Stab.own _ _ _ _ _ _ _ _ bb b8
 refine oS rfl (Yk.alloc (cs:=(Lib.byteCells (List.replicate 32 0)).toArray) NH fun bh ie ne ey b4 nf=> ?_)
 have cd:=Ext.refl id
 have ng:=hE
 have ig:=hE.size
 have ih:OB o bh:=AV c (by omega)
 have ii:OB vi bh:=AV hr_vi.2 (by omega)
 have ij:OB vq bh:=AV hr_vq.2 (by omega)
 have ik:OB a3 bh:=AV a4 (by omega)
 have dm:OB a1 bh:=AV bb (by omega)
 have hE:=hE.trans b4
 have c:=Stab.own _ _ _ _ _ _ _ _ c b4
 have hr_vi:=hr_vi.keep b4
 have hr_vq:=hr_vq.keep b4
 have a4:=Stab.own _ _ _ _ _ _ _ _ a4 b4
 have bb:=Stab.own _ _ _ _ _ _ _ _ bb b4
 have cd:=cd.trans b4
 have bx:=ey;clear ey
 have nh:bh<ie.heap.size:=by omega
 refine oS rfl (Yk.storeAll (vr (PQ bh 0) rfl) (vr (AB (Sha.sum C)) rfl) bx (by exact C6 (Sha.sum_length _) List.length_replicate) (by exact AM (Sha.sum_length _)) (AF _) fun il ez b5 ni=> ?_)
 have hE:=Ac hE b5 (Nat.le_trans ig (by omega))
 have c:=A7 c b5 ih
 have hr_vi:=OG.kept hr_vi b5 ii
 have hr_vq:=OG.kept hr_vq b5 ij
 have a4:=A7 a4 b5 ik
 have bb:=A7 bb b5 dm
 have cd:=Ac cd b5 (Nat.le_trans (Nat.le_refl _) (by omega))
 clear bx
 have bx:=ez;clear ez
 have nj:=bl bx
 refine oZ (tN (ic _ _ (sk fun nk im=>(wt (oM rfl (oS rfl (Yk.sliceArr Ow Ls (vr (PQ bh 0) rfl) (oS rfl (Yk.appendRB _ _ w.heap.size (.int .u8 0) DT FW rfl DT (C) (Sha.sum C) (BB bb (vr a1 rfl)) (RB.of (RB.ofBlkN bx (Sha.sum_length _) (by decide)) (vr (.slice (some ⟨bh,0,none⟩) 32 32) rfl)) (by rw[Sha.sum_length];omega) hE.size fun a5 io e1 bc=> ?_)))))))))
 have bc:Grew il io a1 a5:=bc
 have ip:Ae a5 o:=Au bc di c
 have nl:Ae o a5:=fun k h1 h2=>ip k h2 h1
 have iq:Ae a5 vi:=Au bc dj hr_vi.2
 have nm:Ae vi a5:=fun k h1 h2=>iq k h2 h1
 have ir:Ae a5 vq:=Au bc dk hr_vq.2
 have nn:Ae vq a5:=fun k h1 h2=>ir k h2 h1
 have iu:Ae a5 a3:=Au bc dl a4
 have no:Ae a3 a5:=fun k h1 h2=>iu k h2 h1
 have np:OB a5 bh:=Ax bc dm (bl bx)
 have hE:=AC hE bc bb (Nat.le_refl _)
 have c:=Bg c bc di
 have hr_vi:=By hr_vi bc dj
 have hr_vq:=By hr_vq bc dk
 have a4:=Bg a4 bc dl
 clear bb
 clear cd
 have bx:=AP bx bc dm
 refine oA rfl (oZ (tN (im _ _ (sk fun nq iv=>(sk fun nr iw=>(wt (oM rfl (oS rfl (Yk.eqI (a:=(s.total:Nat)) (b:=(4194304:Nat)) T7 rfl (Bm _ _ _ _) (oM rfl (oY (d:=113) rfl rfl (vr (.bool (false)) (congrArg Value.bool (decide_eq_false (by omega)))) (Yk.move (vr a5 rfl) (oY (d:=113) rfl rfl (vr (.bool (false)) (congrArg Value.bool (decide_eq_false (by omega)))) (Yk.lenRB DT (RB.of (RB.ofOwn e1) (vr a5 rfl)) (oY (d:=113) rfl rfl (vr (.bool (false)) (congrArg Value.bool (decide_eq_false (by omega)))) (Yk.eqI (a:=((C++Sha.sum C:List UInt8).length:Nat)) (b:=(1048576:Nat)) rfl rfl (Bm _ _ _ _) (oS rfl (Yk.pickF (vr (.bool (false)) (congrArg Value.bool (decide_eq_false (by omega)))) (vr (.bool (false)) (congrArg Value.bool (decide_eq_false (by simp only[List.length_append,Sha.sum_length];omega)))) (oZ (tN (iw _ _ (Ar (vr (.bool (false)) rfl) ?_))))))))))))))))))))))
 refine Ah (tN (iv _ _ (sk fun ns ix=>(wt (oM rfl (oA rfl (oA rfl (oZ (tN (ix _ _ (As (Ao (fn:=Tryd.f13) _ rfl [a5,NI 0] (.tuple #[a5,NI 0]) rfl ⟨rfl,rfl,trivial⟩ ?_))))))))))))
 rw[IM (show CS ps ps.length = .ok s from by rw[←hie];exact hs)]
 refine⟨_,rfl,?_,hE⟩
 have hfin:=RB.ofOwn e1
 rw[hCd]at hfin
 exact hfin
open Go.RowKit
set_option maxRecDepth 100000
theorem I8:A2 Tryd.prog 10:=fun _ _=>by kernel_rfl
theorem Nu:A2 Tryd.prog 12:=fun _ _=>by kernel_rfl
theorem Nv:A2 Tryd.prog 13:=fun _ _=>by kernel_rfl
theorem Nw:A2 Tryd.prog 14:=fun _ _=>by kernel_rfl
set_option maxHeartbeats 1600000
theorem Id(w:World)(hG:Laid w)(v:Value)(ps:List Pt)(hr:RG 2 partC w v ps)(hps:PartsOk w ps):
  Calls Tryd.prog 3 #[v] w fun e w' =>e = .returned (.bool true)∧Ext w w' :=by
 refine AA (args:= [v]) Tryd.func3 rfl 34 rfl (Nat.le_of_ble_eq_true rfl) ?_
 intro r hb
 have j:r 0=(v:Value):=hb.get 0
 clear hb
 have hE:=Ext.refl w
 refine sk fun K1 p=>(wt (oA rfl (oZ ?_)))
 by_cases hL:Co ps
 ·refine tN (p _ _ (sk fun K2 s=>(sk fun K3 t=>(wt (oM rfl (oS rfl (Yk.callA1 I8 j ((I0 _ v ps (hr.keep hE) (hps.keep hE)).mono ?_))))))))
  rintro e w5 ⟨c_,rfl,hlc,u⟩
  refine⟨_,rfl,?_⟩
  have hE:=hE.trans u
  obtain rfl:c_=true:=hlc.2 hL
  refine oS rfl (Yk.notB (vr (.bool (true)) rfl) (oZ (tN (t _ _ (Ar (vr (.bool (false)) rfl) (Ah (tN (s _ _ (sk fun K6 x=>(wt (oM rfl (oS rfl (Yk.callA1 Nu j ((Od _ v ps (hr.keep hE) (hps.keep hE) hL).mono ?_))))))))))))))
  rintro e aj ⟨q,qs,rfl,c,hqo,hqq,y⟩
  refine⟨_,rfl,?_⟩
  have hE:=hE.trans y
  refine oS rfl (Yk.callA1 IW (vr q rfl) ((L1 _ (hG.keep hE) q ps qs c hqo hqq hL).mono ?_))
  rintro e ak ⟨f,rfl,h,n⟩
  refine⟨_,rfl,?_⟩
  have hE:=hE.trans n
  have c:=c.keep n
  have hqo:=hqo.keep n
  refine oM rfl (oS rfl (Yk.extract (vs:= [f,NI ((A3 ps).2)]) (vr (.tuple #[f,NI ((A3 ps).2)]) rfl) (show _=some (f:Value)from rfl) (oS rfl (Yk.extract (vs:= [f,NI ((A3 ps).2)]) (vr (.tuple #[f,NI ((A3 ps).2)]) rfl) (show _=some (NI ((A3 ps).2):Value)from rfl) (oA rfl (oA rfl (oZ (tN (x _ _ (sk fun al z=>(wt (oM rfl (oS rfl (Yk.callA1 Nv j ((Km _ v ps (hr.keep hE) (hps.keep hE) hL).mono ?_)))))))))))))))
  rintro e am ⟨g,rfl,o,k⟩
  refine⟨_,rfl,?_⟩
  have hE:=hE.trans k
  have c:=c.keep k
  have hqo:=hqo.keep k
  have h:=h.keep k
  refine oM rfl (oS rfl (Yk.extract (vs:= [g,NI ((A3 ps).2)]) (vr (.tuple #[g,NI ((A3 ps).2)]) rfl) (show _=some (g:Value)from rfl) (oS rfl (Yk.extract (vs:= [g,NI ((A3 ps).2)]) (vr (.tuple #[g,NI ((A3 ps).2)]) rfl) (show _=some (NI ((A3 ps).2):Value)from rfl) (oA rfl (oA rfl (oZ (tN (z _ _ (sk fun an aa=>(wt (oM rfl (oS rfl (Yk.convRB DT u5 Lg (RB.of h (vr f rfl)) (oM rfl (oS rfl (Yk.convRB DT u5 Lg (RB.of o (vr g rfl)) (oS rfl (Yk.eqSt (l:=(A3 ps).1) (m:=(A3 ps).1) (.inl rfl) (vr (St ((A3 ps).1)) rfl) (vr (St ((A3 ps).1)) rfl) (decide ((A3 ps).1=((A3 ps).1:List UInt8))) rfl (oM rfl (oY (d:=26) rfl rfl (vr (.bool (true)) (congrArg Value.bool (decide_eq_true (rfl)))) (Yk.move (vr (NI ((A3 ps).2)) rfl) ?_))))))))))))))))))))))
  refine oY (d:=26) rfl rfl (vr (.bool (true)) (congrArg Value.bool (decide_eq_true (rfl)))) (Yk.move (vr (NI ((A3 ps).2)) rfl) (oY (d:=26) rfl rfl (vr (.bool (true)) (congrArg Value.bool (decide_eq_true (rfl)))) (Yk.eqI (a:=((A3 ps).2:Nat)) (b:=((A3 ps).2:Nat)) rfl rfl (Br _ _ _ _) (oS rfl (Yk.pickT (vr (.bool (true)) (congrArg Value.bool (decide_eq_true (rfl)))) (vr (.bool (true)) (congrArg Value.bool (decide_eq_true (rfl)))) (oM rfl (oY (d:=31) rfl rfl (vr (.bool (true)) rfl) (Yk.callA0 Nw ((OV _ (hG.keep hE)).mono ?_)))))))))
  rintro e ao ⟨rfl,i⟩
  refine⟨_,rfl,?_⟩
  have hE:=hE.trans i
  have c:=c.keep i
  have hqo:=hqo.keep i
  have h:=h.keep i
  have o:=o.keep i
  refine oS rfl (Yk.pickT (vr (.bool (true)) rfl) (vr (.bool (true)) rfl) (oA rfl (oZ (tN (aa _ _ (As (Ao (fn:=Tryd.f3) _ rfl [.bool (true)] (.bool (true)) rfl ⟨rfl,trivial⟩ ?_)))))))
  exact⟨rfl,hE⟩
 refine tN (p _ _ (sk fun ap aq=>(sk fun ar ab=>(wt (oM rfl (oS rfl (Yk.callA1 I8 j ((I0 _ v ps (hr.keep hE) (hps.keep hE)).mono ?_))))))))
 rintro e au ⟨c_,rfl,hlc,ac⟩
 refine⟨_,rfl,?_⟩
 have hE:=hE.trans ac
 obtain rfl:c_=false:=by cases hcc:c_ with | false=>rfl | true=>exact absurd (hlc.1 hcc) hL
 refine oS rfl (Yk.notB (vr (.bool (false)) rfl) (oZ (tN (ab _ _ (AE (vr (.bool (true)) rfl) (sk fun av ad=>(wt (oA rfl (oZ (tN (ad _ _ (As (Am (Ao (fn:=Tryd.f3) _ rfl [.bool (true)] (.bool (true)) rfl ⟨rfl,trivial⟩ ?_))))))))))))))
 exact⟨rfl,hE⟩
end Go.Proofs.YtcegdjpdnlaleaaDoor
