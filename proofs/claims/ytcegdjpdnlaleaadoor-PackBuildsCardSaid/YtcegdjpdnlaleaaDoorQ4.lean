/- Part 4 of what stands behind these statements: laws and walks of the functions that are reached. Conditions: those that each theorem names. -/
import Derived.Test.YtcegdjpdnlaleaaDoorQ3
set_option linter.unusedVariables false
namespace Go.Proofs.YtcegdjpdnlaleaaDoor
open Go.RowKit
set_option maxRecDepth 100000
namespace Sha
theorem tail_length(n:Nat):(tail n).length=9+(119-n%64)%64:=by
 simp[tail,be64]
 omega
theorem be4_of(P B:List UInt8)(a:Nat)(h:∀i,i<64→B.getD i 0=P.getD (a+i) 0)(t:Nat)(ht:t<16):
  (P.getD (a+4*t) 0).toUInt32<<<24|||(P.getD (a+4*t+1) 0).toUInt32<<<16|||(P.getD (a+4*t+2) 0).toUInt32<<<8|||(P.getD (a+4*t+3) 0).toUInt32=be4 B t:=by
 unfold be4
 rw[h _ (by omega),h _ (by omega),h _ (by omega),h _ (by omega)]
 simp only[Nat.add_assoc]
theorem added_comm:∀(v s:List UInt32),added v s=added s v
 | [],[]=>rfl
 | [],_ :: _=>rfl
 | _ :: _,[]=>rfl
 | a :: v,b :: s=>by
  have:=added_comm v s
  unfold added at this ⊢
  rw[List.zipWith_cons_cons,List.zipWith_cons_cons,this,UInt32.add_comm]
theorem add8{S T:List UInt32}(hS:S.length=8)(hT:T.length=8):adding S T 8=added T S:=by
 have:=adding_all S T (by omega)
 rw[hS]at this
 rw[this,added_comm]
end Sha
theorem MQ:A2 Tryd.prog 45:=fun _ _=>by kernel_rfl
theorem CR:A2 Tryd.prog 46:=fun _ _=>by kernel_rfl
theorem MR:A2 Tryd.prog 47:=fun _ _=>by kernel_rfl
set_option maxRecDepth 4000 in
set_option maxHeartbeats 1000000 in
theorem HV(w:World)(v:Value)(l:List UInt8)(hr:RB w v l)(hl:l.length≤70368744177664):
  Calls Tryd.prog 21 #[v] w fun e w' =>e = .returned (AB (Sha.sum l))∧Ext w w' :=by
 refine AA (args:= [v]) Tryd.func21 rfl 275 rfl (Nat.le_of_ble_eq_true rfl) ?_
 intro c9 hb
 have p:c9 0=(v:Value):=hb.get 0
 clear hb
 have hE:=Ext.refl w
 refine sk fun K1 da=>(wt (oS rfl (Yk.alloc (cs:=(Lib.byteCells (List.replicate 32 0)).toArray) NH fun n2 w3 jr cb db js=> ?_)))
 have hE:=hE.trans db
 have c:=cb;clear cb
 have jt:n2<w3.heap.size:=by omega
 refine oZ (tN (da _ _ (sk fun ju dc=>(wt (oS rfl (Yk.run (v:= .agg (Sha.first.map fun x=>U x).toArray) (by kernel_rfl) (oS rfl (Yk.alloc (cs:=((List.replicate 8 0).map fun x=>U x).toArray) IA fun m dd de cc b6 jv=> ?_))))))))
 have f:=Ext.refl w3
 have jw:=hE
 have aw:=hE.size
 have jx:=AT (bl c) de
 have hE:=hE.trans b6
 have c:=eb b6 c
 have f:=f.trans b6
 have ax:=cc;clear cc
 have jy:m<dd.heap.size:=by omega
 refine oS rfl (Yk.storeAll (vr (PQ m 0) rfl) (vr (.agg (Sha.first.map fun x=>U x).toArray) rfl) ax (rfl) (DQ) (Do _) fun bh cd b7 jz=> ?_)
 have hE:=Ac hE b7 (Nat.le_trans aw (by omega))
 have c:=kb b7 c (by omega)
 have f:=Ac f b7 (Nat.le_trans (Nat.le_refl _) (by omega))
 clear ax
 have ax:=cd;clear cd
 have j0:=bl ax
 refine oZ (tN (dc _ _ (sk fun j1 df=>(wt (oM rfl (oS rfl (Yk.callA1 MQ p ((LH _ v l (hr.keep hE) (by omega)).mono ?_))))))))
 rintro e dg ⟨ab,rfl,ay⟩
 refine⟨_,rfl,?_⟩
 have b8:=Ext.refl bh
 have j2:=hE
 have j3:=f
 have j4:=hE.size
 have j5:=f.size
 have dh:OB ab n2:=BO ay.own (bl c)
 have a1:OB ab m:=BO ay.own (bl ax)
 have hE:=hE.trans ay.ext
 have c:=eb ay.ext c
 have f:=f.trans ay.ext
 have ax:=eb ay.ext ax
 have b8:=b8.trans ay.ext
 have g:=ay.own;clear ay
 refine oA rfl (oZ ?_)
 obtain⟨P,hP⟩:∃P,P=l++Sha.tail l.length:=⟨_,rfl⟩
 have g:dg.ownsRow bh.heap.size 5 1 ab (P:List UInt8).length (Lib.byteCells (P)):=(hP.symm:l++Sha.tail l.length=P)▸g
 have hPl:P.length=l.length+(Sha.tail l.length).length:=by rw[hP,List.length_append]
 obtain⟨K,hK⟩:∃K,P.length=64*K:=⟨P.length/64,by rw[hPl,Sha.tail_length];omega⟩
 have hPb:P.length<72057594037927936:=by rw[hPl,Sha.tail_length];omega
 refine tN (df _ _ (sk fun j6 di=>(sk fun j7 dj=>(wt (oA rfl (AH [(0,v),(2,PQ n2 0),(3,PQ m 0),(4,ab),(5,NI 0)] ⟨p,rfl,rfl,rfl,rfl,trivial⟩ fun j8 ⟨p,s,k,o,n,_⟩=>(tN (dj _ _ (Aj (AX (fun(ρ:Aq) (wz:World)=>∃j:Nat,ρ 0=(v:Value)∧ρ 2=(PQ n2 0:Value)∧ρ 3=(PQ m 0:Value)∧ρ 4=(ab:Value)∧ρ 5=(NI (64*j):Value)∧Ext w wz∧wz.heap[n2]? =some (.cells (Lib.byteCells (List.replicate 32 0)).toArray 38 (0,0))∧Ext w3 wz∧wz.ownsRow bh.heap.size 5 1 ab (P:List UInt8).length (Lib.byteCells (P))∧wz.heap[m]? =some (.cells ((Sha.blocks Sha.first P j).map fun x=>U x).toArray 88 (0,0))∧(j≤K)∧True) (fun ρ _=>P.length-(intOf (ρ 5)).toNat) ⟨0,p,s,k,o,n,hE,c,f,g,AZ ax (rfl),Nat.zero_le _,trivial⟩ ?_))))))))))
 clear ax
 clear b8
 clear hE c f g
 rintro dk a3 ⟨j,p,s,k,o,n,hE,c,f,g,hb21l,hj,-⟩
 have q5:=n
 refine sk fun j9 dl=>(sk fun ka dm=>(wt (oM rfl (oM rfl (oS rfl (Yk.lenRB DT (RB.of (RB.ofOwn g) o) (oS rfl (Yk.eqI (a:=(64*j:Nat)) (b:=(P.length:Nat)) n rfl (AN _ _ _ _) (AH [(0,v),(2,PQ n2 0),(3,PQ m 0),(4,ab),(5,NI (64*j)),(29, .bool (decide ((64*j)<(P.length))))] ⟨p,s,k,o,n,rfl,trivial⟩ fun kc ⟨p,s,k,o,n,dn,_⟩=>(tN (dm _ _ ?_)))))))))))
 refine AO ((64*j)<(P.length)) dn (fun dp=> ?_) (fun dp=> ?_)
 ·obtain⟨Sj,hSj⟩:∃Sj,Sj=Sha.blocks Sha.first P j:=⟨_,rfl⟩
  have hb21l:a3.heap[m]? =some (.cells (Sj.map fun x=>U x).toArray 88 (0,0)):=AZ hb21l (by rw[hSj])
  have hSl:Sj.length=8:=by rw[hSj,Sha.blocks_length _ _ _ rfl]
  obtain⟨B,hB⟩:∃B,B=(P.drop (64*j)).take 64:=⟨_,rfl⟩
  have hBget:∀i,i<64→B.getD i 0=P.getD (64*j+i) 0:=fun i hi=>by rw[hB];simp[hi]
  refine Ah (tN (dl _ _ (sk fun kd dq=>(Aj (sk fun ke dr=>(wt (oS rfl (Yk.alloc (cs:=((List.replicate 64 0).map fun x=>U x).toArray) Iz fun ac ds ce cf bi kf=> ?_))))))))
  have aa:=Ext.refl a3
  have kg:=hE
  have kh:=f
  have cg:=hE.size
  have ch:=f.size
  have ki:=AT (bl c) ce
  have kj:=AT (bl hb21l) ce
  have ci:OB ab ac:=AV g (by omega)
  have hE:=hE.trans bi
  have c:=eb bi c
  have f:=f.trans bi
  have g:=Stab.own _ _ _ _ _ _ _ _ g bi
  have hb21l:=eb bi hb21l
  have aa:=aa.trans bi
  have cj:=cf;clear cf
  have kk:ac<ds.heap.size:=by omega
  refine oZ (tN (dr _ _ (sk fun kl dt=>(sk fun km du=>(wt (oA rfl (AH [(0,v),(2,PQ n2 0),(3,PQ m 0),(4,ab),(5,NI (64*j)),(6,PQ ac 0),(7,NI 0)] ⟨p,s,k,o,n,rfl,rfl,trivial⟩ fun kn ⟨p,s,k,o,n,y,u,_⟩=>(tN (du _ _ (Aj (AX (fun(ρ:Aq) (wz:World)=>∃t:Nat,ρ 0=(v:Value)∧ρ 2=(PQ n2 0:Value)∧ρ 3=(PQ m 0:Value)∧ρ 4=(ab:Value)∧ρ 5=(NI (64*j):Value)∧ρ 6=(PQ ac 0:Value)∧ρ 7=(NI t:Value)∧Ext w wz∧wz.heap[n2]? =some (.cells (Lib.byteCells (List.replicate 32 0)).toArray 38 (0,0))∧Ext w3 wz∧wz.ownsRow bh.heap.size 5 1 ab (P:List UInt8).length (Lib.byteCells (P))∧wz.heap[m]? =some (.cells (Sj.map fun x=>U x).toArray 88 (0,0))∧Ext a3 wz∧wz.heap[ac]? =some (.cells ((Sha.pad64 (Sha.sched B t)).map fun x=>U x).toArray 89 (0,0))∧(t≤64)∧True) (fun ρ _=>64-(intOf (ρ 7)).toNat) ⟨0,p,s,k,o,n,y,u,hE,c,f,g,hb21l,aa,AZ cj (rfl),Nat.zero_le _,trivial⟩ ?_)))))))))))
  clear cj
  clear hE c f g hb21l aa
  rintro ck dv ⟨t,p,s,k,o,n,y,u,hE,c,f,g,hb21l,aa,hb64l,ht,-⟩
  have q7:=u
  have hpl:(Sha.pad64 (Sha.sched B t)).length=64:=Sha.pad64_length _ (by rw[Sha.sched_length];exact ht)
  refine sk fun ko dw=>(sk fun kp dx=>(wt (oM rfl (oS rfl (Yk.eqI (a:=(t:Nat)) (b:=(64:Nat)) u rfl (AN _ _ _ _) (oZ (tN (dx _ _ ?_))))))))
  refine AO ((t)<(64)) (vr (.bool (decide ((t)<(64)))) rfl) (fun cl=> ?_) (fun cl=> ?_)
  ·refine Ah (tN (dw _ _ (sk fun kq cm=>(Aj (sk fun kr dy=>(wt (oM rfl (oS rfl (Yk.eqI (a:=(t:Nat)) (b:=(16:Nat)) u rfl (AN _ _ _ _) (oZ (tN (dy _ _ ?_))))))))))))
   refine AO ((t)<(16)) (vr (.bool (decide ((t)<(16)))) rfl) (fun b9=> ?_) (fun b9=> ?_)
   ·refine Ff 43 [6,16,27,38] (fun(a_ b_:World)=>b_.heap[ac]? =some (.cells (((Sha.pad64 (Sha.sched B t)).set (t) ((((((P.getD ((64*j)+((4)*(t))) 0).toUInt32)<<<24)|||(((P.getD (((64*j)+((4)*(t)))+(1)) 0).toUInt32)<<<16))|||(((P.getD (((64*j)+((4)*(t)))+(2)) 0).toUInt32)<<<8))|||((P.getD (((64*j)+((4)*(t)))+(3)) 0).toUInt32))).map fun x=>U x).toArray 89 (0,0))∧a_.grownBy b_ (some ac)∧b_.heap.size=a_.heap.size) [Is (NI t),Is (ab),Is (NI (64*j)),Is (NI t),Is (NI ((4)*(t))),Is (NI ((64*j)+((4)*(t)))),PCell (B8 (P.getD ((64*j)+((4)*(t))) 0)),Is (B8 (P.getD ((64*j)+((4)*(t))) 0)),Is (U ((P.getD ((64*j)+((4)*(t))) 0).toUInt32)),Is (U (((P.getD ((64*j)+((4)*(t))) 0).toUInt32)<<<24)),Is (ab),Is (NI (64*j)),Is (NI t),Is (NI ((4)*(t))),Is (NI ((64*j)+((4)*(t)))),Is (NI (((64*j)+((4)*(t)))+(1))),PCell (B8 (P.getD (((64*j)+((4)*(t)))+(1)) 0)),Is (B8 (P.getD (((64*j)+((4)*(t)))+(1)) 0)),Is (U ((P.getD (((64*j)+((4)*(t)))+(1)) 0).toUInt32)),Is (U (((P.getD (((64*j)+((4)*(t)))+(1)) 0).toUInt32)<<<16)),Is (U ((((P.getD ((64*j)+((4)*(t))) 0).toUInt32)<<<24)|||(((P.getD (((64*j)+((4)*(t)))+(1)) 0).toUInt32)<<<16))),Is (ab),Is (NI (64*j)),Is (NI t),Is (NI ((4)*(t))),Is (NI ((64*j)+((4)*(t)))),Is (NI (((64*j)+((4)*(t)))+(2))),PCell (B8 (P.getD (((64*j)+((4)*(t)))+(2)) 0)),Is (B8 (P.getD (((64*j)+((4)*(t)))+(2)) 0)),Is (U ((P.getD (((64*j)+((4)*(t)))+(2)) 0).toUInt32)),Is (U (((P.getD (((64*j)+((4)*(t)))+(2)) 0).toUInt32)<<<8)),Is (U (((((P.getD ((64*j)+((4)*(t))) 0).toUInt32)<<<24)|||(((P.getD (((64*j)+((4)*(t)))+(1)) 0).toUInt32)<<<16))|||(((P.getD (((64*j)+((4)*(t)))+(2)) 0).toUInt32)<<<8))),Is (ab),Is (NI (64*j)),Is (NI t),Is (NI ((4)*(t))),Is (NI ((64*j)+((4)*(t)))),Is (NI (((64*j)+((4)*(t)))+(3))),PCell (B8 (P.getD (((64*j)+((4)*(t)))+(3)) 0)),Is (B8 (P.getD (((64*j)+((4)*(t)))+(3)) 0)),Is (U ((P.getD (((64*j)+((4)*(t)))+(3)) 0).toUInt32)),Is (U ((((((P.getD ((64*j)+((4)*(t))) 0).toUInt32)<<<24)|||(((P.getD (((64*j)+((4)*(t)))+(1)) 0).toUInt32)<<<16))|||(((P.getD (((64*j)+((4)*(t)))+(2)) 0).toUInt32)<<<8))|||((P.getD (((64*j)+((4)*(t)))+(3)) 0).toUInt32))),Is (PQ ac t),(fun _ _=>True)] (by kernel_rfl) [38,39,40,41,42,43,44,45,46,47,48,49,50,51,52,53,54,55,56,57,58,59,60,61,62,63,64,65,66,67,68,69,70,71,72,73,74,75,76,77,78,79,80] (by kernel_rfl) (by kernel_rfl) (by kernel_rfl) (by kernel_rfl) rfl (Gd ⟨Stab.pcell _,(FF ⟨Stab.pcell _,(Lo ⟨Stab.pcell _,(Lo ⟨Stab.pcell _,(Gl ⟨Stab.any,trivial⟩)⟩)⟩)⟩)⟩) ⟨.inr (Stab.is _), .inr (Stab.is _), .inr (Stab.is _), .inr (Stab.is _), .inr (Stab.is _), .inr (Stab.is _), .inl rfl, .inr (Stab.is _), .inr (Stab.is _), .inr (Stab.is _), .inr (Stab.is _), .inr (Stab.is _), .inr (Stab.is _), .inr (Stab.is _), .inr (Stab.is _), .inr (Stab.is _), .inl rfl, .inr (Stab.is _), .inr (Stab.is _), .inr (Stab.is _), .inr (Stab.is _), .inr (Stab.is _), .inr (Stab.is _), .inr (Stab.is _), .inr (Stab.is _), .inr (Stab.is _), .inr (Stab.is _), .inl rfl, .inr (Stab.is _), .inr (Stab.is _), .inr (Stab.is _), .inr (Stab.is _), .inr (Stab.is _), .inr (Stab.is _), .inr (Stab.is _), .inr (Stab.is _), .inr (Stab.is _), .inr (Stab.is _), .inl rfl, .inr (Stab.is _), .inr (Stab.is _), .inr (Stab.is _), .inr (Stab.is _), .inr (Stab.any),trivial⟩ ?dz ?hQ6011
    case dz=>
     refine⟨?_,?_,?_,?_,?_,?_,?_,?_,?_,?_,?_,?_,?_,?_,?_,?_,?_,?_,?_,?_,?_,?_,?_,?_,?_,?_,?_,?_,?_,?_,?_,?_,?_,?_,?_,?_,?_,?_,?_,?_,?_,?_,?_,?_,trivial⟩
     ·refine Aa rfl fun σ w1 hC h=> ?_
      have e7:=(Ab (h 7 (by decide))).trans u
      have hC:Ext _ w1:=hC
      exact Yk.move e7 ⟨Ext.refl _,rfl⟩
     ·refine Aa rfl fun σ w1 hC h=> ?_
      have e4:=(Ab (h 4 (by decide))).trans o
      have hC:Ext _ w1:=hC
      exact Yk.move e4 ⟨Ext.refl _,rfl⟩
     ·refine Aa rfl fun σ w1 hC h=> ?_
      have e5:=(Ab (h 5 (by decide))).trans n
      have hC:Ext _ w1:=hC
      exact Yk.move e5 ⟨Ext.refl _,rfl⟩
     ·refine Aa rfl fun σ w1 hC h=> ?_
      have e7:=(Ab (h 7 (by decide))).trans u
      have hC:Ext _ w1:=hC
      exact Yk.move e7 ⟨Ext.refl _,rfl⟩
     ·refine Aa rfl fun σ w1 hC h=> ?_
      have d0:=Ab (h 41 (by decide))
      have hC:Ext _ w1:=hC
      exact Yk.bin (xv:=NI 4) (yv:=NI t) rfl d0 rfl (BG _ _ _ (by omega)) ⟨Ext.refl _,rfl⟩
     ·refine Aa rfl fun σ w1 hC h=> ?_
      have d1:=Ab (h 40 (by decide))
      have d2:=Ab (h 42 (by decide))
      have hC:Ext _ w1:=hC
      exact Yk.bin (xv:=NI (64*j)) (yv:=NI ((4)*(t))) d1 d2 rfl (Ak _ _ _ (by omega)) ⟨Ext.refl _,rfl⟩
     ·refine Aa rfl fun σ w1 hC h=> ?_
      have d3:=Ab (h 39 (by decide))
      have d4:=Ab (h 43 (by decide))
      have hC:Ext _ w1:=hC
      exact Yk.atRB (l:=P) (i:=(64*j)+((4)*(t))) DT Ls (RB.of (RB.ofOwn (Stab.own _ _ _ _ _ _ _ _ g hC)) d3) d4 (by omega) fun _ h=>⟨Ext.refl _,h⟩
     ·refine Aa rfl fun σ w1 hC h=> ?_
      have d5:(PCell (B8 (P.getD ((64*j)+((4)*(t))) 0))) (σ 44) w1:=h 44 (by decide)
      have hC:Ext _ w1:=hC
      exact Yk.loadC u5 rfl d5 ⟨Ext.refl _,rfl⟩
     ·refine Aa rfl fun σ w1 hC h=> ?_
      have d6:=Ab (h 45 (by decide))
      have hC:Ext _ w1:=hC
      exact Yk.wide u5 A8 d6 ⟨Ext.refl _,rfl⟩
     ·refine Aa rfl fun σ w1 hC h=> ?_
      have d7:=Ab (h 46 (by decide))
      have hC:Ext _ w1:=hC
      exact Yk.bin d7 (vr (.int .u64 ((24:Nat):Int)) rfl) rfl (Fh _ _ _ 24 (by decide)) ⟨Ext.refl _,rfl⟩
     ·refine Aa rfl fun σ w1 hC h=> ?_
      have e4:=(Ab (h 4 (by decide))).trans o
      have hC:Ext _ w1:=hC
      exact Yk.move e4 ⟨Ext.refl _,rfl⟩
     ·refine Aa rfl fun σ w1 hC h=> ?_
      have e5:=(Ab (h 5 (by decide))).trans n
      have hC:Ext _ w1:=hC
      exact Yk.move e5 ⟨Ext.refl _,rfl⟩
     ·refine Aa rfl fun σ w1 hC h=> ?_
      have e7:=(Ab (h 7 (by decide))).trans u
      have hC:Ext _ w1:=hC
      exact Yk.move e7 ⟨Ext.refl _,rfl⟩
     ·refine Aa rfl fun σ w1 hC h=> ?_
      have d8:=Ab (h 50 (by decide))
      have hC:Ext _ w1:=hC
      exact Yk.bin (xv:=NI 4) (yv:=NI t) rfl d8 rfl (BG _ _ _ (by omega)) ⟨Ext.refl _,rfl⟩
     ·refine Aa rfl fun σ w1 hC h=> ?_
      have d9:=Ab (h 49 (by decide))
      have ea:=Ab (h 51 (by decide))
      have hC:Ext _ w1:=hC
      exact Yk.bin (xv:=NI (64*j)) (yv:=NI ((4)*(t))) d9 ea rfl (Ak _ _ _ (by omega)) ⟨Ext.refl _,rfl⟩
     ·refine Aa rfl fun σ w1 hC h=> ?_
      have ec:=Ab (h 52 (by decide))
      have hC:Ext _ w1:=hC
      exact Yk.bin (xv:=NI ((64*j)+((4)*(t)))) (yv:=NI 1) ec rfl rfl (Ak _ _ _ (by omega)) ⟨Ext.refl _,rfl⟩
     ·refine Aa rfl fun σ w1 hC h=> ?_
      have ed:=Ab (h 48 (by decide))
      have ee:=Ab (h 53 (by decide))
      have hC:Ext _ w1:=hC
      exact Yk.atRB (l:=P) (i:=((64*j)+((4)*(t)))+(1)) DT Ls (RB.of (RB.ofOwn (Stab.own _ _ _ _ _ _ _ _ g hC)) ed) ee (by omega) fun _ h=>⟨Ext.refl _,h⟩
     ·refine Aa rfl fun σ w1 hC h=> ?_
      have ef:(PCell (B8 (P.getD (((64*j)+((4)*(t)))+(1)) 0))) (σ 54) w1:=h 54 (by decide)
      have hC:Ext _ w1:=hC
      exact Yk.loadC u5 rfl ef ⟨Ext.refl _,rfl⟩
     ·refine Aa rfl fun σ w1 hC h=> ?_
      have eg:=Ab (h 55 (by decide))
      have hC:Ext _ w1:=hC
      exact Yk.wide u5 A8 eg ⟨Ext.refl _,rfl⟩
     ·refine Aa rfl fun σ w1 hC h=> ?_
      have eh:=Ab (h 56 (by decide))
      have hC:Ext _ w1:=hC
      exact Yk.bin eh (vr (.int .u64 ((16:Nat):Int)) rfl) rfl (Fh _ _ _ 16 (by decide)) ⟨Ext.refl _,rfl⟩
     ·refine Aa rfl fun σ w1 hC h=> ?_
      have ei:=Ab (h 47 (by decide))
      have ej:=Ab (h 57 (by decide))
      have hC:Ext _ w1:=hC
      exact Yk.bin ei ej rfl (Gp _ _ _) ⟨Ext.refl _,rfl⟩
     ·refine Aa rfl fun σ w1 hC h=> ?_
      have e4:=(Ab (h 4 (by decide))).trans o
      have hC:Ext _ w1:=hC
      exact Yk.move e4 ⟨Ext.refl _,rfl⟩
     ·refine Aa rfl fun σ w1 hC h=> ?_
      have e5:=(Ab (h 5 (by decide))).trans n
      have hC:Ext _ w1:=hC
      exact Yk.move e5 ⟨Ext.refl _,rfl⟩
     ·refine Aa rfl fun σ w1 hC h=> ?_
      have e7:=(Ab (h 7 (by decide))).trans u
      have hC:Ext _ w1:=hC
      exact Yk.move e7 ⟨Ext.refl _,rfl⟩
     ·refine Aa rfl fun σ w1 hC h=> ?_
      have el:=Ab (h 61 (by decide))
      have hC:Ext _ w1:=hC
      exact Yk.bin (xv:=NI 4) (yv:=NI t) rfl el rfl (BG _ _ _ (by omega)) ⟨Ext.refl _,rfl⟩
     ·refine Aa rfl fun σ w1 hC h=> ?_
      have em:=Ab (h 60 (by decide))
      have en:=Ab (h 62 (by decide))
      have hC:Ext _ w1:=hC
      exact Yk.bin (xv:=NI (64*j)) (yv:=NI ((4)*(t))) em en rfl (Ak _ _ _ (by omega)) ⟨Ext.refl _,rfl⟩
     ·refine Aa rfl fun σ w1 hC h=> ?_
      have eo:=Ab (h 63 (by decide))
      have hC:Ext _ w1:=hC
      exact Yk.bin (xv:=NI ((64*j)+((4)*(t)))) (yv:=NI 2) eo rfl rfl (Ak _ _ _ (by omega)) ⟨Ext.refl _,rfl⟩
     ·refine Aa rfl fun σ w1 hC h=> ?_
      have ep:=Ab (h 59 (by decide))
      have eq:=Ab (h 64 (by decide))
      have hC:Ext _ w1:=hC
      exact Yk.atRB (l:=P) (i:=((64*j)+((4)*(t)))+(2)) DT Ls (RB.of (RB.ofOwn (Stab.own _ _ _ _ _ _ _ _ g hC)) ep) eq (by omega) fun _ h=>⟨Ext.refl _,h⟩
     ·refine Aa rfl fun σ w1 hC h=> ?_
      have er:(PCell (B8 (P.getD (((64*j)+((4)*(t)))+(2)) 0))) (σ 65) w1:=h 65 (by decide)
      have hC:Ext _ w1:=hC
      exact Yk.loadC u5 rfl er ⟨Ext.refl _,rfl⟩
     ·refine Aa rfl fun σ w1 hC h=> ?_
      have es:=Ab (h 66 (by decide))
      have hC:Ext _ w1:=hC
      exact Yk.wide u5 A8 es ⟨Ext.refl _,rfl⟩
     ·refine Aa rfl fun σ w1 hC h=> ?_
      have et:=Ab (h 67 (by decide))
      have hC:Ext _ w1:=hC
      exact Yk.bin et (vr (.int .u64 ((8:Nat):Int)) rfl) rfl (Fh _ _ _ 8 (by decide)) ⟨Ext.refl _,rfl⟩
     ·refine Aa rfl fun σ w1 hC h=> ?_
      have eu:=Ab (h 58 (by decide))
      have ew:=Ab (h 68 (by decide))
      have hC:Ext _ w1:=hC
      exact Yk.bin eu ew rfl (Gp _ _ _) ⟨Ext.refl _,rfl⟩
     ·refine Aa rfl fun σ w1 hC h=> ?_
      have e4:=(Ab (h 4 (by decide))).trans o
      have hC:Ext _ w1:=hC
      exact Yk.move e4 ⟨Ext.refl _,rfl⟩
     ·refine Aa rfl fun σ w1 hC h=> ?_
      have e5:=(Ab (h 5 (by decide))).trans n
      have hC:Ext _ w1:=hC
      exact Yk.move e5 ⟨Ext.refl _,rfl⟩
     ·refine Aa rfl fun σ w1 hC h=> ?_
      have e7:=(Ab (h 7 (by decide))).trans u
      have hC:Ext _ w1:=hC
      exact Yk.move e7 ⟨Ext.refl _,rfl⟩
     ·refine Aa rfl fun σ w1 hC h=> ?_
      have ex:=Ab (h 72 (by decide))
      have hC:Ext _ w1:=hC
      exact Yk.bin (xv:=NI 4) (yv:=NI t) rfl ex rfl (BG _ _ _ (by omega)) ⟨Ext.refl _,rfl⟩
     ·refine Aa rfl fun σ w1 hC h=> ?_
      have ey:=Ab (h 71 (by decide))
      have ez:=Ab (h 73 (by decide))
      have hC:Ext _ w1:=hC
      exact Yk.bin (xv:=NI (64*j)) (yv:=NI ((4)*(t))) ey ez rfl (Ak _ _ _ (by omega)) ⟨Ext.refl _,rfl⟩
     ·refine Aa rfl fun σ w1 hC h=> ?_
      have e0:=Ab (h 74 (by decide))
      have hC:Ext _ w1:=hC
      exact Yk.bin (xv:=NI ((64*j)+((4)*(t)))) (yv:=NI 3) e0 rfl rfl (Ak _ _ _ (by omega)) ⟨Ext.refl _,rfl⟩
     ·refine Aa rfl fun σ w1 hC h=> ?_
      have e1:=Ab (h 70 (by decide))
      have e2:=Ab (h 75 (by decide))
      have hC:Ext _ w1:=hC
      exact Yk.atRB (l:=P) (i:=((64*j)+((4)*(t)))+(3)) DT Ls (RB.of (RB.ofOwn (Stab.own _ _ _ _ _ _ _ _ g hC)) e1) e2 (by omega) fun _ h=>⟨Ext.refl _,h⟩
     ·refine Aa rfl fun σ w1 hC h=> ?_
      have fa:(PCell (B8 (P.getD (((64*j)+((4)*(t)))+(3)) 0))) (σ 76) w1:=h 76 (by decide)
      have hC:Ext _ w1:=hC
      exact Yk.loadC u5 rfl fa ⟨Ext.refl _,rfl⟩
     ·refine Aa rfl fun σ w1 hC h=> ?_
      have fb:=Ab (h 77 (by decide))
      have hC:Ext _ w1:=hC
      exact Yk.wide u5 A8 fb ⟨Ext.refl _,rfl⟩
     ·refine Aa rfl fun σ w1 hC h=> ?_
      have fc:=Ab (h 69 (by decide))
      have fd:=Ab (h 78 (by decide))
      have hC:Ext _ w1:=hC
      exact Yk.bin fc fd rfl (Gp _ _ _) ⟨Ext.refl _,rfl⟩
     ·refine Aa rfl fun σ w1 hC h=> ?_
      have e6:=(Ab (h 6 (by decide))).trans y
      have fe:=Ab (h 38 (by decide))
      have hC:Ext _ w1:=hC
      exact Yk.atArr0 (i:=t) CP A9 e6 fe (by omega) ⟨Ext.refl _,rfl⟩
     ·refine Aa rfl fun σ w1 hC h=> ?_
      have ff:=Ab (h 80 (by decide))
      have fg:=Ab (h 79 (by decide))
      have hC:Ext _ w1:=hC
      exact Yk.storeU32 (i:=t) (v:=(((((P.getD ((64*j)+((4)*(t))) 0).toUInt32)<<<24)|||(((P.getD (((64*j)+((4)*(t)))+(1)) 0).toUInt32)<<<16))|||(((P.getD (((64*j)+((4)*(t)))+(2)) 0).toUInt32)<<<8))|||((P.getD (((64*j)+((4)*(t)))+(3)) 0).toUInt32)) ff fg (eb hC hb64l) (by rw[hpl];omega) F0 fun w2 h1 h2 h3=>⟨⟨h1,h2,h3⟩,trivial⟩
    intro ks kt fh a6 fi he hf
    obtain⟨-,-,-,-,-,-,-,-,-,-,-,-,-,-,-,-,-,-,-,-,-,-,-,-,-,-,-,-,-,-,-,-,-,-,-,-,-,-,-,-,-,-,-,-⟩:=hf
    obtain⟨p,s,k,o,n,y,u,-⟩:=he.hold [(0,_),(2,_),(3,_),(4,_),(5,_),(6,_),(7,_)] ⟨p,s,k,o,n,y,u,trivial⟩ rfl
    clear he
    have hE:=hE.trans a6
    have c:=eb a6 c
    have f:=f.trans a6
    have g:=Stab.own _ _ _ _ _ _ _ _ g a6
    have hb21l:=eb a6 hb21l
    have aa:=aa.trans a6
    have hb64l:=eb a6 hb64l
    obtain⟨cn,bj,ku⟩:=fi
    have hE:=Ac hE bj (Nat.le_trans cg (by omega))
    have c:=kb bj c (by omega)
    have f:=Ac f bj (Nat.le_trans ch (by omega))
    have g:=A7 g bj ci
    have hb21l:=kb bj hb21l (by omega)
    have aa:=Ac aa bj (Nat.le_trans (Nat.le_refl _) (by omega))
    clear hb64l
    have hb64l:=cn;clear cn
    have kv:=bl hb64l
    have hb64l:fh.heap[ac]? =some (.cells ((Sha.pad64 (Sha.sched B (t+1))).map fun x=>U x).toArray 89 (0,0)):=AZ hb64l (congrArg (List.map fun x=>U x) ((congrArg (fun z=>(Sha.pad64 (Sha.sched B t)).set t z) (Sha.be4_of P B (64*j) hBget t b9)).trans (Sha.sched_step1 B t b9)))
    refine bN (tN (cm _ _ (wt (oM rfl (oS rfl (Yk.bin (xv:=NI t) (yv:=NI 1) u rfl rfl (Ak _ _ _ (by omega)) (oA rfl (AH [(0,v),(2,PQ n2 0),(3,PQ m 0),(4,ab),(5,NI (64*j)),(6,PQ ac 0),(7,NI ((t)+(1)))] ⟨p,s,k,o,n,y,rfl,trivial⟩ fun fj ⟨p,s,k,o,n,y,u,_⟩=>(tN (And.intro ⟨t+1,p,s,k,o,n,y,u,hE,c,f,g,hb21l,aa,AZ hb64l (rfl),by omega,trivial⟩ ?_))))))))))
    show 64-(intOf (fj 7)).toNat<64-(intOf (ck 7)).toNat
    rw[u,q7]
    simp only[intOf,Int.toNat_natCast];omega
   refine sk fun kw fk=> ?_
   refine Be [Is (NI t),Is (NI ((t)-(15))),Is (.pointer (some ⟨ac,(t)-(15),none⟩)),Is (U ((Sha.pad64 (Sha.sched B t)).getD ((t)-(15)) 0)),Is (NI t),Is (NI ((t)-(2))),Is (.pointer (some ⟨ac,(t)-(2),none⟩)),Is (U ((Sha.pad64 (Sha.sched B t)).getD ((t)-(2)) 0)),Is (U ((Sha.pad64 (Sha.sched B t)).getD ((t)-(15)) 0)),Is (U ((Sha.pad64 (Sha.sched B t)).getD ((t)-(2)) 0))] (by kernel_rfl) [81,82,83,84,85,86,87,88,8,9] (by kernel_rfl) (by kernel_rfl) (Lo trivial) ?fl ?hQ7012
   case fl=>
    refine⟨?_,?_,?_,?_,?_,?_,?_,?_,?_,?_,trivial⟩
    ·refine Aa rfl fun σ w1 hC h=> ?_
     have e7:=(Ab (h 7 (by decide))).trans u
     exact Yk.move e7 ⟨Ext.refl _,rfl⟩
    ·refine Aa rfl fun σ w1 hC h=> ?_
     have fm:=Ab (h 81 (by decide))
     exact Yk.bin (xv:=NI t) (yv:=NI 15) fm rfl rfl (Bj _ _ _ (by omega) (by omega)) ⟨Ext.refl _,rfl⟩
    ·refine Aa rfl fun σ w1 hC h=> ?_
     have e6:=(Ab (h 6 (by decide))).trans y
     have fo:=Ab (h 82 (by decide))
     exact Yk.atArr0 (i:=(t)-(15)) CP A9 e6 fo (by omega) ⟨Ext.refl _,rfl⟩
    ·refine Aa rfl fun σ w1 hC h=> ?_
     have fp:=Ab (h 83 (by decide))
     exact Yk.cell1 A8 rfl fp (Ai (eb hC hb64l) (AW (i:=(t)-(15)) (by rw[hpl];omega))) ⟨Ext.refl _,rfl⟩
    ·refine Aa rfl fun σ w1 hC h=> ?_
     have e7:=(Ab (h 7 (by decide))).trans u
     exact Yk.move e7 ⟨Ext.refl _,rfl⟩
    ·refine Aa rfl fun σ w1 hC h=> ?_
     have fq:=Ab (h 85 (by decide))
     exact Yk.bin (xv:=NI t) (yv:=NI 2) fq rfl rfl (Bj _ _ _ (by omega) (by omega)) ⟨Ext.refl _,rfl⟩
    ·refine Aa rfl fun σ w1 hC h=> ?_
     have e6:=(Ab (h 6 (by decide))).trans y
     have fr:=Ab (h 86 (by decide))
     exact Yk.atArr0 (i:=(t)-(2)) CP A9 e6 fr (by omega) ⟨Ext.refl _,rfl⟩
    ·refine Aa rfl fun σ w1 hC h=> ?_
     have fs:=Ab (h 87 (by decide))
     exact Yk.cell1 A8 rfl fs (Ai (eb hC hb64l) (AW (i:=(t)-(2)) (by rw[hpl];omega))) ⟨Ext.refl _,rfl⟩
    ·refine Aa rfl fun σ w1 hC h=> ?_
     have ft:=Ab (h 84 (by decide))
     exact Yk.assign ft ⟨Ext.refl _,rfl⟩
    ·refine Aa rfl fun σ w1 hC h=> ?_
     have fu:=Ab (h 88 (by decide))
     exact Yk.assign fu ⟨Ext.refl _,rfl⟩
   intro co kx a7 he hf
   obtain⟨-,-,-,-,-,-,-,-,k8,k9,-⟩:=hf
   obtain⟨p,s,k,o,n,y,u,-⟩:=he.hold [(0,_),(2,_),(3,_),(4,_),(5,_),(6,_),(7,_)] ⟨p,s,k,o,n,y,u,trivial⟩ rfl
   clear he
   have hE:=hE.trans a7
   have c:=eb a7 c
   have f:=f.trans a7
   have g:=Stab.own _ _ _ _ _ _ _ _ g a7
   have hb21l:=eb a7 hb21l
   have aa:=aa.trans a7
   have hb64l:=eb a7 hb64l
   have T8:co 8=U ((Sha.pad64 (Sha.sched B t)).getD ((t)-(15)) 0):=k8
   have T9:co 9=U ((Sha.pad64 (Sha.sched B t)).getD ((t)-(2)) 0):=k9
   clear k8 k9
   refine tN (fk _ _ ?_)
   refine Dg 29 (fun(a_ b_:World)=>b_.heap[ac]? =some (.cells (((Sha.pad64 (Sha.sched B t)).set (t) ((((((Sha.rotr ((Sha.pad64 (Sha.sched B t)).getD ((t)-(2)) 0) 17)^^^(Sha.rotr ((Sha.pad64 (Sha.sched B t)).getD ((t)-(2)) 0) 19))^^^(((Sha.pad64 (Sha.sched B t)).getD ((t)-(2)) 0)>>>10))+((Sha.pad64 (Sha.sched B t)).getD ((t)-(7)) 0))+(((Sha.rotr ((Sha.pad64 (Sha.sched B t)).getD ((t)-(15)) 0) 7)^^^(Sha.rotr ((Sha.pad64 (Sha.sched B t)).getD ((t)-(15)) 0) 18))^^^(((Sha.pad64 (Sha.sched B t)).getD ((t)-(15)) 0)>>>3)))+((Sha.pad64 (Sha.sched B t)).getD ((t)-(16)) 0))).map fun x=>U x).toArray 89 (0,0))∧a_.grownBy b_ (some ac)∧b_.heap.size=a_.heap.size) [Is (NI t),Is (U ((Sha.pad64 (Sha.sched B t)).getD ((t)-(2)) 0)),Is (U (Sha.rotr ((Sha.pad64 (Sha.sched B t)).getD ((t)-(2)) 0) 17)),Is (U ((Sha.pad64 (Sha.sched B t)).getD ((t)-(2)) 0)),Is (U (Sha.rotr ((Sha.pad64 (Sha.sched B t)).getD ((t)-(2)) 0) 19)),Is (U ((Sha.rotr ((Sha.pad64 (Sha.sched B t)).getD ((t)-(2)) 0) 17)^^^(Sha.rotr ((Sha.pad64 (Sha.sched B t)).getD ((t)-(2)) 0) 19))),Is (U ((Sha.pad64 (Sha.sched B t)).getD ((t)-(2)) 0)),Is (U (((Sha.pad64 (Sha.sched B t)).getD ((t)-(2)) 0)>>>10)),Is (U (((Sha.rotr ((Sha.pad64 (Sha.sched B t)).getD ((t)-(2)) 0) 17)^^^(Sha.rotr ((Sha.pad64 (Sha.sched B t)).getD ((t)-(2)) 0) 19))^^^(((Sha.pad64 (Sha.sched B t)).getD ((t)-(2)) 0)>>>10))),Is (NI t),Is (NI ((t)-(7))),Is (.pointer (some ⟨ac,(t)-(7),none⟩)),Is (U ((Sha.pad64 (Sha.sched B t)).getD ((t)-(7)) 0)),Is (U ((((Sha.rotr ((Sha.pad64 (Sha.sched B t)).getD ((t)-(2)) 0) 17)^^^(Sha.rotr ((Sha.pad64 (Sha.sched B t)).getD ((t)-(2)) 0) 19))^^^(((Sha.pad64 (Sha.sched B t)).getD ((t)-(2)) 0)>>>10))+((Sha.pad64 (Sha.sched B t)).getD ((t)-(7)) 0))),Is (U ((Sha.pad64 (Sha.sched B t)).getD ((t)-(15)) 0)),Is (U (Sha.rotr ((Sha.pad64 (Sha.sched B t)).getD ((t)-(15)) 0) 7)),Is (U ((Sha.pad64 (Sha.sched B t)).getD ((t)-(15)) 0)),Is (U (Sha.rotr ((Sha.pad64 (Sha.sched B t)).getD ((t)-(15)) 0) 18)),Is (U ((Sha.rotr ((Sha.pad64 (Sha.sched B t)).getD ((t)-(15)) 0) 7)^^^(Sha.rotr ((Sha.pad64 (Sha.sched B t)).getD ((t)-(15)) 0) 18))),Is (U ((Sha.pad64 (Sha.sched B t)).getD ((t)-(15)) 0)),Is (U (((Sha.pad64 (Sha.sched B t)).getD ((t)-(15)) 0)>>>3)),Is (U (((Sha.rotr ((Sha.pad64 (Sha.sched B t)).getD ((t)-(15)) 0) 7)^^^(Sha.rotr ((Sha.pad64 (Sha.sched B t)).getD ((t)-(15)) 0) 18))^^^(((Sha.pad64 (Sha.sched B t)).getD ((t)-(15)) 0)>>>3))),Is (U (((((Sha.rotr ((Sha.pad64 (Sha.sched B t)).getD ((t)-(2)) 0) 17)^^^(Sha.rotr ((Sha.pad64 (Sha.sched B t)).getD ((t)-(2)) 0) 19))^^^(((Sha.pad64 (Sha.sched B t)).getD ((t)-(2)) 0)>>>10))+((Sha.pad64 (Sha.sched B t)).getD ((t)-(7)) 0))+(((Sha.rotr ((Sha.pad64 (Sha.sched B t)).getD ((t)-(15)) 0) 7)^^^(Sha.rotr ((Sha.pad64 (Sha.sched B t)).getD ((t)-(15)) 0) 18))^^^(((Sha.pad64 (Sha.sched B t)).getD ((t)-(15)) 0)>>>3)))),Is (NI t),Is (NI ((t)-(16))),Is (.pointer (some ⟨ac,(t)-(16),none⟩)),Is (U ((Sha.pad64 (Sha.sched B t)).getD ((t)-(16)) 0)),Is (U ((((((Sha.rotr ((Sha.pad64 (Sha.sched B t)).getD ((t)-(2)) 0) 17)^^^(Sha.rotr ((Sha.pad64 (Sha.sched B t)).getD ((t)-(2)) 0) 19))^^^(((Sha.pad64 (Sha.sched B t)).getD ((t)-(2)) 0)>>>10))+((Sha.pad64 (Sha.sched B t)).getD ((t)-(7)) 0))+(((Sha.rotr ((Sha.pad64 (Sha.sched B t)).getD ((t)-(15)) 0) 7)^^^(Sha.rotr ((Sha.pad64 (Sha.sched B t)).getD ((t)-(15)) 0) 18))^^^(((Sha.pad64 (Sha.sched B t)).getD ((t)-(15)) 0)>>>3)))+((Sha.pad64 (Sha.sched B t)).getD ((t)-(16)) 0))),Is (PQ ac t),(fun _ _=>True)] (by kernel_rfl) [89,90,91,92,93,94,95,96,97,98,99,100,101,102,103,104,105,106,107,108,109,110,111,112,113,114,115,116,117] (by kernel_rfl) (by kernel_rfl) (by kernel_rfl) rfl (Iw (Ct (Ct ⟨Stab.any,trivial⟩))) (Iw (Ct (Ct ⟨Stab.any,trivial⟩))) ?fv ?hQ8013
   case fv=>
    refine⟨?_,?_,?_,?_,?_,?_,?_,?_,?_,?_,?_,?_,?_,?_,?_,?_,?_,?_,?_,?_,?_,?_,?_,?_,?_,?_,?_,?_,?_,?_,trivial⟩
    ·refine Aa rfl fun σ w1 hC h=> ?_
     have e7:=(Ab (h 7 (by decide))).trans u
     have hC:Ext _ w1:=hC
     exact Yk.move e7 ⟨Ext.refl _,rfl⟩
    ·refine Aa rfl fun σ w1 hC h=> ?_
     have e9:=(Ab (h 9 (by decide))).trans T9
     have hC:Ext _ w1:=hC
     exact Yk.move e9 ⟨Ext.refl _,rfl⟩
    ·refine Aa rfl fun σ w1 hC h=> ?_
     have fw:=Ab (h 90 (by decide))
     have hC:Ext _ w1:=hC
     refine Yk.callA2 CR fw (vr (.int .u64 ((17:Nat):Int)) rfl) ((DA _ ((Sha.pad64 (Sha.sched B t)).getD ((t)-(2)) 0) 17 (by decide) (by decide)).mono ?_)
     rintro e w2 ⟨rfl,hx⟩
     exact⟨_,rfl,hx,rfl⟩
    ·refine Aa rfl fun σ w1 hC h=> ?_
     have e9:=(Ab (h 9 (by decide))).trans T9
     have hC:Ext _ w1:=hC
     exact Yk.move e9 ⟨Ext.refl _,rfl⟩
    ·refine Aa rfl fun σ w1 hC h=> ?_
     have fx:=Ab (h 92 (by decide))
     have hC:Ext _ w1:=hC
     refine Yk.callA2 CR fx (vr (.int .u64 ((19:Nat):Int)) rfl) ((DA _ ((Sha.pad64 (Sha.sched B t)).getD ((t)-(2)) 0) 19 (by decide) (by decide)).mono ?_)
     rintro e w2 ⟨rfl,hx⟩
     exact⟨_,rfl,hx,rfl⟩
    ·refine Aa rfl fun σ w1 hC h=> ?_
     have fy:=Ab (h 91 (by decide))
     have fz:=Ab (h 93 (by decide))
     have hC:Ext _ w1:=hC
     exact Yk.bin fy fz rfl (Cu _ _ _) ⟨Ext.refl _,rfl⟩
    ·refine Aa rfl fun σ w1 hC h=> ?_
     have e9:=(Ab (h 9 (by decide))).trans T9
     have hC:Ext _ w1:=hC
     exact Yk.move e9 ⟨Ext.refl _,rfl⟩
    ·refine Aa rfl fun σ w1 hC h=> ?_
     have f0:=Ab (h 95 (by decide))
     have hC:Ext _ w1:=hC
     exact Yk.bin f0 (vr (.int .u64 ((10:Nat):Int)) rfl) rfl (D5 _ _ _ 10 (by decide)) ⟨Ext.refl _,rfl⟩
    ·refine Aa rfl fun σ w1 hC h=> ?_
     have f1:=Ab (h 94 (by decide))
     have f2:=Ab (h 96 (by decide))
     have hC:Ext _ w1:=hC
     exact Yk.bin f1 f2 rfl (Cu _ _ _) ⟨Ext.refl _,rfl⟩
    ·refine Aa rfl fun σ w1 hC h=> ?_
     have e7:=(Ab (h 7 (by decide))).trans u
     have hC:Ext _ w1:=hC
     exact Yk.move e7 ⟨Ext.refl _,rfl⟩
    ·refine Aa rfl fun σ w1 hC h=> ?_
     have f3:=Ab (h 98 (by decide))
     have hC:Ext _ w1:=hC
     exact Yk.bin (xv:=NI t) (yv:=NI 7) f3 rfl rfl (Bj _ _ _ (by omega) (by omega)) ⟨Ext.refl _,rfl⟩
    ·refine Aa rfl fun σ w1 hC h=> ?_
     have e6:=(Ab (h 6 (by decide))).trans y
     have f4:=Ab (h 99 (by decide))
     have hC:Ext _ w1:=hC
     exact Yk.atArr0 (i:=(t)-(7)) CP A9 e6 f4 (by omega) ⟨Ext.refl _,rfl⟩
    ·refine Aa rfl fun σ w1 hC h=> ?_
     have f5:=Ab (h 100 (by decide))
     have hC:Ext _ w1:=hC
     exact Yk.cell1 A8 rfl f5 (Ai (eb hC hb64l) (AW (i:=(t)-(7)) (by rw[hpl];omega))) ⟨Ext.refl _,rfl⟩
    ·refine Aa rfl fun σ w1 hC h=> ?_
     have f6:=Ab (h 97 (by decide))
     have f7:=Ab (h 101 (by decide))
     have hC:Ext _ w1:=hC
     exact Yk.bin f6 f7 rfl (BR _ _ _) ⟨Ext.refl _,rfl⟩
    ·refine Aa rfl fun σ w1 hC h=> ?_
     have e8:=(Ab (h 8 (by decide))).trans T8
     have hC:Ext _ w1:=hC
     exact Yk.move e8 ⟨Ext.refl _,rfl⟩
    ·refine Aa rfl fun σ w1 hC h=> ?_
     have f8:=Ab (h 103 (by decide))
     have hC:Ext _ w1:=hC
     refine Yk.callA2 CR f8 (vr (.int .u64 ((7:Nat):Int)) rfl) ((DA _ ((Sha.pad64 (Sha.sched B t)).getD ((t)-(15)) 0) 7 (by decide) (by decide)).mono ?_)
     rintro e w2 ⟨rfl,hx⟩
     exact⟨_,rfl,hx,rfl⟩
    ·refine Aa rfl fun σ w1 hC h=> ?_
     have e8:=(Ab (h 8 (by decide))).trans T8
     have hC:Ext _ w1:=hC
     exact Yk.move e8 ⟨Ext.refl _,rfl⟩
    ·refine Aa rfl fun σ w1 hC h=> ?_
     have f9:=Ab (h 105 (by decide))
     have hC:Ext _ w1:=hC
     refine Yk.callA2 CR f9 (vr (.int .u64 ((18:Nat):Int)) rfl) ((DA _ ((Sha.pad64 (Sha.sched B t)).getD ((t)-(15)) 0) 18 (by decide) (by decide)).mono ?_)
     rintro e w2 ⟨rfl,hx⟩
     exact⟨_,rfl,hx,rfl⟩
    ·refine Aa rfl fun σ w1 hC h=> ?_
     have ga:=Ab (h 104 (by decide))
     have gb:=Ab (h 106 (by decide))
     have hC:Ext _ w1:=hC
     exact Yk.bin ga gb rfl (Cu _ _ _) ⟨Ext.refl _,rfl⟩
    ·refine Aa rfl fun σ w1 hC h=> ?_
     have e8:=(Ab (h 8 (by decide))).trans T8
     have hC:Ext _ w1:=hC
     exact Yk.move e8 ⟨Ext.refl _,rfl⟩
    ·refine Aa rfl fun σ w1 hC h=> ?_
     have gc:=Ab (h 108 (by decide))
     have hC:Ext _ w1:=hC
     exact Yk.bin gc (vr (.int .u64 ((3:Nat):Int)) rfl) rfl (D5 _ _ _ 3 (by decide)) ⟨Ext.refl _,rfl⟩
    ·refine Aa rfl fun σ w1 hC h=> ?_
     have gd:=Ab (h 107 (by decide))
     have ge:=Ab (h 109 (by decide))
     have hC:Ext _ w1:=hC
     exact Yk.bin gd ge rfl (Cu _ _ _) ⟨Ext.refl _,rfl⟩
    ·refine Aa rfl fun σ w1 hC h=> ?_
     have gf:=Ab (h 102 (by decide))
     have gg:=Ab (h 110 (by decide))
     have hC:Ext _ w1:=hC
     exact Yk.bin gf gg rfl (BR _ _ _) ⟨Ext.refl _,rfl⟩
    ·refine Aa rfl fun σ w1 hC h=> ?_
     have e7:=(Ab (h 7 (by decide))).trans u
     have hC:Ext _ w1:=hC
     exact Yk.move e7 ⟨Ext.refl _,rfl⟩
    ·refine Aa rfl fun σ w1 hC h=> ?_
     have gh:=Ab (h 112 (by decide))
     have hC:Ext _ w1:=hC
     exact Yk.bin (xv:=NI t) (yv:=NI 16) gh rfl rfl (Bj _ _ _ (by omega) (by omega)) ⟨Ext.refl _,rfl⟩
    ·refine Aa rfl fun σ w1 hC h=> ?_
     have e6:=(Ab (h 6 (by decide))).trans y
     have gi:=Ab (h 113 (by decide))
     have hC:Ext _ w1:=hC
     exact Yk.atArr0 (i:=(t)-(16)) CP A9 e6 gi (by omega) ⟨Ext.refl _,rfl⟩
    ·refine Aa rfl fun σ w1 hC h=> ?_
     have gj:=Ab (h 114 (by decide))
     have hC:Ext _ w1:=hC
     exact Yk.cell1 A8 rfl gj (Ai (eb hC hb64l) (AW (i:=(t)-(16)) (by rw[hpl];omega))) ⟨Ext.refl _,rfl⟩
    ·refine Aa rfl fun σ w1 hC h=> ?_
     have gk:=Ab (h 111 (by decide))
     have gl:=Ab (h 115 (by decide))
     have hC:Ext _ w1:=hC
     exact Yk.bin gk gl rfl (BR _ _ _) ⟨Ext.refl _,rfl⟩
    ·refine Aa rfl fun σ w1 hC h=> ?_
     have e6:=(Ab (h 6 (by decide))).trans y
     have gm:=Ab (h 89 (by decide))
     have hC:Ext _ w1:=hC
     exact Yk.atArr0 (i:=t) CP A9 e6 gm (by omega) ⟨Ext.refl _,rfl⟩
    ·refine Aa rfl fun σ w1 hC h=> ?_
     have gn:=Ab (h 117 (by decide))
     have go:=Ab (h 116 (by decide))
     have hC:Ext _ w1:=hC
     exact Yk.storeU32 (i:=t) (v:=(((((Sha.rotr ((Sha.pad64 (Sha.sched B t)).getD ((t)-(2)) 0) 17)^^^(Sha.rotr ((Sha.pad64 (Sha.sched B t)).getD ((t)-(2)) 0) 19))^^^(((Sha.pad64 (Sha.sched B t)).getD ((t)-(2)) 0)>>>10))+((Sha.pad64 (Sha.sched B t)).getD ((t)-(7)) 0))+(((Sha.rotr ((Sha.pad64 (Sha.sched B t)).getD ((t)-(15)) 0) 7)^^^(Sha.rotr ((Sha.pad64 (Sha.sched B t)).getD ((t)-(15)) 0) 18))^^^(((Sha.pad64 (Sha.sched B t)).getD ((t)-(15)) 0)>>>3)))+((Sha.pad64 (Sha.sched B t)).getD ((t)-(16)) 0)) gn go (eb hC hb64l) (by rw[hpl];omega) F0 fun w2 h1 h2 h3=>⟨⟨h1,h2,h3⟩,trivial⟩
   intro ky kz gp ba gq he hf
   obtain⟨-,-,-,-,-,-,-,-,-,-,-,-,-,-,-,-,-,-,-,-,-,-,-,-,-,-,-,-,-,-⟩:=hf
   obtain⟨p,s,k,o,n,y,u,T8,T9,-⟩:=he.hold [(0,_),(2,_),(3,_),(4,_),(5,_),(6,_),(7,_),(8,_),(9,_)] ⟨p,s,k,o,n,y,u,T8,T9,trivial⟩ rfl
   clear he
   have hE:=hE.trans ba
   have c:=eb ba c
   have f:=f.trans ba
   have g:=Stab.own _ _ _ _ _ _ _ _ g ba
   have hb21l:=eb ba hb21l
   have aa:=aa.trans ba
   have hb64l:=eb ba hb64l
   obtain⟨cp,bk,k0⟩:=gq
   have hE:=Ac hE bk (Nat.le_trans cg (by omega))
   have c:=kb bk c (by omega)
   have f:=Ac f bk (Nat.le_trans ch (by omega))
   have g:=A7 g bk ci
   have hb21l:=kb bk hb21l (by omega)
   have aa:=Ac aa bk (Nat.le_trans (Nat.le_refl _) (by omega))
   clear hb64l
   have hb64l:=cp;clear cp
   have k1:=bl hb64l
   have hb64l:gp.heap[ac]? =some (.cells ((Sha.pad64 (Sha.sched B (t+1))).map fun x=>U x).toArray 89 (0,0)):=AZ hb64l (congrArg (List.map fun x=>U x) (Sha.sched_step2 B t (by omega) cl))
   refine bN (tN (cm _ _ (wt (oM rfl (oS rfl (Yk.bin (xv:=NI t) (yv:=NI 1) u rfl rfl (Ak _ _ _ (by omega)) (oA rfl (AH [(0,v),(2,PQ n2 0),(3,PQ m 0),(4,ab),(5,NI (64*j)),(6,PQ ac 0),(7,NI ((t)+(1))),(8,U ((Sha.pad64 (Sha.sched B t)).getD ((t)-(15)) 0)),(9,U ((Sha.pad64 (Sha.sched B t)).getD ((t)-(2)) 0))] ⟨p,s,k,o,n,y,rfl,T8,T9,trivial⟩ fun gr ⟨p,s,k,o,n,y,u,T8,T9,_⟩=>(tN (And.intro ⟨t+1,p,s,k,o,n,y,u,hE,c,f,g,hb21l,aa,AZ hb64l (rfl),by omega,trivial⟩ ?_))))))))))
   show 64-(intOf (gr 7)).toNat<64-(intOf (ck 7)).toNat
   rw[u,q7]
   simp only[intOf,Int.toNat_natCast];omega
  obtain⟨F,hF⟩:∃F,F=Sha.sched B 64:=⟨_,rfl⟩
  have hb64l:dv.heap[ac]? =some (.cells (F.map fun x=>U x).toArray 89 (0,0)):=AZ hb64l (by rw[show t=64 by omega,←hF,Sha.pad64_full _ (by rw[hF,Sha.sched_length])])
  have hFl:F.length=64:=by rw[hF,Sha.sched_length]
  refine AJ (Ag (Ag (Ap (tN (dt _ _ (sk fun k2 gs=> ?_))))))
  refine Be [Is (PQ m 0),Is (U ((Sj).getD (0) 0)),Is (PQ m 1),Is (U ((Sj).getD (1) 0)),Is (PQ m 2),Is (U ((Sj).getD (2) 0)),Is (PQ m 3),Is (U ((Sj).getD (3) 0)),Is (PQ m 4),Is (U ((Sj).getD (4) 0)),Is (PQ m 5),Is (U ((Sj).getD (5) 0)),Is (PQ m 6),Is (U ((Sj).getD (6) 0)),Is (PQ m 7),Is (U ((Sj).getD (7) 0)),Is (U ((Sj).getD (0) 0)),Is (U ((Sj).getD (1) 0)),Is (U ((Sj).getD (2) 0)),Is (U ((Sj).getD (3) 0)),Is (U ((Sj).getD (4) 0)),Is (U ((Sj).getD (5) 0)),Is (U ((Sj).getD (6) 0)),Is (U ((Sj).getD (7) 0))] (by kernel_rfl) [118,119,120,121,122,123,124,125,126,127,128,129,130,131,132,133,10,11,12,13,14,15,16,17] (by kernel_rfl) (by kernel_rfl) (Ct (Ct trivial)) ?gt ?hQ9014
  case gt=>
   refine⟨?_,?_,?_,?_,?_,?_,?_,?_,?_,?_,?_,?_,?_,?_,?_,?_,?_,?_,?_,?_,?_,?_,?_,?_,trivial⟩
   ·refine Aa rfl fun σ w1 hC h=> ?_
    have e3:=(Ab (h 3 (by decide))).trans k
    exact Yk.atArr0 (i:=0) Bf A9 e3 (vr (NI 0) rfl) (by omega) ⟨Ext.refl _,rfl⟩
   ·refine Aa rfl fun σ w1 hC h=> ?_
    have gu:=Ab (h 118 (by decide))
    exact Yk.cell1 A8 rfl gu (Ai (eb hC hb21l) (AW (i:=0) (by rw[hSl];omega))) ⟨Ext.refl _,rfl⟩
   ·refine Aa rfl fun σ w1 hC h=> ?_
    have e3:=(Ab (h 3 (by decide))).trans k
    exact Yk.atArr0 (i:=1) Bf A9 e3 (vr (NI 1) rfl) (by omega) ⟨Ext.refl _,rfl⟩
   ·refine Aa rfl fun σ w1 hC h=> ?_
    have gv:=Ab (h 120 (by decide))
    exact Yk.cell1 A8 rfl gv (Ai (eb hC hb21l) (AW (i:=1) (by rw[hSl];omega))) ⟨Ext.refl _,rfl⟩
   ·refine Aa rfl fun σ w1 hC h=> ?_
    have e3:=(Ab (h 3 (by decide))).trans k
    exact Yk.atArr0 (i:=2) Bf A9 e3 (vr (NI 2) rfl) (by omega) ⟨Ext.refl _,rfl⟩
   ·refine Aa rfl fun σ w1 hC h=> ?_
    have gw:=Ab (h 122 (by decide))
    exact Yk.cell1 A8 rfl gw (Ai (eb hC hb21l) (AW (i:=2) (by rw[hSl];omega))) ⟨Ext.refl _,rfl⟩
   ·refine Aa rfl fun σ w1 hC h=> ?_
    have e3:=(Ab (h 3 (by decide))).trans k
    exact Yk.atArr0 (i:=3) Bf A9 e3 (vr (NI 3) rfl) (by omega) ⟨Ext.refl _,rfl⟩
   ·refine Aa rfl fun σ w1 hC h=> ?_
    have gx:=Ab (h 124 (by decide))
    exact Yk.cell1 A8 rfl gx (Ai (eb hC hb21l) (AW (i:=3) (by rw[hSl];omega))) ⟨Ext.refl _,rfl⟩
   ·refine Aa rfl fun σ w1 hC h=> ?_
    have e3:=(Ab (h 3 (by decide))).trans k
    exact Yk.atArr0 (i:=4) Bf A9 e3 (vr (NI 4) rfl) (by omega) ⟨Ext.refl _,rfl⟩
   ·refine Aa rfl fun σ w1 hC h=> ?_
    have gy:=Ab (h 126 (by decide))
    exact Yk.cell1 A8 rfl gy (Ai (eb hC hb21l) (AW (i:=4) (by rw[hSl];omega))) ⟨Ext.refl _,rfl⟩
   ·refine Aa rfl fun σ w1 hC h=> ?_
    have e3:=(Ab (h 3 (by decide))).trans k
    exact Yk.atArr0 (i:=5) Bf A9 e3 (vr (NI 5) rfl) (by omega) ⟨Ext.refl _,rfl⟩
   ·refine Aa rfl fun σ w1 hC h=> ?_
    have gz:=Ab (h 128 (by decide))
    exact Yk.cell1 A8 rfl gz (Ai (eb hC hb21l) (AW (i:=5) (by rw[hSl];omega))) ⟨Ext.refl _,rfl⟩
   ·refine Aa rfl fun σ w1 hC h=> ?_
    have e3:=(Ab (h 3 (by decide))).trans k
    exact Yk.atArr0 (i:=6) Bf A9 e3 (vr (NI 6) rfl) (by omega) ⟨Ext.refl _,rfl⟩
   ·refine Aa rfl fun σ w1 hC h=> ?_
    have g0:=Ab (h 130 (by decide))
    exact Yk.cell1 A8 rfl g0 (Ai (eb hC hb21l) (AW (i:=6) (by rw[hSl];omega))) ⟨Ext.refl _,rfl⟩
   ·refine Aa rfl fun σ w1 hC h=> ?_
    have e3:=(Ab (h 3 (by decide))).trans k
    exact Yk.atArr0 (i:=7) Bf A9 e3 (vr (NI 7) rfl) (by omega) ⟨Ext.refl _,rfl⟩
   ·refine Aa rfl fun σ w1 hC h=> ?_
    have g1:=Ab (h 132 (by decide))
    exact Yk.cell1 A8 rfl g1 (Ai (eb hC hb21l) (AW (i:=7) (by rw[hSl];omega))) ⟨Ext.refl _,rfl⟩
   ·refine Aa rfl fun σ w1 hC h=> ?_
    have g2:=Ab (h 119 (by decide))
    exact Yk.assign g2 ⟨Ext.refl _,rfl⟩
   ·refine Aa rfl fun σ w1 hC h=> ?_
    have g3:=Ab (h 121 (by decide))
    exact Yk.assign g3 ⟨Ext.refl _,rfl⟩
   ·refine Aa rfl fun σ w1 hC h=> ?_
    have g4:=Ab (h 123 (by decide))
    exact Yk.assign g4 ⟨Ext.refl _,rfl⟩
   ·refine Aa rfl fun σ w1 hC h=> ?_
    have g5:=Ab (h 125 (by decide))
    exact Yk.assign g5 ⟨Ext.refl _,rfl⟩
   ·refine Aa rfl fun σ w1 hC h=> ?_
    have g6:=Ab (h 127 (by decide))
    exact Yk.assign g6 ⟨Ext.refl _,rfl⟩
   ·refine Aa rfl fun σ w1 hC h=> ?_
    have g7:=Ab (h 129 (by decide))
    exact Yk.assign g7 ⟨Ext.refl _,rfl⟩
   ·refine Aa rfl fun σ w1 hC h=> ?_
    have g8:=Ab (h 131 (by decide))
    exact Yk.assign g8 ⟨Ext.refl _,rfl⟩
   ·refine Aa rfl fun σ w1 hC h=> ?_
    have g9:=Ab (h 133 (by decide))
    exact Yk.assign g9 ⟨Ext.refl _,rfl⟩
  intro a2 k3 bb he hf
  obtain⟨-,-,-,-,-,-,-,-,-,-,-,-,-,-,-,-,k10,k11,k12,k13,k14,k15,k16,k17,-⟩:=hf
  obtain⟨p,s,k,o,n,y,u,-⟩:=he.hold [(0,_),(2,_),(3,_),(4,_),(5,_),(6,_),(7,_)] ⟨p,s,k,o,n,y,u,trivial⟩ rfl
  clear he
  have hE:=hE.trans bb
  have c:=eb bb c
  have f:=f.trans bb
  have g:=Stab.own _ _ _ _ _ _ _ _ g bb
  have hb21l:=eb bb hb21l
  have aa:=aa.trans bb
  have hb64l:=eb bb hb64l
  have ad:a2 10=U ((Sj).getD (0) 0):=k10
  have ag:a2 11=U ((Sj).getD (1) 0):=k11
  have ah:a2 12=U ((Sj).getD (2) 0):=k12
  have am:a2 13=U ((Sj).getD (3) 0):=k13
  have ae:a2 14=U ((Sj).getD (4) 0):=k14
  have ai:a2 15=U ((Sj).getD (5) 0):=k15
  have aj:a2 16=U ((Sj).getD (6) 0):=k16
  have an:a2 17=U ((Sj).getD (7) 0):=k17
  clear k10 k11 k12 k13 k14 k15 k16 k17
  refine tN (gs _ _ (sk fun k4 ha=>(sk fun k5 hc=>(wt (oA rfl (AH [(0,v),(2,PQ n2 0),(3,PQ m 0),(4,ab),(5,NI (64*j)),(6,PQ ac 0),(7,NI t),(10,U ((Sj).getD (0) 0)),(11,U ((Sj).getD (1) 0)),(12,U ((Sj).getD (2) 0)),(13,U ((Sj).getD (3) 0)),(14,U ((Sj).getD (4) 0)),(15,U ((Sj).getD (5) 0)),(16,U ((Sj).getD (6) 0)),(17,U ((Sj).getD (7) 0)),(18,NI 0)] ⟨p,s,k,o,n,y,u,ad,ag,ah,am,ae,ai,aj,an,rfl,trivial⟩ fun k6 ⟨p,s,k,o,n,y,u,ad,ag,ah,am,ae,ai,aj,an,ak,_⟩=>(tN (hc _ _ (Aj (AX (fun(ρ:Aq) (wz:World)=>∃r:Nat,ρ 0=(v:Value)∧ρ 2=(PQ n2 0:Value)∧ρ 3=(PQ m 0:Value)∧ρ 4=(ab:Value)∧ρ 5=(NI (64*j):Value)∧ρ 6=(PQ ac 0:Value)∧ρ 7=(NI t:Value)∧ρ 18=(NI r:Value)∧ρ 10=(U ((Sha.turned Sj F r).getD 0 0):Value)∧ρ 11=(U ((Sha.turned Sj F r).getD 1 0):Value)∧ρ 12=(U ((Sha.turned Sj F r).getD 2 0):Value)∧ρ 13=(U ((Sha.turned Sj F r).getD 3 0):Value)∧ρ 14=(U ((Sha.turned Sj F r).getD 4 0):Value)∧ρ 15=(U ((Sha.turned Sj F r).getD 5 0):Value)∧ρ 16=(U ((Sha.turned Sj F r).getD 6 0):Value)∧ρ 17=(U ((Sha.turned Sj F r).getD 7 0):Value)∧Ext w wz∧wz.heap[n2]? =some (.cells (Lib.byteCells (List.replicate 32 0)).toArray 38 (0,0))∧Ext w3 wz∧wz.ownsRow bh.heap.size 5 1 ab (P:List UInt8).length (Lib.byteCells (P))∧wz.heap[m]? =some (.cells (Sj.map fun x=>U x).toArray 88 (0,0))∧Ext a3 wz∧wz.heap[ac]? =some (.cells (F.map fun x=>U x).toArray 89 (0,0))∧(r≤64)∧True) (fun ρ _=>64-(intOf (ρ 18)).toNat) ⟨0,p,s,k,o,n,y,u,ak,ad,ag,ah,am,ae,ai,aj,an,hE,c,f,g,hb21l,aa,hb64l,Nat.zero_le _,trivial⟩ ?_))))))))))
  clear hE c f g hb21l aa hb64l
  rintro hd k7 ⟨r,p,s,k,o,n,y,u,ak,ad,ag,ah,am,ae,ai,aj,an,hE,c,f,g,hb21l,aa,hb64l,la,-⟩
  have q18:=ak
  refine sk fun lb hg=>(sk fun lc hh=>(wt (oM rfl (oS rfl (Yk.eqI (a:=(r:Nat)) (b:=(64:Nat)) ak rfl (AN _ _ _ _) (AH [(0,v),(2,PQ n2 0),(3,PQ m 0),(4,ab),(5,NI (64*j)),(6,PQ ac 0),(7,NI t),(10,U ((Sha.turned Sj F r).getD 0 0)),(11,U ((Sha.turned Sj F r).getD 1 0)),(12,U ((Sha.turned Sj F r).getD 2 0)),(13,U ((Sha.turned Sj F r).getD 3 0)),(14,U ((Sha.turned Sj F r).getD 4 0)),(15,U ((Sha.turned Sj F r).getD 5 0)),(16,U ((Sha.turned Sj F r).getD 6 0)),(17,U ((Sha.turned Sj F r).getD 7 0)),(18,NI r),(135, .bool (decide ((r)<(64))))] ⟨p,s,k,o,n,y,u,ad,ag,ah,am,ae,ai,aj,an,ak,rfl,trivial⟩ fun ld ⟨p,s,k,o,n,y,u,ad,ag,ah,am,ae,ai,aj,an,ak,hk,_⟩=>(tN (hh _ _ ?_))))))))
  refine AO ((r)<(64)) hk (fun hm=> ?_) (fun hm=> ?_)
  ·refine Ah (tN (hg _ _ (sk fun le hn=>(Aj (sk fun lf ho=> ?_)))))
   refine Be [Is (U ((Sha.turned Sj F r).getD 7 0)),Is (U ((Sha.turned Sj F r).getD 4 0)),Is (U (Sha.rotr ((Sha.turned Sj F r).getD 4 0) 6)),Is (U ((Sha.turned Sj F r).getD 4 0)),Is (U (Sha.rotr ((Sha.turned Sj F r).getD 4 0) 11)),Is (U ((Sha.rotr ((Sha.turned Sj F r).getD 4 0) 6)^^^(Sha.rotr ((Sha.turned Sj F r).getD 4 0) 11))),Is (U ((Sha.turned Sj F r).getD 4 0)),Is (U (Sha.rotr ((Sha.turned Sj F r).getD 4 0) 25)),Is (U (((Sha.rotr ((Sha.turned Sj F r).getD 4 0) 6)^^^(Sha.rotr ((Sha.turned Sj F r).getD 4 0) 11))^^^(Sha.rotr ((Sha.turned Sj F r).getD 4 0) 25))),Is (U (((Sha.turned Sj F r).getD 7 0)+(((Sha.rotr ((Sha.turned Sj F r).getD 4 0) 6)^^^(Sha.rotr ((Sha.turned Sj F r).getD 4 0) 11))^^^(Sha.rotr ((Sha.turned Sj F r).getD 4 0) 25)))),Is (U ((Sha.turned Sj F r).getD 4 0)),Is (U ((Sha.turned Sj F r).getD 5 0)),Is (U (((Sha.turned Sj F r).getD 4 0)&&&((Sha.turned Sj F r).getD 5 0))),Is (U ((Sha.turned Sj F r).getD 4 0)),Is (U (~~~((Sha.turned Sj F r).getD 4 0))),Is (U ((Sha.turned Sj F r).getD 6 0)),Is (U ((~~~((Sha.turned Sj F r).getD 4 0))&&&((Sha.turned Sj F r).getD 6 0))),Is (U ((((Sha.turned Sj F r).getD 4 0)&&&((Sha.turned Sj F r).getD 5 0))^^^((~~~((Sha.turned Sj F r).getD 4 0))&&&((Sha.turned Sj F r).getD 6 0)))),Is (U ((((Sha.turned Sj F r).getD 7 0)+(((Sha.rotr ((Sha.turned Sj F r).getD 4 0) 6)^^^(Sha.rotr ((Sha.turned Sj F r).getD 4 0) 11))^^^(Sha.rotr ((Sha.turned Sj F r).getD 4 0) 25)))+((((Sha.turned Sj F r).getD 4 0)&&&((Sha.turned Sj F r).getD 5 0))^^^((~~~((Sha.turned Sj F r).getD 4 0))&&&((Sha.turned Sj F r).getD 6 0))))),Is (NI r),Is (U (Sha.words.getD (r) 0)),Is (U (((((Sha.turned Sj F r).getD 7 0)+(((Sha.rotr ((Sha.turned Sj F r).getD 4 0) 6)^^^(Sha.rotr ((Sha.turned Sj F r).getD 4 0) 11))^^^(Sha.rotr ((Sha.turned Sj F r).getD 4 0) 25)))+((((Sha.turned Sj F r).getD 4 0)&&&((Sha.turned Sj F r).getD 5 0))^^^((~~~((Sha.turned Sj F r).getD 4 0))&&&((Sha.turned Sj F r).getD 6 0))))+(Sha.words.getD (r) 0))),Is (NI r),Is (PQ ac r),Is (U ((F).getD (r) 0)),Is (U ((((((Sha.turned Sj F r).getD 7 0)+(((Sha.rotr ((Sha.turned Sj F r).getD 4 0) 6)^^^(Sha.rotr ((Sha.turned Sj F r).getD 4 0) 11))^^^(Sha.rotr ((Sha.turned Sj F r).getD 4 0) 25)))+((((Sha.turned Sj F r).getD 4 0)&&&((Sha.turned Sj F r).getD 5 0))^^^((~~~((Sha.turned Sj F r).getD 4 0))&&&((Sha.turned Sj F r).getD 6 0))))+(Sha.words.getD (r) 0))+((F).getD (r) 0))),Is (U ((((((Sha.turned Sj F r).getD 7 0)+(((Sha.rotr ((Sha.turned Sj F r).getD 4 0) 6)^^^(Sha.rotr ((Sha.turned Sj F r).getD 4 0) 11))^^^(Sha.rotr ((Sha.turned Sj F r).getD 4 0) 25)))+((((Sha.turned Sj F r).getD 4 0)&&&((Sha.turned Sj F r).getD 5 0))^^^((~~~((Sha.turned Sj F r).getD 4 0))&&&((Sha.turned Sj F r).getD 6 0))))+(Sha.words.getD (r) 0))+((F).getD (r) 0)))] (by kernel_rfl) [138,139,140,141,142,143,144,145,146,147,148,149,150,151,152,153,154,155,156,157,158,159,160,161,162,163,19] (by kernel_rfl) (by kernel_rfl) (DV (Ct (Ct trivial))) ?hp ?hQ10018
   case hp=>
    refine⟨?_,?_,?_,?_,?_,?_,?_,?_,?_,?_,?_,?_,?_,?_,?_,?_,?_,?_,?_,?_,?_,?_,?_,?_,?_,?_,?_,trivial⟩
    ·refine Aa rfl fun σ w1 hC h=> ?_
     have hs:=(Ab (h 17 (by decide))).trans an
     exact Yk.move hs ⟨Ext.refl _,rfl⟩
    ·refine Aa rfl fun σ w1 hC h=> ?_
     have a0:=(Ab (h 14 (by decide))).trans ae
     exact Yk.move a0 ⟨Ext.refl _,rfl⟩
    ·refine Aa rfl fun σ w1 hC h=> ?_
     have hu:=Ab (h 139 (by decide))
     refine Yk.callA2 CR hu (vr (.int .u64 ((6:Nat):Int)) rfl) ((DA _ ((Sha.turned Sj F r).getD 4 0) 6 (by decide) (by decide)).mono ?_)
     rintro e w2 ⟨rfl,hx⟩
     exact⟨_,rfl,hx,rfl⟩
    ·refine Aa rfl fun σ w1 hC h=> ?_
     have a0:=(Ab (h 14 (by decide))).trans ae
     exact Yk.move a0 ⟨Ext.refl _,rfl⟩
    ·refine Aa rfl fun σ w1 hC h=> ?_
     have hv:=Ab (h 141 (by decide))
     refine Yk.callA2 CR hv (vr (.int .u64 ((11:Nat):Int)) rfl) ((DA _ ((Sha.turned Sj F r).getD 4 0) 11 (by decide) (by decide)).mono ?_)
     rintro e w2 ⟨rfl,hx⟩
     exact⟨_,rfl,hx,rfl⟩
    ·refine Aa rfl fun σ w1 hC h=> ?_
     have hw:=Ab (h 140 (by decide))
     have hy:=Ab (h 142 (by decide))
     exact Yk.bin hw hy rfl (Cu _ _ _) ⟨Ext.refl _,rfl⟩
    ·refine Aa rfl fun σ w1 hC h=> ?_
     have a0:=(Ab (h 14 (by decide))).trans ae
     exact Yk.move a0 ⟨Ext.refl _,rfl⟩
    ·refine Aa rfl fun σ w1 hC h=> ?_
     have hz:=Ab (h 144 (by decide))
     refine Yk.callA2 CR hz (vr (.int .u64 ((25:Nat):Int)) rfl) ((DA _ ((Sha.turned Sj F r).getD 4 0) 25 (by decide) (by decide)).mono ?_)
     rintro e w2 ⟨rfl,hx⟩
     exact⟨_,rfl,hx,rfl⟩
    ·refine Aa rfl fun σ w1 hC h=> ?_
     have h0:=Ab (h 143 (by decide))
     have h4:=Ab (h 145 (by decide))
     exact Yk.bin h0 h4 rfl (Cu _ _ _) ⟨Ext.refl _,rfl⟩
    ·refine Aa rfl fun σ w1 hC h=> ?_
     have h5:=Ab (h 138 (by decide))
     have h6:=Ab (h 146 (by decide))
     exact Yk.bin h5 h6 rfl (BR _ _ _) ⟨Ext.refl _,rfl⟩
    ·refine Aa rfl fun σ w1 hC h=> ?_
     have a0:=(Ab (h 14 (by decide))).trans ae
     exact Yk.move a0 ⟨Ext.refl _,rfl⟩
    ·refine Aa rfl fun σ w1 hC h=> ?_
     have h7:=(Ab (h 15 (by decide))).trans ai
     exact Yk.move h7 ⟨Ext.refl _,rfl⟩
    ·refine Aa rfl fun σ w1 hC h=> ?_
     have h8:=Ab (h 148 (by decide))
     have h9:=Ab (h 149 (by decide))
     exact Yk.bin h8 h9 rfl (Ev _ _ _) ⟨Ext.refl _,rfl⟩
    ·refine Aa rfl fun σ w1 hC h=> ?_
     have a0:=(Ab (h 14 (by decide))).trans ae
     exact Yk.move a0 ⟨Ext.refl _,rfl⟩
    ·refine Aa rfl fun σ w1 hC h=> ?_
     have ia:=Ab (h 151 (by decide))
     exact Yk.not32 ia ⟨Ext.refl _,rfl⟩
    ·refine Aa rfl fun σ w1 hC h=> ?_
     have ib:=(Ab (h 16 (by decide))).trans aj
     exact Yk.move ib ⟨Ext.refl _,rfl⟩
    ·refine Aa rfl fun σ w1 hC h=> ?_
     have ic:=Ab (h 152 (by decide))
     have id:=Ab (h 153 (by decide))
     exact Yk.bin ic id rfl (Ev _ _ _) ⟨Ext.refl _,rfl⟩
    ·refine Aa rfl fun σ w1 hC h=> ?_
     have ie:=Ab (h 150 (by decide))
     have ig:=Ab (h 154 (by decide))
     exact Yk.bin ie ig rfl (Cu _ _ _) ⟨Ext.refl _,rfl⟩
    ·refine Aa rfl fun σ w1 hC h=> ?_
     have ih:=Ab (h 147 (by decide))
     have ii:=Ab (h 155 (by decide))
     exact Yk.bin ih ii rfl (BR _ _ _) ⟨Ext.refl _,rfl⟩
    ·refine Aa rfl fun σ w1 hC h=> ?_
     have ca:=(Ab (h 18 (by decide))).trans ak
     exact Yk.move ca ⟨Ext.refl _,rfl⟩
    ·refine Aa rfl fun σ w1 hC h=> ?_
     have ij:=Ab (h 157 (by decide))
     refine Yk.callA1 MR ij ((OI _ (r) (by omega)).mono ?_)
     rintro e w2 ⟨rfl,hx⟩
     exact⟨_,rfl,hx,rfl⟩
    ·refine Aa rfl fun σ w1 hC h=> ?_
     have ik:=Ab (h 156 (by decide))
     have il:=Ab (h 158 (by decide))
     exact Yk.bin ik il rfl (BR _ _ _) ⟨Ext.refl _,rfl⟩
    ·refine Aa rfl fun σ w1 hC h=> ?_
     have ca:=(Ab (h 18 (by decide))).trans ak
     exact Yk.move ca ⟨Ext.refl _,rfl⟩
    ·refine Aa rfl fun σ w1 hC h=> ?_
     have e6:=(Ab (h 6 (by decide))).trans y
     have im:=Ab (h 160 (by decide))
     exact Yk.atArr0 (i:=r) CP A9 e6 im (by omega) ⟨Ext.refl _,rfl⟩
    ·refine Aa rfl fun σ w1 hC h=> ?_
     have io:=Ab (h 161 (by decide))
     exact Yk.cell1 A8 rfl io (Ai (eb hC hb64l) (AW (i:=r) (by rw[hFl];omega))) ⟨Ext.refl _,rfl⟩
    ·refine Aa rfl fun σ w1 hC h=> ?_
     have ip:=Ab (h 159 (by decide))
     have iq:=Ab (h 162 (by decide))
     exact Yk.bin ip iq rfl (BR _ _ _) ⟨Ext.refl _,rfl⟩
    ·refine Aa rfl fun σ w1 hC h=> ?_
     have ir:=Ab (h 163 (by decide))
     exact Yk.assign ir ⟨Ext.refl _,rfl⟩
   intro iu lg bc he hf
   obtain⟨-,-,-,-,-,-,-,-,-,-,-,-,-,-,-,-,-,-,-,-,-,-,-,-,-,-,k19,-⟩:=hf
   obtain⟨p,s,k,o,n,y,u,ad,ag,ah,am,ae,ai,aj,an,ak,-⟩:=he.hold [(0,_),(2,_),(3,_),(4,_),(5,_),(6,_),(7,_),(10,_),(11,_),(12,_),(13,_),(14,_),(15,_),(16,_),(17,_),(18,_)] ⟨p,s,k,o,n,y,u,ad,ag,ah,am,ae,ai,aj,an,ak,trivial⟩ rfl
   clear he
   have hE:=hE.trans bc
   have c:=eb bc c
   have f:=f.trans bc
   have g:=Stab.own _ _ _ _ _ _ _ _ g bc
   have hb21l:=eb bc hb21l
   have aa:=aa.trans bc
   have hb64l:=eb bc hb64l
   have bm:iu 19=U ((((((Sha.turned Sj F r).getD 7 0)+(((Sha.rotr ((Sha.turned Sj F r).getD 4 0) 6)^^^(Sha.rotr ((Sha.turned Sj F r).getD 4 0) 11))^^^(Sha.rotr ((Sha.turned Sj F r).getD 4 0) 25)))+((((Sha.turned Sj F r).getD 4 0)&&&((Sha.turned Sj F r).getD 5 0))^^^((~~~((Sha.turned Sj F r).getD 4 0))&&&((Sha.turned Sj F r).getD 6 0))))+(Sha.words.getD (r) 0))+((F).getD (r) 0)):=k19
   clear k19
   refine tN (ho _ _ (sk fun lh iv=>(wt (oM rfl (oS rfl (Yk.callA2 CR ad (vr (.int .u64 ((2:Nat):Int)) rfl) ((DA _ ((Sha.turned Sj F r).getD 0 0) 2 (by decide) (by decide)).mono ?_)))))))
   rintro e li ⟨rfl,bd⟩
   refine⟨_,rfl,?_⟩
   have hE:=hE.trans bd
   have c:=eb bd c
   have f:=f.trans bd
   have g:=Stab.own _ _ _ _ _ _ _ _ g bd
   have hb21l:=eb bd hb21l
   have aa:=aa.trans bd
   have hb64l:=eb bd hb64l
   refine oM rfl (oS rfl (Yk.callA2 CR ad (vr (.int .u64 ((13:Nat):Int)) rfl) ((DA _ ((Sha.turned Sj F r).getD 0 0) 13 (by decide) (by decide)).mono ?_)))
   rintro e lj ⟨rfl,be⟩
   refine⟨_,rfl,?_⟩
   have hE:=hE.trans be
   have c:=eb be c
   have f:=f.trans be
   have g:=Stab.own _ _ _ _ _ _ _ _ g be
   have hb21l:=eb be hb21l
   have aa:=aa.trans be
   have hb64l:=eb be hb64l
   refine oS rfl (Yk.bin (vr (U (Sha.rotr ((Sha.turned Sj F r).getD 0 0) 2)) rfl) (vr (U (Sha.rotr ((Sha.turned Sj F r).getD 0 0) 13)) rfl) rfl (Cu _ _ _) (oM rfl (oS rfl (Yk.callA2 CR ad (vr (.int .u64 ((22:Nat):Int)) rfl) ((DA _ ((Sha.turned Sj F r).getD 0 0) 22 (by decide) (by decide)).mono ?_)))))
   rintro e lk ⟨rfl,bf⟩
   refine⟨_,rfl,?_⟩
   have hE:=hE.trans bf
   have c:=eb bf c
   have f:=f.trans bf
   have g:=Stab.own _ _ _ _ _ _ _ _ g bf
   have hb21l:=eb bf hb21l
   have aa:=aa.trans bf
   have hb64l:=eb bf hb64l
   refine oS rfl (Yk.bin (vr (U ((Sha.rotr ((Sha.turned Sj F r).getD 0 0) 2)^^^(Sha.rotr ((Sha.turned Sj F r).getD 0 0) 13))) rfl) (vr (U (Sha.rotr ((Sha.turned Sj F r).getD 0 0) 22)) rfl) rfl (Cu _ _ _) (oM rfl (oM rfl (oS rfl (Yk.bin ad ag rfl (Ev _ _ _) (oM rfl (oM rfl (oS rfl (Yk.bin ad ah rfl (Ev _ _ _) (oS rfl (Yk.bin (vr (U (((Sha.turned Sj F r).getD 0 0)&&&((Sha.turned Sj F r).getD 1 0))) rfl) (vr (U (((Sha.turned Sj F r).getD 0 0)&&&((Sha.turned Sj F r).getD 2 0))) rfl) rfl (Cu _ _ _) (oM rfl (oM rfl (oS rfl (Yk.bin ag ah rfl (Ev _ _ _) (oS rfl (Yk.bin (vr (U ((((Sha.turned Sj F r).getD 0 0)&&&((Sha.turned Sj F r).getD 1 0))^^^(((Sha.turned Sj F r).getD 0 0)&&&((Sha.turned Sj F r).getD 2 0)))) rfl) (vr (U (((Sha.turned Sj F r).getD 1 0)&&&((Sha.turned Sj F r).getD 2 0))) rfl) rfl (Cu _ _ _) (oS rfl (Yk.bin (vr (U (((Sha.rotr ((Sha.turned Sj F r).getD 0 0) 2)^^^(Sha.rotr ((Sha.turned Sj F r).getD 0 0) 13))^^^(Sha.rotr ((Sha.turned Sj F r).getD 0 0) 22))) rfl) (vr (U (((((Sha.turned Sj F r).getD 0 0)&&&((Sha.turned Sj F r).getD 1 0))^^^(((Sha.turned Sj F r).getD 0 0)&&&((Sha.turned Sj F r).getD 2 0)))^^^(((Sha.turned Sj F r).getD 1 0)&&&((Sha.turned Sj F r).getD 2 0)))) rfl) rfl (BR _ _ _) (oA rfl (oZ (tN (iv _ _ ?_)))))))))))))))))))))))
   refine wt (oM rfl (oM rfl (oM rfl (oM rfl (oM rfl (oS rfl (Yk.bin am bm rfl (BR _ _ _) (oM rfl (oM rfl (oM rfl (oM rfl (oM rfl (oS rfl (Yk.bin bm (vr (U ((((Sha.rotr ((Sha.turned Sj F r).getD 0 0) 2)^^^(Sha.rotr ((Sha.turned Sj F r).getD 0 0) 13))^^^(Sha.rotr ((Sha.turned Sj F r).getD 0 0) 22))+(((((Sha.turned Sj F r).getD 0 0)&&&((Sha.turned Sj F r).getD 1 0))^^^(((Sha.turned Sj F r).getD 0 0)&&&((Sha.turned Sj F r).getD 2 0)))^^^(((Sha.turned Sj F r).getD 1 0)&&&((Sha.turned Sj F r).getD 2 0))))) rfl) rfl (BR _ _ _) (oA rfl (oA rfl (oA rfl ?_)))))))))))))))))
   refine oA rfl (oA rfl (oA rfl (oA rfl (oA rfl (AH [(0,v),(2,PQ n2 0),(3,PQ m 0),(4,ab),(5,NI (64*j)),(6,PQ ac 0),(7,NI t),(10,U (((((((Sha.turned Sj F r).getD 7 0)+(((Sha.rotr ((Sha.turned Sj F r).getD 4 0) 6)^^^(Sha.rotr ((Sha.turned Sj F r).getD 4 0) 11))^^^(Sha.rotr ((Sha.turned Sj F r).getD 4 0) 25)))+((((Sha.turned Sj F r).getD 4 0)&&&((Sha.turned Sj F r).getD 5 0))^^^((~~~((Sha.turned Sj F r).getD 4 0))&&&((Sha.turned Sj F r).getD 6 0))))+(Sha.words.getD (r) 0))+((F).getD (r) 0))+((((Sha.rotr ((Sha.turned Sj F r).getD 0 0) 2)^^^(Sha.rotr ((Sha.turned Sj F r).getD 0 0) 13))^^^(Sha.rotr ((Sha.turned Sj F r).getD 0 0) 22))+(((((Sha.turned Sj F r).getD 0 0)&&&((Sha.turned Sj F r).getD 1 0))^^^(((Sha.turned Sj F r).getD 0 0)&&&((Sha.turned Sj F r).getD 2 0)))^^^(((Sha.turned Sj F r).getD 1 0)&&&((Sha.turned Sj F r).getD 2 0)))))),(11,U ((Sha.turned Sj F r).getD 0 0)),(12,U ((Sha.turned Sj F r).getD 1 0)),(13,U ((Sha.turned Sj F r).getD 2 0)),(14,U (((Sha.turned Sj F r).getD 3 0)+((((((Sha.turned Sj F r).getD 7 0)+(((Sha.rotr ((Sha.turned Sj F r).getD 4 0) 6)^^^(Sha.rotr ((Sha.turned Sj F r).getD 4 0) 11))^^^(Sha.rotr ((Sha.turned Sj F r).getD 4 0) 25)))+((((Sha.turned Sj F r).getD 4 0)&&&((Sha.turned Sj F r).getD 5 0))^^^((~~~((Sha.turned Sj F r).getD 4 0))&&&((Sha.turned Sj F r).getD 6 0))))+(Sha.words.getD (r) 0))+((F).getD (r) 0)))),(15,U ((Sha.turned Sj F r).getD 4 0)),(16,U ((Sha.turned Sj F r).getD 5 0)),(17,U ((Sha.turned Sj F r).getD 6 0)),(18,NI r),(19,U ((((((Sha.turned Sj F r).getD 7 0)+(((Sha.rotr ((Sha.turned Sj F r).getD 4 0) 6)^^^(Sha.rotr ((Sha.turned Sj F r).getD 4 0) 11))^^^(Sha.rotr ((Sha.turned Sj F r).getD 4 0) 25)))+((((Sha.turned Sj F r).getD 4 0)&&&((Sha.turned Sj F r).getD 5 0))^^^((~~~((Sha.turned Sj F r).getD 4 0))&&&((Sha.turned Sj F r).getD 6 0))))+(Sha.words.getD (r) 0))+((F).getD (r) 0))),(20,U ((((Sha.rotr ((Sha.turned Sj F r).getD 0 0) 2)^^^(Sha.rotr ((Sha.turned Sj F r).getD 0 0) 13))^^^(Sha.rotr ((Sha.turned Sj F r).getD 0 0) 22))+(((((Sha.turned Sj F r).getD 0 0)&&&((Sha.turned Sj F r).getD 1 0))^^^(((Sha.turned Sj F r).getD 0 0)&&&((Sha.turned Sj F r).getD 2 0)))^^^(((Sha.turned Sj F r).getD 1 0)&&&((Sha.turned Sj F r).getD 2 0)))))] ⟨p,s,k,o,n,y,u,rfl,ad,ag,ah,rfl,ae,ai,aj,ak,bm,rfl,trivial⟩ fun ll ⟨p,s,k,o,n,y,u,ad,ag,ah,am,ae,ai,aj,an,ak,bm,cq,_⟩=>(bN (tN (hn _ _ (wt (oM rfl (oS rfl (Yk.bin (xv:=NI r) (yv:=NI 1) ak rfl rfl (Ak _ _ _ (by omega)) (oA rfl (AH [(0,v),(2,PQ n2 0),(3,PQ m 0),(4,ab),(5,NI (64*j)),(6,PQ ac 0),(7,NI t),(10,U (((((((Sha.turned Sj F r).getD 7 0)+(((Sha.rotr ((Sha.turned Sj F r).getD 4 0) 6)^^^(Sha.rotr ((Sha.turned Sj F r).getD 4 0) 11))^^^(Sha.rotr ((Sha.turned Sj F r).getD 4 0) 25)))+((((Sha.turned Sj F r).getD 4 0)&&&((Sha.turned Sj F r).getD 5 0))^^^((~~~((Sha.turned Sj F r).getD 4 0))&&&((Sha.turned Sj F r).getD 6 0))))+(Sha.words.getD (r) 0))+((F).getD (r) 0))+((((Sha.rotr ((Sha.turned Sj F r).getD 0 0) 2)^^^(Sha.rotr ((Sha.turned Sj F r).getD 0 0) 13))^^^(Sha.rotr ((Sha.turned Sj F r).getD 0 0) 22))+(((((Sha.turned Sj F r).getD 0 0)&&&((Sha.turned Sj F r).getD 1 0))^^^(((Sha.turned Sj F r).getD 0 0)&&&((Sha.turned Sj F r).getD 2 0)))^^^(((Sha.turned Sj F r).getD 1 0)&&&((Sha.turned Sj F r).getD 2 0)))))),(11,U ((Sha.turned Sj F r).getD 0 0)),(12,U ((Sha.turned Sj F r).getD 1 0)),(13,U ((Sha.turned Sj F r).getD 2 0)),(14,U (((Sha.turned Sj F r).getD 3 0)+((((((Sha.turned Sj F r).getD 7 0)+(((Sha.rotr ((Sha.turned Sj F r).getD 4 0) 6)^^^(Sha.rotr ((Sha.turned Sj F r).getD 4 0) 11))^^^(Sha.rotr ((Sha.turned Sj F r).getD 4 0) 25)))+((((Sha.turned Sj F r).getD 4 0)&&&((Sha.turned Sj F r).getD 5 0))^^^((~~~((Sha.turned Sj F r).getD 4 0))&&&((Sha.turned Sj F r).getD 6 0))))+(Sha.words.getD (r) 0))+((F).getD (r) 0)))),(15,U ((Sha.turned Sj F r).getD 4 0)),(16,U ((Sha.turned Sj F r).getD 5 0)),(17,U ((Sha.turned Sj F r).getD 6 0)),(18,NI ((r)+(1))),(19,U ((((((Sha.turned Sj F r).getD 7 0)+(((Sha.rotr ((Sha.turned Sj F r).getD 4 0) 6)^^^(Sha.rotr ((Sha.turned Sj F r).getD 4 0) 11))^^^(Sha.rotr ((Sha.turned Sj F r).getD 4 0) 25)))+((((Sha.turned Sj F r).getD 4 0)&&&((Sha.turned Sj F r).getD 5 0))^^^((~~~((Sha.turned Sj F r).getD 4 0))&&&((Sha.turned Sj F r).getD 6 0))))+(Sha.words.getD (r) 0))+((F).getD (r) 0))),(20,U ((((Sha.rotr ((Sha.turned Sj F r).getD 0 0) 2)^^^(Sha.rotr ((Sha.turned Sj F r).getD 0 0) 13))^^^(Sha.rotr ((Sha.turned Sj F r).getD 0 0) 22))+(((((Sha.turned Sj F r).getD 0 0)&&&((Sha.turned Sj F r).getD 1 0))^^^(((Sha.turned Sj F r).getD 0 0)&&&((Sha.turned Sj F r).getD 2 0)))^^^(((Sha.turned Sj F r).getD 1 0)&&&((Sha.turned Sj F r).getD 2 0)))))] ⟨p,s,k,o,n,y,u,ad,ag,ah,am,ae,ai,aj,an,rfl,bm,cq,trivial⟩ fun iw ⟨p,s,k,o,n,y,u,ad,ag,ah,am,ae,ai,aj,an,ak,bm,cq,_⟩=> ?_))))))))))))))
   refine tN (And.intro ⟨r+1,p,s,k,o,n,y,u,ak,ad.trans (congrArg (fun z=>U z) (UInt32.add_assoc _ _ _).symm),ag,ah,am,ae,ai,aj,an,hE,c,f,g,hb21l,aa,hb64l,by omega,trivial⟩ ?_)
   show 64-(intOf (iw 18)).toNat<64-(intOf (hd 18)).toNat
   rw[ak,q18]
   simp only[intOf,Int.toNat_natCast];omega
  obtain⟨T,hT⟩:∃T,T=Sha.turned Sj F 64:=⟨_,rfl⟩
  have hTl:T.length=8:=by rw[hT,Sha.turned_length _ _ hSl]
  have hr64e:r=64:=by omega
  rw[hr64e,←hT]at ad ag ah am ae ai aj an
  refine AJ (Ag (Ag (Ap (tN (ha _ _ (sk fun lm ix=>(wt (oS rfl (Yk.atArr0 (i:=0) Bf A9 k (vr (NI 0) rfl) (by omega) (oS rfl (Yk.cell1 A8 rfl (vr (PQ m 0) rfl) (Ai hb21l (AW (i:=0) (by rw[hSl];omega))) (oM rfl (oS rfl (Yk.bin (vr (U ((Sj).getD (0) 0)) rfl) ad rfl (BR _ _ _) (oS rfl (Yk.atArr0 (i:=0) Bf A9 k (vr (NI 0) rfl) (by omega) (oS rfl (Yk.storeU32 (i:=0) (v:=((Sj).getD (0) 0)+(T.getD 0 0)) (vr (PQ m 0) rfl) (vr (U (((Sj).getD (0) 0)+(T.getD 0 0))) rfl) hb21l (by rw[hSl];omega) F0 fun iy cr bt ln=> ?_))))))))))))))))))
  have hE:=Ac hE bt (Nat.le_trans aw (by omega))
  have c:=kb bt c (by omega)
  have f:=Ac f bt (Nat.le_trans (Nat.le_refl _) (by omega))
  have g:=A7 g bt a1
  clear hb21l
  clear aa
  have hb64l:=kb bt hb64l (by omega)
  have hb21l:=cr;clear cr
  have lo:=bl hb21l
  refine oZ ?_
  have hb21l:iy.heap[m]? =some (.cells ((Sha.adding Sj T 1).map fun x=>U x).toArray 88 (0,0)):=AZ hb21l (rfl)
  refine tN (ix _ _ (sk fun lp iz=>(wt (oS rfl (Yk.atArr0 (i:=1) Bf A9 k (vr (NI 1) rfl) (by omega) (oS rfl (Yk.cell1 A8 rfl (vr (PQ m 1) rfl) (Ai hb21l (AW (i:=1) (by rw[Sha.adding_length,hSl];omega))) (oM rfl (oS rfl (Yk.bin (vr (U ((Sha.adding Sj T 1).getD (1) 0)) rfl) ag rfl (BR _ _ _) (oS rfl (Yk.atArr0 (i:=1) Bf A9 k (vr (NI 1) rfl) (by omega) (oS rfl (Yk.storeU32 (i:=1) (v:=((Sha.adding Sj T 1).getD (1) 0)+(T.getD 1 0)) (vr (PQ m 1) rfl) (vr (U (((Sha.adding Sj T 1).getD (1) 0)+(T.getD 1 0))) rfl) hb21l (by rw[Sha.adding_length,hSl];omega) F0 fun i0 ct bu lq=> ?_))))))))))))))
  have hE:=Ac hE bu (Nat.le_trans aw (by omega))
  have c:=kb bu c (by omega)
  have f:=Ac f bu (Nat.le_trans (Nat.le_refl _) (by omega))
  have g:=A7 g bu a1
  have hb64l:=kb bu hb64l (by omega)
  clear hb21l
  have hb21l:=ct;clear ct
  have lr:=bl hb21l
  refine oZ ?_
  have hb21l:i0.heap[m]? =some (.cells ((Sha.adding Sj T 2).map fun x=>U x).toArray 88 (0,0)):=AZ hb21l (rfl)
  refine tN (iz _ _ (sk fun ls i1=>(wt (oS rfl (Yk.atArr0 (i:=2) Bf A9 k (vr (NI 2) rfl) (by omega) (oS rfl (Yk.cell1 A8 rfl (vr (PQ m 2) rfl) (Ai hb21l (AW (i:=2) (by rw[Sha.adding_length,hSl];omega))) (oM rfl (oS rfl (Yk.bin (vr (U ((Sha.adding Sj T 2).getD (2) 0)) rfl) ah rfl (BR _ _ _) (oS rfl (Yk.atArr0 (i:=2) Bf A9 k (vr (NI 2) rfl) (by omega) (oS rfl (Yk.storeU32 (i:=2) (v:=((Sha.adding Sj T 2).getD (2) 0)+(T.getD 2 0)) (vr (PQ m 2) rfl) (vr (U (((Sha.adding Sj T 2).getD (2) 0)+(T.getD 2 0))) rfl) hb21l (by rw[Sha.adding_length,hSl];omega) F0 fun i2 cu bv lt=> ?_))))))))))))))
  have hE:=Ac hE bv (Nat.le_trans aw (by omega))
  have c:=kb bv c (by omega)
  have f:=Ac f bv (Nat.le_trans (Nat.le_refl _) (by omega))
  have g:=A7 g bv a1
  have hb64l:=kb bv hb64l (by omega)
  clear hb21l
  have hb21l:=cu;clear cu
  have lu:=bl hb21l
  refine oZ ?_
  have hb21l:i2.heap[m]? =some (.cells ((Sha.adding Sj T 3).map fun x=>U x).toArray 88 (0,0)):=AZ hb21l (rfl)
  refine tN (i1 _ _ (sk fun lv i3=>(wt (oS rfl (Yk.atArr0 (i:=3) Bf A9 k (vr (NI 3) rfl) (by omega) (oS rfl (Yk.cell1 A8 rfl (vr (PQ m 3) rfl) (Ai hb21l (AW (i:=3) (by rw[Sha.adding_length,hSl];omega))) (oM rfl (oS rfl (Yk.bin (vr (U ((Sha.adding Sj T 3).getD (3) 0)) rfl) am rfl (BR _ _ _) (oS rfl (Yk.atArr0 (i:=3) Bf A9 k (vr (NI 3) rfl) (by omega) (oS rfl (Yk.storeU32 (i:=3) (v:=((Sha.adding Sj T 3).getD (3) 0)+(T.getD 3 0)) (vr (PQ m 3) rfl) (vr (U (((Sha.adding Sj T 3).getD (3) 0)+(T.getD 3 0))) rfl) hb21l (by rw[Sha.adding_length,hSl];omega) F0 fun i4 cv bw lw=> ?_))))))))))))))
  have hE:=Ac hE bw (Nat.le_trans aw (by omega))
  have c:=kb bw c (by omega)
  have f:=Ac f bw (Nat.le_trans (Nat.le_refl _) (by omega))
  have g:=A7 g bw a1
  have hb64l:=kb bw hb64l (by omega)
  clear hb21l
  have hb21l:=cv;clear cv
  have lx:=bl hb21l
  refine oZ ?_
  have hb21l:i4.heap[m]? =some (.cells ((Sha.adding Sj T 4).map fun x=>U x).toArray 88 (0,0)):=AZ hb21l (rfl)
  refine tN (i3 _ _ (sk fun ly i5=>(wt (oS rfl (Yk.atArr0 (i:=4) Bf A9 k (vr (NI 4) rfl) (by omega) (oS rfl (Yk.cell1 A8 rfl (vr (PQ m 4) rfl) (Ai hb21l (AW (i:=4) (by rw[Sha.adding_length,hSl];omega))) (oM rfl (oS rfl (Yk.bin (vr (U ((Sha.adding Sj T 4).getD (4) 0)) rfl) ae rfl (BR _ _ _) (oS rfl (Yk.atArr0 (i:=4) Bf A9 k (vr (NI 4) rfl) (by omega) (oS rfl (Yk.storeU32 (i:=4) (v:=((Sha.adding Sj T 4).getD (4) 0)+(T.getD 4 0)) (vr (PQ m 4) rfl) (vr (U (((Sha.adding Sj T 4).getD (4) 0)+(T.getD 4 0))) rfl) hb21l (by rw[Sha.adding_length,hSl];omega) F0 fun i6 cw bx lz=> ?_))))))))))))))
  have hE:=Ac hE bx (Nat.le_trans aw (by omega))
  have c:=kb bx c (by omega)
  have f:=Ac f bx (Nat.le_trans (Nat.le_refl _) (by omega))
  have g:=A7 g bx a1
  have hb64l:=kb bx hb64l (by omega)
  clear hb21l
  have hb21l:=cw;clear cw
  have l0:=bl hb21l
  refine oZ ?_
  have hb21l:i6.heap[m]? =some (.cells ((Sha.adding Sj T 5).map fun x=>U x).toArray 88 (0,0)):=AZ hb21l (rfl)
  refine tN (i5 _ _ (sk fun l1 i7=>(wt (oS rfl (Yk.atArr0 (i:=5) Bf A9 k (vr (NI 5) rfl) (by omega) (oS rfl (Yk.cell1 A8 rfl (vr (PQ m 5) rfl) (Ai hb21l (AW (i:=5) (by rw[Sha.adding_length,hSl];omega))) (oM rfl (oS rfl (Yk.bin (vr (U ((Sha.adding Sj T 5).getD (5) 0)) rfl) ai rfl (BR _ _ _) (oS rfl (Yk.atArr0 (i:=5) Bf A9 k (vr (NI 5) rfl) (by omega) (oS rfl (Yk.storeU32 (i:=5) (v:=((Sha.adding Sj T 5).getD (5) 0)+(T.getD 5 0)) (vr (PQ m 5) rfl) (vr (U (((Sha.adding Sj T 5).getD (5) 0)+(T.getD 5 0))) rfl) hb21l (by rw[Sha.adding_length,hSl];omega) F0 fun i8 cx bz l2=> ?_))))))))))))))
  have hE:=Ac hE bz (Nat.le_trans aw (by omega))
  have c:=kb bz c (by omega)
  have f:=Ac f bz (Nat.le_trans (Nat.le_refl _) (by omega))
  have g:=A7 g bz a1
  have hb64l:=kb bz hb64l (by omega)
  clear hb21l
  have hb21l:=cx;clear cx
  have l3:=bl hb21l
  refine oZ ?_
  have hb21l:i8.heap[m]? =some (.cells ((Sha.adding Sj T 6).map fun x=>U x).toArray 88 (0,0)):=AZ hb21l (rfl)
  refine tN (i7 _ _ (sk fun l4 i9=>(wt (oS rfl (Yk.atArr0 (i:=6) Bf A9 k (vr (NI 6) rfl) (by omega) (oS rfl (Yk.cell1 A8 rfl (vr (PQ m 6) rfl) (Ai hb21l (AW (i:=6) (by rw[Sha.adding_length,hSl];omega))) (oM rfl (oS rfl (Yk.bin (vr (U ((Sha.adding Sj T 6).getD (6) 0)) rfl) aj rfl (BR _ _ _) (oS rfl (Yk.atArr0 (i:=6) Bf A9 k (vr (NI 6) rfl) (by omega) (oS rfl (Yk.storeU32 (i:=6) (v:=((Sha.adding Sj T 6).getD (6) 0)+(T.getD 6 0)) (vr (PQ m 6) rfl) (vr (U (((Sha.adding Sj T 6).getD (6) 0)+(T.getD 6 0))) rfl) hb21l (by rw[Sha.adding_length,hSl];omega) F0 fun ja cy b0 l5=> ?_))))))))))))))
  have hE:=Ac hE b0 (Nat.le_trans aw (by omega))
  have c:=kb b0 c (by omega)
  have f:=Ac f b0 (Nat.le_trans (Nat.le_refl _) (by omega))
  have g:=A7 g b0 a1
  have hb64l:=kb b0 hb64l (by omega)
  clear hb21l
  have hb21l:=cy;clear cy
  have l6:=bl hb21l
  refine oZ ?_
  have hb21l:ja.heap[m]? =some (.cells ((Sha.adding Sj T 7).map fun x=>U x).toArray 88 (0,0)):=AZ hb21l (rfl)
  refine tN (i9 _ _ (wt (oS rfl (Yk.atArr0 (i:=7) Bf A9 k (vr (NI 7) rfl) (by omega) (oS rfl (Yk.cell1 A8 rfl (vr (PQ m 7) rfl) (Ai hb21l (AW (i:=7) (by rw[Sha.adding_length,hSl];omega))) (oM rfl (oS rfl (Yk.bin (vr (U ((Sha.adding Sj T 7).getD (7) 0)) rfl) an rfl (BR _ _ _) (oS rfl (Yk.atArr0 (i:=7) Bf A9 k (vr (NI 7) rfl) (by omega) (oS rfl (Yk.storeU32 (i:=7) (v:=((Sha.adding Sj T 7).getD (7) 0)+(T.getD 7 0)) (vr (PQ m 7) rfl) (vr (U (((Sha.adding Sj T 7).getD (7) 0)+(T.getD 7 0))) rfl) hb21l (by rw[Sha.adding_length,hSl];omega) F0 fun jb cz b1 l7=> ?_)))))))))))))
  have hE:=Ac hE b1 (Nat.le_trans aw (by omega))
  have c:=kb b1 c (by omega)
  have f:=Ac f b1 (Nat.le_trans (Nat.le_refl _) (by omega))
  have g:=A7 g b1 a1
  have hb64l:=kb b1 hb64l (by omega)
  clear hb21l
  have hb21l:=cz;clear cz
  have l8:=bl hb21l
  refine AH [(0,v),(2,PQ n2 0),(3,PQ m 0),(4,ab),(5,NI (64*j)),(6,PQ ac 0),(7,NI t),(10,U (T.getD 0 0)),(11,U (T.getD 1 0)),(12,U (T.getD 2 0)),(13,U (T.getD 3 0)),(14,U (T.getD 4 0)),(15,U (T.getD 5 0)),(16,U (T.getD 6 0)),(17,U (T.getD 7 0)),(18,NI r)] ⟨p,s,k,o,n,y,u,ad,ag,ah,am,ae,ai,aj,an,ak,trivial⟩ fun l9 ⟨p,s,k,o,n,y,u,ad,ag,ah,am,ae,ai,aj,an,ak,_⟩=> ?_
  have hb21l:jb.heap[m]? =some (.cells ((Sha.adding Sj T 8).map fun x=>U x).toArray 88 (0,0)):=AZ hb21l (rfl)
  refine bN (tN (dq _ _ (wt (oM rfl (oS rfl (Yk.bin (xv:=NI (64*j)) (yv:=NI 64) n rfl rfl (Ak _ _ _ (by omega)) (oA rfl (AH [(0,v),(2,PQ n2 0),(3,PQ m 0),(4,ab),(5,NI ((64*j)+(64))),(6,PQ ac 0),(7,NI t),(10,U (T.getD 0 0)),(11,U (T.getD 1 0)),(12,U (T.getD 2 0)),(13,U (T.getD 3 0)),(14,U (T.getD 4 0)),(15,U (T.getD 5 0)),(16,U (T.getD 6 0)),(17,U (T.getD 7 0)),(18,NI r)] ⟨p,s,k,o,rfl,y,u,ad,ag,ah,am,ae,ai,aj,an,ak,trivial⟩ fun jc ⟨p,s,k,o,n,y,u,ad,ag,ah,am,ae,ai,aj,an,ak,_⟩=>(tN (And.intro ⟨j+1,p,s,k,o,n,hE,c,f,g,AZ hb21l (congrArg (List.map fun x=>U x) (by rw[Sha.add8 hSl hTl,hT,hF,Sha.blocks_snoc,←hSj,←hB];rfl)),by omega,trivial⟩ ?_))))))))))
  show P.length-(intOf (jc 5)).toNat<P.length-(intOf (dk 5)).toNat
  rw[n,q5]
  simp only[intOf,Int.toNat_natCast];omega
 obtain⟨Sf,hSe⟩:∃Sf,Sf=Sha.blocks Sha.first P j:=⟨_,rfl⟩
 have hb21l:a3.heap[m]? =some (.cells (Sf.map fun x=>U x).toArray 88 (0,0)):=AZ hb21l (by rw[hSe])
 have hSf:Sf.length=8:=by rw[hSe,Sha.blocks_length _ _ _ rfl]
 have hjK:j=P.length/64:=by omega
 refine AJ (Ag (Ag (Ap (tN (di _ _ (sk fun ma jd=>(wt (oS rfl (Yk.alloc (cs:=(Lib.byteCells (List.replicate 32 0)).toArray) NH fun au je c0 c1 bn mb=> ?_)))))))))
 have aq:=Ext.refl a3
 have mc:=hE
 have md:=f
 have b2:=hE.size
 have b3:=f.size
 have me:=AT (bl c) c0
 have mf:=AT (bl hb21l) c0
 have b4:OB ab au:=AV g (by omega)
 have hE:=hE.trans bn
 have c:=eb bn c
 have f:=f.trans bn
 have g:=Stab.own _ _ _ _ _ _ _ _ g bn
 have hb21l:=eb bn hb21l
 have aq:=aq.trans bn
 have c2:=c1;clear c1
 have mg:au<je.heap.size:=by omega
 refine oZ (tN (jd _ _ (sk fun mh jf=>(sk fun mi jg=>(wt (oA rfl (AH [(0,v),(2,PQ n2 0),(3,PQ m 0),(4,ab),(5,NI (64*j)),(21,PQ au 0),(22,NI 0)] ⟨p,s,k,o,n,rfl,rfl,trivial⟩ fun mj ⟨p,s,k,o,n,av,ao,_⟩=>(tN (jg _ _ (Aj (AX (fun(ρ:Aq) (wz:World)=>∃q:Nat,ρ 0=(v:Value)∧ρ 2=(PQ n2 0:Value)∧ρ 3=(PQ m 0:Value)∧ρ 4=(ab:Value)∧ρ 5=(NI (64*j):Value)∧ρ 21=(PQ au 0:Value)∧ρ 22=(NI q:Value)∧Ext w wz∧wz.heap[n2]? =some (.cells (Lib.byteCells (List.replicate 32 0)).toArray 38 (0,0))∧Ext w3 wz∧wz.ownsRow bh.heap.size 5 1 ab (P:List UInt8).length (Lib.byteCells (P))∧wz.heap[m]? =some (.cells (Sf.map fun x=>U x).toArray 88 (0,0))∧Ext a3 wz∧wz.heap[au]? =some (.cells (Lib.byteCells (Sha.outs Sf q)).toArray 38 (0,0))∧(q≤8)∧True) (fun ρ _=>8-(intOf (ρ 22)).toNat) ⟨0,p,s,k,o,n,av,ao,hE,c,f,g,hb21l,aq,AZ c2 (rfl),Nat.zero_le _,trivial⟩ ?_)))))))))))
 clear c2
 clear hE c f g hb21l aq
 rintro jh mk ⟨q,p,s,k,o,n,av,ao,hE,c,f,g,hb21l,aq,hb197l,hq,-⟩
 have q22:=ao
 refine sk fun ml ji=>(sk fun mm jj=>(wt (oM rfl (oS rfl (Yk.eqI (a:=(q:Nat)) (b:=(8:Nat)) ao rfl (AN _ _ _ _) (oZ (tN (jj _ _ ?_))))))))
 refine AO ((q)<(8)) (vr (.bool (decide ((q)<(8)))) rfl) (fun c3=> ?_) (fun c3=> ?_)
 ·refine Ah (tN (ji _ _ (sk fun mn jk=>(Aj (sk fun mo jl=>(wt (oM rfl (oS rfl (Yk.bin (xv:=NI 4) (yv:=NI q) rfl ao rfl (BG _ _ _ (by omega)) (oM rfl (oS rfl (Yk.atArr0 (i:=q) Bf A9 k ao (by omega) (oS rfl (Yk.cell1 A8 rfl (vr (PQ m q) rfl) (Ai hb21l (AW (i:=q) (by rw[hSf];omega))) (oS rfl (Yk.bin (vr (U ((Sf).getD (q) 0)) rfl) (vr (.int .u64 ((24:Nat):Int)) rfl) rfl (D5 _ _ _ 24 (by decide)) (oS rfl (Yk.narrow A8 u5 (vr (U (((Sf).getD (q) 0)>>>24)) rfl) (oS rfl (Yk.atArr0 (i:=(4)*(q)) Ow Ls av (vr (NI ((4)*(q))) rfl) (by omega) (oS rfl (Yk.storeB8 (i:=(4)*(q)) (v:=(((Sf).getD (q) 0)>>>24).toUInt8) (vr (.pointer (some ⟨au,(4)*(q),none⟩)) rfl) (vr (B8 ((((Sf).getD (q) 0)>>>24).toUInt8)) rfl) hb197l (by rw[Sha.outs_length _ hSf _ (by omega)];omega) O3 fun mp c4 bo mq=> ?_))))))))))))))))))))))
  have hE:=Ac hE bo (Nat.le_trans b2 (by omega))
  have c:=kb bo c (by omega)
  have f:=Ac f bo (Nat.le_trans b3 (by omega))
  have g:=A7 g bo b4
  have hb21l:=kb bo hb21l (by omega)
  have aq:=Ac aq bo (Nat.le_trans (Nat.le_refl _) (by omega))
  clear hb197l
  have hb197l:=c4;clear c4
  have mr:=bl hb197l
  refine oZ (tN (jl _ _ (sk fun ms jm=>(wt (oM rfl (oS rfl (Yk.bin (xv:=NI 4) (yv:=NI q) rfl ao rfl (BG _ _ _ (by omega)) (oS rfl (Yk.bin (xv:=NI ((4)*(q))) (yv:=NI 1) rfl rfl rfl (Ak _ _ _ (by omega)) (oM rfl (oS rfl (Yk.atArr0 (i:=q) Bf A9 k ao (by omega) (oS rfl (Yk.cell1 A8 rfl (vr (PQ m q) rfl) (Ai hb21l (AW (i:=q) (by rw[hSf];omega))) (oS rfl (Yk.bin (vr (U ((Sf).getD (q) 0)) rfl) (vr (.int .u64 ((16:Nat):Int)) rfl) rfl (D5 _ _ _ 16 (by decide)) (oS rfl (Yk.narrow A8 u5 (vr (U (((Sf).getD (q) 0)>>>16)) rfl) (oS rfl (Yk.atArr0 (i:=((4)*(q))+(1)) Ow Ls av (vr (NI (((4)*(q))+(1))) rfl) (by omega) (oS rfl (Yk.storeB8 (i:=((4)*(q))+(1)) (v:=(((Sf).getD (q) 0)>>>16).toUInt8) (vr (.pointer (some ⟨au,((4)*(q))+(1),none⟩)) rfl) (vr (B8 ((((Sf).getD (q) 0)>>>16).toUInt8)) rfl) hb197l (by rw[List.length_set,Sha.outs_length _ hSf _ (by omega)];omega) O3 fun mt c5 bp mu=> ?_))))))))))))))))))))))
  have hE:=Ac hE bp (Nat.le_trans b2 (by omega))
  have c:=kb bp c (by omega)
  have f:=Ac f bp (Nat.le_trans b3 (by omega))
  have g:=A7 g bp b4
  have hb21l:=kb bp hb21l (by omega)
  have aq:=Ac aq bp (Nat.le_trans (Nat.le_refl _) (by omega))
  clear hb197l
  have hb197l:=c5;clear c5
  have mv:=bl hb197l
  refine oZ (tN (jm _ _ (sk fun mw jn=>(wt (oM rfl (oS rfl (Yk.bin (xv:=NI 4) (yv:=NI q) rfl ao rfl (BG _ _ _ (by omega)) (oS rfl (Yk.bin (xv:=NI ((4)*(q))) (yv:=NI 2) rfl rfl rfl (Ak _ _ _ (by omega)) (oM rfl (oS rfl (Yk.atArr0 (i:=q) Bf A9 k ao (by omega) (oS rfl (Yk.cell1 A8 rfl (vr (PQ m q) rfl) (Ai hb21l (AW (i:=q) (by rw[hSf];omega))) (oS rfl (Yk.bin (vr (U ((Sf).getD (q) 0)) rfl) (vr (.int .u64 ((8:Nat):Int)) rfl) rfl (D5 _ _ _ 8 (by decide)) (oS rfl (Yk.narrow A8 u5 (vr (U (((Sf).getD (q) 0)>>>8)) rfl) (oS rfl (Yk.atArr0 (i:=((4)*(q))+(2)) Ow Ls av (vr (NI (((4)*(q))+(2))) rfl) (by omega) (oS rfl (Yk.storeB8 (i:=((4)*(q))+(2)) (v:=(((Sf).getD (q) 0)>>>8).toUInt8) (vr (.pointer (some ⟨au,((4)*(q))+(2),none⟩)) rfl) (vr (B8 ((((Sf).getD (q) 0)>>>8).toUInt8)) rfl) hb197l (by rw[List.length_set,List.length_set,Sha.outs_length _ hSf _ (by omega)];omega) O3 fun mx c6 bq my=> ?_))))))))))))))))))))))
  have hE:=Ac hE bq (Nat.le_trans b2 (by omega))
  have c:=kb bq c (by omega)
  have f:=Ac f bq (Nat.le_trans b3 (by omega))
  have g:=A7 g bq b4
  have hb21l:=kb bq hb21l (by omega)
  have aq:=Ac aq bq (Nat.le_trans (Nat.le_refl _) (by omega))
  clear hb197l
  have hb197l:=c6;clear c6
  have mz:=bl hb197l
  refine oZ (tN (jn _ _ (wt (oM rfl (oS rfl (Yk.bin (xv:=NI 4) (yv:=NI q) rfl ao rfl (BG _ _ _ (by omega)) (oS rfl (Yk.bin (xv:=NI ((4)*(q))) (yv:=NI 3) rfl rfl rfl (Ak _ _ _ (by omega)) (oM rfl (oS rfl (Yk.atArr0 (i:=q) Bf A9 k ao (by omega) (oS rfl (Yk.cell1 A8 rfl (vr (PQ m q) rfl) (Ai hb21l (AW (i:=q) (by rw[hSf];omega))) (oS rfl (Yk.narrow A8 u5 (vr (U ((Sf).getD (q) 0)) rfl) (oS rfl (Yk.atArr0 (i:=((4)*(q))+(3)) Ow Ls av (vr (NI (((4)*(q))+(3))) rfl) (by omega) (oS rfl (Yk.storeB8 (i:=((4)*(q))+(3)) (v:=((Sf).getD (q) 0).toUInt8) (vr (.pointer (some ⟨au,((4)*(q))+(3),none⟩)) rfl) (vr (B8 (((Sf).getD (q) 0).toUInt8)) rfl) hb197l (by rw[List.length_set,List.length_set,List.length_set,Sha.outs_length _ hSf _ (by omega)];omega) O3 fun m0 c7 br m1=> ?_)))))))))))))))))))
  have hE:=Ac hE br (Nat.le_trans b2 (by omega))
  have c:=kb br c (by omega)
  have f:=Ac f br (Nat.le_trans b3 (by omega))
  have g:=A7 g br b4
  have hb21l:=kb br hb21l (by omega)
  have aq:=Ac aq br (Nat.le_trans (Nat.le_refl _) (by omega))
  clear hb197l
  have hb197l:=c7;clear c7
  have m2:=bl hb197l
  refine oZ (bN (tN (jk _ _ (wt (oM rfl (oS rfl (Yk.bin (xv:=NI q) (yv:=NI 1) ao rfl rfl (Ak _ _ _ (by omega)) (oA rfl (AH [(0,v),(2,PQ n2 0),(3,PQ m 0),(4,ab),(5,NI (64*j)),(21,PQ au 0),(22,NI ((q)+(1)))] ⟨p,s,k,o,n,av,rfl,trivial⟩ fun jo ⟨p,s,k,o,n,av,ao,_⟩=>(tN (And.intro ⟨q+1,p,s,k,o,n,av,ao,hE,c,f,g,hb21l,aq,AZ hb197l (congrArg Lib.byteCells (Sha.outs_step Sf hSf q c3)),by omega,trivial⟩ ?_)))))))))))
  show 8-(intOf (jo 22)).toNat<8-(intOf (jh 22)).toNat
  rw[ao,q22]
  simp only[intOf,Int.toNat_natCast];omega
 refine AJ (Ag (Ag (Ap (tN (jf _ _ (sk fun m3 jp=>(wt (oS rfl (Yk.loadAll av hb197l Ow rfl (by rw[List.size_toArray,Lib.byteCells_length,Sha.outs_length _ hSf _ (by omega)];exact L9) (oS rfl (Yk.storeAll s (vr (AB (Sha.outs Sf q)) rfl) c (by rw[List.size_toArray,Lib.byteCells_length,Sha.outs_length _ hSf _ (by omega)];rfl) (by rw[List.size_toArray,Lib.byteCells_length,Sha.outs_length _ hSf _ (by omega)];exact L9) (AF _) fun m4 c8 b5 m5=> ?_)))))))))))
 have hE:=Ac hE b5 (Nat.le_trans (Nat.le_refl _) (by omega))
 clear c
 clear f
 have g:=A7 g b5 dh
 have hb21l:=kb b5 hb21l (by omega)
 clear aq
 have hb197l:=kb b5 hb197l (by omega)
 have c:=c8;clear c8
 have m6:=bl c
 refine oZ (tN (jp _ _ (As (Ao (fn:=Tryd.f21) _ rfl [AB (Sha.outs Sf q)] (AB (Sha.outs Sf q)) rfl ⟨ResF.row s c Ow rfl (by rw[List.size_toArray,Lib.byteCells_length,Sha.outs_length _ hSf _ (by omega)];exact L9),trivial⟩ ?_))))
 refine⟨?_,hE⟩
 have e:Sha.outs Sf q=Sha.sum l:=by rw[show q=8 by omega,Sha.outs_all Sf hSf,hSe,hjK,hP];rfl
 rw[e]
open Go.RowKit
structure Pt where
  v:Value
  bytes:Bs
  base:Int
def dPt:Pt:=⟨.slice none 0 0,[],0⟩
def partC(p:Pt):List Value:= [p.v, .int .i64 p.base]
def PartsOk(w:World)(ps:List Pt):Prop:=∀p∈ps,RB w p.v p.bytes ∧ -9223372036854775808≤p.base∧p.base≤9223372036854775807
theorem PartsOk.keep{w w' :World}{ps:List Pt}(h:PartsOk w ps)(k:Ext w w'):PartsOk w' ps:=fun p hp=>⟨(h p hp).1.keep k,(h p hp).2⟩
theorem A6{α:Type}{l:List α}{i:Nat}(d:α)(h:i<l.length):l.getD i d∈l:=by
  rw[List.getD_eq_getElem?_getD,List.getElem?_eq_getElem h]
  exact List.getElem_mem h
theorem partC_one{p:Pt}(h:p.v.cells = #[p.v]∧p.v.oneCell' =true):∀u∈partC p,u.oneCell' =true:=by
  intro u hu
  simp only[partC,List.mem_cons,List.not_mem_nil,or_false]at hu
  rcases hu with rfl | rfl
  · exact h.2
  · rfl
structure BS where
  b:Bs
  ids:List Bs
  places:List Nat
  depths:List Nat
  total:Nat
def Bh(s:Bs):Bs:=Lib.uvarint s.length++s
def depthB(p:Pt)(s:BS):Nat:=if p.base<0 then 0 else s.depths.getD p.base.toNat 0+1
def bnext(ps:List Pt)(p:Pt)(s:BS):BS:=
  { b:=if p.base<0 then s.b++ [0]++Bh p.bytes else s.b++ [1]++s.ids.getD p.base.toNat []++Bh (Bv (ps.getD p.base.toNat dPt).bytes p.bytes)
    ids:=s.ids++ [Sha.sum p.bytes],places:=s.places++ [s.b.length],depths:=s.depths++ [depthB p s],total:=s.total+p.bytes.length }
def Em(ps:List Pt)(i:Nat)(s:BS):Except Nat BS:=
  if(ps.getD i dPt).base < -1∨(i:Int)≤(ps.getD i dPt).base then .error 1
  else if Sha.sum (ps.getD i dPt).bytes∈s.ids then .error 11
  else if 50<depthB (ps.getD i dPt) s then .error 17
  else .ok (bnext ps (ps.getD i dPt) s)
def CS(ps:List Pt):Nat→Except Nat BS
  | 0=> .ok ⟨80 :: Lib.uvarint ps.length,[],[],[],0⟩
  | i+1=>match CS ps i with
    | .error e=> .error e
    | .ok s=>Em ps i s
theorem Er{ps:List Pt}{e:Nat}:∀ {i:Nat} (_:CS ps i = .error e) (k:Nat),CS ps (i+k) = .error e
  | _,h,0=>h
  | i,h,k+1=>by
    show(match CS ps (i+k)with | .error e=>_ | .ok s=>_)=_
    rw[Er h k]
theorem Dp{ps:List Pt}{i:Nat}{s:BS}(h:CS ps i = .ok s):CS ps (i+1)=Em ps i s:=by
  show(match CS ps i with | .error e=>_ | .ok s=>_)=_
  rw[h]
def Bo(s:BS)(id:Bs):Option Nat:=(s.ids.zip s.places).lookup id
def Co(ps:List Pt):Prop:=ps.length≤60∧∀p∈ps,p.bytes.length≤200
structure BOk (i : Nat) (s : BS) : Prop where
  ids:s.ids.length=i
  places:s.places.length=i
  depths:s.depths.length=i
  len:∀id∈s.ids,id.length=32
  b:s.b.length≤10+500*i
  pl:∀p∈s.places,p≤10+500*i
  dp:∀d∈s.depths,d≤50
  total:s.total≤200*i
theorem JN{n:Nat}(h:n<16384):(Lib.uvarint n).length≤2:=by
  by_cases h1:n<128
  · rw[Lib.uvarint_small h1];simp
  · rw[Lib.uvarint_big (by omega),Lib.uvarint_small (by omega)];simp
theorem C8{α β:Type}[BEq α][LawfulBEq α]:∀(l:List α) (m:List β) (x:α),x∉l→(l.zip m).lookup x=none
  | [],_,_,_=>by simp
  | _ :: _,[],_,_=>by simp
  | a :: l,b :: m,x,h=>by
    simp only[List.mem_cons,not_or]at h
    rw[List.zip_cons_cons,List.lookup_cons,C8 l m x h.2]
    have:(x==a)=false:=by simpa using h.1
    rw[this]
theorem DE{α β:Type}[BEq α][LawfulBEq α]:∀(l:List α) (m:List β) (x:α),l.length=m.length→x∈l→∃y,(l.zip m).lookup x=some y∧y∈m
  | [],_,_,_,h=>by simp at h
  | _ :: _,[],_,h,_=>by simp at h
  | a :: l,b :: m,x,hl,h=>by
    rw[List.zip_cons_cons,List.lookup_cons]
    by_cases e:x=a
    · subst e
      exact⟨b,by simp,by simp⟩
    · have:(x==a)=false:=by simpa using e
      rw[this]
      obtain⟨y,h1,h2⟩:=DE l m x (by simpa using hl) ((List.mem_cons.1 h).resolve_left e)
      exact⟨y,h1,by simp[h2]⟩
theorem Fk{α β:Type}[BEq α][LawfulBEq α][DecidableEq α]:∀(l:List α) (m:List β) (a:α) (b:β),l.length=m.length→a∉l→(fun x=>((l++ [a]).zip (m++ [b])).lookup x)=updM (fun x=>(l.zip m).lookup x) a (some b)
  | [],[],a,b,_,_=>by
    funext x
    unfold updM
    simp only[List.nil_append,List.zip_cons_cons,List.zip_nil_left,List.lookup_cons,List.lookup_nil]
    by_cases e:x=a
    · simp[e]
    · have:(x==a)=false:=by simpa using e
      simp[e,this]
  | [],_ :: _,_,_,h,_=>by simp at h
  | _ :: _,[],_,_,h,_=>by simp at h
  | c :: l,d :: m,a,b,hl,h=>by
    simp only[List.mem_cons,not_or]at h
    have ih:=Fk l m a b (by simpa using hl) h.2
    funext x
    have ihx:=congrFun ih x
    unfold updM at ihx ⊢
    simp only[List.cons_append,List.zip_cons_cons,List.lookup_cons,ihx]
    by_cases e:x=a
    · subst e
      have:(x==c)=false:=by simpa using h.1
      simp[this]
    · simp[e]
theorem GI{ps:List Pt}{p:Pt}{i:Nat}{s:BS}(h:BOk i s)(hn:Sha.sum p.bytes∉s.ids):Bo (bnext ps p s)=updM (Bo s) (Sha.sum p.bytes) (some s.b.length):=by
  have:=Fk s.ids s.places (Sha.sum p.bytes) s.b.length (by rw[h.ids,h.places]) hn
  exact this
theorem BOk.next{ps:List Pt}{i:Nat}{s:BS}(hL:Co ps)(h:BOk i s)(hi:i<ps.length){s' :BS}(hs:Em ps i s=Except.ok s'):BOk (i+1) s' :=by
  unfold Em at hs
  split at hs
  · cases hs
  · split at hs
    · cases hs
    · split at hs
      · cases hs
      · rename_i h1 h2 h3
        cases hs
        have hp:=hL.2 _ (A6 dPt hi)
        refine⟨by simp[bnext,h.ids],by simp[bnext,h.places],by simp[bnext,h.depths],?_,?_,?_,?_,?_⟩
        · intro id hid
          simp only[bnext,List.mem_append,List.mem_singleton]at hid
          rcases hid with hid | rfl
          · exact h.len id hid
          · exact Sha.sum_length _
        · have hb:=h.b
          have hu:=JN (n:=(ps.getD i dPt).bytes.length) (by omega)
          simp only[bnext]
          split
          · simp only[List.length_append,List.length_cons,List.length_nil,Bh]
            omega
          · rename_i hbase
            have a:(ps.getD i dPt).base.toNat<s.ids.length:=by rw[h.ids];omega
            have h32:=h.len _ (A6 [] a)
            have hq:=hL.2 _ (A6 dPt (l:=ps) (i:=(ps.getD i dPt).base.toNat) (by rw[h.ids]at a;omega))
            have hm:=Fj (ps.getD (ps.getD i dPt).base.toNat dPt).bytes (ps.getD i dPt).bytes (by omega) (by omega)
            have c:=JN (n:=(Bv (ps.getD (ps.getD i dPt).base.toNat dPt).bytes (ps.getD i dPt).bytes).length) (by omega)
            simp only[List.length_append,List.length_cons,List.length_nil,Bh,h32]
            omega
        · intro q hq
          have hb:=h.b
          simp only[bnext,List.mem_append,List.mem_singleton]at hq
          rcases hq with hq | rfl
          · have:=h.pl q hq;omega
          · omega
        · intro q hq
          simp only[bnext,List.mem_append,List.mem_singleton]at hq
          rcases hq with hq | rfl
          · exact h.dp q hq
          · omega
        · have ht:=h.total
          simp only[bnext]
          omega
theorem E3{ps:List Pt}(hL:Co ps):∀(i:Nat) (s:BS),i≤ps.length→CS ps i = .ok s→BOk i s
  | 0,s,_,h=>by
    cases h
    have:=JN (n:=ps.length) (by have:=hL.1;omega)
    exact⟨rfl,rfl,rfl,by simp,by simp only[List.length_cons];omega,by simp,by simp,by simp⟩
  | i+1,s,hi,h=>by
    have h' :(match CS ps i with | .error e=> .error e | .ok s=>Em ps i s)=Except.ok s:=h
    cases hb:CS ps i with
    | error e=>rw[hb]at h';cases h'
    | ok s0=>
      rw[hb]at h'
      exact(E3 hL i s0 (by omega) hb).next hL (by omega) h'
def BV(s:BS)(at_:Nat):Bs:=(AY s.ids).flatMap AI++(Az s.ids).flatMap (fun id=>id++AI ((Bo s id).getD 0))++AI at_
def A3(ps:List Pt):Bs × Nat:=
  match CS ps ps.length with
  | .error e=>([],e)
  | .ok s=>(s.b++BV s s.b.length++Sha.sum (s.b++BV s s.b.length),0)
theorem Fl(l:List Nat):(l.flatMap AI).length=4*l.length:=by
  induction l with
  | nil=>rfl
  | cons a r ih=>rw[List.flatMap_cons,List.length_append,ih,C7,List.length_cons];omega
theorem JO(f:Bs→Nat)(l:List Bs)(h:∀x∈l,x.length=32):(l.flatMap fun id=>id++AI (f id)).length=36*l.length:=by
  induction l with
  | nil=>rfl
  | cons a r ih=>
    rw[List.flatMap_cons,List.length_append,List.length_append,C7,h a (by simp),ih (fun x hx=>h x (by simp[hx])),List.length_cons]
    omega
theorem Ex{i:Nat}{s:BS}(h:BOk i s)(a:Nat):(BV s a).length=1028+36*i:=by
  unfold BV
  rw[List.length_append,List.length_append,Fl,BC,JO (fun id=>(Bo s id).getD 0) _ (fun x hx=>h.len x ((sortB_perm _).subset hx)),BQ,h.ids,C7]
  omega
open Go.RowKit
set_option maxRecDepth 100000
open Go.WideMaps (KeyLaw)
theorem Pe:KeyLaw Tryd.prog 38:=deep_law_laid (by kernel_rfl) (m:=3) (by decide) (of_decide_eq_true (by kernel_rfl)) (by kernel_rfl) (by kernel_rfl)
theorem Cf:KL Tryd.prog 38 (fun v=>∃l,keyOf Tryd.prog 38 v=some l):=KL.ofDeep Pe
theorem Cg:∀id:List UInt8,id.length=32→∃l,keyOf Tryd.prog 38 (rk id)=some l:=fun _ h=>
 IC (n:=32) (e:=5) Tryd.underlying38 Tryd.underlying5 (by kernel_rfl) (by kernel_rfl) (by kernel_rfl) (of_decide_eq_true (by kernel_rfl)) h
theorem FM:∀u:World,(zeroValue 3).run Tryd.prog u = .ok (NI 0) u:=fun _=>by kernel_rfl
theorem Es(w:World)(hG:Laid w)(v:Value)(l:Bs)(h:RBs w v [l])(hl:l.length≤1099511627776):
  Calls Tryd.prog 17 #[v] w fun e w' =>e = .returned (AB (Sha.sum l))∧Ext w w' :=by
 have:=OL w hG v [l] h (by simp;omega) (by simp)
 simpa using this
theorem JP(w:World)(v:Value)(l:Bs)(hr:RB w v l)(s:Bs)(hl:l.length+s.length+16≤140737488355328):
  Calls Tryd.prog 24 #[v,St s] w fun e w' =>∃v',e = .returned v' ∧NewB 5 w w' v' (l++Bh s):=by
 have:=Ku w v l hr ⟨s.toArray⟩ (by simpa [ByteArray.size] using hl)
 simpa [Bh,ByteArray.size,List.append_assoc] using this
theorem CA{ps:List Pt}{i e:Nat}(hi:i<ps.length)(h:CS ps (i+1) = .error e):A3 ps=([],e):=by
 have:=Er h (ps.length-(i+1))
 rw[show i+1+(ps.length-(i+1))=ps.length by omega]at this
 unfold A3
 rw[this]
theorem IM{ps:List Pt}{s:BS}(h:CS ps ps.length = .ok s):A3 ps=(s.b++BV s s.b.length++Sha.sum (s.b++BV s s.b.length),0):=by
 unfold A3
 rw[h]
theorem HW{α:Type}(l:List α)(i:Nat)(d:α)(h:i<l.length):l.take (i+1)=l.take i++ [l.getD i d]:=by rw[List.take_succ_eq_append_getElem h,List.getD_eq_getElem?_getD,List.getElem?_eq_getElem h];rfl
theorem IN:(Tryd.prog.info? 55).map (·.size)=some 2:=by kernel_rfl
theorem E4:Tryd.prog.underlying 28=some (.slice 55):=by kernel_rfl
theorem NS:A2 Tryd.prog 23:=fun _ _=>by kernel_rfl
theorem IO:∀w' :World,(sizeOf 55).run Tryd.prog w' = .ok 2 w' :=fun _=>by kernel_rfl
theorem NT:∃fs,Tryd.prog.underlying 55=some (.struct fs):=Eg (by kernel_rfl)
theorem NU{d:Option Tmp}{ty:TypeId}{pos:String}{af:Array Edge}{gd:Option (Nat × Bool)}(σ:Operand→Value)(w:World):(execOp σ ⟨d, .alloc 55,ty,pos,af,gd⟩).run Tryd.prog w = .ok (.value (PQ w.heap.size 0)) (w.alloc (.cells ([(Value.slice none 0 0),NI 0]).toArray 55)):=by kernel_rfl
theorem Cp:BK Tryd.prog 55 0 0:=fun b o w=>by simp[go_sem]
theorem BT:BK Tryd.prog 55 1 1:=fun b o w=>by simp[go_sem]
theorem E5(ao:Option Addr)(n c:Nat)(w:World):(Instr.buildSlice 75 1 #[(0, .slice ao n c)]).run Tryd.prog w = .ok (.slice (some ⟨w.heap.size,0,none⟩) 1 1) (w.alloc (.cells #[.slice ao n c] 24)):=by kernel_rfl
theorem Hr:A2 Tryd.prog 17:=fun _ _=>by kernel_rfl
theorem Ec:Tryd.prog.underlying 53=some (.map 38 3):=by kernel_rfl
theorem JQ:∀(cs:Array Value),cs.size=32→∀w:World,(Instr.buildSlice 47 1 #[(0, .agg cs)]).run Tryd.prog w = .ok (.slice (some ⟨w.heap.size,0,none⟩) 1 1) (w.alloc (.cells cs 38))
 | ⟨[c0,c1,c2,c3,c4,c5,c6,c7,c8,c9,c10,c11,c12,c13,c14,c15,c16,c17,c18,c19,c20,c21,c22,c23,c24,c25,c26,c27,c28,c29,c30,c31]⟩,_,w=>NK c0 c1 c2 c3 c4 c5 c6 c7 c8 c9 c10 c11 c12 c13 c14 c15 c16 c17 c18 c19 c20 c21 c22 c23 c24 c25 c26 c27 c28 c29 c30 c31 w
theorem Lg:Tryd.prog.underlying 9=some (.string):=by kernel_rfl
theorem JR:A2 Tryd.prog 24:=fun _ _=>by kernel_rfl
theorem NV:A2 Tryd.prog 25:=fun _ _=>by kernel_rfl
theorem NW:A2 Tryd.prog 26:=fun _ _=>by kernel_rfl
theorem Hs:A2 Tryd.prog 27:=fun _ _=>by kernel_rfl
theorem NX:A2 Tryd.prog 28:=fun _ _=>by kernel_rfl
set_option maxHeartbeats 1600000
theorem GJ(w:World)(hG:Laid w)(v:Value)(ps:List Pt)(hr:RG 2 partC w v ps)(hps:PartsOk w ps)(hL:Co ps):
  Calls Tryd.prog 11 #[v] w fun e w' =>∃v',e = .returned (.tuple #[v',NI (A3 ps).2])∧RB w' v' (A3 ps).1∧Ext w w' :=by
 have hw2:=hG.two
 have hL1:=hL.1
 refine AA (args:= [v]) Tryd.func11 rfl 165 rfl (Nat.le_of_ble_eq_true rfl) ?_
 intro f4 hb
 have t:f4 0=(v:Value):=hb.get 0
 clear hb
 have hE:=Ext.refl w
 refine sk fun K1 f5=>(wt (oA rfl (oA rfl (oZ (tN (f5 _ _ (sk fun K2 f6=>(wt (oM rfl (oS rfl (Yk.lenRG E4 (RG.of hr t) (oS rfl (Yk.callA1 NS (vr (NI ps.length) rfl) ((Ml _ (ps.length) (by omega)).mono ?_))))))))))))))
 rintro e w6 ⟨v3,rfl,bw,f8⟩
 refine⟨_,rfl,?_⟩
 have hE:=hE.trans f8
 refine oA rfl (oZ (tN (f6 _ _ (sk fun K7 f9=>(wt (oS rfl (Yk.mkMap rk NI (fun id:List UInt8=>id.length=32) fun n8 w9 me c0 di mf=> ?_)))))))
 have ca:=Ext.refl w6
 have mg:=hE
 have ec:=hE.size
 have ga:OB v3 n8:=AV bw (by omega)
 have hE:=hE.trans di
 have bw:=Stab.own _ _ _ _ _ _ _ _ bw di
 have ca:=ca.trans di
 have mh:n8<w9.heap.size:=by omega
 refine oA rfl (oZ (tN (f9 _ _ (sk fun mi gb=>(wt (oA rfl (oZ ?_)))))))
 have hids0:OG w.heap.size 38 32 Lib.byteCells w9 (Value.slice none 0 0) ([]:List Bs):=OG.nil _ _ _ _ _
 have gc:Value.ownBlock (Value.slice none 0 0)≠some n8:=fun h=>by cases h
 have gd:Ae (Value.slice none 0 0) v3:=fun k h=>by cases h
 have ge:Ae v3 (Value.slice none 0 0):=fun k _ h=>by cases h
 refine tN (gb _ _ (sk fun mj gf=>(wt (oM rfl (oS rfl (Yk.lenRG E4 (RG.of (hr.keep hE) t) (oS rfl (Yk.makeN 8 ID Pd (vr (NI ps.length) rfl) (vr (NI ps.length) rfl) (by omega) (by omega) fun y gg gh ed co mk=> ?_))))))))
 have dj:=Ext.refl w9
 have ml:=hE
 have mm:=ca
 have gi:=hE.size
 have mn:=ca.size
 have mo:=AT c0.lt gh
 have gj:OB v3 y:=AV bw (by omega)
 have gk:Value.ownBlock (Value.slice none 0 0)≠some y:=AV hids0.2 (by omega)
 have hE:=hE.trans co
 have bw:=Stab.own _ _ _ _ _ _ _ _ bw co
 have ca:=ca.trans co
 have c0:=c0.keep co
 have hids0:=hids0.keep co
 have dj:=dj.trans co
 have ee:=ed;clear ed
 have mp:y<gg.heap.size:=by omega
 refine oA rfl (oZ (tN (gf _ _ (sk fun mq gl=>(wt (oA rfl (oZ (tN (gl _ _ (sk fun mr gm=>(sk fun ms gn=>(wt (oM rfl (oS rfl (Yk.lenRG E4 (RG.of (hr.keep hE) t) (oM rfl (AH [(0,v),(2,(Value.slice none 0 0)),(3,NI 0),(4,v3),(5, .map (some n8)),(6,(Value.slice none 0 0)),(7, .slice (some ⟨y,0,none⟩) ps.length ps.length),(8,NI 0),(28,v),(29,NI ps.length),(30,NI 0)] ⟨t,rfl,rfl,rfl,rfl,rfl,rfl,rfl,t,rfl,rfl,trivial⟩ fun mt ⟨t,T2,T3,r,u,T6,T7,T8,ae,af,o,_⟩=>(tN (gn _ _ ?_)))))))))))))))))))
 refine Aj (AX (fun(ρ:Aq) (wz:World)=>∃i:Nat,∃s:BS,∃vb:Value,∃vi:Value,ρ 0=(v:Value)∧ρ 5=(.map (some n8):Value)∧ρ 7=(.slice (some ⟨y,0,none⟩) ps.length ps.length:Value)∧ρ 28=(v:Value)∧ρ 29=(NI ps.length:Value)∧ρ 30=(NI i:Value)∧ρ 8=(NI s.total:Value)∧ρ 4=(vb:Value)∧ρ 6=(vi:Value)∧Ext w wz∧wz.ownsRow w.heap.size 5 1 vb (s.b:List UInt8).length (Lib.byteCells (s.b))∧OG w.heap.size 38 32 (Lib.byteCells) wz vi (s.ids)∧MapF rk NI (fun id:List UInt8=>id.length=32) wz n8 (Bo s)∧wz.heap[y]? =some (.cells ((s.depths++List.replicate (ps.length-i) 0).map fun x=>NI x).toArray 3 (0,0))∧(CS ps i = .ok s)∧(i≤ps.length)∧(OB vb n8)∧(Ae vb vi)∧(OB vb y)∧(OB vi n8)∧(Ae vi vb)∧(OB vi y)∧True) (fun ρ _=>ps.length-(intOf (ρ 30)).toNat) ⟨0,⟨80 :: Lib.uvarint ps.length,[],[],[],0⟩,v3,(Value.slice none 0 0),t,u,T7,ae,af,o,T8,r,T6,hE,BI bw (rfl),B5 hids0 (rfl),CY c0 (rfl),AZ ee (rfl),rfl,Nat.zero_le _,ga,ge,gj,gc,gd,gk,trivial⟩ ?_)
 clear bw
 clear ca
 clear c0
 clear hids0
 clear dj
 clear ee
 clear hE
 rintro ef eg ⟨i,s,vb,vi,t,u,T7,ae,af,o,T8,r,T6,hE,hr_vb,hr_vi,hb11l,hb38l,hs,hi,hap_vb_n8,hap_vb_vi,hap_vb_n24,hap_vi_n8,hap_vi_vb,hap_vi_n24,-⟩
 have q30:=o
 have hB:=E3 hL i s hi hs
 have hBi:=hB.ids
 have hBp:=hB.places
 have hBd:=hB.depths
 have hBb:=hB.b
 have hBt:=hB.total
 obtain⟨dl,hdl⟩:∃dl,dl=s.depths++List.replicate (ps.length-i) 0:=⟨_,rfl⟩
 have hb38l:eg.heap[y]? =some (.cells (dl.map fun x=>NI x).toArray 3 (0,0)):=AZ hb38l (by rw[hdl])
 have hdll:dl.length=ps.length:=by rw[hdl,List.length_append,List.length_replicate];omega
 have hdg:∀m,m<i→dl.getD m 0=s.depths.getD m 0:=fun m hm=>by rw[hdl,List.getD_eq_getElem?_getD,List.getElem?_append_left (by omega),←List.getD_eq_getElem?_getD]
 refine sk fun mw go=>(wt (oS rfl (Yk.eqI (a:=(i:Nat)) (b:=(ps.length:Nat)) o af (AN _ _ _ _) (oZ (tN (go _ _ (sk fun mx gp=> ?_)))))))
 refine AO ((i)<(ps.length)) (vr (.bool (decide ((i)<(ps.length)))) rfl) (fun dk=> ?_) (fun dk=> ?_)
 ·have hil:i<ps.length:=dk
  obtain⟨p,hp⟩:∃p,p=ps.getD i dPt:=⟨_,rfl⟩
  have hpm:p∈ps:=by rw[hp];exact A6 dPt hil
  have hpl:=hL.2 p hpm
  have hpb:=(hps p hpm).2
  have hpr:=(hps p hpm).1
  have hst:=Dp hs
  unfold Em at hst
  rw[←hp]at hst
  refine Ah (tN (gp _ _ (sk fun my eh=>(Aj (sk fun mz da=>(wt (oM rfl ?_)))))))
  have gq:(partC (ps.getD (i) dPt)).length=2:=(RG.elem (hr.keep hE) dPt (by omega))
  refine oS rfl (Yk.atRG E4 IO (by decide) dPt (RG.of (hr.keep hE) ae) o (by omega) fun gr ei=>(oS rfl (Yk.loadPR (PR.of ei (vr gr rfl)) (NT).choose_spec rfl (by rw[gq];exact IN) (oS rfl (Yk.alloc (cs:=([(Value.slice none 0 0),NI 0]).toArray) NU fun g gs ej el cp m0=> ?_)))))
  have am:=Ext.refl eg
  have m1:=hE
  have gt:=hE.size
  have m2:=AT hb11l.lt ej
  have m3:=AT (bl hb38l) ej
  have cq:OB vb g:=AV hr_vb (by omega)
  have c1:OB vi g:=AV hr_vi.2 (by omega)
  have hE:=hE.trans cp
  have hr_vb:=Stab.own _ _ _ _ _ _ _ _ hr_vb cp
  have hr_vi:=hr_vi.keep cp
  have hb11l:=hb11l.keep cp
  have hb38l:=eb cp hb38l
  have am:=am.trans cp
  have f:=el;clear el
  have m4:g<gs.heap.size:=by omega
  refine oA rfl (oS rfl (Yk.storeAll (vr (PQ g 0) rfl) (vr (.agg (partC (ps.getD (i) dPt)).toArray) rfl) f (by rfl) (by exact IN) ((partC_one (RB.one (hps _ (A6 dPt dk)).1))) fun em en cr m5=> ?_))
  have hE:=Ac hE cr (Nat.le_trans gt (by omega))
  have hr_vb:=A7 hr_vb cr cq
  have hr_vi:=OG.kept hr_vi cr c1
  have hb11l:=MapF.other hb11l cr (AL (by omega))
  have hb38l:=kb cr hb38l (by omega)
  have am:=Ac am cr (Nat.le_trans (Nat.le_refl _) (by omega))
  clear f
  have f:=en;clear en
  have m6:=bl f
  refine oZ ?_
  clear ei
  have f:em.heap[g]? =some (.cells ([p.v, .int .i64 (p.base:Int)]).toArray 55 (0,0)):=AZ f (show partC (ps.getD i dPt)= [p.v, .int .i64 (p.base:Int)] by rw[←hp];rfl)
  by_cases hA:p.base < -1
  ·refine tN (da _ _ (sk fun m7 gu=>(sk fun m8 gv=>(wt (oS rfl (Yk.fieldAt Cp (vr (PQ g 0) rfl) (oS rfl (Yk.cell1 DT rfl (vr (PQ g 0) rfl) (Ai f (show _=some (p.v:Value)from rfl)) (oS rfl (Yk.lenRB DT (RB.of (hpr.keep hE) (vr p.v rfl)) (oS rfl (Yk.eqI (a:=((p.bytes:List UInt8).length:Nat)) (b:=(262144:Nat)) rfl rfl (Bm _ _ _ _) (oZ (tN (gv _ _ ?_)))))))))))))))
   refine AO ((262144)<((p.bytes:List UInt8).length)) (vr (.bool (decide ((262144)<((p.bytes:List UInt8).length)))) rfl) (fun a9=> ?_) (fun a9=> ?_)
   ·exact absurd a9 (by omega)
   refine Ah (tN (gu _ _ (sk fun m9 na=>(sk fun nb gw=>(wt (oS rfl (Yk.fieldAt BT (vr (PQ g 0) rfl) (oS rfl (Yk.cell1 NA rfl (vr (PQ g 1) rfl) (Ai f (show _=some (.int .i64 (p.base:Int):Value)from rfl)) (oS rfl (Yk.eqI (vr (.int .i64 (p.base:Int)) rfl) (vr (.int .i64 (-1:Int)) rfl) (Ej _ .i64 (p.base:Int) (-1:Int)) (oM rfl (oN (d:=42) rfl rfl rfl (vr (.bool (true)) (congrArg Value.bool (decide_eq_true (by omega)))) rfl (oN (d:=42) rfl rfl rfl (vr (.bool (true)) (congrArg Value.bool (decide_eq_true (by omega)))) rfl (oN (d:=42) rfl rfl rfl (vr (.bool (true)) (congrArg Value.bool (decide_eq_true (by omega)))) rfl (oN (d:=42) rfl rfl rfl (vr (.bool (true)) (congrArg Value.bool (decide_eq_true (by omega)))) rfl (oS rfl (Yk.pickT (vr (.bool (true)) (congrArg Value.bool (decide_eq_true (by omega)))) (vr (.bool (true)) rfl) (oZ (tN (gw _ _ ?_)))))))))))))))))))))
   refine AE (vr (.bool (true)) rfl) (sk fun nc gx=>(wt (oA rfl (oA rfl (oZ (tN (gx _ _ (As (Am (AR (Am (Am (AR (Am (Ao (fn:=Tryd.f11) _ rfl [(Value.slice none 0 0),NI 1] (.tuple #[(Value.slice none 0 0),NI 1]) rfl ⟨rfl,rfl,trivial⟩ ?_)))))))))))))))
   rw[if_pos (by omega)]at hst
   rw[CA (by omega) hst]
   exact⟨_,rfl,RB.nil _,hE⟩
  by_cases hBq:(i:Int)≤p.base
  ·refine tN (da _ _ (sk fun nd gy=>(sk fun ne gz=>(wt (oS rfl (Yk.fieldAt Cp (vr (PQ g 0) rfl) (oS rfl (Yk.cell1 DT rfl (vr (PQ g 0) rfl) (Ai f (show _=some (p.v:Value)from rfl)) (oS rfl (Yk.lenRB DT (RB.of (hpr.keep hE) (vr p.v rfl)) (oS rfl (Yk.eqI (a:=((p.bytes:List UInt8).length:Nat)) (b:=(262144:Nat)) rfl rfl (Bm _ _ _ _) (oZ (tN (gz _ _ ?_)))))))))))))))
   refine AO ((262144)<((p.bytes:List UInt8).length)) (vr (.bool (decide ((262144)<((p.bytes:List UInt8).length)))) rfl) (fun a9=> ?_) (fun a9=> ?_)
   ·exact absurd a9 (by omega)
   refine Ah (tN (gy _ _ (sk fun nf ng=>(sk fun nh g0=>(wt (oS rfl (Yk.fieldAt BT (vr (PQ g 0) rfl) (oS rfl (Yk.cell1 NA rfl (vr (PQ g 1) rfl) (Ai f (show _=some (.int .i64 (p.base:Int):Value)from rfl)) (oS rfl (Yk.eqI (vr (.int .i64 (p.base:Int)) rfl) (vr (.int .i64 (-1:Int)) rfl) (Ej _ .i64 (p.base:Int) (-1:Int)) (oM rfl (oY (d:=42) rfl rfl (vr (.bool (false)) (congrArg Value.bool (decide_eq_false (by omega)))) (Yk.fieldAt BT (vr (PQ g 0) rfl) (oY (d:=42) rfl rfl (vr (.bool (false)) (congrArg Value.bool (decide_eq_false (by omega)))) (Yk.cell1 NA rfl (vr (PQ g 1) rfl) (Ai f (show _=some (.int .i64 (p.base:Int):Value)from rfl)) (oY (d:=42) rfl rfl (vr (.bool (false)) (congrArg Value.bool (decide_eq_false (by omega)))) (Yk.move o (oY (d:=42) rfl rfl (vr (.bool (false)) (congrArg Value.bool (decide_eq_false (by omega)))) (Yk.eqI (vr (.int .i64 (p.base:Int)) rfl) (vr (NI i) rfl) (FV _ .i64 (p.base:Int) ((i:Nat):Int)) (oS rfl (Yk.pickF (vr (.bool (false)) (congrArg Value.bool (decide_eq_false (by omega)))) (vr (.bool (true)) (congrArg Value.bool (decide_eq_true (by omega)))) (oZ (tN (g0 _ _ ?_)))))))))))))))))))))))))
   refine AE (vr (.bool (true)) rfl) (sk fun ni g1=>(wt (oA rfl (oA rfl (oZ (tN (g1 _ _ (As (Am (AR (Am (Am (AR (Am (Ao (fn:=Tryd.f11) _ rfl [(Value.slice none 0 0),NI 1] (.tuple #[(Value.slice none 0 0),NI 1]) rfl ⟨rfl,rfl,trivial⟩ ?_)))))))))))))))
   rw[if_pos (by omega)]at hst
   rw[CA (by omega) hst]
   exact⟨_,rfl,RB.nil _,hE⟩
  by_cases hC0:p.base<0
  ·refine tN (da _ _ (sk fun nj g2=>(sk fun nk g3=>(wt (oS rfl (Yk.fieldAt Cp (vr (PQ g 0) rfl) (oS rfl (Yk.cell1 DT rfl (vr (PQ g 0) rfl) (Ai f (show _=some (p.v:Value)from rfl)) (oS rfl (Yk.lenRB DT (RB.of (hpr.keep hE) (vr p.v rfl)) (oS rfl (Yk.eqI (a:=((p.bytes:List UInt8).length:Nat)) (b:=(262144:Nat)) rfl rfl (Bm _ _ _ _) (oZ (tN (g3 _ _ ?_)))))))))))))))
   refine AO ((262144)<((p.bytes:List UInt8).length)) (vr (.bool (decide ((262144)<((p.bytes:List UInt8).length)))) rfl) (fun a9=> ?_) (fun a9=> ?_)
   ·exact absurd a9 (by omega)
   refine Ah (tN (g2 _ _ (sk fun nl g4=>(sk fun nm g5=>(wt (oS rfl (Yk.fieldAt BT (vr (PQ g 0) rfl) (oS rfl (Yk.cell1 NA rfl (vr (PQ g 1) rfl) (Ai f (show _=some (.int .i64 (p.base:Int):Value)from rfl)) (oS rfl (Yk.eqI (vr (.int .i64 (p.base:Int)) rfl) (vr (.int .i64 (-1:Int)) rfl) (Ej _ .i64 (p.base:Int) (-1:Int)) (oM rfl (oY (d:=42) rfl rfl (vr (.bool (false)) (congrArg Value.bool (decide_eq_false (by omega)))) (Yk.fieldAt BT (vr (PQ g 0) rfl) (oY (d:=42) rfl rfl (vr (.bool (false)) (congrArg Value.bool (decide_eq_false (by omega)))) (Yk.cell1 NA rfl (vr (PQ g 1) rfl) (Ai f (show _=some (.int .i64 (p.base:Int):Value)from rfl)) (oY (d:=42) rfl rfl (vr (.bool (false)) (congrArg Value.bool (decide_eq_false (by omega)))) (Yk.move o (oY (d:=42) rfl rfl (vr (.bool (false)) (congrArg Value.bool (decide_eq_false (by omega)))) (Yk.eqI (vr (.int .i64 (p.base:Int)) rfl) (vr (NI i) rfl) (FV _ .i64 (p.base:Int) ((i:Nat):Int)) (oS rfl (Yk.pickF (vr (.bool (false)) (congrArg Value.bool (decide_eq_false (by omega)))) (vr (.bool (false)) (congrArg Value.bool (decide_eq_false (by omega)))) (oZ (tN (g5 _ _ ?_)))))))))))))))))))))))))
   refine Ar (vr (.bool (false)) rfl) (Ah (tN (g4 _ _ (sk fun nn eo=>(wt (oS rfl (Yk.fieldAt Cp (vr (PQ g 0) rfl) (oS rfl (Yk.cell1 DT rfl (vr (PQ g 0) rfl) (Ai f (show _=some (p.v:Value)from rfl)) (oS rfl (Yk.rows1 E5 (RB.of (hpr.keep hE) (vr p.v rfl)) fun ep no dm cb=> ?_)))))))))))
   have hE:=hE.trans cb
   have hr_vb:=Stab.own _ _ _ _ _ _ _ _ hr_vb cb
   have hr_vi:=hr_vi.keep cb
   have hb11l:=hb11l.keep cb
   have hb38l:=eb cb hb38l
   have am:=am.trans cb
   have f:=eb cb f
   refine oS rfl (Yk.callA1 Hr (vr ep rfl) ((Es _ (hG.keep hE) ep (p.bytes) dm (by omega)).mono ?_))
   rintro e g6 ⟨rfl,bx⟩
   refine⟨_,rfl,?_⟩
   have hE:=hE.trans bx
   have hr_vb:=Stab.own _ _ _ _ _ _ _ _ hr_vb bx
   have hr_vi:=hr_vi.keep bx
   have hb11l:=hb11l.keep bx
   have hb38l:=eb bx hb38l
   have am:=am.trans bx
   have f:=eb bx f
   have dm:=dm.keep bx
   refine oS rfl (Yk.alloc (cs:=(Lib.byteCells (List.replicate 32 0)).toArray) NH fun bo g7 dn eq bz np=> ?_)
   have c2:=Ext.refl g6
   have nq:=hE
   have nr:=am
   have g8:=hE.size
   have g9:=am.size
   have ns:=AT hb11l.lt dn
   have nt:=AT (bl hb38l) dn
   have nu:=AT (bl f) dn
   have dq:OB vb bo:=AV hr_vb (by omega)
   have dr:OB vi bo:=AV hr_vi.2 (by omega)
   have hE:=hE.trans bz
   have hr_vb:=Stab.own _ _ _ _ _ _ _ _ hr_vb bz
   have hr_vi:=hr_vi.keep bz
   have hb11l:=hb11l.keep bz
   have hb38l:=eb bz hb38l
   have am:=am.trans bz
   have f:=eb bz f
   have c2:=c2.trans bz
   have ap:=eq;clear eq
   have nv:bo<g7.heap.size:=by omega
   refine oS rfl (Yk.storeAll (vr (PQ bo 0) rfl) (vr (AB (Sha.sum (p.bytes))) rfl) ap (by exact C6 (Sha.sum_length _) List.length_replicate) (by exact AM (Sha.sum_length _)) (AF _) fun ha er b0 nw=> ?_)
   have hE:=Ac hE b0 (Nat.le_trans g8 (by omega))
   have hr_vb:=A7 hr_vb b0 dq
   have hr_vi:=OG.kept hr_vi b0 dr
   have hb11l:=MapF.other hb11l b0 (AL (by omega))
   have hb38l:=kb b0 hb38l (by omega)
   have am:=Ac am b0 (Nat.le_trans g9 (by omega))
   have f:=kb b0 f (by omega)
   have c2:=Ac c2 b0 (Nat.le_trans (Nat.le_refl _) (by omega))
   clear ap
   have ap:=er;clear er
   have nx:=bl ap
   refine oZ ?_
   rw[if_neg (by omega)]at hst
   by_cases hin:Sha.sum p.bytes∈s.ids
   ·rw[if_pos hin]at hst
    obtain⟨q,hq,-⟩:=DE s.ids s.places (Sha.sum p.bytes) (by omega) hin
    refine tN (eo _ _ (sk fun ny nz=>(sk fun n0 hc=>(wt (oM rfl (oS rfl (Yk.loadAll (vr (PQ bo 0) rfl) ap Ow rfl (by exact AM (Sha.sum_length _)) (oS rfl (Yk.lookOkS (ek:=rk) (ev:=NI) (D:=(fun id:List UInt8=>id.length=32)) Cf Cg (fun _ _=>Cc) Ec (z:=NI 0) FM u (vr (AB (Sha.sum (p.bytes))) rfl) hb11l (Sha.sum_length _) (show Bo s _=some q from hq) (oM rfl (oS rfl (Yk.extract (vs:= [NI q, .bool (true)]) (vr (.tuple #[NI q, .bool (true)]) rfl) (show _=some (NI q:Value)from rfl) (oS rfl (Yk.extract (vs:= [NI q, .bool (true)]) (vr (.tuple #[NI q, .bool (true)]) rfl) (show _=some (.bool (true):Value)from rfl) (oA rfl (oA rfl (oZ (tN (hc _ _ (sk fun n1 hd=>(wt ?_)))))))))))))))))))))
    refine oM rfl (oZ (tN (hd _ _ (AE (vr (.bool (true)) rfl) (sk fun n2 hh=>(wt (oA rfl (oA rfl (oZ (tN (hh _ _ (As (Am (AR (Am (Am (AR (Am (Ao (fn:=Tryd.f11) _ rfl [(Value.slice none 0 0),NI 11] (.tuple #[(Value.slice none 0 0),NI 11]) rfl ⟨rfl,rfl,trivial⟩ ?_)))))))))))))))))))
    rw[CA (by omega) hst]
    exact⟨_,rfl,RB.nil _,hE⟩
   rw[if_neg hin]at hst
   have hq:=C8 s.ids s.places (Sha.sum p.bytes) hin
   refine tN (eo _ _ (sk fun n3 hj=>(sk fun n4 hl=>(wt (oM rfl (oS rfl (Yk.loadAll (vr (PQ bo 0) rfl) ap Ow rfl (by exact AM (Sha.sum_length _)) (oS rfl (Yk.lookOkN (ek:=rk) (ev:=NI) (D:=(fun id:List UInt8=>id.length=32)) Cf Cg (fun _ _=>Cc) Ec (z:=NI 0) FM u (vr (AB (Sha.sum (p.bytes))) rfl) hb11l (Sha.sum_length _) (show Bo s _=none from hq) (oM rfl (oS rfl (Yk.extract (vs:= [NI 0, .bool (false)]) (vr (.tuple #[NI 0, .bool (false)]) rfl) (show _=some (NI 0:Value)from rfl) (oS rfl (Yk.extract (vs:= [NI 0, .bool (false)]) (vr (.tuple #[NI 0, .bool (false)]) rfl) (show _=some (.bool (false):Value)from rfl) (oA rfl (oA rfl (oZ (tN (hl _ _ (sk fun n5 hn=>(wt ?_)))))))))))))))))))))
   refine oM rfl (oZ (tN (hn _ _ (Ar (vr (.bool (false)) rfl) (Ah (tN (hj _ _ (sk fun n6 ht=>(sk fun n7 hu=>(wt (oS rfl (Yk.fieldAt BT (vr (PQ g 0) rfl) (oS rfl (Yk.cell1 NA rfl (vr (PQ g 1) rfl) (Ai f (show _=some (.int .i64 (p.base:Int):Value)from rfl)) (oS rfl (Yk.eqI (vr (.int .i64 (p.base:Int)) rfl) (vr (NI 0) rfl) (FV _ .i64 (p.base:Int) ((0:Nat):Int)) (oZ ?_)))))))))))))))))
   obtain⟨d2,hd2⟩:∃d2,d2=s.depths++depthB p s :: List.replicate (ps.length-i-1) 0:=⟨_,rfl⟩
   have hb38l:ha.heap[y]? =some (.cells (d2.map fun x=>NI x).toArray 3 (0,0)):=AZ hb38l (congrArg (List.map fun x=>NI x) (by rw[hd2,hdl,show ps.length-i=(ps.length-i-1)+1 by omega];unfold depthB;rw[if_pos hC0];rfl))
   have hdv:d2.getD i 0=depthB p s:=by rw[hd2,List.getD_eq_getElem?_getD,List.getElem?_append_right (by omega),hBd,Nat.sub_self];simp
   have hd2l:d2.length=ps.length:=by rw[hd2,List.length_append,List.length_cons,List.length_replicate];omega
   refine tN (hu _ _ (Ar (vr (.bool (false)) (congrArg Value.bool (decide_eq_false (by omega)))) (Ah (tN (ht _ _ (sk fun n9 hv=>(sk fun oa hw=>(wt (oM rfl (oM rfl (oS rfl (Yk.atSl0 (i:=i) ID FL T7 o (by omega) (oS rfl (Yk.cell1 NA rfl (vr (PQ y i) rfl) (Ai hb38l (E2 (i:=i) (by omega))) (oS rfl (Yk.eqI (a:=((d2).getD (i) 0:Nat)) (b:=(50:Nat)) rfl rfl (Bm _ _ _ _) (AH [(0,v),(4,vb),(5, .map (some n8)),(6,vi),(7, .slice (some ⟨y,0,none⟩) ps.length ps.length),(8,NI s.total),(9,NI i),(10,PQ g 0),(11,PQ bo 0),(13, .bool (false)),(28,v),(29,NI ps.length),(30,NI i),(47, .bool (false)),(58, .bool (false)),(61, .bool (false)),(75, .bool (decide ((50)<((d2).getD (i) 0))))] ⟨t,r,u,T6,T7,T8,o,rfl,rfl,rfl,ae,af,o,rfl,rfl,(congrArg Value.bool (decide_eq_false (by omega))),rfl,trivial⟩ fun ob ⟨t,r,u,T6,T7,T8,T9,ao,aw,ba,ae,af,o,bb,bc,bd,hy,_⟩=>(tN (hw _ _ ?_)))))))))))))))))))
   refine AO ((50)<((d2).getD (i) 0)) hy (fun be=> ?_) (fun be=> ?_)
   ·refine sk fun oc hz=>(wt (oA rfl (oA rfl (oZ (tN (hz _ _ (As (Am (AR (Am (Am (AR (Am (Ao (fn:=Tryd.f11) _ rfl [(Value.slice none 0 0),NI 17] (.tuple #[(Value.slice none 0 0),NI 17]) rfl ⟨rfl,rfl,trivial⟩ ?_))))))))))))))
    rw[hdv]at be
    rw[if_pos be]at hst
    rw[CA (by omega) hst]
    exact⟨_,rfl,RB.nil _,hE⟩
   rw[hdv]at be
   rw[if_neg be]at hst
   have hst3:=hst
   refine Ah (tN (hv _ _ (sk fun od h0=>(wt (oM rfl (oS rfl (Yk.loadAll aw ap Ow rfl (by exact AM (Sha.sum_length _)) (oM rfl (oS rfl (Yk.lenRB DT (RB.of (RB.ofOwn hr_vb) r) (oS rfl (Yk.putM (ek:=rk) (ev:=NI) (D:=(fun id:List UInt8=>id.length=32)) (c:=(s.b:List UInt8).length) Cf Cg Ec u (vr (AB (Sha.sum (p.bytes))) rfl) (vr (NI ((s.b:List UInt8).length)) rfl) hb11l (Sha.sum_length _) fun h3 bp ct oe=> ?_))))))))))))
   have hE:=Ac hE ct (Nat.le_trans ec (by omega))
   have hr_vb:=A7 hr_vb ct hap_vb_n8
   have hr_vi:=OG.kept hr_vi ct hap_vi_n8
   clear hb11l
   have hb38l:=kb ct hb38l (by omega)
   clear am
   have f:=kb ct f (by omega)
   clear c2
   have ap:=kb ct ap (by omega)
   have og:n8<h3.heap.size:=bp.lt
   refine oZ (tN (h0 _ _ (sk fun oh h4=>(wt (oM rfl (oS rfl (Yk.loadAll aw ap Ow rfl (by exact AM (Sha.sum_length _)) (oS rfl (Yk.lit1G (a:=(Sha.sum (p.bytes))) (enc:=Lib.byteCells) (vr (AB (Sha.sum (p.bytes))) rfl) (by rw[Lib.byteCells_length];exact(Sha.sum_length _)) JQ fun h5 h6 es cc=> ?_)))))))))
   have hE:=hE.trans cc
   have hr_vb:=Stab.own _ _ _ _ _ _ _ _ hr_vb cc
   have hr_vi:=hr_vi.keep cc
   have hb38l:=eb cc hb38l
   have f:=eb cc f
   have ap:=eb cc ap
   have bp:=bp.keep cc
   refine oS rfl (Yk.appendRG _ _ w.heap.size _ 32 JD pk6_ig38.choose_spec.1 pk6_ig38.choose_spec.2 JD (s.ids) ([(Sha.sum (p.bytes))]) (OG.of hr_vi T6) (RG.of es (vr h5 rfl)) (fun _ _=>AF _) (by simp only[List.length_cons,List.length_nil];omega) (by simp only[List.length_cons,List.length_nil];omega) hE.size fun a8 aj db a1=> ?_)
   have a1:Grew h6 aj vi a8:= .eqv T6 a1
   have h7:OB a8 n8:=Ax a1 hap_vi_n8 bp.lt
   have h8:Ae a8 vb:=Au a1 hap_vi_vb hr_vb
   have et:Ae vb a8:=fun k h1 h2=>h8 k h2 h1
   have h9:OB a8 y:=Ax a1 hap_vi_n24 (bl hb38l)
   have oi:OB a8 g:=Ax a1 c1 (bl f)
   have oj:OB a8 bo:=Ax a1 dr (bl ap)
   have hE:=AC hE a1 hr_vi.2 (Nat.le_refl _)
   have hr_vb:=Bg hr_vb a1 hap_vi_vb
   clear hr_vi
   have hb38l:=AP hb38l a1 hap_vi_n24
   have f:=AP f a1 c1
   have ap:=AP ap a1 dr
   have bp:=MapF.grew bp a1 hap_vi_n8
   clear es
   refine oA rfl (oZ (tN (h4 _ _ (sk fun ol ia=>(wt (oM rfl (oS rfl (Yk.fieldAt Cp ao (oS rfl (Yk.cell1 DT rfl (vr (PQ g 0) rfl) (Ai f (show _=some (p.v:Value)from rfl)) (oS rfl (Yk.lenRB DT (RB.of (hpr.keep hE) (vr p.v rfl)) (oS rfl (Yk.bin (xv:=NI s.total) (yv:=NI ((p.bytes:List UInt8).length)) T8 rfl rfl (Ak _ _ _ (by omega)) (oA rfl (oZ (tN (ia _ _ (sk fun om on=>(sk fun oo ib=>(wt ?_)))))))))))))))))))))
   refine oS rfl (Yk.fieldAt BT ao (oS rfl (Yk.cell1 NA rfl (vr (PQ g 1) rfl) (Ai f (show _=some (.int .i64 (p.base:Int):Value)from rfl)) (oS rfl (Yk.eqI (vr (.int .i64 (p.base:Int)) rfl) (vr (NI 0) rfl) (Ej _ .i64 (p.base:Int) ((0:Nat):Int)) (oZ (tN (ib _ _ (AE (vr (.bool (true)) (congrArg Value.bool (decide_eq_true (by omega)))) (sk fun op ic=> ?_))))))))))
   have ie:∀k,Value.ownBlock vb=some k→w.heap.size≤k:=fun k hk=>(hr_vb.lt k hk).1
   have hsz_:w.heap.size≤aj.heap.size:=hE.size
   refine Cz (Value.ownBlock vb) [2] [0] (fun m=>if m=2 then [0,1]else []) (fun m=>if m=2 then [0,1,2,6,7]else []) [fun x w' =>BU w.heap.size aj.heap.size 5 (Value.ownBlock vb) (s.b) x w',fun x w' =>RB w' x (([0]:List UInt8)),fun x w' =>BU w.heap.size aj.heap.size 5 (Value.ownBlock vb) ((s.b:List UInt8)++(([0]:List UInt8):List UInt8)) x w',Is (PQ g 0),Is (p.v),Is (St (p.bytes)),fun x w' =>BU w.heap.size aj.heap.size 5 (Value.ownBlock vb) (((s.b:List UInt8)++(([0]:List UInt8):List UInt8):List UInt8)++Bh (p.bytes:List UInt8)) x w',fun x w' =>BU w.heap.size aj.heap.size 5 (Value.ownBlock vb) (((s.b:List UInt8)++(([0]:List UInt8):List UInt8):List UInt8)++Bh (p.bytes:List UInt8)) x w'] (by kernel_rfl) [92,93,94,95,96,97,98,4] (by kernel_rfl) (by kernel_rfl) (by kernel_rfl) (by kernel_rfl) (by kernel_rfl) rfl ⟨(fun _ _ _ h k=>⟨Stab.own _ _ _ _ _ _ _ _ h.1 k,h.2⟩),(fun _ _ _ h k=>RB.keep h k),(fun _ _ _ h k=>⟨Stab.own _ _ _ _ _ _ _ _ h.1 k,h.2⟩),Stab.is _,Stab.is _,Stab.is _,(fun _ _ _ h k=>⟨Stab.own _ _ _ _ _ _ _ _ h.1 k,h.2⟩),(fun _ _ _ h k=>⟨Stab.own _ _ _ _ _ _ _ _ h.1 k,h.2⟩),trivial⟩ ⟨⟨.inl rfl, .inl rfl, .inl rfl, .inr (Stab.is _), .inr (Stab.is _), .inr (Stab.is _), .inl rfl, .inl rfl,trivial⟩,trivial⟩ ?ig ?hQ6025
   case ig=>
    refine⟨?_,?_,?_,?_,?_,?_,?_,?_,trivial⟩
    ·refine Aa rfl fun σ w1 hC h=> ?_
     have hX:Ext aj w1:=hC
     have hC:BX aj.heap.size (Value.ownBlock vb) aj w1:=BX.ofExt hX (Nat.le_refl _)
     have e4:=(Ab (h 4 (by decide))).trans r
     exact Yk.move e4 ⟨Ext.refl _,Stab.own _ _ _ _ _ _ _ _ hr_vb hX,fun k hk=> .inl hk⟩
    ·refine Aa rfl fun σ w1 hC h=> ?_
     have hC:BX aj.heap.size (Value.ownBlock vb) aj w1:=hC
     exact Yk.litN (e:=5) ([0]:List UInt8) (by decide) (fun _ _=>by kernel_rfl) fun v w2 hN=>⟨hN.ext,hN.rb⟩
    ·refine Aa rfl fun σ w1 hC h=> ?_
     have hC:BX aj.heap.size (Value.ownBlock vb) aj w1:=hC
     have ds:(fun x w' =>BU w.heap.size aj.heap.size 5 (Value.ownBlock vb) (s.b) x w') (σ 92) w1:=h 92 (by decide)
     have ih:(fun x w' =>RB w' x (([0]:List UInt8))) (σ 93) w1:=h 93 (by decide)
     exact Yk.appendRB _ _ w.heap.size (.int .u8 0) DT FW rfl DT (s.b) (([0]:List UInt8)) ds.1 ih (by simp only[List.length_cons,List.length_nil];omega) (Nat.le_trans hsz_ hC.size) fun v w2 ho hg=>⟨BX.ofGrown hg.by_ hC.size ds.2,ho,fun k hk=>(hg.fresh k hk).elim (ds.2 k) (fun x=> .inr (Nat.le_trans hC.size x))⟩
    ·refine Aa rfl fun σ w1 hC h=> ?_
     have hC:BX aj.heap.size (Value.ownBlock vb) aj w1:=hC
     have c3:=(Ab (h 10 (by decide))).trans ao
     exact Yk.fieldAt Cp c3 ⟨Ext.refl _,rfl⟩
    ·refine Aa rfl fun σ w1 hC h=> ?_
     have hC:BX aj.heap.size (Value.ownBlock vb) aj w1:=hC
     have ii:=Ab (h 95 (by decide))
     exact Yk.cell1 DT rfl ii (Ai (BX.blk hC f cq) (show _=some (p.v:Value)from rfl)) ⟨Ext.refl _,rfl⟩
    ·refine Aa rfl fun σ w1 hC h=> ?_
     have hC:BX aj.heap.size (Value.ownBlock vb) aj w1:=hC
     have ij:=Ab (h 96 (by decide))
     exact Yk.convRB DT u5 Lg (RB.of (hpr.keep (CB hE hC (by omega) (fun k hk=>by have:=ie k hk;omega))) ij) ⟨Ext.refl _,rfl⟩
    ·refine Aa rfl fun σ w1 hC h=> ?_
     have hC:BX aj.heap.size (Value.ownBlock vb) aj w1:=hC
     have ik:(fun x w' =>BU w.heap.size aj.heap.size 5 (Value.ownBlock vb) ((s.b:List UInt8)++(([0]:List UInt8):List UInt8)) x w') (σ 94) w1:=h 94 (by decide)
     have il:=Ab (h 97 (by decide))
     refine Yk.callA2 JR rfl il ((JP _ (σ 94) ((s.b:List UInt8)++(([0]:List UInt8):List UInt8)) (RB.ofOwn ik.1) (p.bytes) (by simp only[List.length_append,List.length_cons,List.length_nil];omega)).mono ?_)
     rintro e w2 ⟨v,rfl,hN⟩
     exact⟨_,rfl,hN.ext,CU hN.own (Nat.le_trans hsz_ hC.size),fun k hk=> .inr (Nat.le_trans hC.size (hN.own.lt k hk).1)⟩
    ·refine Aa rfl fun σ w1 hC h=> ?_
     have hC:BX aj.heap.size (Value.ownBlock vb) aj w1:=hC
     have im:(fun x w' =>BU w.heap.size aj.heap.size 5 (Value.ownBlock vb) (((s.b:List UInt8)++(([0]:List UInt8):List UInt8):List UInt8)++Bh (p.bytes:List UInt8)) x w') (σ 98) w1:=h 98 (by decide)
     exact Yk.assign rfl ⟨Ext.refl _,im⟩
   intro eu ew io he hf
   obtain⟨-,-,-,-,-,-,-,k4,-⟩:=hf
   obtain⟨t,u,T6,T7,T8,T9,ao,aw,ba,ae,af,o,bb,bc,bd,ce,-⟩:=he.hold [(0,_),(5,_),(6,a8),(7,_),(8,NI ((s.total)+((p.bytes:List UInt8).length))),(9,_),(10,_),(11,_),(13,_),(28,_),(29,_),(30,_),(47,_),(58,_),(61,_),(91,_)] ⟨t,u,rfl,T7,rfl,T9,ao,aw,ba,ae,af,o,bb,bc,bd,(congrArg Value.bool (decide_eq_true (by omega))),trivial⟩ rfl
   clear he
   have k4:(fun x w' =>BU w.heap.size aj.heap.size 5 (Value.ownBlock vb) (((s.b:List UInt8)++(([0]:List UInt8):List UInt8):List UInt8)++Bh (p.bytes:List UInt8)) x w') (eu 4) ew:=k4
   obtain⟨bt,r⟩:∃v,eu 4=v:=⟨_,rfl⟩
   rw[r]at k4
   have bf:Grew aj ew vb bt:=⟨io.grown,k4.2⟩
   have ip:=k4.1;clear k4
   have iq:OB bt n8:=Ax bf hap_vb_n8 bp.lt
   have ir:OB bt y:=Ax bf hap_vb_n24 (bl hb38l)
   have oq:OB bt g:=Ax bf cq (bl f)
   have os:OB bt bo:=Ax bf dq (bl ap)
   have ex:Ae bt a8:=Au bf et db.2
   have iu:Ae a8 bt:=fun k h1 h2=>ex k h2 h1
   have hE:=AC hE bf hr_vb (Nat.le_refl _)
   clear hr_vb
   have hb38l:=AP hb38l bf hap_vb_n24
   have f:=AP f bf cq
   have ap:=AP ap bf dq
   have bp:=MapF.grew bp bf hap_vb_n8
   have db:=By db bf et
   have hbn:(bnext ps p s).b=s.b++ [0]++Bh p.bytes:=by unfold bnext;simp only;rw[if_pos hC0]
   refine tN (ic _ _ (AJ (Ag (Ap (tN (eh _ _ (wt (oS rfl (Yk.bin (xv:=NI i) (yv:=NI 1) o rfl rfl (Ak _ _ _ (by omega)) (oM rfl (AH [(0,v),(4,bt),(5, .map (some n8)),(6,a8),(7, .slice (some ⟨y,0,none⟩) ps.length ps.length),(8,NI ((s.total)+((p.bytes:List UInt8).length))),(9,NI i),(10,PQ g 0),(11,PQ bo 0),(13, .bool (false)),(28,v),(29,NI ps.length),(30,NI ((i)+(1))),(47, .bool (false)),(58, .bool (false)),(61, .bool (false)),(91, .bool (true))] ⟨t,r,u,T6,T7,T8,T9,ao,aw,ba,ae,af,rfl,bb,bc,bd,ce,trivial⟩ fun iv ⟨t,r,u,T6,T7,T8,T9,ao,aw,ba,ae,af,o,bb,bc,bd,ce,_⟩=> ?_)))))))))))
   have hdep:d2=(bnext ps p s).depths++List.replicate (ps.length-(i+1)) 0:=by rw[hd2];simp only[bnext,List.append_assoc,List.singleton_append,Nat.sub_sub]
   refine tN (And.intro ⟨i+1,bnext ps p s,bt,a8,t,u,T7,ae,af,o,T8,r,T6,hE,BI ip (by rw[hbn]),B5 db (rfl),CY bp ((GI hB hin).symm),AZ hb38l (congrArg (List.map fun x=>NI x) hdep),hst3,by omega,iq,ex,ir,h7,iu,h9,trivial⟩ ?_)
   show ps.length-(intOf (iv 30)).toNat<ps.length-(intOf (ef 30)).toNat
   rw[o,q30]
   simp only[intOf,Int.toNat_natCast];omega
  obtain⟨m,hm⟩:∃m:Nat,p.base=(m:Int):=⟨p.base.toNat,by omega⟩
  have hmi:m<i:=by omega
  have f:em.heap[g]? =some (.cells ([p.v,NI m]).toArray 55 (0,0)):=AZ f (by rw[hm])
  refine tN (da _ _ (sk fun ot iw=>(sk fun ou ix=>(wt (oS rfl (Yk.fieldAt Cp (vr (PQ g 0) rfl) (oS rfl (Yk.cell1 DT rfl (vr (PQ g 0) rfl) (Ai f (show _=some (p.v:Value)from rfl)) (oS rfl (Yk.lenRB DT (RB.of (hpr.keep hE) (vr p.v rfl)) (oS rfl (Yk.eqI (a:=((p.bytes:List UInt8).length:Nat)) (b:=(262144:Nat)) rfl rfl (Bm _ _ _ _) (oZ (tN (ix _ _ ?_)))))))))))))))
  refine AO ((262144)<((p.bytes:List UInt8).length)) (vr (.bool (decide ((262144)<((p.bytes:List UInt8).length)))) rfl) (fun a9=> ?_) (fun a9=> ?_)
  ·exact absurd a9 (by omega)
  refine Ah (tN (iw _ _ (sk fun ov iy=>(sk fun ow iz=>(wt (oS rfl (Yk.fieldAt BT (vr (PQ g 0) rfl) (oS rfl (Yk.cell1 NA rfl (vr (PQ g 1) rfl) (Ai f (show _=some (NI m:Value)from rfl)) (oS rfl (Yk.eqI (vr (NI m) rfl) (vr (.int .i64 (-1:Int)) rfl) (Ej _ .i64 ((m:Nat):Int) (-1:Int)) (oM rfl (oY (d:=42) rfl rfl (vr (.bool (false)) (congrArg Value.bool (decide_eq_false (by omega)))) (Yk.fieldAt BT (vr (PQ g 0) rfl) (oY (d:=42) rfl rfl (vr (.bool (false)) (congrArg Value.bool (decide_eq_false (by omega)))) (Yk.cell1 NA rfl (vr (PQ g 1) rfl) (Ai f (show _=some (NI m:Value)from rfl)) (oY (d:=42) rfl rfl (vr (.bool (false)) (congrArg Value.bool (decide_eq_false (by omega)))) (Yk.move o (oY (d:=42) rfl rfl (vr (.bool (false)) (congrArg Value.bool (decide_eq_false (by omega)))) (Yk.eqI (a:=(m:Nat)) (b:=(i:Nat)) rfl rfl (GY _ _ _ _) (oS rfl (Yk.pickF (vr (.bool (false)) (congrArg Value.bool (decide_eq_false (by omega)))) (vr (.bool (false)) (congrArg Value.bool (decide_eq_false (by omega)))) (oZ (tN (iz _ _ ?_)))))))))))))))))))))))))
  refine Ar (vr (.bool (false)) rfl) (Ah (tN (iy _ _ (sk fun ox ey=>(wt (oS rfl (Yk.fieldAt Cp (vr (PQ g 0) rfl) (oS rfl (Yk.cell1 DT rfl (vr (PQ g 0) rfl) (Ai f (show _=some (p.v:Value)from rfl)) (oS rfl (Yk.rows1 E5 (RB.of (hpr.keep hE) (vr p.v rfl)) fun ez oy dt cf=> ?_)))))))))))
  have hE:=hE.trans cf
  have hr_vb:=Stab.own _ _ _ _ _ _ _ _ hr_vb cf
  have hr_vi:=hr_vi.keep cf
  have hb11l:=hb11l.keep cf
  have hb38l:=eb cf hb38l
  have am:=am.trans cf
  have f:=eb cf f
  refine oS rfl (Yk.callA1 Hr (vr ez rfl) ((Es _ (hG.keep hE) ez (p.bytes) dt (by omega)).mono ?_))
  rintro e i0 ⟨rfl,b1⟩
  refine⟨_,rfl,?_⟩
  have hE:=hE.trans b1
  have hr_vb:=Stab.own _ _ _ _ _ _ _ _ hr_vb b1
  have hr_vi:=hr_vi.keep b1
  have hb11l:=hb11l.keep b1
  have hb38l:=eb b1 hb38l
  have am:=am.trans b1
  have f:=eb b1 f
  have dt:=dt.keep b1
  refine oS rfl (Yk.alloc (cs:=(Lib.byteCells (List.replicate 32 0)).toArray) NH fun bg i1 du e1 b2 oz=> ?_)
  have c4:=Ext.refl i0
  have o0:=hE
  have o1:=am
  have i2:=hE.size
  have i3:=am.size
  have o2:=AT hb11l.lt du
  have o3:=AT (bl hb38l) du
  have o4:=AT (bl f) du
  have dv:OB vb bg:=AV hr_vb (by omega)
  have dw:OB vi bg:=AV hr_vi.2 (by omega)
  have hE:=hE.trans b2
  have hr_vb:=Stab.own _ _ _ _ _ _ _ _ hr_vb b2
  have hr_vi:=hr_vi.keep b2
  have hb11l:=hb11l.keep b2
  have hb38l:=eb b2 hb38l
  have am:=am.trans b2
  have f:=eb b2 f
  have c4:=c4.trans b2
  have ak:=e1;clear e1
  have o5:bg<i1.heap.size:=by omega
  refine oS rfl (Yk.storeAll (vr (PQ bg 0) rfl) (vr (AB (Sha.sum (p.bytes))) rfl) ak (by exact C6 (Sha.sum_length _) List.length_replicate) (by exact AM (Sha.sum_length _)) (AF _) fun o6 e2 b3 o7=> ?_)
  have hE:=Ac hE b3 (Nat.le_trans i2 (by omega))
  have hr_vb:=A7 hr_vb b3 dv
  have hr_vi:=OG.kept hr_vi b3 dw
  have hb11l:=MapF.other hb11l b3 (AL (by omega))
  have hb38l:=kb b3 hb38l (by omega)
  have am:=Ac am b3 (Nat.le_trans i3 (by omega))
  have f:=kb b3 f (by omega)
  have c4:=Ac c4 b3 (Nat.le_trans (Nat.le_refl _) (by omega))
  clear ak
  have ak:=e2;clear e2
  have o8:=bl ak
  refine oZ ?_
  rw[if_neg (by omega)]at hst
  by_cases hin:Sha.sum p.bytes∈s.ids
  ·rw[if_pos hin]at hst
   obtain⟨q,hq,-⟩:=DE s.ids s.places (Sha.sum p.bytes) (by omega) hin
   refine tN (ey _ _ (sk fun o9 pa=>(sk fun pb i4=>(wt (oM rfl (oS rfl (Yk.loadAll (vr (PQ bg 0) rfl) ak Ow rfl (by exact AM (Sha.sum_length _)) (oS rfl (Yk.lookOkS (ek:=rk) (ev:=NI) (D:=(fun id:List UInt8=>id.length=32)) Cf Cg (fun _ _=>Cc) Ec (z:=NI 0) FM u (vr (AB (Sha.sum (p.bytes))) rfl) hb11l (Sha.sum_length _) (show Bo s _=some q from hq) (oM rfl (oS rfl (Yk.extract (vs:= [NI q, .bool (true)]) (vr (.tuple #[NI q, .bool (true)]) rfl) (show _=some (NI q:Value)from rfl) (oS rfl (Yk.extract (vs:= [NI q, .bool (true)]) (vr (.tuple #[NI q, .bool (true)]) rfl) (show _=some (.bool (true):Value)from rfl) (oA rfl (oA rfl (oZ (tN (i4 _ _ (sk fun pc i5=>(wt ?_)))))))))))))))))))))
   refine oM rfl (oZ (tN (i5 _ _ (AE (vr (.bool (true)) rfl) (sk fun pd i6=>(wt (oA rfl (oA rfl (oZ (tN (i6 _ _ (As (Am (AR (Am (Am (AR (Am (Ao (fn:=Tryd.f11) _ rfl [(Value.slice none 0 0),NI 11] (.tuple #[(Value.slice none 0 0),NI 11]) rfl ⟨rfl,rfl,trivial⟩ ?_)))))))))))))))))))
   rw[CA (by omega) hst]
   exact⟨_,rfl,RB.nil _,hE⟩
  rw[if_neg hin]at hst
  have hq:=C8 s.ids s.places (Sha.sum p.bytes) hin
  refine tN (ey _ _ (sk fun pe i7=>(sk fun pf i8=>(wt (oM rfl (oS rfl (Yk.loadAll (vr (PQ bg 0) rfl) ak Ow rfl (by exact AM (Sha.sum_length _)) (oS rfl (Yk.lookOkN (ek:=rk) (ev:=NI) (D:=(fun id:List UInt8=>id.length=32)) Cf Cg (fun _ _=>Cc) Ec (z:=NI 0) FM u (vr (AB (Sha.sum (p.bytes))) rfl) hb11l (Sha.sum_length _) (show Bo s _=none from hq) (oM rfl (oS rfl (Yk.extract (vs:= [NI 0, .bool (false)]) (vr (.tuple #[NI 0, .bool (false)]) rfl) (show _=some (NI 0:Value)from rfl) (oS rfl (Yk.extract (vs:= [NI 0, .bool (false)]) (vr (.tuple #[NI 0, .bool (false)]) rfl) (show _=some (.bool (false):Value)from rfl) (oA rfl (oA rfl (oZ (tN (i8 _ _ (sk fun pg i9=>(wt ?_)))))))))))))))))))))
  refine oM rfl (oZ (tN (i9 _ _ (Ar (vr (.bool (false)) rfl) (Ah (tN (i7 _ _ (sk fun ph ja=>(sk fun pi jb=>(wt (oS rfl (Yk.fieldAt BT (vr (PQ g 0) rfl) (oS rfl (Yk.cell1 NA rfl (vr (PQ g 1) rfl) (Ai f (show _=some (NI m:Value)from rfl)) (oS rfl (Yk.eqI (a:=(m:Nat)) (b:=(0:Nat)) rfl rfl (GY _ _ _ _) (oZ (tN (jb _ _ (AE (vr (.bool (true)) (congrArg Value.bool (decide_eq_true (Nat.zero_le _)))) (wt ?_)))))))))))))))))))))
  refine oM rfl (oM rfl (oM rfl (oS rfl (Yk.fieldAt BT (vr (PQ g 0) rfl) (oS rfl (Yk.cell1 NA rfl (vr (PQ g 1) rfl) (Ai f (show _=some (NI m:Value)from rfl)) (oS rfl (Yk.atSl0 (i:=m) ID FL T7 (vr (NI m) rfl) (by omega) (oS rfl (Yk.cell1 NA rfl (vr (PQ y m) rfl) (Ai hb38l (E2 (i:=m) (by omega))) (oS rfl (Yk.bin (xv:=NI ((dl).getD (m) 0)) (yv:=NI 1) rfl rfl rfl (Ak _ _ _ (by have:=hB.dp _ (A6 0 (l:=s.depths) (i:=m) (by omega));rw[hdg m hmi];omega)) (oS rfl (Yk.atSl0 (i:=i) ID FL T7 o (by omega) (oS rfl (Yk.storeN (i:=i) (v:=((dl).getD (m) 0)+(1)) (vr (PQ y i) rfl) (vr (NI (((dl).getD (m) 0)+(1))) rfl) hb38l (by omega) JE fun jc e3 cu pj=> ?_))))))))))))))))
  have hE:=Ac hE cu (Nat.le_trans gi (by omega))
  have hr_vb:=A7 hr_vb cu hap_vb_n24
  have hr_vi:=OG.kept hr_vi cu hap_vi_n24
  have hb11l:=MapF.other hb11l cu (AL (by omega))
  clear hb38l
  clear am
  have f:=kb cu f (by omega)
  clear c4
  have ak:=kb cu ak (by omega)
  have hb38l:=e3;clear e3
  have pk:=bl hb38l
  refine AH [(0,v),(4,vb),(5, .map (some n8)),(6,vi),(7, .slice (some ⟨y,0,none⟩) ps.length ps.length),(8,NI s.total),(9,NI i),(10,PQ g 0),(11,PQ bg 0),(13, .bool (false)),(28,v),(29,NI ps.length),(30,NI i),(47, .bool (false)),(58, .bool (false)),(61, .bool (true))] ⟨t,r,u,T6,T7,T8,o,rfl,rfl,rfl,ae,af,o,rfl,rfl,(congrArg Value.bool (decide_eq_true (Nat.zero_le _))),trivial⟩ fun pm ⟨t,r,u,T6,T7,T8,T9,ao,aw,ba,ae,af,o,bb,bc,bd,_⟩=> ?_
  obtain⟨d2,hd2⟩:∃d2,d2=s.depths++depthB p s :: List.replicate (ps.length-i-1) 0:=⟨_,rfl⟩
  have hb38l:jc.heap[y]? =some (.cells (d2.map fun x=>NI x).toArray 3 (0,0)):=AZ hb38l (congrArg (List.map fun x=>NI x) (by rw[hd2,hdg m hmi,hdl,List.set_append_right _ _ (by omega),hBd,Nat.sub_self,show ps.length-i=(ps.length-i-1)+1 by omega];unfold depthB;rw[if_neg hC0,hm,Int.toNat_natCast];rfl))
  have hdv:d2.getD i 0=depthB p s:=by rw[hd2,List.getD_eq_getElem?_getD,List.getElem?_append_right (by omega),hBd,Nat.sub_self];simp
  have hd2l:d2.length=ps.length:=by rw[hd2,List.length_append,List.length_cons,List.length_replicate];omega
  refine tN (ja _ _ (sk fun pn jd=>(sk fun po je=>(wt (oM rfl (oM rfl (oS rfl (Yk.atSl0 (i:=i) ID FL T7 T9 (by omega) (oS rfl (Yk.cell1 NA rfl (vr (PQ y i) rfl) (Ai hb38l (E2 (i:=i) (by omega))) (oS rfl (Yk.eqI (a:=((d2).getD (i) 0:Nat)) (b:=(50:Nat)) rfl rfl (Bm _ _ _ _) (oZ (tN (je _ _ ?_)))))))))))))))
  refine AO ((50)<((d2).getD (i) 0)) (vr (.bool (decide ((50)<((d2).getD (i) 0)))) rfl) (fun be=> ?_) (fun be=> ?_)
  ·refine sk fun pp jf=>(wt (oA rfl (oA rfl (oZ (tN (jf _ _ (As (Am (AR (Am (Am (AR (Am (Ao (fn:=Tryd.f11) _ rfl [(Value.slice none 0 0),NI 17] (.tuple #[(Value.slice none 0 0),NI 17]) rfl ⟨rfl,rfl,trivial⟩ ?_))))))))))))))
   rw[hdv]at be
   rw[if_pos be]at hst
   rw[CA (by omega) hst]
   exact⟨_,rfl,RB.nil _,hE⟩
  rw[hdv]at be
  rw[if_neg be]at hst
  have hst3:=hst
  refine Ah (tN (jd _ _ (sk fun pq jg=>(wt (oM rfl (oS rfl (Yk.loadAll aw ak Ow rfl (by exact AM (Sha.sum_length _)) (oM rfl (oS rfl (Yk.lenRB DT (RB.of (RB.ofOwn hr_vb) r) (oS rfl (Yk.putM (ek:=rk) (ev:=NI) (D:=(fun id:List UInt8=>id.length=32)) (c:=(s.b:List UInt8).length) Cf Cg Ec u (vr (AB (Sha.sum (p.bytes))) rfl) (vr (NI ((s.b:List UInt8).length)) rfl) hb11l (Sha.sum_length _) fun jh aq cv pr=> ?_))))))))))))
  have hE:=Ac hE cv (Nat.le_trans ec (by omega))
  have hr_vb:=A7 hr_vb cv hap_vb_n8
  have hr_vi:=OG.kept hr_vi cv hap_vi_n8
  clear hb11l
  have f:=kb cv f (by omega)
  have ak:=kb cv ak (by omega)
  have hb38l:=kb cv hb38l (by omega)
  have pt:n8<jh.heap.size:=aq.lt
  refine oZ (tN (jg _ _ (sk fun pu ji=>(wt (oM rfl (oS rfl (Yk.loadAll aw ak Ow rfl (by exact AM (Sha.sum_length _)) (oS rfl (Yk.lit1G (a:=(Sha.sum (p.bytes))) (enc:=Lib.byteCells) (vr (AB (Sha.sum (p.bytes))) rfl) (by rw[Lib.byteCells_length];exact(Sha.sum_length _)) JQ fun jj jk e6 cg=> ?_)))))))))
  have hE:=hE.trans cg
  have hr_vb:=Stab.own _ _ _ _ _ _ _ _ hr_vb cg
  have hr_vi:=hr_vi.keep cg
  have f:=eb cg f
  have ak:=eb cg ak
  have hb38l:=eb cg hb38l
  have aq:=aq.keep cg
  refine oS rfl (Yk.appendRG _ _ w.heap.size _ 32 JD pk6_ig38.choose_spec.1 pk6_ig38.choose_spec.2 JD (s.ids) ([(Sha.sum (p.bytes))]) (OG.of hr_vi T6) (RG.of e6 (vr jj rfl)) (fun _ _=>AF _) (by simp only[List.length_cons,List.length_nil];omega) (by simp only[List.length_cons,List.length_nil];omega) hE.size fun av e7 a0 a2=> ?_)
  have a2:Grew jk e7 vi av:= .eqv T6 a2
  have jl:OB av n8:=Ax a2 hap_vi_n8 aq.lt
  have jm:Ae av vb:=Au a2 hap_vi_vb hr_vb
  have e8:Ae vb av:=fun k h1 h2=>jm k h2 h1
  have jn:OB av y:=Ax a2 hap_vi_n24 (bl hb38l)
  have pv:OB av g:=Ax a2 c1 (bl f)
  have pw:OB av bg:=Ax a2 dw (bl ak)
  have hE:=AC hE a2 hr_vi.2 (Nat.le_refl _)
  have hr_vb:=Bg hr_vb a2 hap_vi_vb
  clear hr_vi
  have f:=AP f a2 c1
  have ak:=AP ak a2 dw
  have hb38l:=AP hb38l a2 hap_vi_n24
  have aq:=MapF.grew aq a2 hap_vi_n8
  clear e6
  refine oA rfl (oZ (tN (ji _ _ (sk fun px jo=>(wt (oM rfl (oS rfl (Yk.fieldAt Cp ao (oS rfl (Yk.cell1 DT rfl (vr (PQ g 0) rfl) (Ai f (show _=some (p.v:Value)from rfl)) (oS rfl (Yk.lenRB DT (RB.of (hpr.keep hE) (vr p.v rfl)) (oS rfl (Yk.bin (xv:=NI s.total) (yv:=NI ((p.bytes:List UInt8).length)) T8 rfl rfl (Ak _ _ _ (by omega)) (oA rfl (oZ (tN (jo _ _ (sk fun py jp=>(sk fun pz jq=>(wt ?_)))))))))))))))))))))
  refine oS rfl (Yk.fieldAt BT ao (oS rfl (Yk.cell1 NA rfl (vr (PQ g 1) rfl) (Ai f (show _=some (NI m:Value)from rfl)) (oS rfl (Yk.eqI (a:=(m:Nat)) (b:=(0:Nat)) rfl rfl (AN _ _ _ _) (oZ ?_))))))
  have hm32:(s.ids.getD m []).length=32:=hB.len _ (A6 [] (by omega))
  have hpq:=(hps _ (A6 dPt (l:=ps) (i:=m) (by omega))).1
  have hql:=hL.2 _ (A6 dPt (l:=ps) (i:=m) (by omega))
  have hmk:=Fj (ps.getD m dPt).bytes p.bytes (by omega) (by omega)
  refine tN (jq _ _ (Ar (vr (.bool (false)) (congrArg Value.bool (decide_eq_false (by omega)))) (Ah (tN (jp _ _ (sk fun p0 jr=>(wt (oM rfl (oS rfl (Yk.fieldAt BT ao (oS rfl (Yk.cell1 NA rfl (vr (PQ g 1) rfl) (Ai f (show _=some (NI m:Value)from rfl)) ?_))))))))))))
  have dx:(Lib.byteCells (((s.ids)++ [(Sha.sum (p.bytes))]).getD (m) ([]:List UInt8))).length=32:=(RG.elem (RG.ofOwn a0) ([]:List UInt8) (by rw[List.length_append];omega))
  refine oS rfl (Yk.atRG JD Mn (by decide) ([]:List UInt8) (RG.of (RG.ofOwn a0) (vr av rfl)) (vr (NI m) rfl) (by rw[List.length_append];omega) fun js e9=>(oS rfl (Yk.loadPR (PR.of e9 (vr js rfl)) Ow rfl (by rw[dx];exact L9) (oS rfl (Yk.alloc (cs:=(Lib.byteCells (List.replicate 32 0)).toArray) NH fun bh jt dc fa b4 p1=> ?_)))))
  have c5:=Ext.refl e7
  have p2:=hE
  have ju:=hE.size
  have p3:=AT (bl f) dc
  have p4:=AT (bl ak) dc
  have p5:=AT (bl hb38l) dc
  have p6:=AT aq.lt dc
  have dd:OB vb bh:=AV hr_vb (by omega)
  have jv:OB av bh:=AV a0.2 (by omega)
  have hE:=hE.trans b4
  have hr_vb:=Stab.own _ _ _ _ _ _ _ _ hr_vb b4
  have f:=eb b4 f
  have ak:=eb b4 ak
  have hb38l:=eb b4 hb38l
  have aq:=aq.keep b4
  have a0:=a0.keep b4
  have c5:=c5.trans b4
  have a3:=fa;clear fa
  have p7:bh<jt.heap.size:=by omega
  refine oS rfl (Yk.storeAll (vr (PQ bh 0) rfl) (vr (AB (((s.ids)++ [(Sha.sum (p.bytes))]).getD (m) ([]:List UInt8))) rfl) a3 (by exact C6 (A5 (dx)) List.length_replicate) (by exact AM (A5 (dx))) (AF _) fun an fb b5 p8=> ?_)
  have hE:=Ac hE b5 (Nat.le_trans ju (by omega))
  have hr_vb:=A7 hr_vb b5 dd
  have f:=kb b5 f (by omega)
  have ak:=kb b5 ak (by omega)
  have hb38l:=kb b5 hb38l (by omega)
  have aq:=MapF.other aq b5 (AL (by omega))
  have a0:=OG.kept a0 b5 jv
  have c5:=Ac c5 b5 (Nat.le_trans (Nat.le_refl _) (by omega))
  clear a3
  have a3:=fb;clear fb
  have p9:=bl a3
  refine oZ ?_
  clear e9
  have a3:an.heap[bh]? =some (.cells (Lib.byteCells (s.ids.getD m [])).toArray 38 (0,0)):=AZ a3 (congrArg Lib.byteCells (by rw[List.getD_eq_getElem?_getD,List.getElem?_append_left (by omega),←List.getD_eq_getElem?_getD]))
  refine tN (jr _ _ (sk fun qa jw=> ?_))
  have qb:∀k,Value.ownBlock vb=some k→w.heap.size≤k:=fun k hk=>(hr_vb.lt k hk).1
  have hsz_:w.heap.size≤an.heap.size:=hE.size
  refine Cz (Value.ownBlock vb) [2,4] [0] (fun m=>if m=2 then [0,1]else if m=4 then [0,1,2]else []) (fun m=>if m=2 then [0,1,2,4,5]else if m=4 then [0,1,2,4,5]else []) [fun x w' =>BU w.heap.size an.heap.size 5 (Value.ownBlock vb) (s.b) x w',fun x w' =>RB w' x (([1]:List UInt8)),fun x w' =>BU w.heap.size an.heap.size 5 (Value.ownBlock vb) ((s.b:List UInt8)++(([1]:List UInt8):List UInt8)) x w',Is (.slice (some ⟨bh,0,none⟩) 32 32),fun x w' =>BU w.heap.size an.heap.size 5 (Value.ownBlock vb) (((s.b:List UInt8)++(([1]:List UInt8):List UInt8):List UInt8)++(s.ids.getD m []:List UInt8)) x w',fun x w' =>BU w.heap.size an.heap.size 5 (Value.ownBlock vb) (((s.b:List UInt8)++(([1]:List UInt8):List UInt8):List UInt8)++(s.ids.getD m []:List UInt8)) x w'] (by kernel_rfl) [104,105,106,107,108,4] (by kernel_rfl) (by kernel_rfl) (by kernel_rfl) (by kernel_rfl) (by kernel_rfl) rfl ⟨(fun _ _ _ h k=>⟨Stab.own _ _ _ _ _ _ _ _ h.1 k,h.2⟩),(fun _ _ _ h k=>RB.keep h k),(fun _ _ _ h k=>⟨Stab.own _ _ _ _ _ _ _ _ h.1 k,h.2⟩),Stab.is _,(fun _ _ _ h k=>⟨Stab.own _ _ _ _ _ _ _ _ h.1 k,h.2⟩),(fun _ _ _ h k=>⟨Stab.own _ _ _ _ _ _ _ _ h.1 k,h.2⟩),trivial⟩ ⟨⟨.inl rfl, .inl rfl, .inl rfl, .inr (Stab.is _), .inl rfl, .inl rfl,trivial⟩,⟨.inl rfl, .inl rfl, .inl rfl, .inr (Stab.is _), .inl rfl, .inl rfl,trivial⟩,trivial⟩ ?jx ?hQ7027
  case jx=>
   refine⟨?_,?_,?_,?_,?_,?_,trivial⟩
   ·refine Aa rfl fun σ w1 hC h=> ?_
    have hX:Ext an w1:=hC
    have hC:BX an.heap.size (Value.ownBlock vb) an w1:=BX.ofExt hX (Nat.le_refl _)
    have e4:=(Ab (h 4 (by decide))).trans r
    exact Yk.move e4 ⟨Ext.refl _,Stab.own _ _ _ _ _ _ _ _ hr_vb hX,fun k hk=> .inl hk⟩
   ·refine Aa rfl fun σ w1 hC h=> ?_
    have hC:BX an.heap.size (Value.ownBlock vb) an w1:=hC
    exact Yk.litN (e:=5) ([1]:List UInt8) (by decide) (fun _ _=>by kernel_rfl) fun v w2 hN=>⟨hN.ext,hN.rb⟩
   ·refine Aa rfl fun σ w1 hC h=> ?_
    have hC:BX an.heap.size (Value.ownBlock vb) an w1:=hC
    have dy:(fun x w' =>BU w.heap.size an.heap.size 5 (Value.ownBlock vb) (s.b) x w') (σ 104) w1:=h 104 (by decide)
    have jy:(fun x w' =>RB w' x (([1]:List UInt8))) (σ 105) w1:=h 105 (by decide)
    exact Yk.appendRB _ _ w.heap.size (.int .u8 0) DT FW rfl DT (s.b) (([1]:List UInt8)) dy.1 jy (by simp only[List.length_cons,List.length_nil];omega) (Nat.le_trans hsz_ hC.size) fun v w2 ho hg=>⟨BX.ofGrown hg.by_ hC.size dy.2,ho,fun k hk=>(hg.fresh k hk).elim (dy.2 k) (fun x=> .inr (Nat.le_trans hC.size x))⟩
   ·refine Aa rfl fun σ w1 hC h=> ?_
    have hC:BX an.heap.size (Value.ownBlock vb) an w1:=hC
    have jz:σ 14=PQ bh 0:=(Ab (h 14 (by decide))).trans rfl
    exact Yk.sliceArr Ow Ls jz ⟨Ext.refl _,rfl⟩
   ·refine Aa rfl fun σ w1 hC h=> ?_
    have hC:BX an.heap.size (Value.ownBlock vb) an w1:=hC
    have dz:(fun x w' =>BU w.heap.size an.heap.size 5 (Value.ownBlock vb) ((s.b:List UInt8)++(([1]:List UInt8):List UInt8)) x w') (σ 106) w1:=h 106 (by decide)
    have j0:=Ab (h 107 (by decide))
    exact Yk.appendRB _ _ w.heap.size (.int .u8 0) DT FW rfl DT ((s.b:List UInt8)++(([1]:List UInt8):List UInt8)) (s.ids.getD m []) dz.1 (RB.of (RB.ofBlkN (BX.blk hC a3 dd) hm32 (by decide)) j0) (by simp only[List.length_append,List.length_cons,List.length_nil,hm32];omega) (Nat.le_trans hsz_ hC.size) fun v w2 ho hg=>⟨BX.ofGrown hg.by_ hC.size dz.2,ho,fun k hk=>(hg.fresh k hk).elim (dz.2 k) (fun x=> .inr (Nat.le_trans hC.size x))⟩
   ·refine Aa rfl fun σ w1 hC h=> ?_
    have hC:BX an.heap.size (Value.ownBlock vb) an w1:=hC
    have j1:(fun x w' =>BU w.heap.size an.heap.size 5 (Value.ownBlock vb) (((s.b:List UInt8)++(([1]:List UInt8):List UInt8):List UInt8)++(s.ids.getD m []:List UInt8)) x w') (σ 108) w1:=h 108 (by decide)
    exact Yk.assign rfl ⟨Ext.refl _,j1⟩
  intro fc ac j2 he hf
  obtain⟨-,-,-,-,-,k4,-⟩:=hf
  obtain⟨t,u,T6,T7,T8,T9,ao,aw,ba,de,ae,af,o,bb,bc,bd,ce,-⟩:=he.hold [(0,_),(5,_),(6,av),(7,_),(8,NI ((s.total)+((p.bytes:List UInt8).length))),(9,_),(10,_),(11,_),(13,_),(14,PQ bh 0),(28,_),(29,_),(30,_),(47,_),(58,_),(61,_),(91,_)] ⟨t,u,rfl,T7,rfl,T9,ao,aw,ba,rfl,ae,af,o,bb,bc,bd,(congrArg Value.bool (decide_eq_false (by omega))),trivial⟩ rfl
  clear he
  have k4:(fun x w' =>BU w.heap.size an.heap.size 5 (Value.ownBlock vb) (((s.b:List UInt8)++(([1]:List UInt8):List UInt8):List UInt8)++(s.ids.getD m []:List UInt8)) x w') (fc 4) ac:=k4
  obtain⟨ai,r⟩:∃v,fc 4=v:=⟨_,rfl⟩
  rw[r]at k4
  have a4:Grew an ac vb ai:=⟨j2.grown,k4.2⟩
  have df:=k4.1;clear k4
  have fd:OB ai n8:=Ax a4 hap_vb_n8 aq.lt
  have fe:OB ai y:=Ax a4 hap_vb_n24 (bl hb38l)
  have dg:OB ai g:=Ax a4 cq (bl f)
  have ff:OB ai bg:=Ax a4 dv (bl ak)
  have d0:Ae ai av:=Au a4 e8 a0.2
  have qc:Ae av ai:=fun k h1 h2=>d0 k h2 h1
  have fg:OB ai bh:=Ax a4 dd (bl a3)
  have hE:=AC hE a4 hr_vb (Nat.le_refl _)
  clear hr_vb
  have f:=AP f a4 cq
  have ak:=AP ak a4 dv
  have hb38l:=AP hb38l a4 hap_vb_n24
  have aq:=MapF.grew aq a4 hap_vb_n8
  have a0:=By a0 a4 e8
  clear c5
  have a3:=AP a3 a4 dd
  refine tN (jw _ _ ?_)
  have d1:∀k,Value.ownBlock ai=some k→w.heap.size≤k:=fun k hk=>(df.lt k hk).1
  have hsz_:w.heap.size≤ac.heap.size:=hE.size
  refine Cz (Value.ownBlock ai) [] [0] (fun m=> []) (fun m=> []) [fun x w' =>BU w.heap.size ac.heap.size 5 (Value.ownBlock ai) (((s.b:List UInt8)++(([1]:List UInt8):List UInt8):List UInt8)++(s.ids.getD m []:List UInt8)) x w',Is (v),Is (PQ g 1),Is (NI m),fun x w' =>PR (partC (ps.getD (m) dPt)) x w',fun x w' =>PR (((partC (ps.getD (m) dPt)).drop 0).take 1) x w',Is ((ps.getD (m) dPt).v),Is (PQ g 0),Is (p.v),fun x w' =>RB w' x (Bv ((ps.getD m dPt).bytes) (p.bytes)),Is (St (Bv ((ps.getD m dPt).bytes) (p.bytes))),fun x w' =>BU w.heap.size ac.heap.size 5 (Value.ownBlock ai) ((((s.b:List UInt8)++(([1]:List UInt8):List UInt8):List UInt8)++(s.ids.getD m []:List UInt8):List UInt8)++Bh (Bv ((ps.getD m dPt).bytes) (p.bytes):List UInt8)) x w',fun x w' =>BU w.heap.size ac.heap.size 5 (Value.ownBlock ai) ((((s.b:List UInt8)++(([1]:List UInt8):List UInt8):List UInt8)++(s.ids.getD m []:List UInt8):List UInt8)++Bh (Bv ((ps.getD m dPt).bytes) (p.bytes):List UInt8)) x w'] (by kernel_rfl) [109,110,111,112,113,114,115,116,117,118,119,120,4] (by kernel_rfl) (by kernel_rfl) (by kernel_rfl) (by kernel_rfl) (by kernel_rfl) rfl ⟨(fun _ _ _ h k=>⟨Stab.own _ _ _ _ _ _ _ _ h.1 k,h.2⟩),Stab.is _,Stab.is _,Stab.is _,(fun _ _ _ h k=>PR.keep h k),(fun _ _ _ h k=>PR.keep h k),Stab.is _,Stab.is _,Stab.is _,(fun _ _ _ h k=>RB.keep h k),Stab.is _,(fun _ _ _ h k=>⟨Stab.own _ _ _ _ _ _ _ _ h.1 k,h.2⟩),(fun _ _ _ h k=>⟨Stab.own _ _ _ _ _ _ _ _ h.1 k,h.2⟩),trivial⟩ trivial ?j3 ?hQ8028
  case j3=>
   refine⟨?_,?_,?_,?_,?_,?_,?_,?_,?_,?_,?_,?_,?_,trivial⟩
   ·refine Aa rfl fun σ w1 hC h=> ?_
    have hX:Ext ac w1:=hC
    have hC:BX ac.heap.size (Value.ownBlock ai) ac w1:=BX.ofExt hX (Nat.le_refl _)
    have e4:=(Ab (h 4 (by decide))).trans r
    exact Yk.move e4 ⟨Ext.refl _,Stab.own _ _ _ _ _ _ _ _ df hX,fun k hk=> .inl hk⟩
   ·refine Aa rfl fun σ w1 hC h=> ?_
    have hC:BX ac.heap.size (Value.ownBlock ai) ac w1:=hC
    have e0:=(Ab (h 0 (by decide))).trans t
    exact Yk.move e0 ⟨Ext.refl _,rfl⟩
   ·refine Aa rfl fun σ w1 hC h=> ?_
    have hC:BX ac.heap.size (Value.ownBlock ai) ac w1:=hC
    have c3:=(Ab (h 10 (by decide))).trans ao
    exact Yk.fieldAt BT c3 ⟨Ext.refl _,rfl⟩
   ·refine Aa rfl fun σ w1 hC h=> ?_
    have hC:BX ac.heap.size (Value.ownBlock ai) ac w1:=hC
    have j5:=Ab (h 111 (by decide))
    exact Yk.cell1 NA rfl j5 (Ai (BX.blk hC f dg) (show _=some (NI m:Value)from rfl)) ⟨Ext.refl _,rfl⟩
   ·refine Aa rfl fun σ w1 hC h=> ?_
    have hC:BX ac.heap.size (Value.ownBlock ai) ac w1:=hC
    have j6:=Ab (h 110 (by decide))
    have j7:=Ab (h 112 (by decide))
    exact Yk.atRG E4 IO (by decide) dPt (RG.of (hr.keep (CB hE hC (by omega) (fun k hk=>by have:=d1 k hk;omega))) j6) j7 (by omega) fun v h=>⟨Ext.refl _,h⟩
   ·refine Aa rfl fun σ w1 hC h=> ?_
    have hC:BX ac.heap.size (Value.ownBlock ai) ac w1:=hC
    have j8:(fun x w' =>PR (partC (ps.getD (m) dPt)) x w') (σ 113) w1:=h 113 (by decide)
    exact Yk.fieldPR (n:=1) Cp j8 fun v h=>⟨Ext.refl _,h⟩
   ·refine Aa rfl fun σ w1 hC h=> ?_
    have hC:BX ac.heap.size (Value.ownBlock ai) ac w1:=hC
    have j9:(fun x w' =>PR (((partC (ps.getD (m) dPt)).drop 0).take 1) x w') (σ 114) w1:=h 114 (by decide)
    exact Yk.loadC DT rfl (PR.cell j9 (show _=some ((ps.getD (m) dPt).v:Value)from rfl)) ⟨Ext.refl _,rfl⟩
   ·refine Aa rfl fun σ w1 hC h=> ?_
    have hC:BX ac.heap.size (Value.ownBlock ai) ac w1:=hC
    have c3:=(Ab (h 10 (by decide))).trans ao
    exact Yk.fieldAt Cp c3 ⟨Ext.refl _,rfl⟩
   ·refine Aa rfl fun σ w1 hC h=> ?_
    have hC:BX ac.heap.size (Value.ownBlock ai) ac w1:=hC
    have ka:=Ab (h 116 (by decide))
    exact Yk.cell1 DT rfl ka (Ai (BX.blk hC f dg) (show _=some (p.v:Value)from rfl)) ⟨Ext.refl _,rfl⟩
   ·refine Aa rfl fun σ w1 hC h=> ?_
    have hC:BX ac.heap.size (Value.ownBlock ai) ac w1:=hC
    have kc:=Ab (h 115 (by decide))
    have kd:=Ab (h 117 (by decide))
    refine Yk.callA2 NV kc kd ((NO _ ((ps.getD (m) dPt).v) (p.v) ((ps.getD m dPt).bytes) (p.bytes) (hpq.keep (CB hE hC (by omega) (fun k hk=>by have:=d1 k hk;omega))) (hpr.keep (CB hE hC (by omega) (fun k hk=>by have:=d1 k hk;omega))) (by omega) (by omega)).mono ?_)
    rintro e w2 ⟨_,rfl,hx,ho⟩
    exact⟨_,rfl,hx,RB.ofOwn ho⟩
   ·refine Aa rfl fun σ w1 hC h=> ?_
    have hC:BX ac.heap.size (Value.ownBlock ai) ac w1:=hC
    have ke:(fun x w' =>RB w' x (Bv ((ps.getD m dPt).bytes) (p.bytes))) (σ 118) w1:=h 118 (by decide)
    exact Yk.convRB DT u5 Lg ke ⟨Ext.refl _,rfl⟩
   ·refine Aa rfl fun σ w1 hC h=> ?_
    have hC:BX ac.heap.size (Value.ownBlock ai) ac w1:=hC
    have kf:(fun x w' =>BU w.heap.size ac.heap.size 5 (Value.ownBlock ai) (((s.b:List UInt8)++(([1]:List UInt8):List UInt8):List UInt8)++(s.ids.getD m []:List UInt8)) x w') (σ 109) w1:=h 109 (by decide)
    have kg:=Ab (h 119 (by decide))
    refine Yk.callA2 JR rfl kg ((JP _ (σ 109) (((s.b:List UInt8)++(([1]:List UInt8):List UInt8):List UInt8)++(s.ids.getD m []:List UInt8)) (RB.ofOwn kf.1) (Bv ((ps.getD m dPt).bytes) (p.bytes)) (by simp only[List.length_append,List.length_cons,List.length_nil,hm32];omega)).mono ?_)
    rintro e w2 ⟨v,rfl,hN⟩
    exact⟨_,rfl,hN.ext,CU hN.own (Nat.le_trans hsz_ hC.size),fun k hk=> .inr (Nat.le_trans hC.size (hN.own.lt k hk).1)⟩
   ·refine Aa rfl fun σ w1 hC h=> ?_
    have hC:BX ac.heap.size (Value.ownBlock ai) ac w1:=hC
    have kh:(fun x w' =>BU w.heap.size ac.heap.size 5 (Value.ownBlock ai) ((((s.b:List UInt8)++(([1]:List UInt8):List UInt8):List UInt8)++(s.ids.getD m []:List UInt8):List UInt8)++Bh (Bv ((ps.getD m dPt).bytes) (p.bytes):List UInt8)) x w') (σ 120) w1:=h 120 (by decide)
    exact Yk.assign rfl ⟨Ext.refl _,kh⟩
  intro fh fi ki he hf
  obtain⟨-,-,-,-,-,-,-,-,-,-,-,-,k4,-⟩:=hf
  obtain⟨t,u,T6,T7,T8,T9,ao,aw,ba,de,ae,af,o,bb,bc,bd,ce,-⟩:=he.hold [(0,_),(5,_),(6,_),(7,_),(8,_),(9,_),(10,_),(11,_),(13,_),(14,_),(28,_),(29,_),(30,_),(47,_),(58,_),(61,_),(91,_)] ⟨t,u,T6,T7,T8,T9,ao,aw,ba,de,ae,af,o,bb,bc,bd,ce,trivial⟩ rfl
  clear he
  have k4:(fun x w' =>BU w.heap.size ac.heap.size 5 (Value.ownBlock ai) ((((s.b:List UInt8)++(([1]:List UInt8):List UInt8):List UInt8)++(s.ids.getD m []:List UInt8):List UInt8)++Bh (Bv ((ps.getD m dPt).bytes) (p.bytes):List UInt8)) x w') (fh 4) fi:=k4
  obtain⟨bq,r⟩:∃v,fh 4=v:=⟨_,rfl⟩
  rw[r]at k4
  have a5:Grew ac fi ai bq:=⟨ki.grown,k4.2⟩
  have kj:=k4.1;clear k4
  have kk:OB bq n8:=Ax a5 fd aq.lt
  have kl:OB bq y:=Ax a5 fe (bl hb38l)
  have qd:OB bq g:=Ax a5 dg (bl f)
  have qe:OB bq bg:=Ax a5 ff (bl ak)
  have fj:Ae bq av:=Au a5 d0 a0.2
  have km:Ae av bq:=fun k h1 h2=>fj k h2 h1
  have qf:OB bq bh:=Ax a5 fg (bl a3)
  have hE:=AC hE a5 df (Nat.le_refl _)
  have f:=AP f a5 dg
  have ak:=AP ak a5 ff
  have hb38l:=AP hb38l a5 fe
  have aq:=MapF.grew aq a5 fd
  have a0:=By a0 a5 d0
  have a3:=AP a3 a5 fg
  clear df
  have hbn:(bnext ps p s).b=s.b++ [1]++s.ids.getD m []++Bh (Bv (ps.getD m dPt).bytes p.bytes):=by unfold bnext;simp only;rw[if_neg hC0,hm,Int.toNat_natCast]
  refine bN (tN (eh _ _ (wt (oS rfl (Yk.bin (xv:=NI i) (yv:=NI 1) o rfl rfl (Ak _ _ _ (by omega)) (oM rfl (AH [(0,v),(4,bq),(5, .map (some n8)),(6,av),(7, .slice (some ⟨y,0,none⟩) ps.length ps.length),(8,NI ((s.total)+((p.bytes:List UInt8).length))),(9,NI i),(10,PQ g 0),(11,PQ bg 0),(13, .bool (false)),(14,PQ bh 0),(28,v),(29,NI ps.length),(30,NI ((i)+(1))),(47, .bool (false)),(58, .bool (false)),(61, .bool (true)),(91, .bool (false))] ⟨t,r,u,T6,T7,T8,T9,ao,aw,ba,de,ae,af,rfl,bb,bc,bd,ce,trivial⟩ fun kn ⟨t,r,u,T6,T7,T8,T9,ao,aw,ba,de,ae,af,o,bb,bc,bd,ce,_⟩=> ?_)))))))
  have hdep:d2=(bnext ps p s).depths++List.replicate (ps.length-(i+1)) 0:=by rw[hd2];simp only[bnext,List.append_assoc,List.singleton_append,Nat.sub_sub]
  refine tN (And.intro ⟨i+1,bnext ps p s,bq,av,t,u,T7,ae,af,o,T8,r,T6,hE,BI kj (by rw[hbn]),B5 a0 (rfl),CY aq ((GI hB hin).symm),AZ hb38l (congrArg (List.map fun x=>NI x) hdep),hst3,by omega,kk,fj,kl,jl,km,jn,trivial⟩ ?_)
  show ps.length-(intOf (kn 30)).toNat<ps.length-(intOf (ef 30)).toNat
  rw[o,q30]
  simp only[intOf,Int.toNat_natCast];omega
 have hie:i=ps.length:=by omega
 have hfl:=BC s.ids
 have hsl:=BQ s.ids
 refine AJ (Ag (Ag (Ap (tN (gm _ _ (sk fun qg ko=>(wt (oM rfl (oS rfl (Yk.lenRB DT (RB.of (RB.ofOwn hr_vb) r) (oA rfl (oZ (tN (ko _ _ (sk fun qh kp=>(sk fun qi kq=>(wt (oM rfl (oS rfl (Yk.callA1 NW T6 ((Lc _ vi (s.ids) (RG.ofOwn hr_vi)).mono ?_)))))))))))))))))))))
 rintro e qj ⟨rfl,c6⟩
 refine⟨_,rfl,?_⟩
 have hE:=hE.trans c6
 have hr_vb:=Stab.own _ _ _ _ _ _ _ _ hr_vb c6
 have hr_vi:=hr_vi.keep c6
 have hb11l:=hb11l.keep c6
 have hb38l:=eb c6 hb38l
 refine oM rfl (AH [(0,v),(4,vb),(5, .map (some n8)),(6,vi),(7, .slice (some ⟨y,0,none⟩) ps.length ps.length),(8,NI s.total),(15,NI ((s.b:List UInt8).length)),(28,v),(29,NI ps.length),(30,NI i),(125, .agg ((AY (s.ids)).map fun x=>NI x).toArray),(126,NI 0)] ⟨t,r,u,T6,T7,T8,rfl,ae,af,o,rfl,rfl,trivial⟩ fun qk ⟨t,r,u,T6,T7,T8,ax,ae,af,o,ay,ar,_⟩=>(tN (kq _ _ (Aj (AX (fun(ρ:Aq) (wz:World)=>∃c:Nat,∃vc:Value,ρ 0=(v:Value)∧ρ 5=(.map (some n8):Value)∧ρ 6=(vi:Value)∧ρ 7=(.slice (some ⟨y,0,none⟩) ps.length ps.length:Value)∧ρ 8=(NI s.total:Value)∧ρ 15=(NI ((s.b:List UInt8).length):Value)∧ρ 28=(v:Value)∧ρ 29=(NI ps.length:Value)∧ρ 30=(NI i:Value)∧ρ 125=(.agg ((AY (s.ids)).map fun x=>NI x).toArray:Value)∧ρ 126=(NI c:Value)∧ρ 4=(vc:Value)∧Ext w wz∧OG w.heap.size 38 32 (Lib.byteCells) wz vi (s.ids)∧MapF rk NI (fun id:List UInt8=>id.length=32) wz n8 (Bo s)∧wz.heap[y]? =some (.cells (dl.map fun x=>NI x).toArray 3 (0,0))∧wz.ownsRow w.heap.size 5 1 vc (s.b++((AY s.ids).take c).flatMap AI:List UInt8).length (Lib.byteCells (s.b++((AY s.ids).take c).flatMap AI))∧(c≤256)∧(OB vc n8)∧(Ae vc vi)∧(OB vc y)∧True) (fun ρ _=>256-(intOf (ρ 126)).toNat) ⟨0,vb,t,u,T6,T7,T8,ax,ae,af,o,ay,ar,r,hE,hr_vi,hb11l,hb38l,BI hr_vb (by simp),by omega,hap_vb_n8,hap_vb_vi,hap_vb_n24,trivial⟩ ?_)))))
 clear hr_vb
 clear hE hr_vi hb11l hb38l
 rintro kr fk ⟨c,vc,t,u,T6,T7,T8,ax,ae,af,o,ay,ar,r,hE,hr_vi,hb11l,hb38l,hr_vc,hcl,hap_vc_n8,hap_vc_vi,hap_vc_n24,-⟩
 have q126:=ar
 have hbl:(s.b++((AY s.ids).take c).flatMap AI).length≤40000:=by rw[List.length_append,Fl,List.length_take];omega
 have hfc:=G0 s.ids c
 refine sk fun ql ks=>(wt (oS rfl (Yk.eqI (a:=(c:Nat)) (b:=(256:Nat)) ar rfl (AN _ _ _ _) (oZ (tN (ks _ _ (sk fun qm kt=> ?_)))))))
 refine AO ((c)<(256)) (vr (.bool (decide ((c)<(256)))) rfl) (fun ku=> ?_) (fun ku=> ?_)
 ·refine Ah (tN (kt _ _ (sk fun qn kv=>(Aj (sk fun qo kw=>(wt (oS rfl (Yk.idxN (l:=AY (s.ids)) (i:=c) Eb NA rfl FL ay ar (by omega) (by rw[hfl]) (oA rfl (oZ (tN (kw _ _ (wt (oM rfl (oM rfl (oS rfl (Yk.callA2 Hs r (vr (NI ((AY (s.ids)).getD (c) 0)) rfl) ((Hn w _ hE vc (s.b++((AY s.ids).take c).flatMap AI) ((AY (s.ids)).getD (c) 0) (by have:=G0 s.ids c;omega) (by omega) hr_vc).mono ?_))))))))))))))))))
  rintro e qp ⟨cw,rfl,kx,ch⟩
  refine⟨_,rfl,?_⟩
  have ky:OB cw n8:=Ax ch hap_vc_n8 hb11l.lt
  have fl:Ae cw vi:=Au ch hap_vc_vi hr_vi.2
  have qq:Ae vi cw:=fun k h1 h2=>fl k h2 h1
  have kz:OB cw y:=Ax ch hap_vc_n24 (bl hb38l)
  have hE:=AC hE ch hr_vc (Nat.le_refl _)
  have hr_vi:=By hr_vi ch hap_vc_vi
  have hb11l:=MapF.grew hb11l ch hap_vc_n8
  have hb38l:=AP hb38l ch hap_vc_n24
  clear hr_vc
  refine oA rfl (oZ (bN (tN (kv _ _ (wt (oS rfl (Yk.bin (xv:=NI c) (yv:=NI 1) ar rfl rfl (Ak _ _ _ (by omega)) (oM rfl (AH [(0,v),(4,cw),(5, .map (some n8)),(6,vi),(7, .slice (some ⟨y,0,none⟩) ps.length ps.length),(8,NI s.total),(15,NI ((s.b:List UInt8).length)),(17,NI ((AY (s.ids)).getD (c) 0)),(28,v),(29,NI ps.length),(30,NI i),(125, .agg ((AY (s.ids)).map fun x=>NI x).toArray),(126,NI ((c)+(1)))] ⟨t,rfl,u,T6,T7,T8,ax,rfl,ae,af,o,ay,rfl,trivial⟩ fun k0 ⟨t,r,u,T6,T7,T8,ax,qr,ae,af,o,ay,ar,_⟩=>(tN (And.intro ⟨c+1,cw,t,u,T6,T7,T8,ax,ae,af,o,ay,ar,r,hE,hr_vi,hb11l,hb38l,BI kx (by rw[HW (AY s.ids) c 0 (by rw[hfl];omega),List.flatMap_append,List.flatMap_cons,List.flatMap_nil,List.append_nil,List.append_assoc]),by omega,ky,fl,kz,trivial⟩ ?_)))))))))))
  show 256-(intOf (k0 126)).toNat<256-(intOf (kr 126)).toNat
  rw[ar,q126]
  simp only[intOf,Int.toNat_natCast];omega
 refine AJ (Ag (Ag (Ap (tN (kp _ _ (sk fun qs k1=>(sk fun qt k2=>(wt (oM rfl (oS rfl (Yk.callA1 NX T6 ((NL _ vi (s.ids) (by omega) (RG.ofOwn hr_vi)).mono ?_))))))))))))
 rintro e qu ⟨au,rfl,ah,cx⟩
 refine⟨_,rfl,?_⟩
 have d3:=Ext.refl fk
 have qv:=hE
 have qw:=hE.size
 have qx:Ae vi au:=A4 hr_vi.2 ah.2
 have qy:Ae au vi:=A0 hr_vi.2 ah.2
 have k3:Ae vc au:=A4 hr_vc ah.2
 have qz:Ae au vc:=A0 hr_vc ah.2
 have hE:=hE.trans cx
 have hr_vi:=hr_vi.keep cx
 have hb11l:=hb11l.keep cx
 have hb38l:=eb cx hb38l
 have hr_vc:=Stab.own _ _ _ _ _ _ _ _ hr_vc cx
 have d3:=d3.trans cx
 refine oS rfl (Yk.lenRG JD (RG.of (RG.ofOwn ah) (vr au rfl)) (oM rfl (AH [(0,v),(4,vc),(5, .map (some n8)),(6,vi),(7, .slice (some ⟨y,0,none⟩) ps.length ps.length),(8,NI s.total),(15,NI ((s.b:List UInt8).length)),(28,v),(29,NI ps.length),(30,NI i),(125, .agg ((AY (s.ids)).map fun x=>NI x).toArray),(126,NI c),(134,au),(135,NI (((Az (s.ids))).length)),(136,NI 0)] ⟨t,r,u,T6,T7,T8,ax,ae,af,o,ay,ar,rfl,rfl,rfl,trivial⟩ fun q0 ⟨t,r,u,T6,T7,T8,ax,ae,af,o,ay,ar,b6,b7,bi,_⟩=>(tN (k2 _ _ (Aj (AX (fun(ρ:Aq) (wz:World)=>∃j:Nat,∃ve:Value,ρ 0=(v:Value)∧ρ 5=(.map (some n8):Value)∧ρ 6=(vi:Value)∧ρ 7=(.slice (some ⟨y,0,none⟩) ps.length ps.length:Value)∧ρ 8=(NI s.total:Value)∧ρ 15=(NI ((s.b:List UInt8).length):Value)∧ρ 28=(v:Value)∧ρ 29=(NI ps.length:Value)∧ρ 30=(NI i:Value)∧ρ 125=(.agg ((AY (s.ids)).map fun x=>NI x).toArray:Value)∧ρ 126=(NI c:Value)∧ρ 134=(au:Value)∧ρ 135=(NI (((Az (s.ids))).length):Value)∧ρ 136=(NI j:Value)∧ρ 4=(ve:Value)∧Ext w wz∧OG w.heap.size 38 32 (Lib.byteCells) wz vi (s.ids)∧MapF rk NI (fun id:List UInt8=>id.length=32) wz n8 (Bo s)∧wz.heap[y]? =some (.cells (dl.map fun x=>NI x).toArray 3 (0,0))∧OG fk.heap.size 38 32 Lib.byteCells wz au (Az (s.ids))∧wz.ownsRow w.heap.size 5 1 ve (s.b++(AY s.ids).flatMap AI++((Az s.ids).take j).flatMap fun id=>id++AI ((Bo s id).getD 0):List UInt8).length (Lib.byteCells (s.b++(AY s.ids).flatMap AI++((Az s.ids).take j).flatMap fun id=>id++AI ((Bo s id).getD 0)))∧(j≤s.ids.length)∧(OB ve n8)∧(Ae ve vi)∧(OB ve y)∧(Ae ve au)∧True) (fun ρ _=>s.ids.length-(intOf (ρ 136)).toNat) ⟨0,vc,t,u,T6,T7,T8,ax,ae,af,o,ay,ar,b6,b7,bi,r,hE,hr_vi,hb11l,hb38l,ah,BI hr_vc (by rw[show c=256 by omega,List.take_of_length_le (by rw[hfl];omega)];simp),by omega,hap_vc_n8,hap_vc_vi,hap_vc_n24,k3,trivial⟩ ?_)))))))
 clear hr_vc
 clear d3
 clear hE hr_vi hb11l hb38l ah
 rintro k5 k6 ⟨j,ve,t,u,T6,T7,T8,ax,ae,af,o,ay,ar,b6,b7,bi,r,hE,hr_vi,hb11l,hb38l,ah,hr_ve,hjl,hap_ve_n8,hap_ve_vi,hap_ve_n24,hap_ve_v324,-⟩
 have q136:=bi
 have hbl2:(s.b++(AY s.ids).flatMap AI++((Az s.ids).take j).flatMap fun id=>id++AI ((Bo s id).getD 0)).length≤60000:=by rw[List.length_append,List.length_append,Fl,hfl,JO (fun id=>(Bo s id).getD 0) _ (fun x hx=>hB.len x ((sortB_perm _).subset (List.mem_of_mem_take hx))),List.length_take];omega
 refine sk fun q1 k7=>(wt (oS rfl (Yk.eqI (a:=(j:Nat)) (b:=(((Az (s.ids))).length:Nat)) bi b7 (AN _ _ _ _) (oZ (tN (k7 _ _ (sk fun q3 k8=> ?_)))))))
 refine AO ((j)<(((Az (s.ids))).length)) (vr (.bool (decide ((j)<(((Az (s.ids))).length)))) rfl) (fun k9=> ?_) (fun k9=> ?_)
 ·have fm:((Az s.ids).getD j []).length=32:=hB.len _ ((sortB_perm _).subset (A6 [] (by omega)))
  obtain⟨q2,hq2,hqm⟩:∃q,Bo s ((Az s.ids).getD j [])=some q∧q∈s.places:=DE s.ids s.places _ (by omega) ((sortB_perm _).subset (A6 [] (by omega)))
  have hq2l:=hB.pl q2 hqm
  refine Ah (tN (k8 _ _ (sk fun q4 la=>(Aj (sk fun q5 lb=>(wt ?_))))))
  have cy:(Lib.byteCells (((Az (s.ids))).getD (j) ([]:List UInt8))).length=32:=(RG.elem (RG.ofOwn ah) ([]:List UInt8) (by omega))
  refine oS rfl (Yk.atRG JD Mn (by decide) ([]:List UInt8) (RG.of (RG.ofOwn ah) b6) bi (by omega) fun lc fo=>(oS rfl (Yk.loadPR (PR.of fo (vr lc rfl)) Ow rfl (by rw[cy];exact L9) (oS rfl (Yk.alloc (cs:=(Lib.byteCells (List.replicate 32 0)).toArray) NH fun bj ld fp fq ci q6=> ?_)))))
  have c7:=Ext.refl k6
  have q7:=hE
  have le:=hE.size
  have q8:=AT hb11l.lt fp
  have q9:=AT (bl hb38l) fp
  have lf:OB vi bj:=AV hr_vi.2 (by omega)
  have lg:OB au bj:=AV ah.2 (by omega)
  have c8:OB ve bj:=AV hr_ve (by omega)
  have hE:=hE.trans ci
  have hr_vi:=hr_vi.keep ci
  have hb11l:=hb11l.keep ci
  have hb38l:=eb ci hb38l
  have ah:=ah.keep ci
  have hr_ve:=Stab.own _ _ _ _ _ _ _ _ hr_ve ci
  have c7:=c7.trans ci
  have bu:=fq;clear fq
  have ra:bj<ld.heap.size:=by omega
  refine oS rfl (Yk.storeAll (vr (PQ bj 0) rfl) (vr (AB (((Az (s.ids))).getD (j) ([]:List UInt8))) rfl) bu (by exact C6 (A5 (cy)) List.length_replicate) (by exact AM (A5 (cy))) (AF _) fun al fr cj rc=> ?_)
  have hE:=Ac hE cj (Nat.le_trans le (by omega))
  have hr_vi:=OG.kept hr_vi cj lf
  have hb11l:=MapF.other hb11l cj (AL (by omega))
  have hb38l:=kb cj hb38l (by omega)
  have ah:=OG.kept ah cj lg
  have hr_ve:=A7 hr_ve cj c8
  have c7:=Ac c7 cj (Nat.le_trans (Nat.le_refl _) (by omega))
  clear bu
  have bu:=fr;clear fr
  have rd:=bl bu
  refine oZ ?_
  clear fo
  refine tN (lb _ _ ?_)
  have lh:∀k,Value.ownBlock ve=some k→w.heap.size≤k:=fun k hk=>(hr_ve.lt k hk).1
  have hsz_:w.heap.size≤al.heap.size:=hE.size
  refine Cz (Value.ownBlock ve) [2,6] [0] (fun m=>if m=2 then [0]else if m=6 then [0,2]else []) (fun m=>if m=2 then [0,2,6,7]else if m=6 then [0,2,6,7]else []) [fun x w' =>BU w.heap.size al.heap.size 5 (Value.ownBlock ve) (s.b++(AY s.ids).flatMap AI++((Az s.ids).take j).flatMap fun id=>id++AI ((Bo s id).getD 0)) x w',Is (.slice (some ⟨bj,0,none⟩) 32 32),fun x w' =>BU w.heap.size al.heap.size 5 (Value.ownBlock ve) ((s.b++(AY s.ids).flatMap AI++((Az s.ids).take j).flatMap fun id=>id++AI ((Bo s id).getD 0):List UInt8)++(((Az (s.ids))).getD (j) ([]:List UInt8):List UInt8)) x w',Is (.map (some n8)),Is (AB (((Az (s.ids))).getD (j) ([]:List UInt8))),Is (NI q2),fun x w' =>BU w.heap.size al.heap.size 5 (Value.ownBlock ve) (((s.b++(AY s.ids).flatMap AI++((Az s.ids).take j).flatMap fun id=>id++AI ((Bo s id).getD 0):List UInt8)++(((Az (s.ids))).getD (j) ([]:List UInt8):List UInt8):List UInt8)++AI (q2)) x w',fun x w' =>BU w.heap.size al.heap.size 5 (Value.ownBlock ve) (((s.b++(AY s.ids).flatMap AI++((Az s.ids).take j).flatMap fun id=>id++AI ((Bo s id).getD 0):List UInt8)++(((Az (s.ids))).getD (j) ([]:List UInt8):List UInt8):List UInt8)++AI (q2)) x w'] (by kernel_rfl) [140,141,142,143,144,145,146,4] (by kernel_rfl) (by kernel_rfl) (by kernel_rfl) (by kernel_rfl) (by kernel_rfl) rfl ⟨(fun _ _ _ h k=>⟨Stab.own _ _ _ _ _ _ _ _ h.1 k,h.2⟩),Stab.is _,(fun _ _ _ h k=>⟨Stab.own _ _ _ _ _ _ _ _ h.1 k,h.2⟩),Stab.is _,Stab.is _,Stab.is _,(fun _ _ _ h k=>⟨Stab.own _ _ _ _ _ _ _ _ h.1 k,h.2⟩),(fun _ _ _ h k=>⟨Stab.own _ _ _ _ _ _ _ _ h.1 k,h.2⟩),trivial⟩ ⟨⟨.inl rfl, .inr (Stab.is _), .inl rfl, .inr (Stab.is _), .inr (Stab.is _), .inr (Stab.is _), .inl rfl, .inl rfl,trivial⟩,⟨.inl rfl, .inr (Stab.is _), .inl rfl, .inr (Stab.is _), .inr (Stab.is _), .inr (Stab.is _), .inl rfl, .inl rfl,trivial⟩,trivial⟩ ?li ?hQ9039
  case li=>
   refine⟨?_,?_,?_,?_,?_,?_,?_,?_,trivial⟩
   ·refine Aa rfl fun σ w1 hC h=> ?_
    have hX:Ext al w1:=hC
    have hC:BX al.heap.size (Value.ownBlock ve) al w1:=BX.ofExt hX (Nat.le_refl _)
    have e4:=(Ab (h 4 (by decide))).trans r
    exact Yk.move e4 ⟨Ext.refl _,Stab.own _ _ _ _ _ _ _ _ hr_ve hX,fun k hk=> .inl hk⟩
   ·refine Aa rfl fun σ w1 hC h=> ?_
    have hC:BX al.heap.size (Value.ownBlock ve) al w1:=hC
    have d4:σ 19=PQ bj 0:=(Ab (h 19 (by decide))).trans rfl
    exact Yk.sliceArr Ow Ls d4 ⟨Ext.refl _,rfl⟩
   ·refine Aa rfl fun σ w1 hC h=> ?_
    have hC:BX al.heap.size (Value.ownBlock ve) al w1:=hC
    have d5:(fun x w' =>BU w.heap.size al.heap.size 5 (Value.ownBlock ve) (s.b++(AY s.ids).flatMap AI++((Az s.ids).take j).flatMap fun id=>id++AI ((Bo s id).getD 0)) x w') (σ 140) w1:=h 140 (by decide)
    have lj:=Ab (h 141 (by decide))
    exact Yk.appendRB _ _ w.heap.size (.int .u8 0) DT FW rfl DT (s.b++(AY s.ids).flatMap AI++((Az s.ids).take j).flatMap fun id=>id++AI ((Bo s id).getD 0)) (((Az (s.ids))).getD (j) ([]:List UInt8)) d5.1 (RB.of (RB.ofBlkN (BX.blk hC bu c8) (A5 (cy)) (by decide)) lj) (by rw[fm];omega) (Nat.le_trans hsz_ hC.size) fun v w2 ho hg=>⟨BX.ofGrown hg.by_ hC.size d5.2,ho,fun k hk=>(hg.fresh k hk).elim (d5.2 k) (fun x=> .inr (Nat.le_trans hC.size x))⟩
   ·refine Aa rfl fun σ w1 hC h=> ?_
    have hC:BX al.heap.size (Value.ownBlock ve) al w1:=hC
    have e5:=(Ab (h 5 (by decide))).trans u
    exact Yk.move e5 ⟨Ext.refl _,rfl⟩
   ·refine Aa rfl fun σ w1 hC h=> ?_
    have hC:BX al.heap.size (Value.ownBlock ve) al w1:=hC
    have d4:σ 19=PQ bj 0:=(Ab (h 19 (by decide))).trans rfl
    exact Yk.loadAll d4 (BX.blk hC bu c8) Ow rfl (by exact AM (A5 (cy))) ⟨Ext.refl _,rfl⟩
   ·refine Aa rfl fun σ w1 hC h=> ?_
    have hC:BX al.heap.size (Value.ownBlock ve) al w1:=hC
    have ll:=Ab (h 143 (by decide))
    have lm:=Ab (h 144 (by decide))
    exact Yk.lookMS (ek:=rk) (ev:=NI) (D:=(fun id:List UInt8=>id.length=32)) Cf Cg (fun _ _=>Cc) Ec (z:=NI 0) FM ll lm (BX.map hC hb11l hap_ve_n8) (A5 (cy)) hq2 ⟨Ext.refl _,rfl⟩
   ·refine Aa rfl fun σ w1 hC h=> ?_
    have hC:BX al.heap.size (Value.ownBlock ve) al w1:=hC
    have d6:(fun x w' =>BU w.heap.size al.heap.size 5 (Value.ownBlock ve) ((s.b++(AY s.ids).flatMap AI++((Az s.ids).take j).flatMap fun id=>id++AI ((Bo s id).getD 0):List UInt8)++(((Az (s.ids))).getD (j) ([]:List UInt8):List UInt8)) x w') (σ 142) w1:=h 142 (by decide)
    have ln:=Ab (h 145 (by decide))
    refine Yk.callA2 Hs rfl ln ((Hn w _ (CB hE hC (by omega) (fun k hk=>by have:=lh k hk;omega)) (σ 142) ((s.b++(AY s.ids).flatMap AI++((Az s.ids).take j).flatMap fun id=>id++AI ((Bo s id).getD 0):List UInt8)++(((Az (s.ids))).getD (j) ([]:List UInt8):List UInt8)) (q2) (by omega) (by rw[List.length_append,fm];omega) d6.1).mono ?_)
    rintro e w2 ⟨v,rfl,ho,hg⟩
    exact⟨_,rfl,BX.ofGrown hg.by_ hC.size d6.2,ho,fun k hk=>(hg.fresh k hk).elim (d6.2 k) (fun x=> .inr (Nat.le_trans hC.size x))⟩
   ·refine Aa rfl fun σ w1 hC h=> ?_
    have hC:BX al.heap.size (Value.ownBlock ve) al w1:=hC
    have lo:(fun x w' =>BU w.heap.size al.heap.size 5 (Value.ownBlock ve) (((s.b++(AY s.ids).flatMap AI++((Az s.ids).take j).flatMap fun id=>id++AI ((Bo s id).getD 0):List UInt8)++(((Az (s.ids))).getD (j) ([]:List UInt8):List UInt8):List UInt8)++AI (q2)) x w') (σ 146) w1:=h 146 (by decide)
    exact Yk.assign rfl ⟨Ext.refl _,lo⟩
  intro fs ft lp he hf
  obtain⟨-,-,-,-,-,-,-,k4,-⟩:=hf
  obtain⟨t,u,T6,T7,T8,ax,fu,ae,af,o,ay,ar,b6,b7,bi,-⟩:=he.hold [(0,_),(5,_),(6,_),(7,_),(8,_),(15,_),(19,PQ bj 0),(28,_),(29,_),(30,_),(125,_),(126,_),(134,_),(135,_),(136,_)] ⟨t,u,T6,T7,T8,ax,rfl,ae,af,o,ay,ar,b6,b7,bi,trivial⟩ rfl
  clear he
  have k4:(fun x w' =>BU w.heap.size al.heap.size 5 (Value.ownBlock ve) (((s.b++(AY s.ids).flatMap AI++((Az s.ids).take j).flatMap fun id=>id++AI ((Bo s id).getD 0):List UInt8)++(((Az (s.ids))).getD (j) ([]:List UInt8):List UInt8):List UInt8)++AI (q2)) x w') (fs 4) ft:=k4
  obtain⟨br,r⟩:∃v,fs 4=v:=⟨_,rfl⟩
  rw[r]at k4
  have bk:Grew al ft ve br:=⟨lp.grown,k4.2⟩
  have lq:=k4.1;clear k4
  have lr:OB br n8:=Ax bk hap_ve_n8 hb11l.lt
  have fv:Ae br vi:=Au bk hap_ve_vi hr_vi.2
  have re:Ae vi br:=fun k h1 h2=>fv k h2 h1
  have ls:OB br y:=Ax bk hap_ve_n24 (bl hb38l)
  have fw:Ae br au:=Au bk hap_ve_v324 ah.2
  have rf:Ae au br:=fun k h1 h2=>fw k h2 h1
  have rg:OB br bj:=Ax bk c8 (bl bu)
  have hE:=AC hE bk hr_ve (Nat.le_refl _)
  have hr_vi:=By hr_vi bk hap_ve_vi
  have hb11l:=MapF.grew hb11l bk hap_ve_n8
  have hb38l:=AP hb38l bk hap_ve_n24
  have ah:=By ah bk hap_ve_v324
  clear hr_ve
  clear c7
  have bu:=AP bu bk c8
  refine bN (tN (la _ _ (wt (oS rfl (Yk.bin (xv:=NI j) (yv:=NI 1) bi rfl rfl (Ak _ _ _ (by omega)) (oM rfl (AH [(0,v),(4,br),(5, .map (some n8)),(6,vi),(7, .slice (some ⟨y,0,none⟩) ps.length ps.length),(8,NI s.total),(15,NI ((s.b:List UInt8).length)),(19,PQ bj 0),(28,v),(29,NI ps.length),(30,NI i),(125, .agg ((AY (s.ids)).map fun x=>NI x).toArray),(126,NI c),(134,au),(135,NI (((Az (s.ids))).length)),(136,NI ((j)+(1)))] ⟨t,r,u,T6,T7,T8,ax,fu,ae,af,o,ay,ar,b6,b7,rfl,trivial⟩ fun lu ⟨t,r,u,T6,T7,T8,ax,fu,ae,af,o,ay,ar,b6,b7,bi,_⟩=>(tN (And.intro ⟨j+1,br,t,u,T6,T7,T8,ax,ae,af,o,ay,ar,b6,b7,bi,r,hE,hr_vi,hb11l,hb38l,ah,BI lq (by rw[HW (Az s.ids) j [] (by rw[hsl];omega),List.flatMap_append,List.flatMap_cons,List.flatMap_nil,List.append_nil];simp only[hq2,Option.getD_some,List.append_assoc]),by omega,lr,fv,ls,fw,trivial⟩ ?_)))))))))
  show s.ids.length-(intOf (lu 136)).toNat<s.ids.length-(intOf (k5 136)).toNat
  rw[bi,q136]
  simp only[intOf,Int.toNat_natCast];omega
 refine AJ (Ag (Ag (Ap (tN (k1 _ _ (sk fun rh lv=>(wt (oM rfl (oM rfl (oS rfl (Yk.callA2 Hs r ax ((Hn w _ hE ve (s.b++(AY s.ids).flatMap AI++((Az s.ids).take j).flatMap fun id=>id++AI ((Bo s id).getD 0)) ((s.b:List UInt8).length) (by omega) (by omega) hr_ve).mono ?_))))))))))))
 rintro e lw ⟨bm,rfl,az,bv⟩
 refine⟨_,rfl,?_⟩
 have fx:OB bm n8:=Ax bv hap_ve_n8 hb11l.lt
 have d7:Ae bm vi:=Au bv hap_ve_vi hr_vi.2
 have ri:Ae vi bm:=fun k h1 h2=>d7 k h2 h1
 have fy:OB bm y:=Ax bv hap_ve_n24 (bl hb38l)
 have d8:Ae bm au:=Au bv hap_ve_v324 ah.2
 have rj:Ae au bm:=fun k h1 h2=>d8 k h2 h1
 have hE:=AC hE bv hr_ve (Nat.le_refl _)
 have hr_vi:=By hr_vi bv hap_ve_vi
 have hb11l:=MapF.grew hb11l bv hap_ve_n8
 have hb38l:=AP hb38l bv hap_ve_n24
 have ah:=By ah bv hap_ve_v324
 clear hr_ve
 refine oA rfl (oZ ?_)
 obtain⟨C,hCd⟩:∃C,C=s.b++BV s s.b.length:=⟨_,rfl⟩
 have az:lw.ownsRow w.heap.size 5 1 bm (C:List UInt8).length (Lib.byteCells (C)):=(by rw[hCd,List.take_of_length_le (by rw[hsl];omega)];unfold BV;simp only[List.append_assoc]:(s.b++(AY s.ids).flatMap AI++((Az s.ids).take j).flatMap fun id=>id++AI ((Bo s id).getD 0):List UInt8)++AI ((s.b:List UInt8).length)=C)▸az
 have hCl:C.length≤60000:=by rw[hCd,List.length_append,Ex hB];omega
 refine tN (lv _ _ (sk fun rl lx=>(wt (oM rfl (oS rfl (Yk.rows1 E5 (RB.of (RB.ofOwn az) (vr bm rfl)) fun fz rm d9 cz=> ?_))))))
 have hE:=hE.trans cz
 have hr_vi:=hr_vi.keep cz
 have hb11l:=hb11l.keep cz
 have hb38l:=eb cz hb38l
 have ah:=ah.keep cz
 have az:=Stab.own _ _ _ _ _ _ _ _ az cz
 refine oS rfl (Yk.callA1 Hr (vr fz rfl) ((Es _ (hG.keep hE) fz (C) d9 (by omega)).mono ?_))
 rintro e ly ⟨rfl,ck⟩
 refine⟨_,rfl,?_⟩
 have hE:=hE.trans ck
 have hr_vi:=hr_vi.keep ck
 have hb11l:=hb11l.keep ck
 have hb38l:=eb ck hb38l
 have ah:=ah.keep ck
 have az:=Stab.own _ _ _ _ _ _ _ _ az ck
 have d9:=d9.keep ck
 refine oS rfl (Yk.alloc (cs:=(Lib.byteCells (List.replicate 32 0)).toArray) NH fun b8 lz f0 f1 cl rn=> ?_)
 have c9:=Ext.refl ly
 have ro:=hE
 have l0:=hE.size
 have rp:=AT hb11l.lt f0
 have rq:=AT (bl hb38l) f0
 have l1:OB vi b8:=AV hr_vi.2 (by omega)
 have l2:OB au b8:=AV ah.2 (by omega)
 have ea:OB bm b8:=AV az (by omega)
 have hE:=hE.trans cl
 have hr_vi:=hr_vi.keep cl
 have hb11l:=hb11l.keep cl
 have hb38l:=eb cl hb38l
 have ah:=ah.keep cl
 have az:=Stab.own _ _ _ _ _ _ _ _ az cl
 have c9:=c9.trans cl
 have b9:=f1;clear f1
 have rr:b8<lz.heap.size:=by omega
 refine oS rfl (Yk.storeAll (vr (PQ b8 0) rfl) (vr (AB (Sha.sum (C))) rfl) b9 (by exact C6 (Sha.sum_length _) List.length_replicate) (by exact AM (Sha.sum_length _)) (AF _) fun l3 f2 cm rs=> ?_)
 have hE:=Ac hE cm (Nat.le_trans l0 (by omega))
 have hr_vi:=OG.kept hr_vi cm l1
 have hb11l:=MapF.other hb11l cm (AL (by omega))
 have hb38l:=kb cm hb38l (by omega)
 have ah:=OG.kept ah cm l2
 have az:=A7 az cm ea
 have c9:=Ac c9 cm (Nat.le_trans (Nat.le_refl _) (by omega))
 clear b9
 have b9:=f2;clear f2
 have rt:=bl b9
 refine oZ (tN (lx _ _ (sk fun ru l4=>(wt (oM rfl (oS rfl (Yk.sliceArr Ow Ls (vr (PQ b8 0) rfl) (oS rfl (Yk.appendRB _ _ w.heap.size (.int .u8 0) DT FW rfl DT (C) (Sha.sum (C)) (BB az (vr bm rfl)) (RB.of (RB.ofBlkN b9 (Sha.sum_length _) (by decide)) (vr (.slice (some ⟨b8,0,none⟩) 32 32) rfl)) (by rw[Sha.sum_length];omega) hE.size fun bn l5 f3 a6=> ?_)))))))))
 have a6:Grew l3 l5 bm bn:=a6
 have rv:OB bn n8:=Ax a6 fx hb11l.lt
 have l6:Ae bn vi:=Au a6 d7 hr_vi.2
 have rx:Ae vi bn:=fun k h1 h2=>l6 k h2 h1
 have ry:OB bn y:=Ax a6 fy (bl hb38l)
 have l7:Ae bn au:=Au a6 d8 ah.2
 have rz:Ae au bn:=fun k h1 h2=>l7 k h2 h1
 have r0:OB bn b8:=Ax a6 ea (bl b9)
 have hE:=AC hE a6 az (Nat.le_refl _)
 have hr_vi:=By hr_vi a6 d7
 have hb11l:=MapF.grew hb11l a6 fx
 have hb38l:=AP hb38l a6 fy
 have ah:=By ah a6 d8
 clear az
 clear c9
 have b9:=AP b9 a6 ea
 refine oA rfl (oZ (tN (l4 _ _ (sk fun r1 l8=>(sk fun r2 l9=>(wt (oM rfl (oS rfl (Yk.lenRB DT (RB.of (RB.ofOwn f3) (vr bn rfl)) (oS rfl (Yk.eqI (a:=((C++Sha.sum (C):List UInt8).length:Nat)) (b:=(1048576:Nat)) rfl rfl (Bm _ _ _ _) (oM rfl (oY (d:=160) rfl rfl (vr (.bool (false)) (congrArg Value.bool (decide_eq_false (by simp only[List.length_append,Sha.sum_length];omega)))) (Yk.move T8 (oY (d:=160) rfl rfl (vr (.bool (false)) (congrArg Value.bool (decide_eq_false (by simp only[List.length_append,Sha.sum_length];omega)))) (Yk.eqI (a:=(s.total:Nat)) (b:=(4194304:Nat)) rfl rfl (Bm _ _ _ _) (oS rfl (Yk.pickF (vr (.bool (false)) (congrArg Value.bool (decide_eq_false (by simp only[List.length_append,Sha.sum_length];omega)))) (vr (.bool (false)) (congrArg Value.bool (decide_eq_false (by omega)))) (oZ (tN (l9 _ _ (Ar (vr (.bool (false)) rfl) ?_))))))))))))))))))))))
 refine Ah (tN (l8 _ _ (sk fun r3 ma=>(wt (oM rfl (oA rfl (oA rfl (oZ (tN (ma _ _ (As (Ao (fn:=Tryd.f11) _ rfl [bn,NI 0] (.tuple #[bn,NI 0]) rfl ⟨rfl,rfl,trivial⟩ ?_))))))))))))
 rw[IM (show CS ps ps.length = .ok s from by rw[←hie];exact hs)]
 refine⟨_,rfl,?_,hE⟩
 have hfin:=RB.ofOwn f3
 rw[hCd]at hfin
 exact hfin
open Go.RowKit
def BY(b:Bs)(a fin:Nat):Option (Bs × Nat):=
  match Bk 0 ((b.take fin).drop a)with
  | none=>none
  | some x=>if 1048576<x.1 then none else if(b.take fin).length<a+x.2+x.1 then none else some (((b.take fin).drop (a+x.2)).take x.1,a+x.2+x.1)
structure Ent where
  pos:Nat
  based:Bool
  base:Bs
  bytes:Bs
abbrev Av:=Ent × Value
def dEnt:Av:=(⟨0,false,List.replicate 32 0,[]⟩, .slice none 0 0)
def entC(x:Av):List Value:=NI x.1.pos :: .bool x.1.based :: (Lib.byteCells x.1.base++ [x.2])
def EntsOk(w:World)(xs:List Av):Prop:=∀x∈xs,RB w x.2 x.1.bytes∧x.1.base.length=32
theorem EntsOk.keep{w w' :World}{xs:List Av}(h:EntsOk w xs)(k:Ext w w'):EntsOk w' xs:=fun x hx=>⟨(h x hx).1.keep k,(h x hx).2⟩
theorem Et{x:Av}(h:x.1.base.length=32):(entC x).length=35:=by simp[entC,Lib.byteCells,h]
theorem JS{x:Av}(h:x.1.base.length=32):(entC x)[34]? =some x.2:=by
  unfold entC
  rw[List.getElem?_cons_succ,List.getElem?_cons_succ,List.getElem?_append_right (by rw[Lib.byteCells_length,h];omega),Lib.byteCells_length,h]
  rfl
theorem DS{w:World}{g:Nat}{x:Av}{t:TypeId}{fr:Nat × Nat}(hb:w.heap[g]? =some (.cells (entC x).toArray t fr)):w.rangeAt g 2 (Lib.byteCells x.1.base):=fun j u hu=>by
  refine Ai hb ?_
  unfold entC
  rw[show 2+j=j+1+1 by omega,List.getElem?_cons_succ,List.getElem?_cons_succ,List.getElem?_append_left (List.getElem?_eq_some_iff.1 hu).1]
  exact hu
theorem BD{x:Av}(h:x.2.oneCell' =true):∀u∈entC x,u.oneCell' =true:=by
  intro u hu
  simp only[entC,List.mem_cons,List.mem_append,List.not_mem_nil,or_false]at hu
  rcases hu with rfl | rfl | hu | rfl
  · rfl
  · rfl
  · exact AF _ u hu
  · exact h
def entOne(b:Bs)(fin pos:Nat):Option (Ent × Nat):=
  if pos<fin∧(b.getD pos 0).toNat≤1 then
    if b.getD pos 0=1 then
      if fin-(pos+1)<32 then none
      else(BY b (pos+33) fin).map fun x=>(⟨pos,true,((b.take fin).drop (pos+1)).take 32,x.1⟩,x.2)
    else(BY b (pos+1) fin).map fun x=>(⟨pos,false,List.replicate 32 0,x.1⟩,x.2)
  else none
def CZ(b:Bs)(fin first:Nat):Nat→Option (List Ent × Nat)
  | 0=>some ([],first)
  | i+1=>(CZ b fin first i).bind fun x=>(entOne b fin x.2).map fun y=>(x.1++ [y.1],y.2)
theorem Dq{b:Bs}{fin first i:Nat}(h:CZ b fin first i=none):∀k,CZ b fin first (i+k)=none
  | 0=>h
  | k+1=>by
    show(CZ b fin first (i+k)).bind _=none
    rw[Dq h k]
    rfl
theorem F5{b:Bs}{fin first i:Nat}{es:List Ent}{p:Nat}(h:CZ b fin first i=some (es,p)):CZ b fin first (i+1)=(entOne b fin p).map fun y=>(es++ [y.1],y.2):=by
  show(CZ b fin first i).bind _=_
  rw[h]
  rfl
def Cq(b:Bs)(n first fin:Nat):Option (List Ent):=(CZ b fin first n).bind fun x=>if x.2=fin then some x.1 else none
theorem JT{b:Bs}{a fin:Nat}{s:Bs}{n:Nat}(h:BY b a fin=some (s,n))(ha:a≤fin)(hf:fin≤b.length):n≤fin∧a≤n:=by
  unfold BY at h
  split at h
  · cases h
  · split at h
    · cases h
    · split at h
      · cases h
      · rename_i h1
        cases h
        rw[List.length_take]at h1
        omega
open Go.RowKit
set_option maxRecDepth 100000
theorem Fm:A2 Tryd.prog 87:=fun _ _=>by kernel_rfl
theorem Fo:A2 Tryd.prog 64:=fun _ _=>by kernel_rfl
theorem JU(w:World)(v:Value)(b:Bs)(hr:RB w v b)(a fin:Nat)(ha:a≤fin)(hf:fin≤b.length):
  Calls Tryd.prog 76 #[v,NI a,NI fin] w fun r w' =>(∃x,r = .returned x∧∃s n,BY b a fin=some (s,n)∧x = .tuple #[St s,NI n]∧Ext w w')∨∃ch,r = .panicked ch∧BY b a fin=none∧ch= [CF 6]∧Ext w w' :=by
 refine CX (args:= [v,NI a,NI fin]) Tryd.func76 rfl 25 rfl (Nat.le_of_ble_eq_true rfl) ?_
 intro o hb
 have j:o 0=(v:Value):=hb.get 0
 have k:o 1=(NI a:Value):=hb.get 1
 have l:o 2=(NI fin:Value):=hb.get 2
 clear hb
 have hE:=Ext.refl w
 refine sk fun K1 m=>(wt (oA rfl (oA rfl (oZ ?_))))
 have htk:(b.take fin).length=fin:=by rw[List.length_take];omega
 rcases hd:Bk 0 ((b.take fin).drop a)with _ | ⟨xn,xk⟩
 ·have hP:BY b a fin=none:=by unfold BY;rw[hd]
  refine tN (m _ _ (sk fun K2 ag=>(wt (oM rfl (oM rfl (oS rfl (Yk.sliceHi (xs:=b) (n:=fin) DT Ls j (hr.keep hE) l (by omega) fun p f ha5=>(oM rfl (oS rfl (Yk.callA3 Fm (vr p rfl) k (vr (NI 1048576) rfl) ?_))))))))))
  refine((show Calls _ _ _ _ (fun e c=>e = .returned (.tuple #[St (([]:List UInt8)),NI 0,NI 6])∧Ext _ c)from(EK _ p (b.take (fin)) f a (by omega) 1048576).mono fun e c ⟨h1,h2⟩=>by subst h2;subst h1;refine⟨?_,Ext.refl _⟩;unfold B4;rw[hd];simp only;rfl)).mono ?_
  rintro e w7 ⟨rfl,q⟩
  refine⟨_,rfl,?_⟩
  have hE:=hE.trans q
  have f:=f.keep q
  refine oM rfl (oS rfl (Yk.extract (vs:= [St (([]:List UInt8)),NI 0,NI 6]) (vr (.tuple #[St (([]:List UInt8)),NI 0,NI 6]) rfl) (show _=some (St (([]:List UInt8)):Value)from rfl) (oS rfl (Yk.extract (vs:= [St (([]:List UInt8)),NI 0,NI 6]) (vr (.tuple #[St (([]:List UInt8)),NI 0,NI 6]) rfl) (show _=some (NI 0:Value)from rfl) (oS rfl (Yk.extract (vs:= [St (([]:List UInt8)),NI 0,NI 6]) (vr (.tuple #[St (([]:List UInt8)),NI 0,NI 6]) rfl) (show _=some (NI 6:Value)from rfl) (oA rfl (oA rfl (oA rfl (oZ (tN (ag _ _ (sk fun K8 ah=>(wt (oM rfl (oS rfl (Yk.eqI (a:=(6:Nat)) (b:=(0:Nat)) rfl rfl (Br _ _ _ _) (oP rfl (Yp.callA2 Fo (vr (.bool (decide ((6:Nat)=(0)))) rfl) (vr (NI 6) rfl) ?_)))))))))))))))))))
  refine AG (Bc _ (decide ((6:Nat)=(0))) 6) ?_ ?_
  rotate_left
  ·
   rintro ch a2 ⟨rfl,hb,hx⟩
   refine Af (AK ?_)
   have hno:=of_decide_eq_false hb
   exact .inr ⟨_,rfl,hP,rfl,hE.trans hx⟩
  rintro v_ a3 ⟨rfl,ai,t⟩
  have hE:=hE.trans t
  have f:=f.keep t
  have a4:=of_decide_eq_true ai
  refine oZ (tN (ah _ _ (sk fun a5 aj=>(wt (oM rfl (oM rfl (oA rfl (oA rfl (oZ (tN (aj _ _ (As (Ca (fn:=Tryd.f76) _ rfl [St (([]:List UInt8)),NI 0] (.tuple #[St (([]:List UInt8)),NI 0]) rfl ⟨rfl,rfl,trivial⟩ ?_)))))))))))))
  omega
 by_cases hm:1048576<xn
 ·have hP:BY b a fin=none:=by unfold BY;rw[hd];simp only;rw[if_pos hm]
  refine tN (m _ _ (sk fun a6 ak=>(wt (oM rfl (oM rfl (oS rfl (Yk.sliceHi (xs:=b) (n:=fin) DT Ls j (hr.keep hE) l (by omega) fun u g ha19=>(oM rfl (oS rfl (Yk.callA3 Fm (vr u rfl) k (vr (NI 1048576) rfl) ?_))))))))))
  refine((show Calls _ _ _ _ (fun e c=>e = .returned (.tuple #[St (([]:List UInt8)),NI 0,NI 2])∧Ext _ c)from(EK _ u (b.take (fin)) g a (by omega) 1048576).mono fun e c ⟨h1,h2⟩=>by subst h2;subst h1;refine⟨?_,Ext.refl _⟩;unfold B4;rw[hd];simp only;rw[if_pos (by omega)];rfl)).mono ?_
  rintro e a7 ⟨rfl,y⟩
  refine⟨_,rfl,?_⟩
  have hE:=hE.trans y
  have g:=g.keep y
  refine oM rfl (oS rfl (Yk.extract (vs:= [St (([]:List UInt8)),NI 0,NI 2]) (vr (.tuple #[St (([]:List UInt8)),NI 0,NI 2]) rfl) (show _=some (St (([]:List UInt8)):Value)from rfl) (oS rfl (Yk.extract (vs:= [St (([]:List UInt8)),NI 0,NI 2]) (vr (.tuple #[St (([]:List UInt8)),NI 0,NI 2]) rfl) (show _=some (NI 0:Value)from rfl) (oS rfl (Yk.extract (vs:= [St (([]:List UInt8)),NI 0,NI 2]) (vr (.tuple #[St (([]:List UInt8)),NI 0,NI 2]) rfl) (show _=some (NI 2:Value)from rfl) (oA rfl (oA rfl (oA rfl (oZ (tN (ak _ _ (sk fun a8 al=>(wt (oM rfl (oS rfl (Yk.eqI (a:=(2:Nat)) (b:=(0:Nat)) rfl rfl (Br _ _ _ _) (oP rfl (Yp.callA2 Fo (vr (.bool (decide ((2:Nat)=(0)))) rfl) (vr (NI 6) rfl) ?_)))))))))))))))))))
  refine AG (Bc _ (decide ((2:Nat)=(0))) 6) ?_ ?_
  rotate_left
  ·
   rintro ch a9 ⟨rfl,hb,hx⟩
   refine Af (AK ?_)
   have hno:=of_decide_eq_false hb
   exact .inr ⟨_,rfl,hP,rfl,hE.trans hx⟩
  rintro v_ ba ⟨rfl,am,z⟩
  have hE:=hE.trans z
  have g:=g.keep z
  have bb:=of_decide_eq_true am
  refine oZ (tN (al _ _ (sk fun bc an=>(wt (oM rfl (oM rfl (oA rfl (oA rfl (oZ (tN (an _ _ (As (Ca (fn:=Tryd.f76) _ rfl [St (([]:List UInt8)),NI 0] (.tuple #[St (([]:List UInt8)),NI 0]) rfl ⟨rfl,rfl,trivial⟩ ?_)))))))))))))
  omega
 by_cases hl:(b.take fin).length<a+xk+xn
 ·have hP:BY b a fin=none:=by unfold BY;rw[hd];simp only;rw[if_neg hm,if_pos hl]
  refine tN (m _ _ (sk fun bd ao=>(wt (oM rfl (oM rfl (oS rfl (Yk.sliceHi (xs:=b) (n:=fin) DT Ls j (hr.keep hE) l (by omega) fun aa h ha33=>(oM rfl (oS rfl (Yk.callA3 Fm (vr aa rfl) k (vr (NI 1048576) rfl) ?_))))))))))
  refine((show Calls _ _ _ _ (fun e c=>e = .returned (.tuple #[St (([]:List UInt8)),NI 0,NI 6])∧Ext _ c)from(EK _ aa (b.take (fin)) h a (by omega) 1048576).mono fun e c ⟨h1,h2⟩=>by subst h2;subst h1;refine⟨?_,Ext.refl _⟩;unfold B4;rw[hd];simp only;rw[if_neg (by omega),if_pos hl];rfl)).mono ?_
  rintro e be ⟨rfl,ab⟩
  refine⟨_,rfl,?_⟩
  have hE:=hE.trans ab
  have h:=h.keep ab
  refine oM rfl (oS rfl (Yk.extract (vs:= [St (([]:List UInt8)),NI 0,NI 6]) (vr (.tuple #[St (([]:List UInt8)),NI 0,NI 6]) rfl) (show _=some (St (([]:List UInt8)):Value)from rfl) (oS rfl (Yk.extract (vs:= [St (([]:List UInt8)),NI 0,NI 6]) (vr (.tuple #[St (([]:List UInt8)),NI 0,NI 6]) rfl) (show _=some (NI 0:Value)from rfl) (oS rfl (Yk.extract (vs:= [St (([]:List UInt8)),NI 0,NI 6]) (vr (.tuple #[St (([]:List UInt8)),NI 0,NI 6]) rfl) (show _=some (NI 6:Value)from rfl) (oA rfl (oA rfl (oA rfl (oZ (tN (ao _ _ (sk fun bf ap=>(wt (oM rfl (oS rfl (Yk.eqI (a:=(6:Nat)) (b:=(0:Nat)) rfl rfl (Br _ _ _ _) (oP rfl (Yp.callA2 Fo (vr (.bool (decide ((6:Nat)=(0)))) rfl) (vr (NI 6) rfl) ?_)))))))))))))))))))
  refine AG (Bc _ (decide ((6:Nat)=(0))) 6) ?_ ?_
  rotate_left
  ·
   rintro ch bg ⟨rfl,hb,hx⟩
   refine Af (AK ?_)
   have hno:=of_decide_eq_false hb
   exact .inr ⟨_,rfl,hP,rfl,hE.trans hx⟩
  rintro v_ bh ⟨rfl,aq,ac⟩
  have hE:=hE.trans ac
  have h:=h.keep ac
  have bi:=of_decide_eq_true aq
  refine oZ (tN (ap _ _ (sk fun bj ar=>(wt (oM rfl (oM rfl (oA rfl (oA rfl (oZ (tN (ar _ _ (As (Ca (fn:=Tryd.f76) _ rfl [St (([]:List UInt8)),NI 0] (.tuple #[St (([]:List UInt8)),NI 0]) rfl ⟨rfl,rfl,trivial⟩ ?_)))))))))))))
  omega
 have hP:BY b a fin=some (((b.take fin).drop (a+xk)).take xn,a+xk+xn):=by unfold BY;rw[hd];simp only;rw[if_neg hm,if_neg hl]
 refine tN (m _ _ (sk fun bk au=>(wt (oM rfl (oM rfl (oS rfl (Yk.sliceHi (xs:=b) (n:=fin) DT Ls j (hr.keep hE) l (by omega) fun ad i ha47=>(oM rfl (oS rfl (Yk.callA3 Fm (vr ad rfl) k (vr (NI 1048576) rfl) ?_))))))))))
 refine((show Calls _ _ _ _ (fun e c=>e = .returned (.tuple #[St (((b.take fin).drop (a+xk)).take xn),NI (a+xk+xn),NI 0])∧Ext _ c)from(EK _ ad (b.take (fin)) i a (by omega) 1048576).mono fun e c ⟨h1,h2⟩=>by subst h2;subst h1;refine⟨?_,Ext.refl _⟩;unfold B4;rw[hd];simp only;rw[if_neg (by omega),if_neg hl];rfl)).mono ?_
 rintro e bm ⟨rfl,ae⟩
 refine⟨_,rfl,?_⟩
 have hE:=hE.trans ae
 have i:=i.keep ae
 refine oM rfl (oS rfl (Yk.extract (vs:= [St (((b.take fin).drop (a+xk)).take xn),NI (a+xk+xn),NI 0]) (vr (.tuple #[St (((b.take fin).drop (a+xk)).take xn),NI (a+xk+xn),NI 0]) rfl) (show _=some (St (((b.take fin).drop (a+xk)).take xn):Value)from rfl) (oS rfl (Yk.extract (vs:= [St (((b.take fin).drop (a+xk)).take xn),NI (a+xk+xn),NI 0]) (vr (.tuple #[St (((b.take fin).drop (a+xk)).take xn),NI (a+xk+xn),NI 0]) rfl) (show _=some (NI (a+xk+xn):Value)from rfl) (oS rfl (Yk.extract (vs:= [St (((b.take fin).drop (a+xk)).take xn),NI (a+xk+xn),NI 0]) (vr (.tuple #[St (((b.take fin).drop (a+xk)).take xn),NI (a+xk+xn),NI 0]) rfl) (show _=some (NI 0:Value)from rfl) (oA rfl (oA rfl (oA rfl (oZ (tN (au _ _ (sk fun bn av=>(wt (oM rfl (oS rfl (Yk.eqI (a:=(0:Nat)) (b:=(0:Nat)) rfl rfl (Br _ _ _ _) (oP rfl (Yp.callA2 Fo (vr (.bool (decide ((0:Nat)=(0)))) rfl) (vr (NI 6) rfl) ?_)))))))))))))))))))
 refine AG (Bc _ (decide ((0:Nat)=(0))) 6) ?_ ?_
 rotate_left
 ·
  rintro ch bo ⟨rfl,hb,hx⟩
  refine Af (AK ?_)
  have hno:=of_decide_eq_false hb
  exact absurd rfl hno
 rintro v_ bp ⟨rfl,aw,af⟩
 have hE:=hE.trans af
 have i:=i.keep af
 have bq:=of_decide_eq_true aw
 refine oZ (tN (av _ _ (sk fun br ax=>(wt (oM rfl (oM rfl (oA rfl (oA rfl (oZ (tN (ax _ _ (As (Ca (fn:=Tryd.f76) _ rfl [St (((b.take fin).drop (a+xk)).take xn),NI (a+xk+xn)] (.tuple #[St (((b.take fin).drop (a+xk)).take xn),NI (a+xk+xn)]) rfl ⟨rfl,rfl,trivial⟩ ?_)))))))))))))
 exact .inl ⟨_,rfl,_,_,hP,rfl,hE⟩
open Go.RowKit
def EntsIn(w:World)(va:Value)(xs:List Av):Prop:=∀x∈xs,RB w x.2 x.1.bytes∧x.1.base.length=32∧∀k,x.2.ownBlock=some k→k<w.heap.size∧va.ownBlock≠some k
theorem EntsIn.keep{w w' :World}{va:Value}{xs:List Av}(h:EntsIn w va xs)(k:Ext w w'):EntsIn w' va xs:=fun x hx=>
  ⟨(h x hx).1.keep k,(h x hx).2.1,fun j hj=>⟨Nat.lt_of_lt_of_le ((h x hx).2.2 j hj).1 k.size,((h x hx).2.2 j hj).2⟩⟩
theorem EntsIn.nil(w:World)(va:Value):EntsIn w va []:=fun x hx=>by cases hx
theorem EntsIn.snoc{w:World}{va:Value}{xs:List Av}(h:EntsIn w va xs){x:Av}(h1:RB w x.2 x.1.bytes)(h2:x.1.base.length=32)(h3:∀k,x.2.ownBlock=some k→k<w.heap.size∧va.ownBlock≠some k):EntsIn w va (xs++ [x]):=fun y hy=>by
  rcases List.mem_append.1 hy with hy | hy
  · exact h y hy
  · rw[List.mem_singleton.1 hy];exact⟨h1,h2,h3⟩
theorem JV{w w' :World}{v v' x:Value}{m:List UInt8}(h:RB w x m)(hx:∀k,x.ownBlock=some k→v.ownBlock≠some k)(gr:Grew w w' v v'):RB w' x m:=by
  refine h.kept gr.by_ ?_
  cases hv:x.ownBlock with
  | none=>exact .inl rfl
  | some g=>exact .inr (fun e=>hx g hv (by rw[←e]))
theorem EntsIn.grew{w w' :World}{va va' :Value}{xs:List Av}(h:EntsIn w va xs)(g:Grew w w' va va'):EntsIn w' va' xs:=fun x hx=>
  ⟨JV (h x hx).1 (fun k hk=>((h x hx).2.2 k hk).2) g,(h x hx).2.1,fun j hj=>⟨Nat.lt_of_lt_of_le ((h x hx).2.2 j hj).1 g.by_.size,fun e=>(g.fresh j e).elim (fun q=>((h x hx).2.2 j hj).2 q) (fun q=>by have:=((h x hx).2.2 j hj).1;omega)⟩⟩
theorem EntsIn.ok{w:World}{va:Value}{xs:List Av}(h:EntsIn w va xs):EntsOk w xs:=fun x hx=>⟨(h x hx).1,(h x hx).2.1⟩
section
variable {P : Program} {K : Value → World → Prop} {ρ : Aq} {w : World} {d : Option Tmp} {ty : TypeId} {pos : String} {af : Array Edge} {gd : Option (Nat × Bool)}
theorem Yk.convStr{t e s:TypeId}{u:TypeDesc}(hs:P.underlying s=some u)(ht:P.underlying t=some (.slice e))(he:P.underlying e=some (.int .u8)){x:Operand}{l:List UInt8}(hx:Ad ρ x=St l)(hl:l.length≤9223372036854775807) 
    (hk:∀v w',RB w' v l→Ext w w' →(∀k,v.ownBlock=some k→w.heap.size≤k∧k<w'.heap.size)→K v w'):Yk P K ((execOp (Ad ρ) ⟨d, .convert s t x,ty,pos,af,gd⟩).run P w):=by
  have hr:=Lib.run_convert_string_bytes (P:=P) w s t e ⟨l.toArray⟩ hs ht he
  have hsz:(⟨l.toArray⟩:ByteArray).size=l.length:=by simp[ByteArray.size]
  rw[hsz]at hr
  refine Yk.value (v:= .slice (some ⟨w.heap.size,0,none⟩) l.length (grownCap w l.length 0 e)) (w' :=Lib.bytesWorld w e ⟨l.toArray⟩) ?_ (hk _ _ ?_ (Lib.bytesWorld_below w e _) ?_)
  · unfold execOp
    simp only[hx,hr,Sem.run_bind,Sem.run_pure,Result.andThen_ok]
  · refine⟨by rw[Lib.byteCells_length,Nat.mul_one],_,_,rfl,grownCap_ge w _ _ _,grownCap_le_maxLen w _ _ _ (by simpa [maxLen] using hl),(fun h=>by cases h),fun a ha j u hu=> ?_⟩
    cases ha
    have hj:j<l.length:=by have:=(List.getElem?_eq_some_iff.1 hu).1;rwa [Lib.byteCells_length]at this
    have hc:=Lib.bytesWorld_cell w e ⟨l.toArray⟩ j (by rw[hsz];exact hj)
    rw[show(⟨w.heap.size,0,none⟩:Addr).add j=⟨w.heap.size,j,none⟩ by simp[Addr.add];exact fun h=>h.symm]
    rw[hc,←hu,CE hj]
  · intro k hk
    cases hk
    rw[Lib.bytesWorld_size]
    exact⟨Nat.le_refl _,Nat.lt_succ_self _⟩
theorem Yk.storeMid{t' :TypeId}{x y:Operand}{g o:Nat}{a m z cells:List Value}{t:TypeId}(hx:Ad ρ x = .pointer (some ⟨g,o,none⟩))(hy:Ad ρ y = .agg cells.toArray)(hg:w.heap[g]? =some (.cells (a++m++z).toArray t (0,0)))(ha:a.length=o)(hm:m.length=cells.length)(hi:(P.info? t').map (·.size)=some cells.length)(h1:∀v∈cells,v.oneCell' =true) 
    (hk:∀w',w'.heap[g]? =some (.cells (a++cells++z).toArray t (0,0))→w.grownBy w' (some g)→w'.heap.size=w.heap.size→K undef w'):Yk P K ((execOp (Ad ρ) ⟨d, .store t' x y,ty,pos,af,gd⟩).run P w):=by
  have hst:=run_storeCells_at P g o t cells 0 (a++m++z).toArray w hg (by simp;omega) h1
  have e:((a++m++z).toArray.toList.take (o+0)++cells++(a++m++z).toArray.toList.drop (o+0+cells.length))=a++cells++z:=by
    have b:(a++m++z).take o=a:=by rw[List.append_assoc,←ha,List.take_left'];rfl
    have c:(a++m++z).drop (o+cells.length)=z:=List.drop_left' (by rw[List.length_append];omega)
    rw[List.toList_toArray,Nat.add_zero,b,c]
  rw[e]at hst
  have hr:(Instr.storeAt t' (.pointer (some ⟨g,o,none⟩)) (.agg cells.toArray)).run P w = .ok () (w.setRow g (a++cells++z).toArray):=by
    cases hq:P.info? t' with
    | none=>simp[hq]at hi
    | some i=>
      have hsz:cells.length=i.size:=by simp[hq]at hi;omega
      simp[Instr.storeAt,Instr.sureAddr,storeVar,sizeOf,typeInfo,hq,Value.cells,hsz]at hst ⊢
      simp[hst]
  unfold execOp
  simp only[hx,hy,hr,Sem.run_bind,Result.andThen_ok,Sem.run_pure]
  exact hk _ (setRow_heap w g (a++m++z).toArray _ t (0,0) hg) ⟨rfl,rfl,rfl,by simp,fun k _ hk=>setRow_other w g k _ (fun e=>hk (by rw[e]))⟩ (by simp)
theorem Ht(p:Nat)(q:Bool)(B s:Bs)(v:Value):entC (⟨p,q,B,s⟩,v)= [NI p, .bool q]++Lib.byteCells B++ [v]:=rfl
theorem Yk.entBase{t' :TypeId}{x y:Operand}{g p:Nat}{q:Bool}{B B' s:Bs}{v:Value}{t:TypeId}(hx:Ad ρ x = .pointer (some ⟨g,2,none⟩))(hy:Ad ρ y = .agg (Lib.byteCells B').toArray)(hg:w.heap[g]? =some (.cells (entC (⟨p,q,B,s⟩,v)).toArray t (0,0)))(hB:B.length=32)(hB' :B'.length=32)(hi:(P.info? t').map (·.size)=some 32) 
    (hk:∀w',w'.heap[g]? =some (.cells (entC (⟨p,q,B',s⟩,v)).toArray t (0,0))→w.grownBy w' (some g)→w'.heap.size=w.heap.size→K undef w'):Yk P K ((execOp (Ad ρ) ⟨d, .store t' x y,ty,pos,af,gd⟩).run P w):=
  Yk.storeMid (a:= [NI p, .bool q]) (m:=Lib.byteCells B) (z:= [v]) hx hy (by rw[←Ht];exact hg) rfl (by rw[Lib.byteCells_length,Lib.byteCells_length,hB,hB']) (by rw[Lib.byteCells_length,hB'];exact hi) (AF _) hk
theorem MS(p:Nat)(q:Bool)(B s:Bs)(v v' :Value)(hB:B.length=32):(entC (⟨p,q,B,s⟩,v)).set 34 v' =entC (⟨p,q,B,s⟩,v'):=by
  rw[Ht,Ht,List.set_append_right _ _ (by simp[Lib.byteCells,hB])]
  congr 1
  simp[Lib.byteCells,hB]
theorem Yk.entVal{t' :TypeId}{x y:Operand}{g p:Nat}{q:Bool}{B s s' :Bs}{v v' :Value}{t:TypeId}(hx:Ad ρ x = .pointer (some ⟨g,34,none⟩))(hy:Ad ρ y=v')(hg:w.heap[g]? =some (.cells (entC (⟨p,q,B,s⟩,v)).toArray t (0,0)))(hB:B.length=32)(hi:(P.info? t').map (·.size)=some 1)(hr:RB w v' s') 
    (hk:∀w',w'.heap[g]? =some (.cells (entC (⟨p,q,B,s'⟩,v')).toArray t (0,0))→w.grownBy w' (some g)→w'.heap.size=w.heap.size→K undef w'):Yk P K ((execOp (Ad ρ) ⟨d, .store t' x y,ty,pos,af,gd⟩).run P w):=
  Yk.storeC (i:=34) hx hy hg (by rw[Et (x:=(⟨p,q,B,s⟩,v)) hB];decide) hi hr.one.1 hr.one.2 fun w' h1 h2 h3=>hk w' (by rw[MS p q B s v v' hB]at h1;exact h1) h2 h3
end
theorem Bx{P:Program}{t:TypeId}{x:Av}(hi:(P.info? t).map (·.size)=some 35)(h:x.1.base.length=32):(P.info? t).map (·.size)=some (entC x).toArray.size:=by rw[List.size_toArray,Et h];exact hi
theorem BA{x y:Av}(h:x.1.base.length=32)(h' :y.1.base.length=32):(entC x).toArray.size=(entC y).toArray.size:=by rw[List.size_toArray,List.size_toArray,Et h,Et h']
theorem MT{b:Bs}{fin pos:Nat}(h:pos<fin∧(b.getD pos 0).toNat≤1):entOne b fin pos =
    if b.getD pos 0=1 then
      if fin-(pos+1)<32 then none
      else(BY b (pos+33) fin).map fun x=>(⟨pos,true,((b.take fin).drop (pos+1)).take 32,x.1⟩,x.2)
    else(BY b (pos+1) fin).map fun x=>(⟨pos,false,List.replicate 32 0,x.1⟩,x.2):=if_pos h
theorem Fp{b:Bs}{a fin:Nat}{s:Bs}{n:Nat}(h:BY b a fin=some (s,n))(hf:fin≤b.length):s.length≤b.length:=by
  unfold BY at h
  split at h
  · cases h
  · split at h
    · cases h
    · split at h
      · cases h
      · cases h
        rw[List.length_take,List.length_drop,List.length_take]
        omega
theorem HX{b:Bs}{fin pos:Nat}{e:Ent}{n:Nat}(h:entOne b fin pos=some (e,n))(hf:fin≤b.length):n≤fin∧pos<n:=by
  unfold entOne at h
  split at h
  · rename_i hc
    split at h
    · split at h
      · cases h
      · cases ht:BY b (pos+33) fin with
        | none=>rw[ht]at h;cases h
        | some x=>rw[ht]at h;cases h;have:=JT ht (by omega) hf;omega
    · cases ht:BY b (pos+1) fin with
      | none=>rw[ht]at h;cases h
      | some x=>rw[ht]at h;cases h;have:=JT ht (by omega) hf;omega
  · cases h
end Go.Proofs.YtcegdjpdnlaleaaDoor
