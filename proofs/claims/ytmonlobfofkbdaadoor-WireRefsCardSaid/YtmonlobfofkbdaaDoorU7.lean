/- Part 7 of what stands behind these statements: laws and walks of the functions that are reached. Conditions: those that each theorem names. -/
import Derived.Test.YtmonlobfofkbdaaDoorU6
set_option linter.unusedVariables false
set_option linter.unusedSimpArgs false
namespace Go.Proofs.YtmonlobfofkbdaaDoor
open Go.RowKit
set_option maxRecDepth 100000
theorem IY:Tryd.prog.eqGuardType Tryd.prog.depth 67=false:=by kernel_rfl
theorem IZ:AG Tryd.prog 41:=fun _ _=>by kernel_rfl
theorem It(z0:Int)(z1:Int)(w:World):(Instr.build 29 #[(0, .int .u8 z0),(1, .int .i64 z1)]).run Tryd.prog w = .ok (.agg #[.int .u8 z0, .int .i64 z1, .slice none 0 0, .slice none 0 0, .slice none 0 0, .int .i64 0, .int .i64 0, .int .u8 0, .int .u8 0, .int .u8 0, .int .u8 0, .int .u8 0, .int .u8 0, .int .u8 0, .int .u8 0, .int .u8 0, .int .u8 0, .int .u8 0, .int .u8 0, .int .u8 0, .int .u8 0, .int .u8 0, .int .u8 0, .int .u8 0, .int .u8 0, .int .u8 0, .int .u8 0, .int .u8 0, .int .u8 0, .int .u8 0, .int .u8 0, .int .u8 0, .int .u8 0, .int .u8 0, .int .u8 0, .int .u8 0, .int .u8 0, .int .u8 0, .int .u8 0, .slice none 0 0, .string ⟨#[]⟩, .int .u8 0, .int .u8 0, .int .u8 0, .int .u8 0, .int .u8 0, .int .u8 0, .int .u8 0, .int .u8 0, .int .u8 0, .int .u8 0, .int .u8 0, .int .u8 0, .int .u8 0, .int .u8 0, .int .u8 0, .int .u8 0, .int .u8 0, .int .u8 0, .int .u8 0, .int .u8 0, .int .u8 0, .int .u8 0, .int .u8 0, .int .u8 0, .int .u8 0, .int .u8 0, .int .u8 0, .int .u8 0, .int .u8 0, .int .u8 0, .int .u8 0, .int .u8 0, .int .u8 0, .int .u8 0, .int .u8 0, .int .u8 0, .int .u8 0, .int .u8 0, .int .u8 0, .int .u8 0, .int .u8 0, .int .u8 0, .int .u8 0, .int .u8 0, .int .u8 0, .int .u8 0, .int .u8 0, .int .u8 0, .int .u8 0, .int .u8 0, .int .u8 0, .int .u8 0, .int .u8 0, .int .u8 0, .int .u8 0, .int .u8 0, .int .u8 0, .int .u8 0, .int .u8 0, .int .u8 0, .int .u8 0, .int .u8 0, .int .u8 0, .int .u8 0, .bool false, .int .i64 0]) w:=by kernel_rfl
theorem Jh(z0:UInt8)(z1:Int)(w:World):(Instr.build 29 #[(0,B8 z0),(1, .int .i64 z1)]).run Tryd.prog w = .ok (.agg (B8 (z0) :: (.int .i64 (z1) :: ((Value.slice none 0 0) :: ((Value.slice none 0 0) :: ((Value.slice none 0 0) :: (.int .i64 (0) :: (.int .i64 (0) :: (Lib.byteCells zid.1++((Value.slice none 0 0) :: (St ([]) :: (Lib.byteCells zid.1++(Lib.byteCells zid.1++(.bool (false) :: (.int .i64 (0) :: ([]))))))))))))))).toArray) w:=by
 exact It _ _ w
theorem I0:AG Tryd.prog 16:=fun _ _=>by kernel_rfl
theorem GM(z0:Int)(z1:Int)(z13:Int)(w:World):(Instr.build 29 #[(0, .int .u8 z0),(1, .int .i64 z1),(13, .int .i64 z13)]).run Tryd.prog w = .ok (.agg #[.int .u8 z0, .int .i64 z1, .slice none 0 0, .slice none 0 0, .slice none 0 0, .int .i64 0, .int .i64 0, .int .u8 0, .int .u8 0, .int .u8 0, .int .u8 0, .int .u8 0, .int .u8 0, .int .u8 0, .int .u8 0, .int .u8 0, .int .u8 0, .int .u8 0, .int .u8 0, .int .u8 0, .int .u8 0, .int .u8 0, .int .u8 0, .int .u8 0, .int .u8 0, .int .u8 0, .int .u8 0, .int .u8 0, .int .u8 0, .int .u8 0, .int .u8 0, .int .u8 0, .int .u8 0, .int .u8 0, .int .u8 0, .int .u8 0, .int .u8 0, .int .u8 0, .int .u8 0, .slice none 0 0, .string ⟨#[]⟩, .int .u8 0, .int .u8 0, .int .u8 0, .int .u8 0, .int .u8 0, .int .u8 0, .int .u8 0, .int .u8 0, .int .u8 0, .int .u8 0, .int .u8 0, .int .u8 0, .int .u8 0, .int .u8 0, .int .u8 0, .int .u8 0, .int .u8 0, .int .u8 0, .int .u8 0, .int .u8 0, .int .u8 0, .int .u8 0, .int .u8 0, .int .u8 0, .int .u8 0, .int .u8 0, .int .u8 0, .int .u8 0, .int .u8 0, .int .u8 0, .int .u8 0, .int .u8 0, .int .u8 0, .int .u8 0, .int .u8 0, .int .u8 0, .int .u8 0, .int .u8 0, .int .u8 0, .int .u8 0, .int .u8 0, .int .u8 0, .int .u8 0, .int .u8 0, .int .u8 0, .int .u8 0, .int .u8 0, .int .u8 0, .int .u8 0, .int .u8 0, .int .u8 0, .int .u8 0, .int .u8 0, .int .u8 0, .int .u8 0, .int .u8 0, .int .u8 0, .int .u8 0, .int .u8 0, .int .u8 0, .int .u8 0, .int .u8 0, .int .u8 0, .int .u8 0, .bool false, .int .i64 z13]) w:=by kernel_rfl
theorem Hl(z0:UInt8)(z1:Int)(z13:Int)(w:World):(Instr.build 29 #[(0,B8 z0),(1, .int .i64 z1),(13, .int .i64 z13)]).run Tryd.prog w = .ok (.agg (B8 (z0) :: (.int .i64 (z1) :: ((Value.slice none 0 0) :: ((Value.slice none 0 0) :: ((Value.slice none 0 0) :: (.int .i64 (0) :: (.int .i64 (0) :: (Lib.byteCells zid.1++((Value.slice none 0 0) :: (St ([]) :: (Lib.byteCells zid.1++(Lib.byteCells zid.1++(.bool (false) :: (.int .i64 (z13) :: ([]))))))))))))))).toArray) w:=by
 exact GM _ _ _ w
theorem NG:AG Tryd.prog 22:=fun _ _=>by kernel_rfl
set_option maxHeartbeats 1600000
theorem Ow(w:World)(y z:Am)(hm:MsgAt w y)(hn:MsgAt w z)(hL:CX y.1):
  Calls Tryd.prog 24 #[.agg (msgC y).toArray, .agg (msgC z).toArray] w fun e w' =>e = .returned (.bool (H9 y.1 z.1))∧Ext w w' :=by
 have hmr:=hm.refs
 have hmw:=hm.wants
 have hmh:=hm.haves
 have hmb:=hm.bytes
 have hnr:=hn.refs
 have hnw:=hn.wants
 have hnh:=hn.haves
 have hnb:=hn.bytes
 have bs:=hL.refs
 have bt:=hL.wants
 have bu:=hL.haves
 refine calls_of_wpF (args:= [.agg (msgC y).toArray, .agg (msgC z).toArray]) Tryd.func24 rfl 122 rfl (Nat.le_of_ble_eq_true rfl) ?_
 intro aw hb
 have q:aw 0=(.agg (msgC y).toArray:Value):=hb.get 0
 have r:aw 1=(.agg (msgC z).toArray:Value):=hb.get 1
 clear hb
 have hE:=Ext.refl w
 refine sk fun K1 ax=>(wt (oS rfl (Yk.box (cs:=(msgC y:List Value).toArray) q fun c w3 bw ay a1 bx=> ?_)))
 have hE:=hE.trans a1
 have g:=ay;clear ay
 have bz:c<w3.heap.size:=by omega
 refine oS rfl (Yk.box (cs:=(msgC z:List Value).toArray) r fun f a2 a3 az ae b0=> ?_)
 have t:=Ext.refl w3
 have b1:=hE.size
 have b2:=Bn (bl g) a3
 have hE:=hE.trans ae
 have g:=eb ae g
 have t:=t.trans ae
 have j:=az;clear az
 have b3:f<a2.heap.size:=by omega
 refine oA rfl (oZ ?_)
 by_cases hq:y.1.refs.length=z.1.refs.length
 ·refine tN (ax _ _ (sk fun b4 a4=>(sk fun b5 a5=>(wt (oS rfl (Yk.fieldAt HK (vr (PQ c 0) rfl) (oS rfl (Yk.cell1 DS rfl (vr (PQ c 2) rfl) (Ac g (show(msgC y)[2]? =some (y.2.refs:Value)from Cp y)) (oS rfl (Yk.lenRG DS (RG.of (hmr.keep hE) (vr y.2.refs rfl)) (oS rfl (Yk.fieldAt HK (vr (PQ f 0) rfl) (oS rfl (Yk.cell1 DS rfl (vr (PQ f 2) rfl) (Ac j (show(msgC z)[2]? =some (z.2.refs:Value)from Cp z)) (oS rfl (Yk.lenRG DS (RG.of (hnr.keep hE) (vr z.2.refs rfl)) (oS rfl (Yk.eqI (a:=((y.1.refs).length:Nat)) (b:=((z.1.refs).length:Nat)) rfl rfl (DW _ _ _ _) (oZ (tN (a5 _ _ (Al (vr (.bool (false)) (congrArg Value.bool (decide_eq_false (fun h=>h hq)))) (Ak (tN (a4 _ _ ?_)))))))))))))))))))))))))
  refine sk fun b6 a6=>(sk fun b7 a7=>(wt (oA rfl (Be [(0, .agg (msgC y).toArray),(1, .agg (msgC z).toArray),(2,PQ c 0),(3,PQ f 0),(4, .bool (false)),(5,NI 0),(12, .bool (false))] ⟨q,r,rfl,rfl,rfl,rfl,(congrArg Value.bool (decide_eq_false (fun h=>h hq))),trivial⟩ fun b8 ⟨q,r,n,o,T4,p,s,_⟩=>(tN (a7 _ _ (Ax (Bc (fun(ρ:At) (wz:World)=>∃i:Nat,ρ 0=(.agg (msgC y).toArray:Value)∧ρ 1=(.agg (msgC z).toArray:Value)∧ρ 2=(PQ c 0:Value)∧ρ 3=(PQ f 0:Value)∧ρ 12=(.bool (false):Value)∧ρ 5=(NI i:Value)∧Ext w wz∧wz.heap[c]? =some (.cells (msgC y).toArray 29 (0,0))∧Ext w3 wz∧wz.heap[f]? =some (.cells (msgC z).toArray 29 (0,0))∧(i≤y.1.refs.length)∧(y.1.refs.take i=z.1.refs.take i)∧True) (fun ρ _=>y.1.refs.length-(intOf (ρ 5)).toNat) ⟨0,q,r,n,o,s,p,hE,g,t,j,Nat.zero_le _,(by simp),trivial⟩ ?_))))))))
  clear hE g t j
  rintro a8 b9 ⟨i,q,r,n,o,s,p,hE,g,t,j,hi,hn,-⟩
  have q5:=p
  by_cases hlt:i<y.1.refs.length
  ·by_cases q1:y.1.refs.getD i Aj=z.1.refs.getD i Aj
   ·refine sk fun ca a9=>(sk fun cb ba=>(wt (oM rfl (oS rfl (Yk.fieldAt HK n (oS rfl (Yk.cell1 DS rfl (vr (PQ c 2) rfl) (Ac g (show(msgC y)[2]? =some (y.2.refs:Value)from Cp y)) (oS rfl (Yk.lenRG DS (RG.of (hmr.keep hE) (vr y.2.refs rfl)) (oS rfl (Yk.eqI (a:=(i:Nat)) (b:=((y.1.refs).length:Nat)) p rfl (AZ _ _ _ _) (oZ (tN (ba _ _ (AE (vr (.bool (true)) (congrArg Value.bool (decide_eq_true (hlt)))) (Ak (tN (a9 _ _ (sk fun cc bb=>(Ax (sk fun cd bc=> ?_)))))))))))))))))))))
    refine Bi [Is (PQ c 2),Is (y.2.refs),Is (NI i),fun x w' =>PR (updC ((y.1.refs).getD (i) Aj)) x w',Is (.agg (updC ((y.1.refs).getD (i) Aj)).toArray),Is (PQ f 2),Is (z.2.refs),Is (NI i),fun x w' =>PR (updC ((z.1.refs).getD (i) Aj)) x w',Is (.agg (updC ((z.1.refs).getD (i) Aj)).toArray),Is (.bool (false))] (by kernel_rfl) [20,21,22,23,24,25,26,27,28,29,30] (by kernel_rfl) (by kernel_rfl) (Iu ⟨(fun _ _ _ h k=>PR.keep h k),(EG ⟨(fun _ _ _ h k=>PR.keep h k),(Cz trivial)⟩)⟩) ?bd ?hQ1006
    case bd=>
     refine⟨?_,?_,?_,?_,?_,?_,?_,?_,?_,?_,?_,trivial⟩
     ·refine Aa rfl fun σ w1 hC h=> ?_
      have e2:=(Ad (h 2 (by decide))).trans n
      exact Yk.fieldAt HK e2 ⟨Ext.refl _,rfl⟩
     ·refine Aa rfl fun σ w1 hC h=> ?_
      have ag:=Ad (h 20 (by decide))
      exact Yk.cell1 DS rfl ag (Ac (eb hC g) (show(msgC y)[2]? =some (y.2.refs:Value)from Cp y)) ⟨Ext.refl _,rfl⟩
     ·refine Aa rfl fun σ w1 hC h=> ?_
      have u:=(Ad (h 5 (by decide))).trans p
      exact Yk.move u ⟨Ext.refl _,rfl⟩
     ·refine Aa rfl fun σ w1 hC h=> ?_
      have ah:=Ad (h 21 (by decide))
      have ai:=Ad (h 22 (by decide))
      exact Yk.atRG DS E2 (by decide) Aj (RG.of (hmr.keep (hE.trans hC)) ah) ai (by omega) fun v h=>⟨Ext.refl _,h⟩
     ·refine Aa rfl fun σ w1 hC h=> ?_
      have aj:(fun x w' =>PR (updC ((y.1.refs).getD (i) Aj)) x w') (σ 23) w1:=h 23 (by decide)
      exact Yk.loadPR aj (N2).choose_spec rfl (by rw[BW];exact IE) ⟨Ext.refl _,rfl⟩
     ·refine Aa rfl fun σ w1 hC h=> ?_
      have e3:=(Ad (h 3 (by decide))).trans o
      exact Yk.fieldAt HK e3 ⟨Ext.refl _,rfl⟩
     ·refine Aa rfl fun σ w1 hC h=> ?_
      have al:=Ad (h 25 (by decide))
      exact Yk.cell1 DS rfl al (Ac (eb hC j) (show(msgC z)[2]? =some (z.2.refs:Value)from Cp z)) ⟨Ext.refl _,rfl⟩
     ·refine Aa rfl fun σ w1 hC h=> ?_
      have u:=(Ad (h 5 (by decide))).trans p
      exact Yk.move u ⟨Ext.refl _,rfl⟩
     ·refine Aa rfl fun σ w1 hC h=> ?_
      have am:=Ad (h 26 (by decide))
      have an:=Ad (h 27 (by decide))
      exact Yk.atRG DS E2 (by decide) Aj (RG.of (hnr.keep (hE.trans hC)) am) an (by omega) fun v h=>⟨Ext.refl _,h⟩
     ·refine Aa rfl fun σ w1 hC h=> ?_
      have ao:(fun x w' =>PR (updC ((z.1.refs).getD (i) Aj)) x w') (σ 28) w1:=h 28 (by decide)
      exact Yk.loadPR ao (N2).choose_spec rfl (by rw[BW];exact IE) ⟨Ext.refl _,rfl⟩
     ·refine Aa rfl fun σ w1 hC h=> ?_
      have ap:=Ad (h 24 (by decide))
      have aq:=Ad (h 29 (by decide))
      exact Yk.neStr IY ap aq (OL _ ((y.1.refs).getD (i) Aj) ((z.1.refs).getD (i) Aj)) ⟨Ext.refl _,(congrArg Value.bool (by rw[decide_eq_true q1];rfl))⟩
    intro be ce ab he hf
    obtain⟨-,-,-,-,-,-,-,-,-,-,k30,-⟩:=hf
    obtain⟨q,r,n,o,p,s,ac,-⟩:=he.hold [(0,_),(1,_),(2,_),(3,_),(5,_),(12,_),(17,_)] ⟨q,r,n,o,p,s,(congrArg Value.bool (decide_eq_true (hlt))),trivial⟩ rfl
    clear he
    have hE:=hE.trans ab
    have g:=eb ab g
    have t:=t.trans ab
    have j:=eb ab j
    have aa:be 30 = .bool (false):=k30
    clear k30
    refine tN (bc _ _ (Al aa (Ak (bN (tN (bb _ _ (wt (oM rfl (oS rfl (Yk.bin (xv:=NI i) (yv:=NI 1) p rfl rfl (AN _ _ _ (by omega)) (oA rfl (Be [(0, .agg (msgC y).toArray),(1, .agg (msgC z).toArray),(2,PQ c 0),(3,PQ f 0),(5,NI ((i)+(1))),(12, .bool (false)),(17, .bool (true)),(30, .bool (false))] ⟨q,r,n,o,rfl,s,ac,aa,trivial⟩ fun bf ⟨q,r,n,o,p,s,ac,aa,_⟩=>(tN (And.intro ⟨i+1,q,r,n,o,s,p,hE,g,t,j,by omega,IC hlt (by omega) hn q1,trivial⟩ ?_))))))))))))))
    show y.1.refs.length-(intOf (bf 5)).toNat<y.1.refs.length-(intOf (a8 5)).toNat
    rw[p,q5]
    simp only[intOf,Int.toNat_natCast];omega
   refine sk fun cf bg=>(sk fun cg bh=>(wt (oM rfl (oS rfl (Yk.fieldAt HK n (oS rfl (Yk.cell1 DS rfl (vr (PQ c 2) rfl) (Ac g (show(msgC y)[2]? =some (y.2.refs:Value)from Cp y)) (oS rfl (Yk.lenRG DS (RG.of (hmr.keep hE) (vr y.2.refs rfl)) (oS rfl (Yk.eqI (a:=(i:Nat)) (b:=((y.1.refs).length:Nat)) p rfl (AZ _ _ _ _) (oZ (tN (bh _ _ (AE (vr (.bool (true)) (congrArg Value.bool (decide_eq_true (hlt)))) (Ak (tN (bg _ _ (sk fun ch ci=>(Ax (sk fun cj bi=> ?_)))))))))))))))))))))
   refine Bi [Is (PQ c 2),Is (y.2.refs),Is (NI i),fun x w' =>PR (updC ((y.1.refs).getD (i) Aj)) x w',Is (.agg (updC ((y.1.refs).getD (i) Aj)).toArray),Is (PQ f 2),Is (z.2.refs),Is (NI i),fun x w' =>PR (updC ((z.1.refs).getD (i) Aj)) x w',Is (.agg (updC ((z.1.refs).getD (i) Aj)).toArray),Is (.bool (true))] (by kernel_rfl) [20,21,22,23,24,25,26,27,28,29,30] (by kernel_rfl) (by kernel_rfl) (Iu ⟨(fun _ _ _ h k=>PR.keep h k),(EG ⟨(fun _ _ _ h k=>PR.keep h k),(Cz trivial)⟩)⟩) ?bj ?hQ2006
   case bj=>
    refine⟨?_,?_,?_,?_,?_,?_,?_,?_,?_,?_,?_,trivial⟩
    ·refine Aa rfl fun σ w1 hC h=> ?_
     have e2:=(Ad (h 2 (by decide))).trans n
     exact Yk.fieldAt HK e2 ⟨Ext.refl _,rfl⟩
    ·refine Aa rfl fun σ w1 hC h=> ?_
     have ag:=Ad (h 20 (by decide))
     exact Yk.cell1 DS rfl ag (Ac (eb hC g) (show(msgC y)[2]? =some (y.2.refs:Value)from Cp y)) ⟨Ext.refl _,rfl⟩
    ·refine Aa rfl fun σ w1 hC h=> ?_
     have u:=(Ad (h 5 (by decide))).trans p
     exact Yk.move u ⟨Ext.refl _,rfl⟩
    ·refine Aa rfl fun σ w1 hC h=> ?_
     have ah:=Ad (h 21 (by decide))
     have ai:=Ad (h 22 (by decide))
     exact Yk.atRG DS E2 (by decide) Aj (RG.of (hmr.keep (hE.trans hC)) ah) ai (by omega) fun v h=>⟨Ext.refl _,h⟩
    ·refine Aa rfl fun σ w1 hC h=> ?_
     have aj:(fun x w' =>PR (updC ((y.1.refs).getD (i) Aj)) x w') (σ 23) w1:=h 23 (by decide)
     exact Yk.loadPR aj (N2).choose_spec rfl (by rw[BW];exact IE) ⟨Ext.refl _,rfl⟩
    ·refine Aa rfl fun σ w1 hC h=> ?_
     have e3:=(Ad (h 3 (by decide))).trans o
     exact Yk.fieldAt HK e3 ⟨Ext.refl _,rfl⟩
    ·refine Aa rfl fun σ w1 hC h=> ?_
     have al:=Ad (h 25 (by decide))
     exact Yk.cell1 DS rfl al (Ac (eb hC j) (show(msgC z)[2]? =some (z.2.refs:Value)from Cp z)) ⟨Ext.refl _,rfl⟩
    ·refine Aa rfl fun σ w1 hC h=> ?_
     have u:=(Ad (h 5 (by decide))).trans p
     exact Yk.move u ⟨Ext.refl _,rfl⟩
    ·refine Aa rfl fun σ w1 hC h=> ?_
     have am:=Ad (h 26 (by decide))
     have an:=Ad (h 27 (by decide))
     exact Yk.atRG DS E2 (by decide) Aj (RG.of (hnr.keep (hE.trans hC)) am) an (by omega) fun v h=>⟨Ext.refl _,h⟩
    ·refine Aa rfl fun σ w1 hC h=> ?_
     have ao:(fun x w' =>PR (updC ((z.1.refs).getD (i) Aj)) x w') (σ 28) w1:=h 28 (by decide)
     exact Yk.loadPR ao (N2).choose_spec rfl (by rw[BW];exact IE) ⟨Ext.refl _,rfl⟩
    ·refine Aa rfl fun σ w1 hC h=> ?_
     have ap:=Ad (h 24 (by decide))
     have aq:=Ad (h 29 (by decide))
     exact Yk.neStr IY ap aq (OL _ ((y.1.refs).getD (i) Aj) ((z.1.refs).getD (i) Aj)) ⟨Ext.refl _,(congrArg Value.bool (by rw[decide_eq_false q1];rfl))⟩
   intro bk ck ar he hf
   obtain⟨-,-,-,-,-,-,-,-,-,-,k30,-⟩:=hf
   obtain⟨q,r,n,o,p,s,ac,-⟩:=he.hold [(0,_),(1,_),(2,_),(3,_),(5,_),(12,_),(17,_)] ⟨q,r,n,o,p,s,(congrArg Value.bool (decide_eq_true (hlt))),trivial⟩ rfl
   clear he
   have hE:=hE.trans ar
   have g:=eb ar g
   have j:=eb ar j
   have aa:bk 30 = .bool (true):=k30
   clear k30
   refine tN (bi _ _ (AE aa (sk fun cl bm=>(wt (oA rfl (oZ (tN (bm _ _ (Ap (AC (As (As (AC (As (Ao (fn:=Tryd.f24) _ rfl [.bool (false)] (.bool (false)) rfl ⟨rfl,trivial⟩ ?_)))))))))))))))
   exact⟨by rw[Ia (KR q1)],hE⟩
  refine sk fun cm cn=>(sk fun co bn=>(wt (oM rfl (oS rfl (Yk.fieldAt HK n (oS rfl (Yk.cell1 DS rfl (vr (PQ c 2) rfl) (Ac g (show(msgC y)[2]? =some (y.2.refs:Value)from Cp y)) (oS rfl (Yk.lenRG DS (RG.of (hmr.keep hE) (vr y.2.refs rfl)) (oS rfl (Yk.eqI (a:=(i:Nat)) (b:=((y.1.refs).length:Nat)) p rfl (AZ _ _ _ _) (oZ (tN (bn _ _ (Al (vr (.bool (false)) (congrArg Value.bool (decide_eq_false (hlt)))) (A6 (Aw (Aw (AM (tN (a6 _ _ (sk fun cp bo=>(wt (oS rfl (Yk.fieldAt HW n ?_)))))))))))))))))))))))))
  refine oS rfl (Yk.cell1 u5 rfl (vr (PQ c 0) rfl) (Ac g (show(msgC y)[0]? =some (B8 (y.1.kind):Value)from BS y)) (oS rfl (Yk.fieldAt HW o (oS rfl (Yk.cell1 u5 rfl (vr (PQ f 0) rfl) (Ac j (show(msgC z)[0]? =some (B8 (z.1.kind):Value)from BS z)) (oS rfl (Yk.eqI (a:=((y.1.kind).toNat:Nat)) (b:=((z.1.kind).toNat:Nat)) rfl rfl (k_eql _ _ _ _) (oM rfl (Ab (PQ c 1) rfl rfl (gT (vr (.bool (decide (((y.1.kind).toNat:Nat)=((z.1.kind).toNat)))) rfl)) (fun hG48=>Yk.fieldAt LM n ⟨rfl,rfl⟩) (Ab (.int .i64 (y.1.session:Int)) rfl rfl (gT (vr (.bool (decide (((y.1.kind).toNat:Nat)=((z.1.kind).toNat)))) rfl)) (fun hG49=>Yk.cell1 Fs rfl (mayT (vr (cond ((decide (((y.1.kind).toNat:Nat)=((z.1.kind).toNat)))) (PQ c 1) undef) rfl) hG49) (Ac g (show(msgC y)[1]? =some (.int .i64 (y.1.session:Int):Value)from Db y)) ⟨rfl,rfl⟩) (Ab (PQ f 1) rfl rfl (gT (vr (.bool (decide (((y.1.kind).toNat:Nat)=((z.1.kind).toNat)))) rfl)) (fun hG50=>Yk.fieldAt LM o ⟨rfl,rfl⟩) (Ab (.int .i64 (z.1.session:Int)) rfl rfl (gT (vr (.bool (decide (((y.1.kind).toNat:Nat)=((z.1.kind).toNat)))) rfl)) (fun hG51=>Yk.cell1 Fs rfl (mayT (vr (cond ((decide (((y.1.kind).toNat:Nat)=((z.1.kind).toNat)))) (PQ f 1) undef) rfl) hG51) (Ac j (show(msgC z)[1]? =some (.int .i64 (z.1.session:Int):Value)from Db z)) ⟨rfl,rfl⟩) (Ab (.bool (decide ((y.1.session:Int)=(z.1.session:Int)))) rfl rfl (gT (vr (.bool (decide (((y.1.kind).toNat:Nat)=((z.1.kind).toNat)))) rfl)) (fun hG52=>Yk.eqI (mayT (vr (cond ((decide (((y.1.kind).toNat:Nat)=((z.1.kind).toNat)))) (.int .i64 (y.1.session:Int)) undef) rfl) hG52) (mayT (vr (cond ((decide (((y.1.kind).toNat:Nat)=((z.1.kind).toNat)))) (.int .i64 (z.1.session:Int)) undef) rfl) hG52) (FC _ .i64 (y.1.session:Int) (z.1.session:Int)) ⟨rfl,rfl⟩) (oS rfl (Yk.pickAndN (vr (.bool (decide (((y.1.kind).toNat:Nat)=((z.1.kind).toNat)))) rfl) (fun hA=>(mayT (vr (cond ((decide (((y.1.kind).toNat:Nat)=((z.1.kind).toNat)))) (.bool (decide ((y.1.session:Int)=(z.1.session:Int)))) undef) rfl) hA)) (vr (.bool (false)) rfl) fun bb53 hbb54=>(oM rfl (Ab (PQ c 3) rfl rfl (gT (vr (.bool (bb53)) rfl)) (fun hG55=>Yk.fieldAt HM n ⟨rfl,rfl⟩) (Ab (y.2.wants) rfl rfl (gT (vr (.bool (bb53)) rfl)) (fun hG56=>Yk.cell1 BT rfl (mayT (vr (cond (bb53) (PQ c 3) undef) rfl) hG56) (Ac g (show(msgC y)[3]? =some (y.2.wants:Value)from Fj y)) ⟨rfl,rfl⟩) (Ab (PQ f 3) rfl rfl (gT (vr (.bool (bb53)) rfl)) (fun hG57=>Yk.fieldAt HM o ⟨rfl,rfl⟩) (Ab (z.2.wants) rfl rfl (gT (vr (.bool (bb53)) rfl)) (fun hG58=>Yk.cell1 BT rfl (mayT (vr (cond (bb53) (PQ f 3) undef) rfl) hG58) (Ac j (show(msgC z)[3]? =some (z.2.wants:Value)from Fj z)) ⟨rfl,rfl⟩) ?_))))))))))))))))))))
  refine AP (.bool (decide (y.1.wants=z.1.wants))) rfl rfl (gT (vr (.bool (bb53)) rfl)) (fun hG59=>Yk.callA2 IZ (mayT (vr (cond (bb53) (y.2.wants) undef) rfl) hG59) (mayT (vr (cond (bb53) (z.2.wants) undef) rfl) hG59) ((refSame_any _ y.2.wants z.2.wants y.1.wants z.1.wants (hmw.keep hE) (hnw.keep hE) (by omega)).mono (by rintro e w2 ⟨rfl,hx⟩;exact⟨_,rfl,rfl,hx⟩))) fun cq au=> ?_
  have hE:=hE.trans au
  have g:=eb au g
  have j:=eb au j
  refine oS rfl (Yk.pickAndN (vr (.bool (bb53)) rfl) (fun hA=>(mayT (vr (cond (bb53) (.bool (decide (y.1.wants=z.1.wants))) undef) rfl) hA)) (vr (.bool (false)) rfl) fun bb63 hbb64=>(oM rfl (Ab (PQ c 4) rfl rfl (gT (vr (.bool (bb63)) rfl)) (fun hG65=>Yk.fieldAt HN n ⟨rfl,rfl⟩) (Ab (y.2.haves) rfl rfl (gT (vr (.bool (bb63)) rfl)) (fun hG66=>Yk.cell1 BT rfl (mayT (vr (cond (bb63) (PQ c 4) undef) rfl) hG66) (Ac g (show(msgC y)[4]? =some (y.2.haves:Value)from Fk y)) ⟨rfl,rfl⟩) (Ab (PQ f 4) rfl rfl (gT (vr (.bool (bb63)) rfl)) (fun hG67=>Yk.fieldAt HN o ⟨rfl,rfl⟩) (Ab (z.2.haves) rfl rfl (gT (vr (.bool (bb63)) rfl)) (fun hG68=>Yk.cell1 BT rfl (mayT (vr (cond (bb63) (PQ f 4) undef) rfl) hG68) (Ac j (show(msgC z)[4]? =some (z.2.haves:Value)from Fk z)) ⟨rfl,rfl⟩) (AP (.bool (decide (y.1.haves=z.1.haves))) rfl rfl (gT (vr (.bool (bb63)) rfl)) (fun hG69=>Yk.callA2 IZ (mayT (vr (cond (bb63) (y.2.haves) undef) rfl) hG69) (mayT (vr (cond (bb63) (z.2.haves) undef) rfl) hG69) ((refSame_any _ y.2.haves z.2.haves y.1.haves z.1.haves (hmh.keep hE) (hnh.keep hE) (by omega)).mono (by rintro e w2 ⟨rfl,hx⟩;exact⟨_,rfl,rfl,hx⟩))) fun cr av=> ?_)))))))
  have hE:=hE.trans av
  have g:=eb av g
  have j:=eb av j
  refine oS rfl (Yk.pickAndN (vr (.bool (bb63)) rfl) (fun hA=>(mayT (vr (cond (bb63) (.bool (decide (y.1.haves=z.1.haves))) undef) rfl) hA)) (vr (.bool (false)) rfl) fun bb73 hbb74=>(oM rfl (Ab (PQ c 5) rfl rfl (gT (vr (.bool (bb73)) rfl)) (fun hG75=>Yk.fieldAt HP n ⟨rfl,rfl⟩) (Ab (.int .i64 (y.1.size:Int)) rfl rfl (gT (vr (.bool (bb73)) rfl)) (fun hG76=>Yk.cell1 Fs rfl (mayT (vr (cond (bb73) (PQ c 5) undef) rfl) hG76) (Ac g (show(msgC y)[5]? =some (.int .i64 (y.1.size:Int):Value)from Fl y)) ⟨rfl,rfl⟩) (Ab (PQ f 5) rfl rfl (gT (vr (.bool (bb73)) rfl)) (fun hG77=>Yk.fieldAt HP o ⟨rfl,rfl⟩) (Ab (.int .i64 (z.1.size:Int)) rfl rfl (gT (vr (.bool (bb73)) rfl)) (fun hG78=>Yk.cell1 Fs rfl (mayT (vr (cond (bb73) (PQ f 5) undef) rfl) hG78) (Ac j (show(msgC z)[5]? =some (.int .i64 (z.1.size:Int):Value)from Fl z)) ⟨rfl,rfl⟩) (Ab (.bool (decide ((y.1.size:Int)=(z.1.size:Int)))) rfl rfl (gT (vr (.bool (bb73)) rfl)) (fun hG79=>Yk.eqI (mayT (vr (cond (bb73) (.int .i64 (y.1.size:Int)) undef) rfl) hG79) (mayT (vr (cond (bb73) (.int .i64 (z.1.size:Int)) undef) rfl) hG79) (FC _ .i64 (y.1.size:Int) (z.1.size:Int)) ⟨rfl,rfl⟩) (oS rfl (Yk.pickAndN (vr (.bool (bb73)) rfl) (fun hA=>(mayT (vr (cond (bb73) (.bool (decide ((y.1.size:Int)=(z.1.size:Int)))) undef) rfl) hA)) (vr (.bool (false)) rfl) fun bb80 hbb81=>(oM rfl (Ab (PQ c 6) rfl rfl (gT (vr (.bool (bb80)) rfl)) (fun hG82=>Yk.fieldAt HQ n ⟨rfl,rfl⟩) (Ab (.int .i64 (y.1.at_:Int)) rfl rfl (gT (vr (.bool (bb80)) rfl)) (fun hG83=>Yk.cell1 Fs rfl (mayT (vr (cond (bb80) (PQ c 6) undef) rfl) hG83) (Ac g (show(msgC y)[6]? =some (.int .i64 (y.1.at_:Int):Value)from Fm y)) ⟨rfl,rfl⟩) (Ab (PQ f 6) rfl rfl (gT (vr (.bool (bb80)) rfl)) (fun hG84=>Yk.fieldAt HQ o ⟨rfl,rfl⟩) (Ab (.int .i64 (z.1.at_:Int)) rfl rfl (gT (vr (.bool (bb80)) rfl)) (fun hG85=>Yk.cell1 Fs rfl (mayT (vr (cond (bb80) (PQ f 6) undef) rfl) hG85) (Ac j (show(msgC z)[6]? =some (.int .i64 (z.1.at_:Int):Value)from Fm z)) ⟨rfl,rfl⟩) (Ab (.bool (decide ((y.1.at_:Int)=(z.1.at_:Int)))) rfl rfl (gT (vr (.bool (bb80)) rfl)) (fun hG86=>Yk.eqI (mayT (vr (cond (bb80) (.int .i64 (y.1.at_:Int)) undef) rfl) hG86) (mayT (vr (cond (bb80) (.int .i64 (z.1.at_:Int)) undef) rfl) hG86) (FC _ .i64 (y.1.at_:Int) (z.1.at_:Int)) ⟨rfl,rfl⟩) (oS rfl (Yk.pickAndN (vr (.bool (bb80)) rfl) (fun hA=>(mayT (vr (cond (bb80) (.bool (decide ((y.1.at_:Int)=(z.1.at_:Int)))) undef) rfl) hA)) (vr (.bool (false)) rfl) fun bb87 hbb88=>(oM rfl ?_))))))))))))))))))
  refine Ab (PQ c 7) rfl rfl (gT (vr (.bool (bb87)) rfl)) (fun hG89=>Yk.fieldAt LK n ⟨rfl,rfl⟩) (Ab (AB y.1.id.1) rfl rfl (gT (vr (.bool (bb87)) rfl)) (fun hG90=>Yk.loadPR (PR.blk g (D4 y) (EL y) (mayT (vr (cond (bb87) (PQ c 7) undef) rfl) hG90)) OA rfl (AH y.1.id.2) ⟨rfl,rfl⟩) (Ab (PQ f 7) rfl rfl (gT (vr (.bool (bb87)) rfl)) (fun hG91=>Yk.fieldAt LK o ⟨rfl,rfl⟩) (Ab (AB z.1.id.1) rfl rfl (gT (vr (.bool (bb87)) rfl)) (fun hG92=>Yk.loadPR (PR.blk j (D4 z) (EL z) (mayT (vr (cond (bb87) (PQ f 7) undef) rfl) hG92)) OA rfl (AH z.1.id.2) ⟨rfl,rfl⟩) (Ab (.bool (decide (y.1.id.1=z.1.id.1))) rfl rfl (gT (vr (.bool (bb87)) rfl)) (fun hG93=>Yk.eqArr (l1:=y.1.id.1) (l2:=z.1.id.1) OA u5 Lm Ha (mayT (vr (cond (bb87) (AB y.1.id.1) undef) rfl) hG93) (mayT (vr (cond (bb87) (AB z.1.id.1) undef) rfl) hG93) (y.1.id.2) (z.1.id.2) ⟨rfl,rfl⟩) (oS rfl (Yk.pickAndN (vr (.bool (bb87)) rfl) (fun hA=>(mayT (vr (cond (bb87) (.bool (decide (y.1.id.1=z.1.id.1))) undef) rfl) hA)) (vr (.bool (false)) rfl) fun bb94 hbb95=>(oM rfl (Ab (PQ c 39) rfl rfl (gT (vr (.bool (bb94)) rfl)) (fun hG96=>Yk.fieldAt FI n ⟨rfl,rfl⟩) (Ab (y.2.bytes) rfl rfl (gT (vr (.bool (bb94)) rfl)) (fun hG97=>Yk.cell1 Ff rfl (mayT (vr (cond (bb94) (PQ c 39) undef) rfl) hG97) (Ac g (show(msgC y)[39]? =some (y.2.bytes:Value)from Fo y)) ⟨rfl,rfl⟩) (Ab (St (y.1.bytes)) rfl rfl (gT (vr (.bool (bb94)) rfl)) (fun hG98=>Yk.convRB Ff u5 Dx (RB.of (hmb.keep hE) (mayT (vr (cond (bb94) (y.2.bytes) undef) rfl) hG98)) ⟨rfl,rfl⟩) (Ab (PQ f 39) rfl rfl (gT (vr (.bool (bb94)) rfl)) (fun hG99=>Yk.fieldAt FI o ⟨rfl,rfl⟩) (Ab (z.2.bytes) rfl rfl (gT (vr (.bool (bb94)) rfl)) (fun hG100=>Yk.cell1 Ff rfl (mayT (vr (cond (bb94) (PQ f 39) undef) rfl) hG100) (Ac j (show(msgC z)[39]? =some (z.2.bytes:Value)from Fo z)) ⟨rfl,rfl⟩) (Ab (St (z.1.bytes)) rfl rfl (gT (vr (.bool (bb94)) rfl)) (fun hG101=>Yk.convRB Ff u5 Dx (RB.of (hnb.keep hE) (mayT (vr (cond (bb94) (z.2.bytes) undef) rfl) hG101)) ⟨rfl,rfl⟩) (Ab (.bool (decide ((y.1.bytes:List UInt8)=(z.1.bytes:List UInt8)))) rfl rfl (gT (vr (.bool (bb94)) rfl)) (fun hG102=>Yk.eqSt (l:=y.1.bytes) (m:=z.1.bytes) (.inl rfl) (mayT (vr (cond (bb94) (St (y.1.bytes)) undef) rfl) hG102) (mayT (vr (cond (bb94) (St (z.1.bytes)) undef) rfl) hG102) (decide ((y.1.bytes:List UInt8)=(z.1.bytes:List UInt8))) rfl ⟨rfl,rfl⟩) (oS rfl (Yk.pickAndN (vr (.bool (bb94)) rfl) (fun hA=>(mayT (vr (cond (bb94) (.bool (decide ((y.1.bytes:List UInt8)=(z.1.bytes:List UInt8)))) undef) rfl) hA)) (vr (.bool (false)) rfl) fun bb103 hbb104=>(oM rfl ?_)))))))))))))))))
  refine Ab (PQ c 40) rfl rfl (gT (vr (.bool (bb103)) rfl)) (fun hG105=>Yk.fieldAt HV n ⟨rfl,rfl⟩) (Ab (St (y.1.name)) rfl rfl (gT (vr (.bool (bb103)) rfl)) (fun hG106=>Yk.cell1 Dx rfl (mayT (vr (cond (bb103) (PQ c 40) undef) rfl) hG106) (Ac g (show(msgC y)[40]? =some (St (y.1.name):Value)from Ga y)) ⟨rfl,rfl⟩) (Ab (PQ f 40) rfl rfl (gT (vr (.bool (bb103)) rfl)) (fun hG107=>Yk.fieldAt HV o ⟨rfl,rfl⟩) (Ab (St (z.1.name)) rfl rfl (gT (vr (.bool (bb103)) rfl)) (fun hG108=>Yk.cell1 Dx rfl (mayT (vr (cond (bb103) (PQ f 40) undef) rfl) hG108) (Ac j (show(msgC z)[40]? =some (St (z.1.name):Value)from Ga z)) ⟨rfl,rfl⟩) (Ab (.bool (decide ((y.1.name:List UInt8)=(z.1.name:List UInt8)))) rfl rfl (gT (vr (.bool (bb103)) rfl)) (fun hG109=>Yk.eqSt (l:=y.1.name) (m:=z.1.name) (.inl rfl) (mayT (vr (cond (bb103) (St (y.1.name)) undef) rfl) hG109) (mayT (vr (cond (bb103) (St (z.1.name)) undef) rfl) hG109) (decide ((y.1.name:List UInt8)=(z.1.name:List UInt8))) rfl ⟨rfl,rfl⟩) (oS rfl (Yk.pickAndN (vr (.bool (bb103)) rfl) (fun hA=>(mayT (vr (cond (bb103) (.bool (decide ((y.1.name:List UInt8)=(z.1.name:List UInt8)))) undef) rfl) hA)) (vr (.bool (false)) rfl) fun bb110 hbb111=>(oM rfl (Ab (PQ c 41) rfl rfl (gT (vr (.bool (bb110)) rfl)) (fun hG112=>Yk.fieldAt Kz n ⟨rfl,rfl⟩) (Ab (AB y.1.old.1) rfl rfl (gT (vr (.bool (bb110)) rfl)) (fun hG113=>Yk.loadPR (PR.blk g (Ez y) (Fp y) (mayT (vr (cond (bb110) (PQ c 41) undef) rfl) hG113)) OA rfl (AH y.1.old.2) ⟨rfl,rfl⟩) (Ab (PQ f 41) rfl rfl (gT (vr (.bool (bb110)) rfl)) (fun hG114=>Yk.fieldAt Kz o ⟨rfl,rfl⟩) (Ab (AB z.1.old.1) rfl rfl (gT (vr (.bool (bb110)) rfl)) (fun hG115=>Yk.loadPR (PR.blk j (Ez z) (Fp z) (mayT (vr (cond (bb110) (PQ f 41) undef) rfl) hG115)) OA rfl (AH z.1.old.2) ⟨rfl,rfl⟩) (Ab (.bool (decide (y.1.old.1=z.1.old.1))) rfl rfl (gT (vr (.bool (bb110)) rfl)) (fun hG116=>Yk.eqArr (l1:=y.1.old.1) (l2:=z.1.old.1) OA u5 Lm Ha (mayT (vr (cond (bb110) (AB y.1.old.1) undef) rfl) hG116) (mayT (vr (cond (bb110) (AB z.1.old.1) undef) rfl) hG116) (y.1.old.2) (z.1.old.2) ⟨rfl,rfl⟩) (oS rfl (Yk.pickAndN (vr (.bool (bb110)) rfl) (fun hA=>(mayT (vr (cond (bb110) (.bool (decide (y.1.old.1=z.1.old.1))) undef) rfl) hA)) (vr (.bool (false)) rfl) fun bb117 hbb118=>(oM rfl (Ab (PQ c 73) rfl rfl (gT (vr (.bool (bb117)) rfl)) (fun hG119=>Yk.fieldAt GY n ⟨rfl,rfl⟩) (Ab (AB y.1.new.1) rfl rfl (gT (vr (.bool (bb117)) rfl)) (fun hG120=>Yk.loadPR (PR.blk g (DQ y) (EB y) (mayT (vr (cond (bb117) (PQ c 73) undef) rfl) hG120)) OA rfl (AH y.1.new.2) ⟨rfl,rfl⟩) ?_)))))))))))))))))
  refine Ab (PQ f 73) rfl rfl (gT (vr (.bool (bb117)) rfl)) (fun hG121=>Yk.fieldAt GY o ⟨rfl,rfl⟩) (Ab (AB z.1.new.1) rfl rfl (gT (vr (.bool (bb117)) rfl)) (fun hG122=>Yk.loadPR (PR.blk j (DQ z) (EB z) (mayT (vr (cond (bb117) (PQ f 73) undef) rfl) hG122)) OA rfl (AH z.1.new.2) ⟨rfl,rfl⟩) (Ab (.bool (decide (y.1.new.1=z.1.new.1))) rfl rfl (gT (vr (.bool (bb117)) rfl)) (fun hG123=>Yk.eqArr (l1:=y.1.new.1) (l2:=z.1.new.1) OA u5 Lm Ha (mayT (vr (cond (bb117) (AB y.1.new.1) undef) rfl) hG123) (mayT (vr (cond (bb117) (AB z.1.new.1) undef) rfl) hG123) (y.1.new.2) (z.1.new.2) ⟨rfl,rfl⟩) (oS rfl (Yk.pickAndN (vr (.bool (bb117)) rfl) (fun hA=>(mayT (vr (cond (bb117) (.bool (decide (y.1.new.1=z.1.new.1))) undef) rfl) hA)) (vr (.bool (false)) rfl) fun bb124 hbb125=>(oM rfl (Ab (PQ c 105) rfl rfl (gT (vr (.bool (bb124)) rfl)) (fun hG126=>Yk.fieldAt KA n ⟨rfl,rfl⟩) (Ab (.bool (y.1.force)) rfl rfl (gT (vr (.bool (bb124)) rfl)) (fun hG127=>Yk.cell1 CS rfl (mayT (vr (cond (bb124) (PQ c 105) undef) rfl) hG127) (Ac g (show(msgC y)[105]? =some (.bool (y.1.force):Value)from GD y)) ⟨rfl,rfl⟩) (Ab (PQ f 105) rfl rfl (gT (vr (.bool (bb124)) rfl)) (fun hG128=>Yk.fieldAt KA o ⟨rfl,rfl⟩) (Ab (.bool (z.1.force)) rfl rfl (gT (vr (.bool (bb124)) rfl)) (fun hG129=>Yk.cell1 CS rfl (mayT (vr (cond (bb124) (PQ f 105) undef) rfl) hG129) (Ac j (show(msgC z)[105]? =some (.bool (z.1.force):Value)from GD z)) ⟨rfl,rfl⟩) (Ab (.bool ((y.1.force)==(z.1.force))) rfl rfl (gT (vr (.bool (bb124)) rfl)) (fun hG130=>Yk.eqBool (a:=y.1.force) (b:=z.1.force) CS (mayT (vr (cond (bb124) (.bool (y.1.force)) undef) rfl) hG130) (mayT (vr (cond (bb124) (.bool (z.1.force)) undef) rfl) hG130) ⟨rfl,rfl⟩) (oS rfl (Yk.pickAndN (vr (.bool (bb124)) rfl) (fun hA=>(mayT (vr (cond (bb124) (.bool ((y.1.force)==(z.1.force))) undef) rfl) hA)) (vr (.bool (false)) rfl) fun bb131 hbb132=>(oM rfl (Ab (PQ c 106) rfl rfl (gT (vr (.bool (bb131)) rfl)) (fun hG133=>Yk.fieldAt GZ n ⟨rfl,rfl⟩) (Ab (.int .i64 (y.1.code:Int)) rfl rfl (gT (vr (.bool (bb131)) rfl)) (fun hG134=>Yk.cell1 JL rfl (mayT (vr (cond (bb131) (PQ c 106) undef) rfl) hG134) (Ac g (show(msgC y)[106]? =some (.int .i64 (y.1.code:Int):Value)from Fq y)) ⟨rfl,rfl⟩) (Ab (PQ f 106) rfl rfl (gT (vr (.bool (bb131)) rfl)) (fun hG135=>Yk.fieldAt GZ o ⟨rfl,rfl⟩) (Ab (.int .i64 (z.1.code:Int)) rfl rfl (gT (vr (.bool (bb131)) rfl)) (fun hG136=>Yk.cell1 JL rfl (mayT (vr (cond (bb131) (PQ f 106) undef) rfl) hG136) (Ac j (show(msgC z)[106]? =some (.int .i64 (z.1.code:Int):Value)from Fq z)) ⟨rfl,rfl⟩) ?_)))))))))))))))))
  refine Ab (.bool (decide ((y.1.code:Int)=(z.1.code:Int)))) rfl rfl (gT (vr (.bool (bb131)) rfl)) (fun hG137=>Yk.eqI (mayT (vr (cond (bb131) (.int .i64 (y.1.code:Int)) undef) rfl) hG137) (mayT (vr (cond (bb131) (.int .i64 (z.1.code:Int)) undef) rfl) hG137) (FC _ .i64 (y.1.code:Int) (z.1.code:Int)) ⟨rfl,rfl⟩) (oS rfl (Yk.pickAndN (vr (.bool (bb131)) rfl) (fun hA=>(mayT (vr (cond (bb131) (.bool (decide ((y.1.code:Int)=(z.1.code:Int)))) undef) rfl) hA)) (vr (.bool (false)) rfl) fun bb138 hbb139=>(oA rfl (Be [(0, .agg (msgC y).toArray),(1, .agg (msgC z).toArray),(2,PQ c 0),(3,PQ f 0),(4, .bool (bb138)),(5,NI i),(12, .bool (false)),(17, .bool (false))] ⟨q,r,n,o,rfl,p,s,(congrArg Value.bool (decide_eq_false (hlt))),trivial⟩ fun ct ⟨q,r,n,o,T4,p,s,ac,_⟩=>(tN (bo _ _ (Ap (Ao (fn:=Tryd.f24) _ rfl [.bool (bb138)] (.bool (bb138)) rfl ⟨T4,trivial⟩ ?_))))))))
  subst hbb54 hbb64 hbb74 hbb81 hbb88 hbb95 hbb104 hbb111 hbb118 hbb125 hbb132 hbb139
  rw[show i=y.1.refs.length by omega,List.take_length,show y.1.refs.length=z.1.refs.length by omega,List.take_length]at hn
  exact⟨by rw[←KN hn];rfl,hE⟩
 refine tN (ax _ _ (sk fun cu cv=>(sk fun cw bq=>(wt (oS rfl (Yk.fieldAt HK (vr (PQ c 0) rfl) (oS rfl (Yk.cell1 DS rfl (vr (PQ c 2) rfl) (Ac g (show(msgC y)[2]? =some (y.2.refs:Value)from Cp y)) (oS rfl (Yk.lenRG DS (RG.of (hmr.keep hE) (vr y.2.refs rfl)) (oS rfl (Yk.fieldAt HK (vr (PQ f 0) rfl) (oS rfl (Yk.cell1 DS rfl (vr (PQ f 2) rfl) (Ac j (show(msgC z)[2]? =some (z.2.refs:Value)from Cp z)) (oS rfl (Yk.lenRG DS (RG.of (hnr.keep hE) (vr z.2.refs rfl)) (oS rfl (Yk.eqI (a:=((y.1.refs).length:Nat)) (b:=((z.1.refs).length:Nat)) rfl rfl (DW _ _ _ _) (oZ (tN (bq _ _ (AE (vr (.bool (true)) (congrArg Value.bool (decide_eq_true (hq)))) (sk fun cx br=>(wt ?_))))))))))))))))))))))))
 refine oA rfl (oZ (tN (br _ _ (Ap (As (Ao (fn:=Tryd.f24) _ rfl [.bool (false)] (.bool (false)) rfl ⟨rfl,trivial⟩ ?_))))))
 exact⟨by rw[Ia (fun e=>hq (by rw[e]))],hE⟩

theorem Pq(w:World):
  Calls Tryd.prog 21 #[] w fun e w' =>e = .returned (.bool true)∧Ext w w' :=by
 refine calls_of_wpF (args:= []) Tryd.func21 rfl 49 rfl (Nat.le_of_ble_eq_true rfl) ?_
 intro an hb
 clear hb
 have hE:=Ext.refl w
 refine sk fun K1 y=>(wt (oA rfl (oZ (tN (y _ _ (sk fun K2 z=>(wt (oS rfl (Yk.build2 (vr (B8 (1)) rfl) (vr (NI 5) rfl) (fun w=>Jh 1 ((5:Nat):Int) w) (oS rfl (Yk.callA1 I0 (vr (.agg (msgC ((⟨1,((5:Nat):Int),[],[],[],0,0,zid,[],[],zid,zid,false,0⟩,⟨(Value.slice none 0 0),(Value.slice none 0 0),(Value.slice none 0 0),(Value.slice none 0 0)⟩):Am)).toArray) rfl) ((Kd (X:=((⟨1,((5:Nat):Int),[],[],[],0,0,zid,[],[],zid,zid,false,0⟩,⟨(Value.slice none 0 0),(Value.slice none 0 0),(Value.slice none 0 0),(Value.slice none 0 0)⟩):Am)) rfl rfl ⟨rfl,rfl,rfl,rfl,rfl⟩ Ov PW).mono ?_))))))))))))
 rintro e w6 ⟨h,rfl,j,aa⟩
 refine⟨_,rfl,?_⟩
 have hE:=hE.trans aa
 refine oM rfl (oS rfl (Yk.extract (vs:= [h,NI 0]) (vr (.tuple #[h,NI 0]) rfl) (show _=some (h:Value)from rfl) (oS rfl (Yk.extract (vs:= [h,NI 0]) (vr (.tuple #[h,NI 0]) rfl) (show _=some (NI 0:Value)from rfl) (oA rfl (oA rfl (oZ (tN (z _ _ (sk fun K7 ab=>(wt (oS rfl (Yk.build3 (vr (B8 (8)) rfl) (vr (NI 300) rfl) (vr (NI 13) rfl) (fun w=>Hl 8 ((300:Nat):Int) ((13:Nat):Int) w) (oS rfl (Yk.callA1 I0 (vr (.agg (msgC ((⟨8,((300:Nat):Int),[],[],[],0,0,zid,[],[],zid,zid,false,((13:Nat):Int)⟩,⟨(Value.slice none 0 0),(Value.slice none 0 0),(Value.slice none 0 0),(Value.slice none 0 0)⟩):Am)).toArray) rfl) ((Kd (X:=((⟨8,((300:Nat):Int),[],[],[],0,0,zid,[],[],zid,zid,false,((13:Nat):Int)⟩,⟨(Value.slice none 0 0),(Value.slice none 0 0),(Value.slice none 0 0),(Value.slice none 0 0)⟩):Am)) rfl rfl ⟨rfl,rfl,rfl,rfl,rfl⟩ Kb Kc).mono ?_))))))))))))))))
 rintro e au ⟨f,rfl,i,q⟩
 refine⟨_,rfl,?_⟩
 have hE:=hE.trans q
 have j:=j.keep q
 refine oM rfl (oS rfl (Yk.extract (vs:= [f,NI 0]) (vr (.tuple #[f,NI 0]) rfl) (show _=some (f:Value)from rfl) (oS rfl (Yk.extract (vs:= [f,NI 0]) (vr (.tuple #[f,NI 0]) rfl) (show _=some (NI 0:Value)from rfl) (oA rfl (oA rfl (oZ (tN (ab _ _ (sk fun av ac=>(sk fun aw ad=>(wt (oM rfl (oS rfl (Yk.lenRB Ff (RB.of i (vr f rfl)) (oS rfl (Yk.eqI (a:=((([8,172,2,13]:List UInt8):List UInt8).length:Nat)) (b:=(0:Nat)) rfl rfl (k_eql _ _ _ _) (oZ (tN (ad _ _ (Al (vr (.bool (false)) (congrArg Value.bool (decide_eq_false (by decide)))) ?_)))))))))))))))))))))
 refine Ak (tN (ac _ _ (sk fun ax ae=>(wt (oM rfl (oM rfl (oS rfl (Yk.lenRB Ff (RB.of i (vr f rfl)) (oS rfl (Yk.bin (xv:=NI ((([8,172,2,13]:List UInt8):List UInt8).length)) (yv:=NI 1) rfl rfl rfl (CM _ _ _ (by decide) (by decide)) (oS rfl (Yk.sliceHi (xs:=([8,172,2,13]:List UInt8)) (n:=((([8,172,2,13]:List UInt8):List UInt8).length)-(1)) Ff Lm (vr f rfl) i (vr (NI (((([8,172,2,13]:List UInt8):List UInt8).length)-(1))) rfl) (by decide) fun r af ha17=>(oS rfl (Yk.callA1 NG (vr r rfl) ((Me _ r ((([8,172,2,13]:List UInt8):List UInt8).take (((([8,172,2,13]:List UInt8):List UInt8).length)-(1))) af (by decide)).mono ?_)))))))))))))))
 rintro e ag ⟨X,c,rfl,hX,hd,o⟩
 refine⟨_,rfl,?_⟩
 have hE:=hE.trans o
 have j:=j.keep o
 have i:=i.keep o
 have hXr:=hX.refs
 have hXw:=hX.wants
 have hXh:=hX.haves
 have hXb:=hX.bytes
 rw[show([8,172,2,13]:List UInt8).length-1=3 from rfl,PX]at hd
 obtain⟨ah,-⟩:=hd
 subst ah
 refine oM rfl (oS rfl (Yk.extract (vs:= [.agg (msgC X).toArray,NI 6]) (vr (.tuple #[.agg (msgC X).toArray,NI 6]) rfl) (show _=some (.agg (msgC X).toArray:Value)from rfl) (oS rfl (Yk.extract (vs:= [.agg (msgC X).toArray,NI 6]) (vr (.tuple #[.agg (msgC X).toArray,NI 6]) rfl) (show _=some (NI 6:Value)from rfl) (oS rfl (Yk.alloc (cs:=(msgC ((⟨0,0,[],[],[],0,0,zid,[],[],zid,zid,false,0⟩,⟨.slice none 0 0, .slice none 0 0, .slice none 0 0, .slice none 0 0⟩):Am)).toArray) Nt fun p ai ay s t az=> ?_))))))
 have g:=Ext.refl ag
 have aj:=hE.size
 have hE:=hE.trans t
 have g:=g.trans t
 have k:=s;clear s
 have a0:p<ai.heap.size:=by omega
 refine oS rfl (Yk.storeAll (vr (PQ p 0) rfl) (vr (.agg (msgC X).toArray) rfl) k (by simp only[List.size_toArray,Az]) (AF (Az _) MQ) (CP (x:=X) (RG.one (hXr.keep g)).2 (RG.one (hXw.keep g)).2 (RG.one (hXh.keep g)).2 (RB.one (hXb.keep g)).2) fun ak u v a1=> ?_)
 have hE:=Ae hE v (Nat.le_trans aj (by omega))
 have g:=Ae g v (Nat.le_trans (Nat.le_refl _) (by omega))
 clear k
 have k:ak.heap[p]? =some (.cells (msgC X).toArray 29 (0,0)):=u;clear u
 have a2:=bl k
 refine oA rfl (oZ (tN (ae _ _ (sk fun a3 al=>(wt (oM rfl (oS rfl (Yk.eqI (a:=(0:Nat)) (b:=(0:Nat)) rfl rfl (k_eql _ _ _ _) (oM rfl (oY (d:=31) rfl rfl (vr (.bool (true)) (congrArg Value.bool (decide_eq_true (rfl)))) (Yk.move (vr h rfl) (oY (d:=31) rfl rfl (vr (.bool (true)) (congrArg Value.bool (decide_eq_true (rfl)))) (Yk.convRB Ff u5 Dx (RB.of (j.keep g) (vr h rfl)) (oY (d:=31) rfl rfl (vr (.bool (true)) (congrArg Value.bool (decide_eq_true (rfl)))) (Yk.eqSt (l:=([1,5]:List UInt8)) (m:=([1,5]:List UInt8)) (.inl rfl) (vr (St (([1,5]:List UInt8))) rfl) (vr (St (([1,5]:List UInt8))) rfl) (decide (([1,5]:List UInt8)=(([1,5]:List UInt8):List UInt8))) rfl (oS rfl (Yk.pickT (vr (.bool (true)) (congrArg Value.bool (decide_eq_true (rfl)))) (vr (.bool (true)) (congrArg Value.bool (decide_eq_true (rfl)))) (oM rfl (oY (d:=36) rfl rfl (vr (.bool (true)) rfl) (Yk.move (vr (NI 0) rfl) (oY (d:=36) rfl rfl (vr (.bool (true)) rfl) (Yk.eqI (a:=(0:Nat)) (b:=(0:Nat)) rfl rfl (k_eql _ _ _ _) (oS rfl (Yk.pickT (vr (.bool (true)) rfl) (vr (.bool (true)) (congrArg Value.bool (decide_eq_true (rfl)))) ?_))))))))))))))))))))))))
 refine oM rfl (oY (d:=40) rfl rfl (vr (.bool (true)) rfl) (Yk.move (vr f rfl) (oY (d:=40) rfl rfl (vr (.bool (true)) rfl) (Yk.convRB Ff u5 Dx (RB.of (i.keep g) (vr f rfl)) (oY (d:=40) rfl rfl (vr (.bool (true)) rfl) (Yk.eqSt (l:=([8,172,2,13]:List UInt8)) (m:=([8,172,2,13]:List UInt8)) (.inl rfl) (vr (St (([8,172,2,13]:List UInt8))) rfl) (vr (St (([8,172,2,13]:List UInt8))) rfl) (decide (([8,172,2,13]:List UInt8)=(([8,172,2,13]:List UInt8):List UInt8))) rfl (oS rfl (Yk.pickT (vr (.bool (true)) rfl) (vr (.bool (true)) (congrArg Value.bool (decide_eq_true (rfl)))) (oM rfl (oY (d:=45) rfl rfl (vr (.bool (true)) rfl) (Yk.move (vr (NI 6) rfl) (oY (d:=45) rfl rfl (vr (.bool (true)) rfl) (Yk.eqI (a:=(6:Nat)) (b:=(6:Nat)) rfl rfl (k_eql _ _ _ _) (oS rfl (Yk.pickT (vr (.bool (true)) rfl) (vr (.bool (true)) (congrArg Value.bool (decide_eq_true (rfl)))) (oA rfl (Be [(0, .bool (true)),(1,h),(2,NI 0),(3,f),(4,NI 0),(6,NI 6),(19, .bool (false))] ⟨rfl,rfl,rfl,rfl,rfl,rfl,(congrArg Value.bool (decide_eq_false (by decide))),trivial⟩ fun a4 ⟨T0,T1,T2,T3,T4,T6,ba,_⟩=>(tN (al _ _ (Ap (Ao (fn:=Tryd.f21) _ rfl [.bool (true)] (.bool (true)) rfl ⟨T0,trivial⟩ ?_)))))))))))))))))))))
 exact⟨rfl,hE⟩
open Go.RowKit
set_option maxRecDepth 100000
theorem NH(w:World)(y z:Am)(hm:MsgAt w y)(hn:MsgAt w z)(hL:CX y.1)(h:y.1=z.1):
  Calls Tryd.prog 24 #[.agg (msgC y).toArray, .agg (msgC z).toArray] w fun e w' =>e = .returned (.bool true)∧Ext w w' :=
 (Ow w y z hm hn hL).mono fun e w' k=>by rw[h,Md]at k;exact k
set_option maxHeartbeats 1600000
open Go.RowKit
def IsMsg(n:Msg)(z:Value)(w:World):Prop:=∃X:Am,z = .agg (msgC X).toArray∧X.1=n∧MsgAt w X
theorem IsMsg.stab(n:Msg):Stab Ext (IsMsg n):=fun _ _ _ ⟨X,h1,h2,h3⟩ k=>⟨X,h1,h2,h3.keep k⟩
open Go.RowKit
set_option maxRecDepth 100000
theorem La(r:Cv):HA r=((decide (r.head= [])&&zeroB r.at_)||(decide (r.head≠ [])&&((!nameB r.head)||(!zeroB r.at_)))):=Bool.or_comm _ _
theorem Ke(l:List Ed)(i:Nat):EO l i=((((decide ((l.getD i Au).kind.toNat<1))||(decide (3<(l.getD i Au).kind.toNat)))||decide (32<(l.getD i Au).name.length))||(!Dt (l.getD i Au).note)):=by
 unfold EO Dj
 have:(!((decide ((l.getD i Au).kind.toNat=1)||decide ((l.getD i Au).kind.toNat=2))||decide ((l.getD i Au).kind.toNat=3)))=((decide ((l.getD i Au).kind.toNat<1))||(decide (3<(l.getD i Au).kind.toNat))):=by
  rw[Bool.eq_iff_iff]
  simp only[Bool.or_eq_true,Bool.not_eq_true',Bool.or_eq_false_iff,decide_eq_true_eq,decide_eq_false_iff_not]
  omega
 rw[this]
 ac_rfl
theorem I1:AG Tryd.prog 64:=fun _ _=>by kernel_rfl
theorem Gx:AG Tryd.prog 86:=fun _ _=>by kernel_rfl
theorem I2:AG Tryd.prog 85:=fun _ _=>by kernel_rfl
theorem NJ:AG Tryd.prog 78:=fun _ _=>by kernel_rfl
theorem I3:∃fs,Tryd.prog.underlying 49=some (.struct fs):=CU (by kernel_rfl)
theorem Ib:(Tryd.prog.info? 49).map (·.size)=some 36:=by kernel_rfl
theorem I4:AG Tryd.prog 32:=fun _ _=>by kernel_rfl
theorem E5(z0:UInt8)(z1:List UInt8)(z3:BZ)(w:World):(Instr.build 67 #[(0,B8 z0),(1,St z1),(3,AB z3.1)]).run Tryd.prog w = .ok (.agg (B8 (z0) :: (St (z1) :: (Lib.byteCells zid.1++(Lib.byteCells z3.1)))).toArray) w:=by
 obtain⟨z3,k3⟩:=z3
 obtain⟨a3_0,a3_1,a3_2,a3_3,a3_4,a3_5,a3_6,a3_7,a3_8,a3_9,a3_10,a3_11,a3_12,a3_13,a3_14,a3_15,a3_16,a3_17,a3_18,a3_19,a3_20,a3_21,a3_22,a3_23,a3_24,a3_25,a3_26,a3_27,a3_28,a3_29,a3_30,a3_31,rfl⟩:=Jp k3
 exact Hf _ _ _ _ _ _ _ _ _ _ _ _ _ _ _ _ _ _ _ _ _ _ _ _ _ _ _ _ _ _ _ _ _ _ w
theorem I5:∀(cs:Array Value),cs.size=66→∀w:World,(Instr.buildSlice 22 1 #[(0, .agg cs)]).run Tryd.prog w = .ok (.slice (some ⟨w.heap.size,0,none⟩) 1 1) (w.alloc (.cells cs 67))
 | ⟨c0 :: c1 :: c2 :: c3 :: c4 :: c5 :: c6 :: c7 :: c8 :: c9 :: c10 :: c11 :: c12 :: c13 :: c14 :: c15 :: c16 :: c17 :: c18 :: c19 :: c20 :: c21 :: c22 :: c23 :: c24 :: c25 :: c26 :: c27 :: c28 :: c29 :: c30 :: c31 :: c32 :: c33 :: c34 :: c35 :: c36 :: c37 :: c38 :: c39 :: c40 :: c41 :: c42 :: c43 :: c44 :: c45 :: c46 :: c47 :: c48 :: c49 :: c50 :: c51 :: c52 :: c53 :: c54 :: c55 :: c56 :: c57 :: c58 :: c59 :: c60 :: c61 :: c62 :: c63 :: c64 :: c65 :: []⟩,_,w=>MU c0 c1 c2 c3 c4 c5 c6 c7 c8 c9 c10 c11 c12 c13 c14 c15 c16 c17 c18 c19 c20 c21 c22 c23 c24 c25 c26 c27 c28 c29 c30 c31 c32 c33 c34 c35 c36 c37 c38 c39 c40 c41 c42 c43 c44 c45 c46 c47 c48 c49 c50 c51 c52 c53 c54 c55 c56 c57 c58 c59 c60 c61 c62 c63 c64 c65 w
set_option maxHeartbeats 1600000
theorem FR(w:World)(u:BZ):
  Calls Tryd.prog 86 #[AB u.1] w fun e w' =>e = .returned (.bool (zeroB u))∧Ext w w' :=by
 refine calls_of_wpF (args:= [AB u.1]) Tryd.func86 rfl 6 rfl (Nat.le_of_ble_eq_true rfl) ?_
 intro c hb
 have f:c 0=(AB u.1:Value):=hb.get 0
 clear hb
 have hE:=Ext.refl w
 refine sk fun l g=>(wt (oS rfl (Yk.box (cs:=(Lib.byteCells u.1:List Value).toArray) f fun a h m b i n=> ?_)))
 have hE:=hE.trans i
 have j:=b;clear b
 have o:a<h.heap.size:=by omega
 refine oA rfl (oZ (tN (g _ _ (sk fun p k=>(wt (oS rfl (Yk.loadAll (vr (PQ a 0) rfl) j OA rfl (by exact AH u.2) (oS rfl (Yk.run (v:=AB (List.replicate 32 0)) (by kernel_rfl) (oS rfl (Yk.eqArr (l1:=u.1) (l2:=(List.replicate 32 0)) OA u5 Lm Ha (vr (AB u.1) rfl) (vr (AB (List.replicate 32 0)) rfl) (u.2) (List.length_replicate) (oA rfl (oZ (tN (k _ _ (Ap (Ao (fn:=Tryd.f86) _ rfl [.bool (decide (u.1=(List.replicate 32 0)))] (.bool (decide (u.1=(List.replicate 32 0)))) rfl ⟨rfl,trivial⟩ ?_)))))))))))))))))
 exact⟨rfl,hE⟩

theorem Ic(w:World)(v:Value)(l:List BC)(hr:RG 33 nmdC w v l)(hll:l.length<9223372036854775807)(hln:∀u∈l,u.name.length≤9223372036854775807):
  Calls Tryd.prog 85 #[v] w fun e w' =>e = .returned (.bool (A1 l))∧Ext w w' :=by
 refine calls_of_wpF (args:= [v]) Tryd.func85 rfl 46 rfl (Nat.le_of_ble_eq_true rfl) ?_
 intro s hb
 have c:s 0=(v:Value):=hb.get 0
 clear hb
 have hE:=Ext.refl w
 refine sk fun K1 t=>(wt (oA rfl (oZ (tN (t _ _ (sk fun K2 y=>(sk fun K3 z=>(wt (oM rfl (oS rfl (Yk.lenRG Cb (RG.of hr c) (oS rfl (Yk.eqI (a:=(l.length:Nat)) (b:=(64:Nat)) rfl rfl (Ce _ _ _ _) (oZ (tN (z _ _ ?_))))))))))))))))
 refine A2 ((64)<(l.length)) (vr (.bool (decide ((64)<(l.length)))) rfl) (fun aa=> ?_) (fun aa=> ?_)
 ·refine sk fun K4 ab=>(wt (oA rfl (oZ (tN (ab _ _ (Ap (As (Ao (fn:=Tryd.f85) _ rfl [.bool (false)] (.bool (false)) rfl ⟨rfl,trivial⟩ ?_))))))))
  exact⟨by rw[Kp (by omega)],hE⟩
 refine Ak (tN (y _ _ (sk fun K5 ac=>(sk fun K6 ad=>(wt (oA rfl (Be [(0,v),(2, .bool (false)),(3,NI 0)] ⟨c,rfl,rfl,trivial⟩ fun bv ⟨c,T2,f,_⟩=>(tN (ad _ _ (Ax (Bc (fun(ρ:At) (wz:World)=>∃i:Nat,ρ 0=(v:Value)∧ρ 3=(NI i:Value)∧RG 33 nmdC wz v l∧Ext w wz∧(i≤l.length)∧(∀j,j<i→nE l j=false)∧True) (fun ρ _=>l.length-(intOf (ρ 3)).toNat) ⟨0,c,f,hr,hE,Nat.zero_le _,fun j hj=>absurd hj (Nat.not_lt_zero _),trivial⟩ ?_)))))))))))
 clear hr hE
 rintro ae w9 ⟨i,c,f,hr,hE,hi,hn,-⟩
 have q3:=f
 refine sk fun bz af=>(sk fun b0 ag=>(wt (oM rfl (oM rfl (oS rfl (Yk.lenRG Cb (RG.of hr c) (oS rfl (Yk.eqI (a:=(i:Nat)) (b:=(l.length:Nat)) f rfl (AZ _ _ _ _) (oZ (tN (ag _ _ ?_)))))))))))
 refine A2 ((i)<(l.length)) (vr (.bool (decide ((i)<(l.length)))) rfl) (fun q=> ?_) (fun q=> ?_)
 ·have hlt:i<l.length:=q
  have hnm:=hln _ (FF Af hlt)
  refine Ak (tN (af _ _ (sk fun b1 ah=>(Ax (sk fun b2 ai=> ?_)))))
  refine Bi [Is (v),Is (NI i),fun x w' =>PR (nmdC (l.getD (i) Af)) x w',BD (St ((l.getD (i) Af).name)),Is (St ((l.getD (i) Af).name)),Is (.bool (nameB ((l.getD (i) Af).name))),Is (.bool (!(nameB ((l.getD (i) Af).name)))),Is (.bool (!(nameB ((l.getD (i) Af).name)))),Is (cond (!(!(nameB ((l.getD (i) Af).name)))) (v) undef),Is (cond (!(!(nameB ((l.getD (i) Af).name)))) (NI i) undef),fun x w' =>(!(!(nameB ((l.getD (i) Af).name))))=true→(fun x w' =>PR (nmdC (l.getD (i) Af)) x w') x w',fun x w' =>(!(!(nameB ((l.getD (i) Af).name))))=true→(fun x w' =>PR (Lib.byteCells (l.getD (i) Af).id.1) x w') x w',Is (cond (!(!(nameB ((l.getD (i) Af).name)))) (AB ((l.getD (i) Af).id.1)) undef),Is (cond (!(!(nameB ((l.getD (i) Af).name)))) (.bool (zeroB ((l.getD (i) Af).id))) undef),Is (.bool ((!(nameB ((l.getD (i) Af).name)))||(zeroB ((l.getD (i) Af).id)))),Is (.bool ((!(nameB ((l.getD (i) Af).name)))||(zeroB ((l.getD (i) Af).id)))),Is (cond (!((!(nameB ((l.getD (i) Af).name)))||(zeroB ((l.getD (i) Af).id)))) (NI i) undef),Is (cond (!((!(nameB ((l.getD (i) Af).name)))||(zeroB ((l.getD (i) Af).id)))) (.bool (decide ((0)<(i)))) undef),Is (cond (!((!(nameB ((l.getD (i) Af).name)))||(zeroB ((l.getD (i) Af).id)))) (.bool (decide ((0)<(i)))) undef),Is (cond ((!((!(nameB ((l.getD (i) Af).name)))||(zeroB ((l.getD (i) Af).id))))&&(decide ((0)<(i)))) (v) undef),Is (cond ((!((!(nameB ((l.getD (i) Af).name)))||(zeroB ((l.getD (i) Af).id))))&&(decide ((0)<(i)))) (NI i) undef),Is (cond ((!((!(nameB ((l.getD (i) Af).name)))||(zeroB ((l.getD (i) Af).id))))&&(decide ((0)<(i)))) (NI ((i)-(1))) undef),fun x w' =>((!((!(nameB ((l.getD (i) Af).name)))||(zeroB ((l.getD (i) Af).id))))&&(decide ((0)<(i))))=true→(fun x w' =>PR (nmdC (l.getD ((i)-(1)) Af)) x w') x w',fun x w' =>((!((!(nameB ((l.getD (i) Af).name)))||(zeroB ((l.getD (i) Af).id))))&&(decide ((0)<(i))))=true→(BD (St ((l.getD ((i)-(1)) Af).name))) x w',Is (cond ((!((!(nameB ((l.getD (i) Af).name)))||(zeroB ((l.getD (i) Af).id))))&&(decide ((0)<(i)))) (St ((l.getD ((i)-(1)) Af).name)) undef),Is (cond ((!((!(nameB ((l.getD (i) Af).name)))||(zeroB ((l.getD (i) Af).id))))&&(decide ((0)<(i)))) (v) undef),Is (cond ((!((!(nameB ((l.getD (i) Af).name)))||(zeroB ((l.getD (i) Af).id))))&&(decide ((0)<(i)))) (NI i) undef),fun x w' =>((!((!(nameB ((l.getD (i) Af).name)))||(zeroB ((l.getD (i) Af).id))))&&(decide ((0)<(i))))=true→(fun x w' =>PR (nmdC (l.getD (i) Af)) x w') x w',fun x w' =>((!((!(nameB ((l.getD (i) Af).name)))||(zeroB ((l.getD (i) Af).id))))&&(decide ((0)<(i))))=true→(BD (St ((l.getD (i) Af).name))) x w',Is (cond ((!((!(nameB ((l.getD (i) Af).name)))||(zeroB ((l.getD (i) Af).id))))&&(decide ((0)<(i)))) (St ((l.getD (i) Af).name)) undef),Is (cond ((!((!(nameB ((l.getD (i) Af).name)))||(zeroB ((l.getD (i) Af).id))))&&(decide ((0)<(i)))) (.bool (!(Op.bytesLess ((l.getD ((i)-(1)) Af).name) ((l.getD (i) Af).name)))) undef),Is (cond (!((!(nameB ((l.getD (i) Af).name)))||(zeroB ((l.getD (i) Af).id)))) (.bool ((decide ((0)<(i)))&&(!(Op.bytesLess ((l.getD ((i)-(1)) Af).name) ((l.getD (i) Af).name))))) undef),Is (.bool (((!(nameB ((l.getD (i) Af).name)))||(zeroB ((l.getD (i) Af).id)))||((decide ((0)<(i)))&&(!(Op.bytesLess ((l.getD ((i)-(1)) Af).name) ((l.getD (i) Af).name))))))] (by kernel_rfl) [13,14,15,16,17,18,19,20,21,22,23,24,25,26,27,28,29,30,31,32,33,34,35,36,37,38,39,40,41,42,43,44,45] (by kernel_rfl) (by kernel_rfl) (Cz ⟨(fun _ _ _ h k=>PR.keep h k),Stab.pcell _,(KO ⟨(Stab.may ((fun _ _ _ h k=>PR.keep h k))),(Stab.may ((fun _ _ _ h k=>PR.keep h k))),(Lb ⟨(Stab.may ((fun _ _ _ h k=>PR.keep h k))),(Stab.may (Stab.pcell _)),(Iu ⟨(Stab.may ((fun _ _ _ h k=>PR.keep h k))),(Stab.may (Stab.pcell _)),(EG trivial)⟩)⟩)⟩)⟩) ?aj ?hQ1006
  case aj=>
   refine⟨?_,?_,?_,?_,?_,?_,?_,?_,?_,?_,?_,?_,?_,?_,?_,?_,?_,?_,?_,?_,?_,?_,?_,?_,?_,?_,?_,?_,?_,?_,?_,?_,?_,trivial⟩
   ·refine Aa rfl fun σ w1 hC h=> ?_
    have o:=(Ad (h 0 (by decide))).trans c
    exact Yk.move o ⟨Ext.refl _,rfl⟩
   ·refine Aa rfl fun σ w1 hC h=> ?_
    have g:=(Ad (h 3 (by decide))).trans f
    exact Yk.move g ⟨Ext.refl _,rfl⟩
   ·refine Aa rfl fun σ w1 hC h=> ?_
    have ak:=Ad (h 13 (by decide))
    have al:=Ad (h 14 (by decide))
    exact Yk.atRG Cb Ep (by decide) Af (RG.of (hr.keep hC) ak) al (by omega) fun v h=>⟨Ext.refl _,h⟩
   ·refine Aa rfl fun σ w1 hC h=> ?_
    have am:(fun x w' =>PR (nmdC (l.getD (i) Af)) x w') (σ 15) w1:=h 15 (by decide)
    exact Yk.fieldPR (n:=1) G1 am fun v h=>⟨Ext.refl _,PR.pcell (by rw[D3]at h;exact h)⟩
   ·refine Aa rfl fun σ w1 hC h=> ?_
    have an:(BD (St ((l.getD (i) Af).name))) (σ 16) w1:=h 16 (by decide)
    exact Yk.loadC Dx rfl an ⟨Ext.refl _,rfl⟩
   ·refine Aa rfl fun σ w1 hC h=> ?_
    have ao:=Ad (h 17 (by decide))
    refine Yk.callA1 I1 ao ((GR _ ((l.getD (i) Af).name) (by have:=hnm;omega)).mono ?_)
    rintro e w2 ⟨rfl,hx⟩
    exact⟨_,rfl,hx,rfl⟩
   ·refine Aa rfl fun σ w1 hC h=> ?_
    have aq:=Ad (h 18 (by decide))
    exact Yk.notB aq ⟨Ext.refl _,rfl⟩
   ·refine Aa rfl fun σ w1 hC h=> ?_
    have ar:=Ad (h 19 (by decide))
    exact Yk.move ar ⟨Ext.refl _,rfl⟩
   ·refine AK 7 false 20 (G:= !(!(nameB ((l.getD (i) Af).name)))) rfl rfl (fun x _ (h:x = .bool (!(nameB ((l.getD (i) Af).name))))=>gF h) (fun hu_ _=>A9 hu_) fun hG σ w1 hC h=> ?_
    have o:=(Ad (h 0 (by decide))).trans c
    exact Yk.move o ⟨Ext.refl _,A8 hG⟩
   ·refine AK 7 false 20 (G:= !(!(nameB ((l.getD (i) Af).name)))) rfl rfl (fun x _ (h:x = .bool (!(nameB ((l.getD (i) Af).name))))=>gF h) (fun hu_ _=>A9 hu_) fun hG σ w1 hC h=> ?_
    have g:=(Ad (h 3 (by decide))).trans f
    exact Yk.move g ⟨Ext.refl _,A8 hG⟩
   ·refine AK 7 false 20 (G:= !(!(nameB ((l.getD (i) Af).name)))) rfl rfl (fun x _ (h:x = .bool (!(nameB ((l.getD (i) Af).name))))=>gF h) (fun hu_ _=>E0 hu_) fun hG σ w1 hC h=> ?_
    have au:=Ad (h 21 (by decide))
    have av:=Ad (h 22 (by decide))
    exact Yk.atRG Cb Ep (by decide) Af (RG.of (hr.keep hC) (mayT au hG)) (mayT av hG) (by simp only[gA,gB,gC,gD,gE]at hG;omega) fun v h=>⟨Ext.refl _,fun _=>h⟩
   ·refine AK 7 false 20 (G:= !(!(nameB ((l.getD (i) Af).name)))) rfl rfl (fun x _ (h:x = .bool (!(nameB ((l.getD (i) Af).name))))=>gF h) (fun hu_ _=>E0 hu_) fun hG σ w1 hC h=> ?_
    have aw:(fun x w' =>(!(!(nameB ((l.getD (i) Af).name))))=true→(fun x w' =>PR (nmdC (l.getD (i) Af)) x w') x w') (σ 23) w1:=h 23 (by decide)
    exact Yk.fieldPR (n:=32) G2 (aw hG) fun v h=>⟨Ext.refl _,fun _=>by rw[F8]at h;exact h⟩
   ·refine AK 7 false 20 (G:= !(!(nameB ((l.getD (i) Af).name)))) rfl rfl (fun x _ (h:x = .bool (!(nameB ((l.getD (i) Af).name))))=>gF h) (fun hu_ _=>A9 hu_) fun hG σ w1 hC h=> ?_
    have ax:(fun x w' =>(!(!(nameB ((l.getD (i) Af).name))))=true→(fun x w' =>PR (Lib.byteCells (l.getD (i) Af).id.1) x w') x w') (σ 24) w1:=h 24 (by decide)
    exact Yk.loadPR (ax hG) OA rfl (by rw[Lib.byteCells_length,(l.getD (i) Af).id.2];exact Mx) ⟨Ext.refl _,A8 hG⟩
   ·refine AK 7 false 20 (G:= !(!(nameB ((l.getD (i) Af).name)))) rfl rfl (fun x _ (h:x = .bool (!(nameB ((l.getD (i) Af).name))))=>gF h) (fun hu_ _=>A9 hu_) fun hG σ w1 hC h=> ?_
    have ay:=Ad (h 25 (by decide))
    refine Yk.callA1 Gx (mayT ay hG) ((FR _ ((l.getD (i) Af).id)).mono ?_)
    rintro e w2 ⟨rfl,hx⟩
    exact⟨_,rfl,hx,A8 hG⟩
   ·refine Aa rfl fun σ w1 hC h=> ?_
    have az:=Ad (h 20 (by decide))
    have a0:=Ad (h 26 (by decide))
    exact Yk.pickOr az (vr (.bool (true)) rfl) (fun hA=>(mayT a0 (not_i hA))) ⟨Ext.refl _,rfl⟩
   ·refine Aa rfl fun σ w1 hC h=> ?_
    have a1:=Ad (h 27 (by decide))
    exact Yk.move a1 ⟨Ext.refl _,rfl⟩
   ·refine AK 15 false 28 (G:= !((!(nameB ((l.getD (i) Af).name)))||(zeroB ((l.getD (i) Af).id)))) rfl rfl (fun x _ (h:x = .bool ((!(nameB ((l.getD (i) Af).name)))||(zeroB ((l.getD (i) Af).id))))=>gF h) (fun hu_ _=>A9 hu_) fun hG σ w1 hC h=> ?_
    have g:=(Ad (h 3 (by decide))).trans f
    exact Yk.move g ⟨Ext.refl _,A8 hG⟩
   ·refine AK 15 false 28 (G:= !((!(nameB ((l.getD (i) Af).name)))||(zeroB ((l.getD (i) Af).id)))) rfl rfl (fun x _ (h:x = .bool ((!(nameB ((l.getD (i) Af).name)))||(zeroB ((l.getD (i) Af).id))))=>gF h) (fun hu_ _=>A9 hu_) fun hG σ w1 hC h=> ?_
    have a2:=Ad (h 29 (by decide))
    exact Yk.eqI (a:=((i:Nat):Int)) (b:=((0:Nat):Int)) (mayT a2 hG) (vr (NI 0) rfl) (Ce _ .i64 (i) (0)) ⟨Ext.refl _,A8 hG⟩
   ·refine AK 15 false 28 (G:= !((!(nameB ((l.getD (i) Af).name)))||(zeroB ((l.getD (i) Af).id)))) rfl rfl (fun x _ (h:x = .bool ((!(nameB ((l.getD (i) Af).name)))||(zeroB ((l.getD (i) Af).id))))=>gF h) (fun hu_ _=>A9 hu_) fun hG σ w1 hC h=> ?_
    have a3:=Ad (h 30 (by decide))
    exact Yk.move (mayT a3 hG) ⟨Ext.refl _,A8 hG⟩
   ·refine AK 18 true 31 (G:=(!((!(nameB ((l.getD (i) Af).name)))||(zeroB ((l.getD (i) Af).id))))&&(decide ((0)<(i)))) rfl rfl (fun x _ (h:x=cond (!((!(nameB ((l.getD (i) Af).name)))||(zeroB ((l.getD (i) Af).id)))) (.bool (decide ((0)<(i)))) undef)=>geT h) (fun hu_ _=>A9 hu_) fun hG σ w1 hC h=> ?_
    have o:=(Ad (h 0 (by decide))).trans c
    exact Yk.move o ⟨Ext.refl _,A8 hG⟩
   ·refine AK 18 true 31 (G:=(!((!(nameB ((l.getD (i) Af).name)))||(zeroB ((l.getD (i) Af).id))))&&(decide ((0)<(i)))) rfl rfl (fun x _ (h:x=cond (!((!(nameB ((l.getD (i) Af).name)))||(zeroB ((l.getD (i) Af).id)))) (.bool (decide ((0)<(i)))) undef)=>geT h) (fun hu_ _=>A9 hu_) fun hG σ w1 hC h=> ?_
    have g:=(Ad (h 3 (by decide))).trans f
    exact Yk.move g ⟨Ext.refl _,A8 hG⟩
   ·refine AK 18 true 31 (G:=(!((!(nameB ((l.getD (i) Af).name)))||(zeroB ((l.getD (i) Af).id))))&&(decide ((0)<(i)))) rfl rfl (fun x _ (h:x=cond (!((!(nameB ((l.getD (i) Af).name)))||(zeroB ((l.getD (i) Af).id)))) (.bool (decide ((0)<(i)))) undef)=>geT h) (fun hu_ _=>A9 hu_) fun hG σ w1 hC h=> ?_
    have a4:=Ad (h 33 (by decide))
    exact Yk.bin (xv:=NI i) (yv:=NI 1) (mayT a4 hG) (vr (NI 1) rfl) rfl (CM _ (i) (1) (by simp only[gA,gB,gC,gD,gE]at hG;omega) (by simp only[gA,gB,gC,gD,gE]at hG;omega)) ⟨Ext.refl _,A8 hG⟩
   ·refine AK 18 true 31 (G:=(!((!(nameB ((l.getD (i) Af).name)))||(zeroB ((l.getD (i) Af).id))))&&(decide ((0)<(i)))) rfl rfl (fun x _ (h:x=cond (!((!(nameB ((l.getD (i) Af).name)))||(zeroB ((l.getD (i) Af).id)))) (.bool (decide ((0)<(i)))) undef)=>geT h) (fun hu_ _=>E0 hu_) fun hG σ w1 hC h=> ?_
    have a5:=Ad (h 32 (by decide))
    have a6:=Ad (h 34 (by decide))
    exact Yk.atRG Cb Ep (by decide) Af (RG.of (hr.keep hC) (mayT a5 hG)) (mayT a6 hG) (by simp only[gA,gB,gC,gD,gE]at hG;omega) fun v h=>⟨Ext.refl _,fun _=>h⟩
   ·refine AK 18 true 31 (G:=(!((!(nameB ((l.getD (i) Af).name)))||(zeroB ((l.getD (i) Af).id))))&&(decide ((0)<(i)))) rfl rfl (fun x _ (h:x=cond (!((!(nameB ((l.getD (i) Af).name)))||(zeroB ((l.getD (i) Af).id)))) (.bool (decide ((0)<(i)))) undef)=>geT h) (fun hu_ _=>E0 hu_) fun hG σ w1 hC h=> ?_
    have a7:(fun x w' =>((!((!(nameB ((l.getD (i) Af).name)))||(zeroB ((l.getD (i) Af).id))))&&(decide ((0)<(i))))=true→(fun x w' =>PR (nmdC (l.getD ((i)-(1)) Af)) x w') x w') (σ 35) w1:=h 35 (by decide)
    exact Yk.fieldPR (n:=1) G1 (a7 hG) fun v h=>⟨Ext.refl _,fun _=>PR.pcell (by rw[D3]at h;exact h)⟩
   ·refine AK 18 true 31 (G:=(!((!(nameB ((l.getD (i) Af).name)))||(zeroB ((l.getD (i) Af).id))))&&(decide ((0)<(i)))) rfl rfl (fun x _ (h:x=cond (!((!(nameB ((l.getD (i) Af).name)))||(zeroB ((l.getD (i) Af).id)))) (.bool (decide ((0)<(i)))) undef)=>geT h) (fun hu_ _=>A9 hu_) fun hG σ w1 hC h=> ?_
    have a8:(fun x w' =>((!((!(nameB ((l.getD (i) Af).name)))||(zeroB ((l.getD (i) Af).id))))&&(decide ((0)<(i))))=true→(BD (St ((l.getD ((i)-(1)) Af).name))) x w') (σ 36) w1:=h 36 (by decide)
    exact Yk.loadC Dx rfl (a8 hG) ⟨Ext.refl _,A8 hG⟩
   ·refine AK 18 true 31 (G:=(!((!(nameB ((l.getD (i) Af).name)))||(zeroB ((l.getD (i) Af).id))))&&(decide ((0)<(i)))) rfl rfl (fun x _ (h:x=cond (!((!(nameB ((l.getD (i) Af).name)))||(zeroB ((l.getD (i) Af).id)))) (.bool (decide ((0)<(i)))) undef)=>geT h) (fun hu_ _=>A9 hu_) fun hG σ w1 hC h=> ?_
    have o:=(Ad (h 0 (by decide))).trans c
    exact Yk.move o ⟨Ext.refl _,A8 hG⟩
   ·refine AK 18 true 31 (G:=(!((!(nameB ((l.getD (i) Af).name)))||(zeroB ((l.getD (i) Af).id))))&&(decide ((0)<(i)))) rfl rfl (fun x _ (h:x=cond (!((!(nameB ((l.getD (i) Af).name)))||(zeroB ((l.getD (i) Af).id)))) (.bool (decide ((0)<(i)))) undef)=>geT h) (fun hu_ _=>A9 hu_) fun hG σ w1 hC h=> ?_
    have g:=(Ad (h 3 (by decide))).trans f
    exact Yk.move g ⟨Ext.refl _,A8 hG⟩
   ·refine AK 18 true 31 (G:=(!((!(nameB ((l.getD (i) Af).name)))||(zeroB ((l.getD (i) Af).id))))&&(decide ((0)<(i)))) rfl rfl (fun x _ (h:x=cond (!((!(nameB ((l.getD (i) Af).name)))||(zeroB ((l.getD (i) Af).id)))) (.bool (decide ((0)<(i)))) undef)=>geT h) (fun hu_ _=>E0 hu_) fun hG σ w1 hC h=> ?_
    have a9:=Ad (h 38 (by decide))
    have ba:=Ad (h 39 (by decide))
    exact Yk.atRG Cb Ep (by decide) Af (RG.of (hr.keep hC) (mayT a9 hG)) (mayT ba hG) (by simp only[gA,gB,gC,gD,gE]at hG;omega) fun v h=>⟨Ext.refl _,fun _=>h⟩
   ·refine AK 18 true 31 (G:=(!((!(nameB ((l.getD (i) Af).name)))||(zeroB ((l.getD (i) Af).id))))&&(decide ((0)<(i)))) rfl rfl (fun x _ (h:x=cond (!((!(nameB ((l.getD (i) Af).name)))||(zeroB ((l.getD (i) Af).id)))) (.bool (decide ((0)<(i)))) undef)=>geT h) (fun hu_ _=>E0 hu_) fun hG σ w1 hC h=> ?_
    have bb:(fun x w' =>((!((!(nameB ((l.getD (i) Af).name)))||(zeroB ((l.getD (i) Af).id))))&&(decide ((0)<(i))))=true→(fun x w' =>PR (nmdC (l.getD (i) Af)) x w') x w') (σ 40) w1:=h 40 (by decide)
    exact Yk.fieldPR (n:=1) G1 (bb hG) fun v h=>⟨Ext.refl _,fun _=>PR.pcell (by rw[D3]at h;exact h)⟩
   ·refine AK 18 true 31 (G:=(!((!(nameB ((l.getD (i) Af).name)))||(zeroB ((l.getD (i) Af).id))))&&(decide ((0)<(i)))) rfl rfl (fun x _ (h:x=cond (!((!(nameB ((l.getD (i) Af).name)))||(zeroB ((l.getD (i) Af).id)))) (.bool (decide ((0)<(i)))) undef)=>geT h) (fun hu_ _=>A9 hu_) fun hG σ w1 hC h=> ?_
    have bc:(fun x w' =>((!((!(nameB ((l.getD (i) Af).name)))||(zeroB ((l.getD (i) Af).id))))&&(decide ((0)<(i))))=true→(BD (St ((l.getD (i) Af).name))) x w') (σ 41) w1:=h 41 (by decide)
    exact Yk.loadC Dx rfl (bc hG) ⟨Ext.refl _,A8 hG⟩
   ·refine AK 18 true 31 (G:=(!((!(nameB ((l.getD (i) Af).name)))||(zeroB ((l.getD (i) Af).id))))&&(decide ((0)<(i)))) rfl rfl (fun x _ (h:x=cond (!((!(nameB ((l.getD (i) Af).name)))||(zeroB ((l.getD (i) Af).id)))) (.bool (decide ((0)<(i)))) undef)=>geT h) (fun hu_ _=>A9 hu_) fun hG σ w1 hC h=> ?_
    have bd:=Ad (h 37 (by decide))
    have be:=Ad (h 42 (by decide))
    exact Yk.ltSt (l:=(l.getD ((i)-(1)) Af).name) (m:=(l.getD (i) Af).name) (.inr rfl) (mayT bd hG) (mayT be hG) (!(Op.bytesLess ((l.getD ((i)-(1)) Af).name) ((l.getD (i) Af).name))) rfl ⟨Ext.refl _,A8 hG⟩
   ·refine AK 15 false 28 (G:= !((!(nameB ((l.getD (i) Af).name)))||(zeroB ((l.getD (i) Af).id)))) rfl rfl (fun x _ (h:x = .bool ((!(nameB ((l.getD (i) Af).name)))||(zeroB ((l.getD (i) Af).id))))=>gF h) (fun hu_ _=>A9 hu_) fun hG σ w1 hC h=> ?_
    have bf:=Ad (h 31 (by decide))
    have bg:=Ad (h 43 (by decide))
    exact Yk.pickAnd (mayT bf hG) (fun hA=>(mayT bg (BF hG hA))) (vr (.bool (false)) rfl) ⟨Ext.refl _,A8 hG⟩
   ·refine Aa rfl fun σ w1 hC h=> ?_
    have bh:=Ad (h 28 (by decide))
    have bi:=Ad (h 44 (by decide))
    exact Yk.pickOr bh (vr (.bool (true)) rfl) (fun hA=>(mayT bi (not_i hA))) ⟨Ext.refl _,rfl⟩
  intro bj b3 r he hf
  obtain⟨-,-,-,-,-,-,-,-,-,-,-,-,-,-,-,-,-,-,-,-,-,-,-,-,-,-,-,-,-,-,-,-,k45,-⟩:=hf
  obtain⟨c,f,-⟩:=he.hold [(0,_),(3,_)] ⟨c,f,trivial⟩ rfl
  clear he
  have hr:=hr.keep r
  have hE:=hE.trans r
  have bk:bj 45 = .bool (((!(nameB ((l.getD (i) Af).name)))||(zeroB ((l.getD (i) Af).id)))||((decide ((0)<(i)))&&(!(Op.bytesLess ((l.getD ((i)-(1)) Af).name) ((l.getD (i) Af).name))))):=k45
  clear k45
  refine tN (ai _ _ ?_)
  refine A0 (((!(nameB ((l.getD (i) Af).name)))||(zeroB ((l.getD (i) Af).id)))||((decide ((0)<(i)))&&(!(Op.bytesLess ((l.getD ((i)-(1)) Af).name) ((l.getD (i) Af).name))))) bk (fun p=> ?_) (fun p=> ?_)
  ·have hbad:nE l i=true:=p
   refine sk fun b4 bm=>(wt (oA rfl (oZ (tN (bm _ _ (Ap (AC (As (As (AC (As (Ao (fn:=Tryd.f85) _ rfl [.bool (false)] (.bool (false)) rfl ⟨rfl,trivial⟩ ?_))))))))))))
   exact⟨by rw[Hz hlt hbad],hE⟩
  have hbad:nE l i=false:=p
  refine Ak (bN (tN (ah _ _ (wt (oM rfl (oS rfl (Yk.bin (xv:=NI i) (yv:=NI 1) f rfl rfl (AN _ _ _ (by omega)) (oA rfl (Be [(0,v),(3,NI ((i)+(1)))] ⟨c,rfl,trivial⟩ fun bn ⟨c,f,_⟩=>(tN (And.intro ⟨i+1,c,f,hr,hE,by omega,GF hn hbad,trivial⟩ ?_)))))))))))
  show l.length-(intOf (bn 3)).toNat<l.length-(intOf (ae 3)).toNat
  rw[f,q3]
  simp only[intOf,Int.toNat_natCast];omega
 refine A6 (Aw (Aw (AM (tN (ac _ _ (sk fun b5 bo=>(wt (oA rfl (oZ (tN (bo _ _ (Ap (Ao (fn:=Tryd.f85) _ rfl [.bool (true)] (.bool (true)) rfl ⟨rfl,trivial⟩ ?_)))))))))))))
 exact⟨by rw[Hy (show l.length≤i by omega) hn,decide_eq_true (by omega)],hE⟩

theorem G4(w:World)(x:Ay)(hm:RefsAt w x)(hL:Fr x.1):
  Calls Tryd.prog 32 #[.agg (refsC x).toArray] w fun e w' =>e = .returned (.bool (Cx x.1))∧Ext w w' :=by
 have hmt:=hm.branches
 have hmg:=hm.tags
 have hml:=hm.log
 refine calls_of_wpF (args:= [.agg (refsC x).toArray]) Tryd.func32 rfl 81 rfl (Nat.le_of_ble_eq_true rfl) ?_
 intro aj hb
 have h:aj 0=(.agg (refsC x).toArray:Value):=hb.get 0
 clear hb
 have hE:=Ext.refl w
 refine sk fun K1 ak=>(wt (oS rfl (Yk.box (cs:=(refsC x:List Value).toArray) h fun f w3 bd t am be=> ?_)))
 have hE:=hE.trans am
 have c:=t;clear t
 have bf:f<w3.heap.size:=by omega
 refine oA rfl (oZ (tN (ak _ _ (sk fun bg an=>(sk fun bh ao=>(wt (oS rfl (Yk.fieldAt E9 (vr (PQ f 0) rfl) (oS rfl (Yk.cell1 Cb rfl (vr (PQ f 0) rfl) (Ac c (show(refsC x)[0]? =some (x.2.branches:Value)from CN x)) (oS rfl (Yk.callA1 I2 (vr x.2.branches rfl) ((Ic _ _ x.1.branches (hmt.keep hE) hL.branches hL.bn).mono ?_)))))))))))))
 rintro e bi ⟨rfl,u⟩
 refine⟨_,rfl,?_⟩
 have hE:=hE.trans u
 have c:=eb u c
 refine oS rfl (Yk.notB (vr (.bool (A1 x.1.branches)) rfl) (oM rfl (Ab (PQ f 1) rfl rfl (gF (vr (.bool (!(A1 x.1.branches))) rfl)) (fun hG14=>Yk.fieldAt Fa (vr (PQ f 0) rfl) ⟨rfl,rfl⟩) (Ab (x.2.tags) rfl rfl (gF (vr (.bool (!(A1 x.1.branches))) rfl)) (fun hG15=>Yk.cell1 Cb rfl (mayT (vr (cond (!(!(A1 x.1.branches))) (PQ f 1) undef) rfl) hG15) (Ac c (show(refsC x)[1]? =some (x.2.tags:Value)from CO x)) ⟨rfl,rfl⟩) (AP (.bool (A1 x.1.tags)) rfl rfl (gF (vr (.bool (!(A1 x.1.branches))) rfl)) (fun hG16=>Yk.callA1 I2 (mayT (vr (cond (!(!(A1 x.1.branches))) (x.2.tags) undef) rfl) hG16) ((Ic _ _ x.1.tags (hmg.keep hE) hL.tags hL.tn).mono (by rintro e p ⟨rfl,hx⟩;exact⟨_,rfl,rfl,hx⟩))) fun bj v=> ?_)))))
 have hE:=hE.trans v
 have c:=eb v c
 refine Ab (.bool (!(A1 x.1.tags))) rfl rfl (gF (vr (.bool (!(A1 x.1.branches))) rfl)) (fun hG20=>Yk.notB (mayT (vr (cond (!(!(A1 x.1.branches))) (.bool (A1 x.1.tags)) undef) rfl) hG20) ⟨rfl,rfl⟩) (oS rfl (Yk.pickOrN (vr (.bool (!(A1 x.1.branches))) rfl) (vr (.bool (true)) rfl) (fun hA=>(mayT (vr (cond (!(!(A1 x.1.branches))) (.bool (!(A1 x.1.tags))) undef) rfl) (not_i hA))) fun bb21 hbb22=>(oM rfl (Ab (PQ f 35) rfl rfl (gF (vr (.bool (bb21)) rfl)) (fun hG23=>Yk.fieldAt KE (vr (PQ f 0) rfl) ⟨rfl,rfl⟩) (Ab (x.2.log) rfl rfl (gF (vr (.bool (bb21)) rfl)) (fun hG24=>Yk.cell1 D6 rfl (mayT (vr (cond (!bb21) (PQ f 35) undef) rfl) hG24) (Ac c (show(refsC x)[35]? =some (x.2.log:Value)from DA x)) ⟨rfl,rfl⟩) (Ab (NI ((x.1.log).length)) rfl rfl (gF (vr (.bool (bb21)) rfl)) (fun hG25=>Yk.lenRG D6 (RG.of (hml.keep hE) (mayT (vr (cond (!bb21) (x.2.log) undef) rfl) hG25)) ⟨rfl,rfl⟩) (Ab (.bool (decide ((64)<((x.1.log).length)))) rfl rfl (gF (vr (.bool (bb21)) rfl)) (fun hG26=>Yk.eqI (a:=(((x.1.log).length:Nat):Int)) (b:=((64:Nat):Int)) (mayT (vr (cond (!bb21) (NI ((x.1.log).length)) undef) rfl) hG26) (vr (NI 64) rfl) (Ce _ .i64 ((x.1.log).length) (64)) ⟨rfl,rfl⟩) (oS rfl (Yk.pickOrN (vr (.bool (bb21)) rfl) (vr (.bool (true)) rfl) (fun hA=>(mayT (vr (cond (!bb21) (.bool (decide ((64)<((x.1.log).length)))) undef) rfl) (not_i hA))) fun bb27 hbb28=>(oZ (tN (ao _ _ ?_))))))))))))
 refine A0 (bb27) (vr (.bool (bb27)) rfl) (fun q=> ?_) (fun q=> ?_)
 ·subst hbb22 hbb28
  have h1c:FV x.1=true:=q
  refine sk fun bk ap=>(wt (oA rfl (oZ (tN (ap _ _ (Ap (As (Ao (fn:=Tryd.f32) _ rfl [.bool (false)] (.bool (false)) rfl ⟨rfl,trivial⟩ ?_))))))))
  exact⟨by rw[JG h1c],hE⟩
 subst hbb22 hbb28
 have h1c:FV x.1=false:=q
 refine Ak (tN (an _ _ (sk fun bm aq=>(sk fun bo ar=>(wt (oS rfl (Yk.fieldAt KC (vr (PQ f 0) rfl) (oS rfl (Yk.cell1 Dx rfl (vr (PQ f 2) rfl) (Ac c (show(refsC x)[2]? =some (St (x.1.head):Value)from DO x)) (oS rfl (Yk.eqSt (l:=x.1.head) (m:=([]:List UInt8)) (.inl rfl) (vr (St (x.1.head)) rfl) (vr (St (([]:List UInt8))) rfl) (decide ((x.1.head:List UInt8)=(([]:List UInt8):List UInt8))) rfl (oM rfl (Ab (PQ f 3) rfl rfl (gT (vr (.bool (decide ((x.1.head:List UInt8)=(([]:List UInt8):List UInt8)))) rfl)) (fun hG32=>Yk.fieldAt KD (vr (PQ f 0) rfl) ⟨rfl,rfl⟩) (Ab (AB x.1.at_.1) rfl rfl (gT (vr (.bool (decide ((x.1.head:List UInt8)=(([]:List UInt8):List UInt8)))) rfl)) (fun hG33=>Yk.loadPR (PR.blk c (DP x) (Ex x) (mayT (vr (cond ((decide ((x.1.head:List UInt8)=(([]:List UInt8):List UInt8)))) (PQ f 3) undef) rfl) hG33)) OA rfl (AH x.1.at_.2) ⟨rfl,rfl⟩) (AP (.bool (zeroB x.1.at_)) rfl rfl (gT (vr (.bool (decide ((x.1.head:List UInt8)=(([]:List UInt8):List UInt8)))) rfl)) (fun hG34=>Yk.callA1 Gx (mayT (vr (cond ((decide ((x.1.head:List UInt8)=(([]:List UInt8):List UInt8)))) (AB x.1.at_.1) undef) rfl) hG34) ((FR _ x.1.at_).mono (by rintro e p ⟨rfl,hx⟩;exact⟨_,rfl,rfl,hx⟩))) fun bp y=> ?_)))))))))))))))
 have hE:=hE.trans y
 have c:=eb y c
 refine oS rfl (Yk.pickAndN (vr (.bool (decide ((x.1.head:List UInt8)=(([]:List UInt8):List UInt8)))) rfl) (fun hA=>(mayT (vr (cond ((decide ((x.1.head:List UInt8)=(([]:List UInt8):List UInt8)))) (.bool (zeroB x.1.at_)) undef) rfl) hA)) (vr (.bool (false)) rfl) fun bb38 hbb39=>(oM rfl (Ab (PQ f 2) rfl rfl (gF (vr (.bool (bb38)) rfl)) (fun hG40=>Yk.fieldAt KC (vr (PQ f 0) rfl) ⟨rfl,rfl⟩) (Ab (St (x.1.head)) rfl rfl (gF (vr (.bool (bb38)) rfl)) (fun hG41=>Yk.cell1 Dx rfl (mayT (vr (cond (!bb38) (PQ f 2) undef) rfl) hG41) (Ac c (show(refsC x)[2]? =some (St (x.1.head):Value)from DO x)) ⟨rfl,rfl⟩) (Ab (.bool (decide ((x.1.head:List UInt8)≠(([]:List UInt8):List UInt8)))) rfl rfl (gF (vr (.bool (bb38)) rfl)) (fun hG42=>Yk.eqSt (l:=x.1.head) (m:=([]:List UInt8)) (.inr rfl) (mayT (vr (cond (!bb38) (St (x.1.head)) undef) rfl) hG42) (vr (St (([]:List UInt8))) rfl) (decide ((x.1.head:List UInt8)≠(([]:List UInt8):List UInt8))) rfl ⟨rfl,rfl⟩) (Ab (.bool (decide ((x.1.head:List UInt8)≠(([]:List UInt8):List UInt8)))) rfl rfl (gF (vr (.bool (bb38)) rfl)) (fun hG43=>Yk.move (mayT (vr (cond (!bb38) (.bool (decide ((x.1.head:List UInt8)≠(([]:List UInt8):List UInt8)))) undef) rfl) hG43) ⟨rfl,rfl⟩) (Ab (PQ f 2) rfl rfl (geT (vr (cond (!bb38) (.bool (decide ((x.1.head:List UInt8)≠(([]:List UInt8):List UInt8)))) undef) rfl)) (fun hG44=>Yk.fieldAt KC (vr (PQ f 0) rfl) ⟨rfl,rfl⟩) (Ab (St (x.1.head)) rfl rfl (geT (vr (cond (!bb38) (.bool (decide ((x.1.head:List UInt8)≠(([]:List UInt8):List UInt8)))) undef) rfl)) (fun hG45=>Yk.cell1 Dx rfl (mayT (vr (cond ((!bb38)&&(decide ((x.1.head:List UInt8)≠(([]:List UInt8):List UInt8)))) (PQ f 2) undef) rfl) hG45) (Ac c (show(refsC x)[2]? =some (St (x.1.head):Value)from DO x)) ⟨rfl,rfl⟩) (AP (.bool (nameB x.1.head)) rfl rfl (geT (vr (cond (!bb38) (.bool (decide ((x.1.head:List UInt8)≠(([]:List UInt8):List UInt8)))) undef) rfl)) (fun hG46=>Yk.callA1 I1 (mayT (vr (cond ((!bb38)&&(decide ((x.1.head:List UInt8)≠(([]:List UInt8):List UInt8)))) (St (x.1.head)) undef) rfl) hG46) ((GR _ x.1.head hL.head).mono (by rintro e p ⟨rfl,hx⟩;exact⟨_,rfl,rfl,hx⟩))) fun bq z=> ?_)))))))))
 have hE:=hE.trans z
 have c:=eb z c
 refine Ab (.bool (!(nameB x.1.head))) rfl rfl (geT (vr (cond (!bb38) (.bool (decide ((x.1.head:List UInt8)≠(([]:List UInt8):List UInt8)))) undef) rfl)) (fun hG50=>Yk.notB (mayT (vr (cond ((!bb38)&&(decide ((x.1.head:List UInt8)≠(([]:List UInt8):List UInt8)))) (.bool (nameB x.1.head)) undef) rfl) hG50) ⟨rfl,rfl⟩) (Ab (.bool (!(nameB x.1.head))) rfl rfl (geT (vr (cond (!bb38) (.bool (decide ((x.1.head:List UInt8)≠(([]:List UInt8):List UInt8)))) undef) rfl)) (fun hG51=>Yk.move (mayT (vr (cond ((!bb38)&&(decide ((x.1.head:List UInt8)≠(([]:List UInt8):List UInt8)))) (.bool (!(nameB x.1.head))) undef) rfl) hG51) ⟨rfl,rfl⟩) (Ab (PQ f 3) rfl rfl (Bk (vr (cond ((!bb38)&&(decide ((x.1.head:List UInt8)≠(([]:List UInt8):List UInt8)))) (.bool (!(nameB x.1.head))) undef) rfl)) (fun hG52=>Yk.fieldAt KD (vr (PQ f 0) rfl) ⟨rfl,rfl⟩) (Ab (AB x.1.at_.1) rfl rfl (Bk (vr (cond ((!bb38)&&(decide ((x.1.head:List UInt8)≠(([]:List UInt8):List UInt8)))) (.bool (!(nameB x.1.head))) undef) rfl)) (fun hG53=>Yk.loadPR (PR.blk c (DP x) (Ex x) (mayT (vr (cond (((!bb38)&&(decide ((x.1.head:List UInt8)≠(([]:List UInt8):List UInt8))))&& !(!(nameB x.1.head))) (PQ f 3) undef) rfl) hG53)) OA rfl (AH x.1.at_.2) ⟨rfl,rfl⟩) (AP (.bool (zeroB x.1.at_)) rfl rfl (Bk (vr (cond ((!bb38)&&(decide ((x.1.head:List UInt8)≠(([]:List UInt8):List UInt8)))) (.bool (!(nameB x.1.head))) undef) rfl)) (fun hG54=>Yk.callA1 Gx (mayT (vr (cond (((!bb38)&&(decide ((x.1.head:List UInt8)≠(([]:List UInt8):List UInt8))))&& !(!(nameB x.1.head))) (AB x.1.at_.1) undef) rfl) hG54) ((FR _ x.1.at_).mono (by rintro e p ⟨rfl,hx⟩;exact⟨_,rfl,rfl,hx⟩))) fun br aa=> ?_))))
 have hE:=hE.trans aa
 have c:=eb aa c
 refine Ab (.bool (!(zeroB x.1.at_))) rfl rfl (Bk (vr (cond ((!bb38)&&(decide ((x.1.head:List UInt8)≠(([]:List UInt8):List UInt8)))) (.bool (!(nameB x.1.head))) undef) rfl)) (fun hG58=>Yk.notB (mayT (vr (cond (((!bb38)&&(decide ((x.1.head:List UInt8)≠(([]:List UInt8):List UInt8))))&& !(!(nameB x.1.head))) (.bool (zeroB x.1.at_)) undef) rfl) hG58) ⟨rfl,rfl⟩) (A7 ((!(nameB x.1.head))||(!(zeroB x.1.at_))) rfl rfl (geT (vr (cond (!bb38) (.bool (decide ((x.1.head:List UInt8)≠(([]:List UInt8):List UInt8)))) undef) rfl)) (fun hG59=>Yk.pickOr (mayT (vr (cond ((!bb38)&&(decide ((x.1.head:List UInt8)≠(([]:List UInt8):List UInt8)))) (.bool (!(nameB x.1.head))) undef) rfl) hG59) (vr (.bool (true)) rfl) (fun hA=>(mayT (vr (cond (((!bb38)&&(decide ((x.1.head:List UInt8)≠(([]:List UInt8):List UInt8))))&& !(!(nameB x.1.head))) (.bool (!(zeroB x.1.at_))) undef) rfl) (BF hG59 (not_i hA)))) ⟨rfl,rfl⟩) fun bb60 hbb61=>(A7 ((decide ((x.1.head:List UInt8)≠(([]:List UInt8):List UInt8)))&&bb60) rfl rfl (gF (vr (.bool (bb38)) rfl)) (fun hG62=>Yk.pickAnd (mayT (vr (cond (!bb38) (.bool (decide ((x.1.head:List UInt8)≠(([]:List UInt8):List UInt8)))) undef) rfl) hG62) (fun hA=>(mayT (vr (cond ((!bb38)&&(decide ((x.1.head:List UInt8)≠(([]:List UInt8):List UInt8)))) (.bool (bb60)) undef) rfl) (BF hG62 hA))) (vr (.bool (false)) rfl) ⟨rfl,rfl⟩) fun bb63 hbb64=>(oS rfl (Yk.pickOrN (vr (.bool (bb38)) rfl) (vr (.bool (true)) rfl) (fun hA=>(mayT (vr (cond (!bb38) (.bool (bb63)) undef) rfl) (not_i hA))) fun bb65 hbb66=>(Be [(0, .agg (refsC x).toArray),(1,PQ f 0),(2, .bool (false)),(45, .bool (bb65))] ⟨h,rfl,rfl,rfl,trivial⟩ fun bs ⟨h,k,T2,au,_⟩=>(tN (ar _ _ ?_)))))))
 refine A0 (bb65) au (fun r=> ?_) (fun r=> ?_)
 ·subst hbb39 hbb61 hbb64 hbb66
  have h2c:HA x.1=true:=(La _).trans r
  refine sk fun bt av=>(wt (oA rfl (oZ (tN (av _ _ (Ap (As (Ao (fn:=Tryd.f32) _ rfl [.bool (false)] (.bool (false)) rfl ⟨rfl,trivial⟩ ?_))))))))
  exact⟨by rw[JH h1c h2c],hE⟩
 subst hbb39 hbb61 hbb64 hbb66
 have h2c:HA x.1=false:=(La _).trans r
 refine Ak (tN (aq _ _ (sk fun bu aw=>(sk fun bv ax=>(wt (oA rfl (Be [(0, .agg (refsC x).toArray),(1,PQ f 0),(2, .bool (false)),(3,NI 0)] ⟨h,k,T2,rfl,trivial⟩ fun bw ⟨h,k,T2,n,_⟩=>(tN (ax _ _ (Ax (Bc (fun(ρ:At) (wz:World)=>∃i:Nat,ρ 0=(.agg (refsC x).toArray:Value)∧ρ 1=(PQ f 0:Value)∧ρ 3=(NI i:Value)∧Ext w wz∧wz.heap[f]? =some (.cells (refsC x).toArray 49 (0,0))∧(i≤x.1.log.length)∧(∀j,j<i→EO x.1.log j=false)∧True) (fun ρ _=>x.1.log.length-(intOf (ρ 3)).toNat) ⟨0,h,k,n,hE,c,Nat.zero_le _,fun j hj=>absurd hj (Nat.not_lt_zero _),trivial⟩ ?_)))))))))))
 clear hE c
 rintro ay bx ⟨i,h,k,n,hE,c,hi,hn,-⟩
 have q3:=n
 refine sk fun bz az=>(sk fun b0 a0=>(wt (oM rfl (oS rfl (Yk.fieldAt KE k (oS rfl (Yk.cell1 D6 rfl (vr (PQ f 35) rfl) (Ac c (show(refsC x)[35]? =some (x.2.log:Value)from DA x)) (oS rfl (Yk.lenRG D6 (RG.of (hml.keep hE) (vr x.2.log rfl)) (oS rfl (Yk.eqI (a:=(i:Nat)) (b:=((x.1.log).length:Nat)) n rfl (AZ _ _ _ _) (oZ (tN (a0 _ _ ?_))))))))))))))
 refine A2 ((i)<((x.1.log).length)) (vr (.bool (decide ((i)<((x.1.log).length)))) rfl) (fun ac=> ?_) (fun ac=> ?_)
 ·have hlt:i<x.1.log.length:=ac
  refine Ak (tN (az _ _ (sk fun b1 a1=>(Ax (sk fun b2 a2=>(wt (oS rfl (Yk.fieldAt KE k (oS rfl (Yk.cell1 D6 rfl (vr (PQ f 35) rfl) (Ac c (show(refsC x)[35]? =some (x.2.log:Value)from DA x)) (oM rfl ?_)))))))))))
  have b3:(entC ((x.1.log).getD (i) Au)).length=67:=(RG.elem (hml.keep hE) Au (by omega))
  refine oS rfl (Yk.atRG D6 Ku (by decide) Au (RG.of (hml.keep hE) (vr x.2.log rfl)) n (by omega) fun a3 ad=>(oS rfl (Yk.loadPR (PR.of ad (vr a3 rfl)) (Lz).choose_spec rfl (by rw[DN];exact GX) (oS rfl (Yk.alloc (cs:=(entC (⟨0,[],zid,zid,[]⟩:Ed)).toArray) LA fun g a4 a5 ae af b4=> ?_)))))
  have a6:=hE.size
  have b5:=Bn (bl c) a5
  have hE:=hE.trans af
  have c:=eb af c
  have o:=ae;clear ae
  have b6:g<a4.heap.size:=by omega
  refine oS rfl (Yk.storeAll (vr (PQ g 0) rfl) (vr (.agg (entC ((x.1.log).getD (i) Au)).toArray) rfl) o (by simp only[List.size_toArray,DN]) (AF (DN _) GX) (Ig (x:=((x.1.log).getD (i) Au))) fun a7 ag ah b7=> ?_)
  have hE:=Ae hE ah (Nat.le_trans a6 (by omega))
  have c:=kb ah c (by omega)
  clear o
  have o:a7.heap[g]? =some (.cells (entC ((x.1.log).getD (i) Au)).toArray 122 (0,0)):=ag;clear ag
  have b8:=bl o
  refine oZ ?_
  clear ad
  refine tN (a2 _ _ (sk fun b9 a8=>(wt (oS rfl (Yk.fieldAt Gh (vr (PQ g 0) rfl) (oS rfl (Yk.fieldAt Di (vr (PQ g 0) rfl) (oS rfl (Yk.cell1 u5 rfl (vr (PQ g 0) rfl) (Ac o (show(entC ((x.1.log).getD (i) Au))[0]? =some (B8 ((((x.1.log).getD (i) Au)).kind):Value)from Js ((x.1.log).getD (i) Au))) (oS rfl (Yk.eqI (a:=(((((x.1.log).getD (i) Au)).kind).toNat:Nat)) (b:=(1:Nat)) rfl rfl (AZ _ _ _ _) (oM rfl (Ab (PQ g 0) rfl rfl (gF (vr (.bool (decide ((((((x.1.log).getD (i) Au)).kind).toNat)<(1)))) rfl)) (fun hG99=>Yk.fieldAt Gh (vr (PQ g 0) rfl) ⟨rfl,rfl⟩) (Ab (PQ g 0) rfl rfl (gF (vr (.bool (decide ((((((x.1.log).getD (i) Au)).kind).toNat)<(1)))) rfl)) (fun hG100=>Yk.fieldAt Di (mayT (vr (cond (!(decide ((((((x.1.log).getD (i) Au)).kind).toNat)<(1)))) (PQ g 0) undef) rfl) hG100) ⟨rfl,rfl⟩) (Ab (B8 ((((x.1.log).getD (i) Au)).kind)) rfl rfl (gF (vr (.bool (decide ((((((x.1.log).getD (i) Au)).kind).toNat)<(1)))) rfl)) (fun hG101=>Yk.cell1 u5 rfl (mayT (vr (cond (!(decide ((((((x.1.log).getD (i) Au)).kind).toNat)<(1)))) (PQ g 0) undef) rfl) hG101) (Ac o (show(entC ((x.1.log).getD (i) Au))[0]? =some (B8 ((((x.1.log).getD (i) Au)).kind):Value)from Js ((x.1.log).getD (i) Au))) ⟨rfl,rfl⟩) (Ab (.bool (decide ((3)<(((((x.1.log).getD (i) Au)).kind).toNat)))) rfl rfl (gF (vr (.bool (decide ((((((x.1.log).getD (i) Au)).kind).toNat)<(1)))) rfl)) (fun hG102=>Yk.eqI (a:=((((((x.1.log).getD (i) Au)).kind).toNat:Nat):Int)) (b:=((3:Nat):Int)) (mayT (vr (cond (!(decide ((((((x.1.log).getD (i) Au)).kind).toNat)<(1)))) (B8 ((((x.1.log).getD (i) Au)).kind)) undef) rfl) hG102) (vr (B8 (3)) rfl) (Ce _ .u8 (((((x.1.log).getD (i) Au)).kind).toNat) (3)) ⟨rfl,rfl⟩) (oS rfl (Yk.pickOrN (vr (.bool (decide ((((((x.1.log).getD (i) Au)).kind).toNat)<(1)))) rfl) (vr (.bool (true)) rfl) (fun hA=>(mayT (vr (cond (!(decide ((((((x.1.log).getD (i) Au)).kind).toNat)<(1)))) (.bool (decide ((3)<(((((x.1.log).getD (i) Au)).kind).toNat)))) undef) rfl) (not_i hA))) fun bb103 hbb104=>(oM rfl (Ab (PQ g 0) rfl rfl (gF (vr (.bool (bb103)) rfl)) (fun hG105=>Yk.fieldAt Gh (vr (PQ g 0) rfl) ⟨rfl,rfl⟩) (Ab (PQ g 1) rfl rfl (gF (vr (.bool (bb103)) rfl)) (fun hG106=>Yk.fieldAt FG (mayT (vr (cond (!bb103) (PQ g 0) undef) rfl) hG106) ⟨rfl,rfl⟩) ?_)))))))))))))))))))))
  refine Ab (St ((((x.1.log).getD (i) Au)).name)) rfl rfl (gF (vr (.bool (bb103)) rfl)) (fun hG107=>Yk.cell1 Dx rfl (mayT (vr (cond (!bb103) (PQ g 1) undef) rfl) hG107) (Ac o (show(entC ((x.1.log).getD (i) Au))[1]? =some (St ((((x.1.log).getD (i) Au)).name):Value)from Mn ((x.1.log).getD (i) Au))) ⟨rfl,rfl⟩) (Ab (NI (((((x.1.log).getD (i) Au)).name:List UInt8).length)) rfl rfl (gF (vr (.bool (bb103)) rfl)) (fun hG108=>Yk.lenSt (l:=(((x.1.log).getD (i) Au)).name) Dx (mayT (vr (cond (!bb103) (St ((((x.1.log).getD (i) Au)).name)) undef) rfl) hG108) ⟨rfl,rfl⟩) (Ab (.bool (decide ((32)<(((((x.1.log).getD (i) Au)).name:List UInt8).length)))) rfl rfl (gF (vr (.bool (bb103)) rfl)) (fun hG109=>Yk.eqI (a:=((((((x.1.log).getD (i) Au)).name:List UInt8).length:Nat):Int)) (b:=((32:Nat):Int)) (mayT (vr (cond (!bb103) (NI (((((x.1.log).getD (i) Au)).name:List UInt8).length)) undef) rfl) hG109) (vr (NI 32) rfl) (Ce _ .i64 (((((x.1.log).getD (i) Au)).name:List UInt8).length) (32)) ⟨rfl,rfl⟩) (oS rfl (Yk.pickOrN (vr (.bool (bb103)) rfl) (vr (.bool (true)) rfl) (fun hA=>(mayT (vr (cond (!bb103) (.bool (decide ((32)<(((((x.1.log).getD (i) Au)).name:List UInt8).length)))) undef) rfl) (not_i hA))) fun bb110 hbb111=>(oM rfl (Ab (PQ g 66) rfl rfl (gF (vr (.bool (bb110)) rfl)) (fun hG112=>Yk.fieldAt JI (vr (PQ g 0) rfl) ⟨rfl,rfl⟩) (Ab (St ((((x.1.log).getD (i) Au)).note)) rfl rfl (gF (vr (.bool (bb110)) rfl)) (fun hG113=>Yk.cell1 Dx rfl (mayT (vr (cond (!bb110) (PQ g 66) undef) rfl) hG113) (Ac o (show(entC ((x.1.log).getD (i) Au))[66]? =some (St ((((x.1.log).getD (i) Au)).note):Value)from Mo ((x.1.log).getD (i) Au))) ⟨rfl,rfl⟩) (AP (.bool (Dt ((((x.1.log).getD (i) Au)).note))) rfl rfl (gF (vr (.bool (bb110)) rfl)) (fun hG114=>Yk.callA1 NJ (mayT (vr (cond (!bb110) (St ((((x.1.log).getD (i) Au)).note)) undef) rfl) hG114) ((KG _ ((((x.1.log).getD (i) Au)).note)).mono (by rintro e p ⟨rfl,hx⟩;exact⟨_,rfl,rfl,hx⟩))) fun ca ai=> ?_))))))))
  have hE:=hE.trans ai
  have c:=eb ai c
  refine Ab (.bool (!(Dt ((((x.1.log).getD (i) Au)).note)))) rfl rfl (gF (vr (.bool (bb110)) rfl)) (fun hG118=>Yk.notB (mayT (vr (cond (!bb110) (.bool (Dt ((((x.1.log).getD (i) Au)).note))) undef) rfl) hG118) ⟨rfl,rfl⟩) (oS rfl (Yk.pickOrN (vr (.bool (bb110)) rfl) (vr (.bool (true)) rfl) (fun hA=>(mayT (vr (cond (!bb110) (.bool (!(Dt ((((x.1.log).getD (i) Au)).note)))) undef) rfl) (not_i hA))) fun bb119 hbb120=>(oZ (tN (a8 _ _ ?_)))))
  refine A0 (bb119) (vr (.bool (bb119)) rfl) (fun s=> ?_) (fun s=> ?_)
  ·subst hbb104 hbb111 hbb120
   have hbad:EO x.1.log i=true:=(Ke _ _).trans s
   refine sk fun cb a9=>(wt (oA rfl (oZ (tN (a9 _ _ (Ap (AC (As (As (AC (As (Ao (fn:=Tryd.f32) _ rfl [.bool (false)] (.bool (false)) rfl ⟨rfl,trivial⟩ ?_))))))))))))
   exact⟨by rw[HC h1c h2c hlt hbad],hE⟩
  subst hbb104 hbb111 hbb120
  have hbad:EO x.1.log i=false:=(Ke _ _).trans s
  refine Ak (bN (tN (a1 _ _ (wt (oM rfl (oS rfl (Yk.bin (xv:=NI i) (yv:=NI 1) n rfl rfl (AN _ _ _ (by have:=hL.log;omega)) (oA rfl (Be [(0, .agg (refsC x).toArray),(1,PQ f 0),(3,NI ((i)+(1))),(4,PQ g 0)] ⟨h,k,rfl,rfl,trivial⟩ fun ba ⟨h,k,n,T4,_⟩=>(tN (And.intro ⟨i+1,h,k,n,hE,c,by omega,GF hn hbad,trivial⟩ ?_)))))))))))
  show x.1.log.length-(intOf (ba 3)).toNat<x.1.log.length-(intOf (ay 3)).toNat
  rw[n,q3]
  simp only[intOf,Int.toNat_natCast];omega
 refine A6 (Aw (Aw (AM (tN (aw _ _ (sk fun cd bb=>(wt (oA rfl (oZ (tN (bb _ _ (Ap (Ao (fn:=Tryd.f32) _ rfl [.bool (true)] (.bool (true)) rfl ⟨rfl,trivial⟩ ?_)))))))))))))
 exact⟨by rw[HE h1c h2c (show x.1.log.length≤i by omega) hn],hE⟩

theorem NK(w:World)(y:Ay)(hm:RefsAt w y)(hL:Fr y.1)(hc:y.1.branches.length≤80∧y.1.tags.length≤80):
  Calls Tryd.prog 38 #[.agg (refsC y).toArray] w fun e w' =>∃v,e = .returned v∧RG 66 updC w' v (ofB y.1)∧Ext w w' :=by
 have hmt:=hm.branches
 have hmg:=hm.tags
 have hml:=hm.log
 obtain⟨hcb,hct⟩:=hc
 refine calls_of_wpF (args:= [.agg (refsC y).toArray]) Tryd.func38 rfl 56 rfl (Nat.le_of_ble_eq_true rfl) ?_
 intro a2 hb
 have m:a2 0=(.agg (refsC y).toArray:Value):=hb.get 0
 clear hb
 have hE:=Ext.refl w
 refine sk fun K1 am=>(wt (oS rfl (Yk.box (cs:=(refsC y:List Value).toArray) m fun i q ct an a3 cu=> ?_)))
 have hE:=hE.trans a3
 have c:=an;clear an
 have cv:i<q.heap.size:=by omega
 refine oA rfl (oZ ?_)
 rcases hR:Cx y.1 with _ | _
 ·refine tN (am _ _ (sk fun cw a4=>(wt (oA rfl (oZ ?_)))))
  have cx:=hE.size
  refine tN (a4 _ _ (sk fun cy cz=>(sk fun c0 a5=>(wt (oS rfl (Yk.loadAll (vr (PQ i 0) rfl) c (I3).choose_spec rfl (AF (B5 y) Ib) (oS rfl (Yk.callA1 I4 (vr (.agg (refsC y).toArray) rfl) (((show Calls _ _ _ _ (fun e w2=>e = .returned (.bool false)∧Ext q w2)from by have h:=G4 q y (RefsAt.mk (hmt.keep hE) (hmg.keep hE) (hml.keep hE)) hL;rw[hR]at h;exact h)).mono ?_)))))))))
  rintro e c1 ⟨rfl,ao⟩
  refine⟨_,rfl,?_⟩
  have hE:=hE.trans ao
  have c:=eb ao c
  refine oS rfl (Yk.notB (vr (.bool (false)) rfl) (oZ (tN (a5 _ _ (AE (vr (.bool (true)) rfl) (sk fun c2 a6=>(wt (oA rfl (oZ (tN (a6 _ _ (Ap (As (Ao (fn:=Tryd.f38) _ rfl [(Value.slice none 0 0)] ((Value.slice none 0 0)) rfl ⟨rfl,trivial⟩ ?_))))))))))))))
  exact⟨_,rfl,by unfold ofB;rw[hR];exact RG.nil _ _ _,hE⟩
 refine tN (am _ _ (sk fun c3 a7=>(wt (oA rfl (oZ ?_)))))
 have l:=Ext.refl q
 have ap:=hE.size
 have ab:OG q.heap.size 67 66 (updC) q (Value.slice none 0 0) ([]:List AO):=OG.nil _ _ _ _ _
 refine tN (a7 _ _ (sk fun c4 a8=>(sk fun c5 a9=>(wt (oS rfl (Yk.loadAll (vr (PQ i 0) rfl) c (I3).choose_spec rfl (AF (B5 y) Ib) (oS rfl (Yk.callA1 I4 (vr (.agg (refsC y).toArray) rfl) (((show Calls _ _ _ _ (fun e w2=>e = .returned (.bool true)∧Ext q w2)from by have h:=G4 q y (RefsAt.mk (hmt.keep hE) (hmg.keep hE) (hml.keep hE)) hL;rw[hR]at h;exact h)).mono ?_)))))))))
 rintro e c6 ⟨rfl,ac⟩
 refine⟨_,rfl,?_⟩
 have hE:=hE.trans ac
 have c:=eb ac c
 have l:=l.trans ac
 have ab:=ab.keep ac
 refine oS rfl (Yk.notB (vr (.bool (true)) rfl) (oZ (tN (a9 _ _ (Al (vr (.bool (false)) rfl) (Ak (tN (a8 _ _ (sk fun c7 ba=>(sk fun c8 bb=>(wt (oA rfl (Be [(0, .agg (refsC y).toArray),(1,PQ i 0),(2,(Value.slice none 0 0)),(3,(Value.slice none 0 0)),(4,NI 0),(8, .bool (false))] ⟨m,rfl,rfl,rfl,rfl,rfl,trivial⟩ fun c9 ⟨m,g,o,r,j,p,_⟩=>(tN (bb _ _ (Ax (Bc (fun(ρ:At) (wz:World)=>∃i1:Nat,∃vb1:Value,ρ 0=(.agg (refsC y).toArray:Value)∧ρ 1=(PQ i 0:Value)∧ρ 2=((Value.slice none 0 0):Value)∧ρ 8=(.bool (false):Value)∧ρ 4=(NI i1:Value)∧ρ 3=(vb1:Value)∧Ext w wz∧wz.heap[i]? =some (.cells (refsC y).toArray 49 (0,0))∧Ext q wz∧OG q.heap.size 67 66 (updC) wz vb1 (([]:List AO)++(y.1.branches.take i1).map (By 1))∧(i1≤y.1.branches.length)∧(OB vb1 i)∧True) (fun ρ _=>y.1.branches.length-(intOf (ρ 4)).toNat) ⟨0,(Value.slice none 0 0),m,g,o,p,j,r,hE,c,l,CL ab (by simp),Nat.zero_le _,(fun h=>by cases h),trivial⟩ ?_)))))))))))))))))
 clear ab
 clear hE c l
 rintro bc da ⟨i1,vb1,m,g,o,p,j,r,hE,c,l,hr_vb1,hi1,hap_vb1_n2,-⟩
 have q4:=j
 refine sk fun db bd=>(sk fun dc be=>(wt (oM rfl (oS rfl (Yk.fieldAt E9 g (oS rfl (Yk.cell1 Cb rfl (vr (PQ i 0) rfl) (Ac c (show(refsC y)[0]? =some (y.2.branches:Value)from CN y)) (oS rfl (Yk.lenRG Cb (RG.of (hmt.keep hE) (vr y.2.branches rfl)) (oS rfl (Yk.eqI (a:=(i1:Nat)) (b:=((y.1.branches).length:Nat)) j rfl (AZ _ _ _ _) (oZ (tN (be _ _ ?_))))))))))))))
 refine A2 ((i1)<((y.1.branches).length)) (vr (.bool (decide ((i1)<((y.1.branches).length)))) rfl) (fun aq=> ?_) (fun aq=> ?_)
 ·have bf:i1<y.1.branches.length:=aq
  refine Ak (tN (bd _ _ (sk fun dd bg=>(Ax ?_))))
  refine DJ 15 [Is (vb1),Is (PQ i 0),Is (y.2.branches),Is (NI i1),fun x w' =>PR (nmdC ((y.1.branches).getD (i1) Af)) x w',BD (St (((y.1.branches).getD (i1) Af).name)),Is (St (((y.1.branches).getD (i1) Af).name)),Is (PQ i 0),Is (y.2.branches),Is (NI i1),fun x w' =>PR (nmdC ((y.1.branches).getD (i1) Af)) x w',fun x w' =>PR (Lib.byteCells ((y.1.branches).getD (i1) Af).id.1) x w',Is (AB (((y.1.branches).getD (i1) Af).id.1)),Is (.agg (updC (⟨1,(((y.1.branches).getD (i1) Af).name),zid,((y.1.branches).getD (i1) Af).id⟩:AO)).toArray),fun x w' =>RG 66 (updC) w' x ([(⟨1,(((y.1.branches).getD (i1) Af).name),zid,((y.1.branches).getD (i1) Af).id⟩:AO)])] (by kernel_rfl) [16,17,18,19,20,21,22,23,24,25,26,27,28,29,30,31,3] (by kernel_rfl) (by kernel_rfl) (by kernel_rfl) (by kernel_rfl) rfl rfl (EG ⟨(fun _ _ _ h k=>PR.keep h k),Stab.pcell _,(EG ⟨(fun _ _ _ h k=>PR.keep h k),(fun _ _ _ h k=>PR.keep h k),(Cz ⟨(fun _ _ _ h k=>RG.keep h k),trivial⟩)⟩)⟩) ?bh ?hQ1007
  case bh=>
   refine⟨?_,?_,?_,?_,?_,?_,?_,?_,?_,?_,?_,?_,?_,?_,?_,?_,?_,trivial⟩
   ·refine Av (Aa rfl fun σ w1 hC h=> ?_)
    have e3:=(Ad (h 3 (by decide))).trans r
    exact Yk.move e3 ⟨Ext.refl _,rfl⟩
   ·refine Av (Aa rfl fun σ w1 hC h=> ?_)
    have t:=(Ad (h 1 (by decide))).trans g
    exact Yk.fieldAt E9 t ⟨Ext.refl _,rfl⟩
   ·refine Av (Aa rfl fun σ w1 hC h=> ?_)
    have bi:=Ad (h 17 (by decide))
    exact Yk.cell1 Cb rfl bi (Ac (eb hC c) (show(refsC y)[0]? =some (y.2.branches:Value)from CN y)) ⟨Ext.refl _,rfl⟩
   ·refine Av (Aa rfl fun σ w1 hC h=> ?_)
    have e4:=(Ad (h 4 (by decide))).trans j
    exact Yk.move e4 ⟨Ext.refl _,rfl⟩
   ·refine Av (Aa rfl fun σ w1 hC h=> ?_)
    have bj:=Ad (h 18 (by decide))
    have bk:=Ad (h 19 (by decide))
    exact Yk.atRG Cb Ep (by decide) Af (RG.of (hmt.keep (hE.trans hC)) bj) bk (by omega) fun v h=>⟨Ext.refl _,h⟩
   ·refine Av (Aa rfl fun σ w1 hC h=> ?_)
    have bm:(fun x w' =>PR (nmdC ((y.1.branches).getD (i1) Af)) x w') (σ 20) w1:=h 20 (by decide)
    exact Yk.fieldPR (n:=1) G1 bm fun v h=>⟨Ext.refl _,PR.pcell (by rw[D3]at h;exact h)⟩
   ·refine Av (Aa rfl fun σ w1 hC h=> ?_)
    have bn:(BD (St (((y.1.branches).getD (i1) Af).name))) (σ 21) w1:=h 21 (by decide)
    exact Yk.loadC Dx rfl bn ⟨Ext.refl _,rfl⟩
   ·refine Av (Aa rfl fun σ w1 hC h=> ?_)
    have t:=(Ad (h 1 (by decide))).trans g
    exact Yk.fieldAt E9 t ⟨Ext.refl _,rfl⟩
   ·refine Av (Aa rfl fun σ w1 hC h=> ?_)
    have bo:=Ad (h 23 (by decide))
    exact Yk.cell1 Cb rfl bo (Ac (eb hC c) (show(refsC y)[0]? =some (y.2.branches:Value)from CN y)) ⟨Ext.refl _,rfl⟩
   ·refine Av (Aa rfl fun σ w1 hC h=> ?_)
    have e4:=(Ad (h 4 (by decide))).trans j
    exact Yk.move e4 ⟨Ext.refl _,rfl⟩
   ·refine Av (Aa rfl fun σ w1 hC h=> ?_)
    have bp:=Ad (h 24 (by decide))
    have bq:=Ad (h 25 (by decide))
    exact Yk.atRG Cb Ep (by decide) Af (RG.of (hmt.keep (hE.trans hC)) bp) bq (by omega) fun v h=>⟨Ext.refl _,h⟩
   ·refine Av (Aa rfl fun σ w1 hC h=> ?_)
    have br:(fun x w' =>PR (nmdC ((y.1.branches).getD (i1) Af)) x w') (σ 26) w1:=h 26 (by decide)
    exact Yk.fieldPR (n:=32) G2 br fun v h=>⟨Ext.refl _,by rw[F8]at h;exact h⟩
   ·refine Av (Aa rfl fun σ w1 hC h=> ?_)
    have bs:(fun x w' =>PR (Lib.byteCells ((y.1.branches).getD (i1) Af).id.1) x w') (σ 27) w1:=h 27 (by decide)
    exact Yk.loadPR bs OA rfl (by rw[Lib.byteCells_length,((y.1.branches).getD (i1) Af).id.2];exact Mx) ⟨Ext.refl _,rfl⟩
   ·refine Av (Aa rfl fun σ w1 hC h=> ?_)
    have bt:=Ad (h 22 (by decide))
    have bu:=Ad (h 28 (by decide))
    exact Yk.build3 (vr (B8 (1)) rfl) bt bu (fun w=>E5 1 (((y.1.branches).getD (i1) Af).name) (((y.1.branches).getD (i1) Af).id) w) ⟨Ext.refl _,rfl⟩
   ·refine Av (Aa rfl fun σ w1 hC h=> ?_)
    have bv:=Ad (h 29 (by decide))
    exact Yk.lit1G (a:=(⟨1,(((y.1.branches).getD (i1) Af).name),zid,((y.1.branches).getD (i1) Af).id⟩:AO)) (enc:=updC) bv (BW _) I5 fun v w2 h hx=>⟨hx,h⟩
   ·exact trivial
   ·exact trivial
  intro aj ar ad he hf
  obtain⟨k16,-,-,-,-,-,-,-,-,-,-,-,-,-,k30,-⟩:=hf
  obtain⟨m,g,o,j,p,-⟩:=he.hold [(0,_),(1,_),(2,_),(4,_),(8,_)] ⟨m,g,o,j,p,trivial⟩ rfl
  clear he
  have hE:=hE.trans ad
  have c:=eb ad c
  have l:=l.trans ad
  have hr_vb1:=hr_vb1.keep ad
  have au:aj 16=vb1:=k16
  have k30:(fun x w' =>RG 66 (updC) w' x ([(⟨1,(((y.1.branches).getD (i1) Af).name),zid,((y.1.branches).getD (i1) Af).id⟩:AO)])) (aj 30) ar:=k30
  obtain⟨de,av⟩:∃v,aj 30=v:=⟨_,rfl⟩
  rw[av]at k30
  have aw:=k30;clear k30
  clear k16
  refine oS rfl (Yk.appendRG _ _ q.heap.size _ 88 DS wr22_ig67.choose_spec.1 wr22_ig67.choose_spec.2 DS (([]:List AO)++(y.1.branches.take i1).map (By 1)) ([(⟨1,(((y.1.branches).getD (i1) Af).name),zid,((y.1.branches).getD (i1) Af).id⟩:AO)]) (OG.of hr_vb1 au) (RG.of aw av) (fun _ _=>DM) (by simp only[List.length_append,List.length_map,List.length_take,List.length_cons,List.length_nil];omega) (by simp only[List.length_append,List.length_map,List.length_take,List.length_cons,List.length_nil];omega) l.size fun ae bw bx u=> ?_)
  have u:Grew ar bw vb1 ae:= .eqv au u
  have bz:OB ae i:=AV u hap_vb1_n2 (bl c)
  have hE:=BG hE u hr_vb1.2 ap
  have c:=AR c u hap_vb1_n2
  have l:=BG l u hr_vb1.2 (Nat.le_refl _)
  clear hr_vb1
  clear aw
  refine oA rfl (oZ (bN (tN (bg _ _ (wt (oM rfl (oS rfl (Yk.bin (xv:=NI i1) (yv:=NI 1) j rfl rfl (AN _ _ _ (by omega)) (oA rfl (Be [(0, .agg (refsC y).toArray),(1,PQ i 0),(2,(Value.slice none 0 0)),(3,ae),(4,NI ((i1)+(1))),(8, .bool (false))] ⟨m,g,o,rfl,rfl,p,trivial⟩ fun b0 ⟨m,g,o,r,j,p,_⟩=>(tN (And.intro ⟨i1+1,ae,m,g,o,p,j,r,hE,c,l,CL bx (Eb (f:=By 1) (d:=Af) bf),by omega,bz,trivial⟩ ?_))))))))))))
  show y.1.branches.length-(intOf (b0 4)).toNat<y.1.branches.length-(intOf (bc 4)).toNat
  rw[j,q4]
  simp only[intOf,Int.toNat_natCast];omega
 refine A6 (Aw (Aw (AM (tN (ba _ _ (sk fun df b1=>(sk fun dg b2=>(wt (oA rfl (Be [(0, .agg (refsC y).toArray),(1,PQ i 0),(2,(Value.slice none 0 0)),(3,vb1),(4,NI i1),(5,NI 0),(8, .bool (false))] ⟨m,g,o,r,j,rfl,p,trivial⟩ fun dh ⟨m,g,o,r,j,s,p,_⟩=>(tN (b2 _ _ (Ax (Bc (fun(ρ:At) (wz:World)=>∃i2:Nat,∃vb2:Value,ρ 0=(.agg (refsC y).toArray:Value)∧ρ 1=(PQ i 0:Value)∧ρ 2=((Value.slice none 0 0):Value)∧ρ 4=(NI i1:Value)∧ρ 8=(.bool (false):Value)∧ρ 5=(NI i2:Value)∧ρ 3=(vb2:Value)∧Ext w wz∧wz.heap[i]? =some (.cells (refsC y).toArray 49 (0,0))∧Ext q wz∧OG q.heap.size 67 66 (updC) wz vb2 (([]++(y.1.branches.take i1).map (By 1))++(y.1.tags.take i2).map (By 2))∧(i2≤y.1.tags.length)∧(OB vb2 i)∧True) (fun ρ _=>y.1.tags.length-(intOf (ρ 5)).toNat) ⟨0,vb1,m,g,o,j,p,s,r,hE,c,l,CL hr_vb1 (by simp),Nat.zero_le _,hap_vb1_n2,trivial⟩ ?_))))))))))))))
 clear hr_vb1
 clear hE c l
 rintro b3 di ⟨i2,vb2,m,g,o,j,p,s,r,hE,c,l,hr_vb2,hi2,hap_vb2_n2,-⟩
 have q5:=s
 refine sk fun dj b4=>(sk fun dk b5=>(wt (oM rfl (oS rfl (Yk.fieldAt Fa g (oS rfl (Yk.cell1 Cb rfl (vr (PQ i 1) rfl) (Ac c (show(refsC y)[1]? =some (y.2.tags:Value)from CO y)) (oS rfl (Yk.lenRG Cb (RG.of (hmg.keep hE) (vr y.2.tags rfl)) (oS rfl (Yk.eqI (a:=(i2:Nat)) (b:=((y.1.tags).length:Nat)) s rfl (AZ _ _ _ _) (oZ (tN (b5 _ _ ?_))))))))))))))
 refine A2 ((i2)<((y.1.tags).length)) (vr (.bool (decide ((i2)<((y.1.tags).length)))) rfl) (fun ax=> ?_) (fun ax=> ?_)
 ·have b6:i2<y.1.tags.length:=ax
  refine Ak (tN (b4 _ _ (sk fun dl b7=>(Ax ?_))))
  refine DJ 15 [Is (vb2),Is (PQ i 1),Is (y.2.tags),Is (NI i2),fun x w' =>PR (nmdC ((y.1.tags).getD (i2) Af)) x w',BD (St (((y.1.tags).getD (i2) Af).name)),Is (St (((y.1.tags).getD (i2) Af).name)),Is (PQ i 1),Is (y.2.tags),Is (NI i2),fun x w' =>PR (nmdC ((y.1.tags).getD (i2) Af)) x w',fun x w' =>PR (Lib.byteCells ((y.1.tags).getD (i2) Af).id.1) x w',Is (AB (((y.1.tags).getD (i2) Af).id.1)),Is (.agg (updC (⟨2,(((y.1.tags).getD (i2) Af).name),zid,((y.1.tags).getD (i2) Af).id⟩:AO)).toArray),fun x w' =>RG 66 (updC) w' x ([(⟨2,(((y.1.tags).getD (i2) Af).name),zid,((y.1.tags).getD (i2) Af).id⟩:AO)])] (by kernel_rfl) [39,40,41,42,43,44,45,46,47,48,49,50,51,52,53,54,3] (by kernel_rfl) (by kernel_rfl) (by kernel_rfl) (by kernel_rfl) rfl rfl (EG ⟨(fun _ _ _ h k=>PR.keep h k),Stab.pcell _,(EG ⟨(fun _ _ _ h k=>PR.keep h k),(fun _ _ _ h k=>PR.keep h k),(Cz ⟨(fun _ _ _ h k=>RG.keep h k),trivial⟩)⟩)⟩) ?b8 ?hQ2011
  case b8=>
   refine⟨?_,?_,?_,?_,?_,?_,?_,?_,?_,?_,?_,?_,?_,?_,?_,?_,?_,trivial⟩
   ·refine Av (Aa rfl fun σ w1 hC h=> ?_)
    have e3:=(Ad (h 3 (by decide))).trans r
    exact Yk.move e3 ⟨Ext.refl _,rfl⟩
   ·refine Av (Aa rfl fun σ w1 hC h=> ?_)
    have t:=(Ad (h 1 (by decide))).trans g
    exact Yk.fieldAt Fa t ⟨Ext.refl _,rfl⟩
   ·refine Av (Aa rfl fun σ w1 hC h=> ?_)
    have b9:=Ad (h 40 (by decide))
    exact Yk.cell1 Cb rfl b9 (Ac (eb hC c) (show(refsC y)[1]? =some (y.2.tags:Value)from CO y)) ⟨Ext.refl _,rfl⟩
   ·refine Av (Aa rfl fun σ w1 hC h=> ?_)
    have e5:=(Ad (h 5 (by decide))).trans s
    exact Yk.move e5 ⟨Ext.refl _,rfl⟩
   ·refine Av (Aa rfl fun σ w1 hC h=> ?_)
    have ca:=Ad (h 41 (by decide))
    have cb:=Ad (h 42 (by decide))
    exact Yk.atRG Cb Ep (by decide) Af (RG.of (hmg.keep (hE.trans hC)) ca) cb (by omega) fun v h=>⟨Ext.refl _,h⟩
   ·refine Av (Aa rfl fun σ w1 hC h=> ?_)
    have cc:(fun x w' =>PR (nmdC ((y.1.tags).getD (i2) Af)) x w') (σ 43) w1:=h 43 (by decide)
    exact Yk.fieldPR (n:=1) G1 cc fun v h=>⟨Ext.refl _,PR.pcell (by rw[D3]at h;exact h)⟩
   ·refine Av (Aa rfl fun σ w1 hC h=> ?_)
    have cd:(BD (St (((y.1.tags).getD (i2) Af).name))) (σ 44) w1:=h 44 (by decide)
    exact Yk.loadC Dx rfl cd ⟨Ext.refl _,rfl⟩
   ·refine Av (Aa rfl fun σ w1 hC h=> ?_)
    have t:=(Ad (h 1 (by decide))).trans g
    exact Yk.fieldAt Fa t ⟨Ext.refl _,rfl⟩
   ·refine Av (Aa rfl fun σ w1 hC h=> ?_)
    have ce:=Ad (h 46 (by decide))
    exact Yk.cell1 Cb rfl ce (Ac (eb hC c) (show(refsC y)[1]? =some (y.2.tags:Value)from CO y)) ⟨Ext.refl _,rfl⟩
   ·refine Av (Aa rfl fun σ w1 hC h=> ?_)
    have e5:=(Ad (h 5 (by decide))).trans s
    exact Yk.move e5 ⟨Ext.refl _,rfl⟩
   ·refine Av (Aa rfl fun σ w1 hC h=> ?_)
    have cf:=Ad (h 47 (by decide))
    have cg:=Ad (h 48 (by decide))
    exact Yk.atRG Cb Ep (by decide) Af (RG.of (hmg.keep (hE.trans hC)) cf) cg (by omega) fun v h=>⟨Ext.refl _,h⟩
   ·refine Av (Aa rfl fun σ w1 hC h=> ?_)
    have ch:(fun x w' =>PR (nmdC ((y.1.tags).getD (i2) Af)) x w') (σ 49) w1:=h 49 (by decide)
    exact Yk.fieldPR (n:=32) G2 ch fun v h=>⟨Ext.refl _,by rw[F8]at h;exact h⟩
   ·refine Av (Aa rfl fun σ w1 hC h=> ?_)
    have ci:(fun x w' =>PR (Lib.byteCells ((y.1.tags).getD (i2) Af).id.1) x w') (σ 50) w1:=h 50 (by decide)
    exact Yk.loadPR ci OA rfl (by rw[Lib.byteCells_length,((y.1.tags).getD (i2) Af).id.2];exact Mx) ⟨Ext.refl _,rfl⟩
   ·refine Av (Aa rfl fun σ w1 hC h=> ?_)
    have cj:=Ad (h 45 (by decide))
    have ck:=Ad (h 51 (by decide))
    exact Yk.build3 (vr (B8 (2)) rfl) cj ck (fun w=>E5 2 (((y.1.tags).getD (i2) Af).name) (((y.1.tags).getD (i2) Af).id) w) ⟨Ext.refl _,rfl⟩
   ·refine Av (Aa rfl fun σ w1 hC h=> ?_)
    have cl:=Ad (h 52 (by decide))
    exact Yk.lit1G (a:=(⟨2,(((y.1.tags).getD (i2) Af).name),zid,((y.1.tags).getD (i2) Af).id⟩:AO)) (enc:=updC) cl (BW _) I5 fun v w2 h hx=>⟨hx,h⟩
   ·exact trivial
   ·exact trivial
  intro al ay af he hf
  obtain⟨k39,-,-,-,-,-,-,-,-,-,-,-,-,-,k53,-⟩:=hf
  obtain⟨m,g,o,j,s,p,-⟩:=he.hold [(0,_),(1,_),(2,_),(4,_),(5,_),(8,_)] ⟨m,g,o,j,s,p,trivial⟩ rfl
  clear he
  have hE:=hE.trans af
  have c:=eb af c
  have l:=l.trans af
  have hr_vb2:=hr_vb2.keep af
  have az:al 39=vb2:=k39
  have k53:(fun x w' =>RG 66 (updC) w' x ([(⟨2,(((y.1.tags).getD (i2) Af).name),zid,((y.1.tags).getD (i2) Af).id⟩:AO)])) (al 53) ay:=k53
  obtain⟨dm,a0⟩:∃v,al 53=v:=⟨_,rfl⟩
  rw[a0]at k53
  have a1:=k53;clear k53
  clear k39
  refine oS rfl (Yk.appendRG _ _ q.heap.size _ 88 DS wr22_ig67.choose_spec.1 wr22_ig67.choose_spec.2 DS (([]++(y.1.branches.take i1).map (By 1))++(y.1.tags.take i2).map (By 2)) ([(⟨2,(((y.1.tags).getD (i2) Af).name),zid,((y.1.tags).getD (i2) Af).id⟩:AO)]) (OG.of hr_vb2 az) (RG.of a1 a0) (fun _ _=>DM) (by simp only[List.length_append,List.length_map,List.length_take,List.length_cons,List.length_nil];omega) (by simp only[List.length_append,List.length_map,List.length_take,List.length_cons,List.length_nil];omega) l.size fun ag cm cn z=> ?_)
  have z:Grew ay cm vb2 ag:= .eqv az z
  have co:OB ag i:=AV z hap_vb2_n2 (bl c)
  have hE:=BG hE z hr_vb2.2 ap
  have c:=AR c z hap_vb2_n2
  have l:=BG l z hr_vb2.2 (Nat.le_refl _)
  clear hr_vb2
  clear a1
  refine oA rfl (oZ (bN (tN (b7 _ _ (wt (oM rfl (oS rfl (Yk.bin (xv:=NI i2) (yv:=NI 1) s rfl rfl (AN _ _ _ (by omega)) (oA rfl (Be [(0, .agg (refsC y).toArray),(1,PQ i 0),(2,(Value.slice none 0 0)),(3,ag),(4,NI i1),(5,NI ((i2)+(1))),(8, .bool (false))] ⟨m,g,o,rfl,j,rfl,p,trivial⟩ fun cp ⟨m,g,o,r,j,s,p,_⟩=>(tN (And.intro ⟨i2+1,ag,m,g,o,j,p,s,r,hE,c,l,CL cn (Eb (f:=By 2) (d:=Af) b6),by omega,co,trivial⟩ ?_))))))))))))
  show y.1.tags.length-(intOf (cp 5)).toNat<y.1.tags.length-(intOf (b3 5)).toNat
  rw[s,q5]
  simp only[intOf,Int.toNat_natCast];omega
 refine A6 (Aw (Aw (AM (tN (b1 _ _ (sk fun dn cq=>(wt (oM rfl (oA rfl (oZ (tN (cq _ _ (Ap (Ao (fn:=Tryd.f38) _ rfl [vb2] (vb2) rfl ⟨r,trivial⟩ ?_))))))))))))))
 exact⟨_,rfl,RG.ofOwn (CL hr_vb2 (by unfold ofB;rw[hR,List.take_of_length_le (show y.1.branches.length≤i1 by omega),List.take_of_length_le (show y.1.tags.length≤i2 by omega)];rfl)),hE⟩
open Go.RowKit
set_option maxRecDepth 100000
def IsRefs(r:Cv)(z:Value)(w:World):Prop:=∃q,z = .agg (refsC (r,q)).toArray∧RefsAt w (r,q)
theorem IsRefs.stab(r:Cv):Stab Ext (IsRefs r):=fun _ _ _ ⟨q,h1,h2⟩ k=>⟨q,h1,h2.keep k⟩
abbrev Er(l:List AO):Msg:=⟨0,0,l,[],[],0,0,zid,[],[],zid,zid,false,0⟩
theorem Ox{r:Cv}(hb:r.branches.length≤80)(ht:r.tags.length≤80):CX (Er (ofB r)):=by
 have h:=Pb (s:=0) hb ht
 exact⟨h.refs,h.names,by simp,by simp,by simp⟩
theorem NL(ao:Option Addr)(n c:Nat)(w:World):(Instr.build 29 #[(2, .slice ao n c)]).run Tryd.prog w = .ok (.agg (msgC ((Er [],⟨.slice ao n c, .slice none 0 0, .slice none 0 0, .slice none 0 0⟩):Am)).toArray) w:=by kernel_rfl
section
variable {K : Value → World → Prop} {ρ : At} {w : World} {d : Option Tmp} {ty : TypeId} {pos : String} {af : Array Edge} {gd : Option (Nat × Bool)}
theorem Yk.tell0{x:Operand}{l:List AO}(h:RG 66 updC w (Ai ρ x) l)(hk:∀X:Am,X.1=Er l→MsgAt w X→K (.agg (msgC X).toArray) w):
  Yk Tryd.prog K ((execOp (Ai ρ) ⟨d, .build 29 #[(2,x)],ty,pos,af,gd⟩).run Tryd.prog w):=by
 obtain⟨ao,n,c,hs⟩:=RG.slice h
 have hX:=hk (Go.Proofs.YtmonlobfofkbdaaDoor.Er l,⟨.slice ao n c, .slice none 0 0, .slice none 0 0, .slice none 0 0⟩) rfl ⟨by rw[hs]at h;exact h,RG.nil _ _ _,RG.nil _ _ _,RB.nil _⟩
 exact Yk.build (vs:= #[(2, .slice ao n c)]) (by simp[hs]) (NL ao n c) hX
end
theorem NM:AG Tryd.prog 37:=fun _ _=>by kernel_rfl
theorem NN:AG Tryd.prog 36:=fun _ _=>by kernel_rfl
theorem NO:AG Tryd.prog 38:=fun _ _=>by kernel_rfl
theorem NP:AG Tryd.prog 24:=fun _ _=>by kernel_rfl
theorem NQ:AG Tryd.prog 21:=fun _ _=>by kernel_rfl
set_option maxHeartbeats 1600000
theorem Ji(w:World)(y:Ay)(hm:RefsAt w y)(hN:In y.1):
  Calls Tryd.prog 10 #[.agg (refsC y).toArray] w fun e w' =>e = .returned (.bool true)∧Ext w w' :=by
 have hmt:=hm.branches
 have hmg:=hm.tags
 have hml:=hm.log
 refine calls_of_wpF (args:= [.agg (refsC y).toArray]) Tryd.func10 rfl 30 rfl (Nat.le_of_ble_eq_true rfl) ?_
 intro n hb
 have i:n 0=(.agg (refsC y).toArray:Value):=hb.get 0
 clear hb
 have hE:=Ext.refl w
 refine sk fun K1 o=>(wt (oS rfl (Yk.box (cs:=(refsC y:List Value).toArray) i fun c p aq l q ar=> ?_)))
 have hE:=hE.trans q
 have f:=l;clear l
 have au:c<p.heap.size:=by omega
 refine oA rfl (oZ (tN (o _ _ (sk fun av r=>(sk fun aw s=>(wt (oS rfl (Yk.fieldAt E9 (vr (PQ c 0) rfl) (oS rfl (Yk.cell1 Cb rfl (vr (PQ c 0) rfl) (Ac f (show(refsC y)[0]? =some (y.2.branches:Value)from CN y)) (oS rfl (Yk.lenRG Cb (RG.of (hmt.keep hE) (vr y.2.branches rfl)) (oS rfl (Yk.eqI (a:=((y.1.branches).length:Nat)) (b:=(80:Nat)) rfl rfl (Ce _ _ _ _) (oM rfl (Ab (PQ c 1) rfl rfl (gF (vr (.bool (decide ((80)<((y.1.branches).length)))) rfl)) (fun hG12=>Yk.fieldAt Fa (vr (PQ c 0) rfl) ⟨rfl,rfl⟩) (Ab (y.2.tags) rfl rfl (gF (vr (.bool (decide ((80)<((y.1.branches).length)))) rfl)) (fun hG13=>Yk.cell1 Cb rfl (mayT (vr (cond (!(decide ((80)<((y.1.branches).length)))) (PQ c 1) undef) rfl) hG13) (Ac f (show(refsC y)[1]? =some (y.2.tags:Value)from CO y)) ⟨rfl,rfl⟩) (Ab (NI ((y.1.tags).length)) rfl rfl (gF (vr (.bool (decide ((80)<((y.1.branches).length)))) rfl)) (fun hG14=>Yk.lenRG Cb (RG.of (hmg.keep hE) (mayT (vr (cond (!(decide ((80)<((y.1.branches).length)))) (y.2.tags) undef) rfl) hG14)) ⟨rfl,rfl⟩) (Ab (.bool (decide ((80)<((y.1.tags).length)))) rfl rfl (gF (vr (.bool (decide ((80)<((y.1.branches).length)))) rfl)) (fun hG15=>Yk.eqI (a:=(((y.1.tags).length:Nat):Int)) (b:=((80:Nat):Int)) (mayT (vr (cond (!(decide ((80)<((y.1.branches).length)))) (NI ((y.1.tags).length)) undef) rfl) hG15) (vr (NI 80) rfl) (Ce _ .i64 ((y.1.tags).length) (80)) ⟨rfl,rfl⟩) (oS rfl (Yk.pickOrN (vr (.bool (decide ((80)<((y.1.branches).length)))) rfl) (vr (.bool (true)) rfl) (fun hA=>(mayT (vr (cond (!(decide ((80)<((y.1.branches).length)))) (.bool (decide ((80)<((y.1.tags).length)))) undef) rfl) (not_i hA))) fun bb16 hbb17=> ?_)))))))))))))))))))))
 refine oM rfl (Ab (PQ c 35) rfl rfl (gF (vr (.bool (bb16)) rfl)) (fun hG18=>Yk.fieldAt KE (vr (PQ c 0) rfl) ⟨rfl,rfl⟩) (Ab (y.2.log) rfl rfl (gF (vr (.bool (bb16)) rfl)) (fun hG19=>Yk.cell1 D6 rfl (mayT (vr (cond (!bb16) (PQ c 35) undef) rfl) hG19) (Ac f (show(refsC y)[35]? =some (y.2.log:Value)from DA y)) ⟨rfl,rfl⟩) (Ab (NI ((y.1.log).length)) rfl rfl (gF (vr (.bool (bb16)) rfl)) (fun hG20=>Yk.lenRG D6 (RG.of (hml.keep hE) (mayT (vr (cond (!bb16) (y.2.log) undef) rfl) hG20)) ⟨rfl,rfl⟩) (Ab (.bool (decide ((80)<((y.1.log).length)))) rfl rfl (gF (vr (.bool (bb16)) rfl)) (fun hG21=>Yk.eqI (a:=(((y.1.log).length:Nat):Int)) (b:=((80:Nat):Int)) (mayT (vr (cond (!bb16) (NI ((y.1.log).length)) undef) rfl) hG21) (vr (NI 80) rfl) (Ce _ .i64 ((y.1.log).length) (80)) ⟨rfl,rfl⟩) (oS rfl (Yk.pickOrN (vr (.bool (bb16)) rfl) (vr (.bool (true)) rfl) (fun hA=>(mayT (vr (cond (!bb16) (.bool (decide ((80)<((y.1.log).length)))) undef) rfl) (not_i hA))) fun bb22 hbb23=>(oZ (tN (s _ _ ?_)))))))))
 refine A0 (bb22) (vr (.bool (bb22)) rfl) (fun m=> ?_) (fun m=> ?_)
 ·refine sk fun ax t=>(wt (oA rfl (oZ (tN (t _ _ (Ap (As (Ao (fn:=Tryd.f10) _ rfl [.bool (true)] (.bool (true)) rfl ⟨rfl,trivial⟩ ?_))))))))
  exact⟨rfl,hE⟩
 subst hbb17 hbb23
 have hc:y.1.branches.length≤80∧y.1.tags.length≤80∧y.1.log.length≤80:=PK m
 have hL:Fr y.1:=P9 hN hc
 refine Ak (tN (r _ _ (sk fun ay u=> ?_)))
 refine Bi [Is (.agg (refsC y).toArray),IsRefs y.1,fun x w' =>RG 66 (updC) w' x (ofB y.1),IsMsg (Er (ofB y.1)),Is (.agg (refsC y).toArray),fun x w' =>RG 66 (updC) w' x (ofB y.1),IsMsg (Er (ofB y.1)),Is (.bool (true)),Is (.bool (true)),Is (.bool (true)),Is (.bool (true)),Is (.bool (true))] (by kernel_rfl) [19,20,21,22,23,24,25,26,27,28,29,2] (by kernel_rfl) (by kernel_rfl) ⟨Stab.is _,(IsRefs.stab _),(fun _ _ _ h k=>RG.keep h k),(IsMsg.stab _),Stab.is _,(fun _ _ _ h k=>RG.keep h k),(IsMsg.stab _),(Jn trivial)⟩ ?aa ?hQ1003
 case aa=>
  refine⟨?_,?_,?_,?_,?_,?_,?_,?_,?_,?_,?_,?_,trivial⟩
  ·refine Aa rfl fun σ w1 hC h=> ?_
   have j:σ 1=PQ c 0:=(Ad (h 1 (by decide))).trans rfl
   exact Yk.loadAll j (eb hC f) (I3).choose_spec rfl (AF (B5 y) Ib) ⟨Ext.refl _,rfl⟩
  ·refine Aa rfl fun σ w1 hC h=> ?_
   have ab:=Ad (h 19 (by decide))
   refine Yk.callA1 NM ab ((LQ _ y (RefsAt.mk (hmt.keep (hE.trans hC)) (hmg.keep (hE.trans hC)) (hml.keep (hE.trans hC))) hc).mono ?_)
   rintro e g ⟨z,rfl,hz,hx⟩
   exact⟨_,rfl,hx,z,rfl,hz⟩
  ·refine Aa rfl fun σ w1 hC h=> ?_
   have ac:(IsRefs y.1) (σ 20) w1:=h 20 (by decide)
   obtain⟨z,hze,hz⟩:=(show IsRefs y.1 (σ 20) w1 from ac)
   refine Yk.callA1 NN hze ((PJ _ (y.1,z) hz hL ⟨hc.1,hc.2.1⟩).mono ?_)
   rintro e g ⟨v,rfl,hR,hx⟩
   exact⟨_,rfl,hx,hR⟩
  ·refine Aa rfl fun σ w1 hC h=> ?_
   have ad:(fun x w' =>RG 66 (updC) w' x (ofB y.1)) (σ 21) w1:=h 21 (by decide)
   exact Yk.tell0 (show RG 66 updC w1 (Ai σ (.tmp 21)) (ofB y.1)from ad) fun X h1 h2=>⟨Ext.refl _,X,rfl,h1,h2⟩
  ·refine Aa rfl fun σ w1 hC h=> ?_
   have j:σ 1=PQ c 0:=(Ad (h 1 (by decide))).trans rfl
   exact Yk.loadAll j (eb hC f) (I3).choose_spec rfl (AF (B5 y) Ib) ⟨Ext.refl _,rfl⟩
  ·refine Aa rfl fun σ w1 hC h=> ?_
   have ae:=Ad (h 23 (by decide))
   refine Yk.callA1 NO ae ((NK _ y (RefsAt.mk (hmt.keep (hE.trans hC)) (hmg.keep (hE.trans hC)) (hml.keep (hE.trans hC))) hL ⟨hc.1,hc.2.1⟩).mono ?_)
   rintro e g ⟨v,rfl,hR,hx⟩
   exact⟨_,rfl,hx,hR⟩
  ·refine Aa rfl fun σ w1 hC h=> ?_
   have af:(fun x w' =>RG 66 (updC) w' x (ofB y.1)) (σ 24) w1:=h 24 (by decide)
   exact Yk.tell0 (show RG 66 updC w1 (Ai σ (.tmp 24)) (ofB y.1)from af) fun X h1 h2=>⟨Ext.refl _,X,rfl,h1,h2⟩
  ·refine Aa rfl fun σ w1 hC h=> ?_
   have ag:(IsMsg (Er (ofB y.1))) (σ 22) w1:=h 22 (by decide)
   have ah:(IsMsg (Er (ofB y.1))) (σ 25) w1:=h 25 (by decide)
   obtain⟨X,hXe,hX1,hXm⟩:=(show IsMsg (Er (ofB y.1)) (σ 22) w1 from ag)
   obtain⟨Z,hZe,hZ1,hZm⟩:=(show IsMsg (Er (ofB y.1)) (σ 25) w1 from ah)
   refine Yk.callA2 NP hXe hZe ((NH _ X Z hXm hZm (by rw[hX1];exact Ox hc.1 hc.2.1) (hX1.trans hZ1.symm)).mono ?_)
   rintro e g ⟨rfl,hx⟩
   exact⟨_,rfl,hx,rfl⟩
  ·refine Aa rfl fun σ w1 hC h=> ?_
   have ai:=Ad (h 26 (by decide))
   exact Yk.move ai ⟨Ext.refl _,rfl⟩
  ·refine Bg 8 true 27 rfl rfl (fun _ _ h=>h) fun σ w1 hC h=>(Yk.callA0 NQ ((Pq _).mono ?_))
   rintro e g ⟨rfl,hx⟩
   exact⟨_,rfl,hx,rfl⟩
  ·refine Aa rfl fun σ w1 hC h=> ?_
   have aj:=Ad (h 27 (by decide))
   have ak:=Ad (h 28 (by decide))
   exact Yk.pickT aj ak ⟨Ext.refl _,rfl⟩
  ·refine Aa rfl fun σ w1 hC h=> ?_
   have al:=Ad (h 29 (by decide))
   exact Yk.assign al ⟨Ext.refl _,rfl⟩
 intro am az an he hf
 obtain⟨-,-,-,-,-,-,-,-,-,-,-,k2,-⟩:=hf
 obtain⟨i,T1,-⟩:=he.hold [(0,_),(1,PQ c 0)] ⟨i,rfl,trivial⟩ rfl
 clear he
 have hE:=hE.trans an
 have T2:am 2 = .bool (true):=k2
 clear k2
 refine tN (u _ _ (Ap (Ao (fn:=Tryd.f10) _ rfl [.bool (true)] (.bool (true)) rfl ⟨T2,trivial⟩ ?_)))
 exact⟨rfl,hE⟩
end Go.Proofs.YtmonlobfofkbdaaDoor
