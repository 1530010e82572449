/- Part 4 of what stands behind these statements: laws and walks of the functions that are reached. Conditions: those that each theorem names. -/
import Derived.Test.YtmonlobfofkbdaaDoorV3
set_option linter.unusedVariables false
set_option linter.unusedSimpArgs false
namespace Go.Proofs.YtmonlobfofkbdaaDoor
open Go.RowKit
set_option maxRecDepth 100000
theorem Ep{s:Bs}(h:s.length≤4611686018427387904):(Bq s).length≤s.length+9:=by
 have:=Bx (n:=s.length) (by omega)
 unfold Bq;rw[List.length_append];omega
theorem Nz:AN Tryd.prog 19:=fun _ _=>by kernel_rfl
theorem CA(z:Int)(w:World):(Instr.buildSlice 26 1 #[(0, .int .u8 z)]).run Tryd.prog w = .ok (.slice (some ⟨w.heap.size,0,none⟩) 1 1) (w.alloc (.cells #[.int .u8 z] 5)):=by kernel_rfl
theorem DI{d:Option Tmp}{ty:TypeId}{pos:String}{af:Array Edge}{gd:Option (Nat × Bool)}(σ:Operand→Value)(w:World):(execOp σ ⟨d, .alloc 26,ty,pos,af,gd⟩).run Tryd.prog w = .ok (.value (PQ w.heap.size 0)) (w.alloc (.cells ([(Value.slice none 0 0)]).toArray 26)):=by kernel_rfl
theorem DJ{d:Option Tmp}{ty:TypeId}{pos:String}{af:Array Edge}{gd:Option (Nat × Bool)}(σ:Operand→Value)(w:World):(execOp σ ⟨d, .alloc 89,ty,pos,af,gd⟩).run Tryd.prog w = .ok (.value (PQ w.heap.size 0)) (w.alloc (.cells ([Value.nilFunc]).toArray 89)):=by kernel_rfl
theorem wr6_isz89:(Tryd.prog.info? 89).map (·.size)=some 1:=by kernel_rfl
theorem Hm:AN Tryd.prog 52:=fun _ _=>by kernel_rfl
theorem E4:AN Tryd.prog 51:=fun _ _=>by kernel_rfl
theorem J7:AN Tryd.prog 49:=fun _ _=>by kernel_rfl
set_option maxHeartbeats 3200000
theorem FX(w:World)(x:Ah)(hm:MsgAt w x)(hL:B9 x.1):
  Calls Tryd.prog 16 #[.agg (msgC x).toArray] w fun e w' =>∃v,e = .returned (.tuple #[v,NI (if rightB x.1=true then 0 else 1)])∧RB w' v (if rightB x.1=true then encB x.1 else [])∧Ext w w' :=by
 have hmr:=hm.refs
 have hmw:=hm.wants
 have hmh:=hm.haves
 have hmb:=hm.bytes
 refine calls_of_wpF (args:= [.agg (msgC x).toArray]) Tryd.func16 rfl 113 rfl (Nat.le_of_ble_eq_true rfl) ?_
 intro lt hb
 have T0:lt 0=(.agg (msgC x).toArray:Value):=hb.get 0
 clear hb
 have hE:=Ext.refl w
 refine sk fun K1 lu=>(wt (oS rfl (Yk.box (cs:=(msgC x:List Value).toArray) T0 fun j w3 wm iv lw wn=> ?_)))
 have hE:=hE.trans lw
 have c:=iv;clear iv
 have wo:j<w3.heap.size:=by omega
 refine oA rfl (oA rfl (oZ (tN (lu _ _ (sk fun wp c8=>(sk fun wq lx=>(wt (oS rfl (Yk.loadAll (vr (PQ j 0) rfl) c (Nr).choose_spec rfl (Au (msg_len x) Mr) (oS rfl (Yk.callA1 Nz (vr (.agg (msgC x).toArray) rfl) ((CP _ x (MsgAt.mk (hmr.keep hE) (hmw.keep hE) (hmh.keep hE) (hmb.keep hE)) hL).mono ?_))))))))))))
 rintro e c9 ⟨rfl,iw⟩
 refine⟨_,rfl,?_⟩
 have hE:=hE.trans iw
 have c:=eb iw c
 refine oS rfl (Yk.notB (vr (.bool (rightB x.1)) rfl) (oZ (tN (lx _ _ ?_))))
 refine Bz (!(rightB x.1)) (vr (.bool (!(rightB x.1))) rfl) (fun ho=> ?_) (fun ho=> ?_)
 ·refine sk fun wr ly=>(wt (oA rfl (oA rfl (oZ (tN (ly _ _ (Ao (Ap (An (fn:=Tryd.f16) _ rfl [(Value.slice none 0 0),NI 1] (.tuple #[(Value.slice none 0 0),NI 1]) rfl ⟨rfl,rfl,trivial⟩ ?_)))))))))
  have hR:rightB x.1=false:=Lr ho
  exact⟨.slice none 0 0,by rw[hR];rfl,by rw[hR];exact RB.nil _,hE⟩
 have hR:rightB x.1=true:=Lq ho
 obtain⟨p,hK,hP⟩:=DT hR
 have hF:=Dg hP
 obtain⟨ws,wu⟩:=hF.session
 obtain⟨wv,ww⟩:=hF.size
 obtain⟨ha0,ha1⟩:=hF.at_
 obtain⟨hd0,hd1⟩:=hF.code
 obtain⟨wx,hp⟩:=hF.refs
 have hw1:=hF.wants
 have hh1:=hF.haves
 have aa:=hF.bytes
 have lz:=hF.name
 have hdl:x.1.id.1.length=32:=x.1.id.2
 have hol:x.1.old.1.length=32:=x.1.old.2
 have hnl2:x.1.new.1.length=32:=x.1.new.2
 have wy:=Bx (n:=x.1.session.toNat) (by omega)
 have w0:=Bx (n:=x.1.size.toNat) (by omega)
 have w4:=Bx (n:=x.1.at_.toNat) (by omega)
 have w5:=Bx (n:=x.1.code.toNat) (by omega)
 have w6:=Bx (n:=x.1.refs.length) (by omega)
 rcases CX hK with ⟨hk,rfl⟩ | ⟨hk,rfl⟩ | ⟨hk,rfl⟩ | ⟨hk,rfl⟩ | ⟨hk,rfl⟩ | ⟨hk,rfl⟩ | ⟨hk,rfl⟩ | ⟨hk,rfl⟩
 ·refine Ak (tN (c8 _ _ (sk fun w7 l0=>(wt (oS rfl (Yk.fieldAt H8 (vr (PQ j 0) rfl) (oS rfl (Yk.cell1 u5 rfl (vr (PQ j 0) rfl) (Ab c (show(msgC x)[0]? =some (B8 (x.1.kind):Value)from Bv x)) (oS rfl (Yk.lit1 (b:=x.1.kind) CA (vr (B8 (x.1.kind)) rfl) fun e4 l1 e5=> ?_))))))))))
  have a9:=Ext.refl c9
  have w8:=hE.size
  have hE:=hE.trans e5.ext
  have c:=eb e5.ext c
  have a9:=a9.trans e5.ext
  have br:=e5.own;clear e5
  refine oS rfl (Yk.alloc (cs:=([(Value.slice none 0 0)]).toArray) DI fun a5 l2 l3 ix e6 w9=> ?_)
  have cb:=Ext.refl l1
  have iy:=hE.size
  have iz:=a9.size
  have xa:=Bo (bl c) l3
  have l4:OB e4 a5:=Bc br (by omega)
  have hE:=hE.trans e6
  have c:=eb e6 c
  have a9:=a9.trans e6
  have br:=Stab.own _ _ _ _ _ _ _ _ br e6
  have cb:=cb.trans e6
  have ax:=ix;clear ix
  have xb:a5<l2.heap.size:=by omega
  refine oS rfl (Yk.storeC (i:=0) (v:=e4) (vr (PQ a5 0) rfl) (vr e4 rfl) ax (Nat.le_of_ble_eq_true rfl) IX (A6 br).1 (A6 br).2 fun xc i0 e7 xd=> ?_)
  have hE:=Ae hE e7 (Nat.le_trans iy (by omega))
  have c:=kb e7 c (by omega)
  have a9:=Ae a9 e7 (Nat.le_trans iz (by omega))
  have br:=AU br e7 l4
  have cb:=Ae cb e7 (Nat.le_trans (Nat.le_refl _) (by omega))
  clear ax
  have ax:=i0;clear i0
  have xe:=bl ax
  refine oZ (tN (l0 _ _ (sk fun xf l5=>(wt (oS rfl (Yk.mkFunc (vs:= #[PQ a5 0]) (by simp only[List.map_toArray,List.map_cons,List.map_nil];exact congrArg List.toArray (Fi (vr (PQ a5 0) rfl))) (oS rfl (Yk.alloc (cs:=([Value.nilFunc]).toArray) DJ fun cp l6 i1 i2 d9 xg=> ?_))))))))
  have l7:=hE.size
  have l8:=a9.size
  have l9:=cb.size
  have xh:=Bo (bl c) i1
  have xi:=Bo (bl ax) i1
  have ma:OB e4 cp:=Bc br (by omega)
  have hE:=hE.trans d9
  have c:=eb d9 c
  have a9:=a9.trans d9
  have br:=Stab.own _ _ _ _ _ _ _ _ br d9
  have cb:=cb.trans d9
  have ax:=eb d9 ax
  have da:=i2;clear i2
  have xj:cp<l6.heap.size:=by omega
  refine oS rfl (Yk.storeC (i:=0) (v:= .func (.func 47) #[] #[PQ a5 0]) (vr (PQ cp 0) rfl) (vr (.func (.func 47) #[] #[PQ a5 0]) rfl) da (Nat.le_of_ble_eq_true rfl) wr6_isz89 rfl rfl fun xk i3 ea xl=> ?_)
  have hE:=Ae hE ea (Nat.le_trans l7 (by omega))
  have c:=kb ea c (by omega)
  have a9:=Ae a9 ea (Nat.le_trans l8 (by omega))
  have br:=AU br ea ma
  have cb:=Ae cb ea (Nat.le_trans l9 (by omega))
  have ax:=kb ea ax (by omega)
  clear da
  have da:=i3;clear i3
  have xm:=bl da
  refine oZ (tN (l5 _ _ (sk fun xn mb=>(wt (oS rfl (Yk.mkFunc (vs:= #[PQ cp 0,PQ a5 0]) (by simp only[List.map_toArray,List.map_cons,List.map_nil];exact congrArg List.toArray (B1 (vr (PQ cp 0) rfl) (vr (PQ a5 0) rfl))) (oA rfl (oZ (tN (mb _ _ (sk fun xo mc=>(wt (oS rfl (Yk.cell1 Nx rfl (vr (PQ cp 0) rfl) (Ab da (show _=some (.func (.func 47) #[] #[PQ a5 0]:Value)from rfl)) (oS rfl (Yk.fieldAt LK (vr (PQ j 0) rfl) (oS rfl (Yk.cell1 FI rfl (vr (PQ j 1) rfl) (Ab c (show(msgC x)[1]? =some (.int .i64 (x.1.session:Int):Value)from CU x)) (oS rfl (Yk.clo Ny (caps:= #[PQ a5 0]) (vr (.func (.func 47) #[] #[PQ a5 0]) rfl) #[.int .i64 (x.1.session:Int),PQ a5 0] (by simp only[List.map_toArray,List.map_cons,List.map_nil,List.append_toArray,List.cons_append,List.nil_append];exact congrArg List.toArray (B1 (vr (.int .i64 (x.1.session:Int)) rfl) rfl)) ((Cf w _ hE a5 (by omega) e4 ([(x.1.kind:UInt8)]) ax (RB.ofOwn br) (by simp only[List.length_append,List.length_cons,List.length_nil];omega) x.1.session (by omega) (by omega)).mono ?_)))))))))))))))))))))
  rintro e dk ⟨ec,rfl,i4,db,e8⟩
  refine⟨_,rfl,?_⟩
  have db:=AC db hE.size
  have hE:=Ae hE e8 (Nat.le_trans iy (by omega))
  have c:=kb e8 c (by omega)
  have a9:=Ae a9 e8 (Nat.le_trans iz (by omega))
  clear br
  have cb:=Ae cb e8 (Nat.le_trans (Nat.le_refl _) (by omega))
  clear ax
  have da:=kb e8 da (by omega)
  have ax:=i4;clear i4
  have xp:=bl ax
  refine oZ (tN (mc _ _ (sk fun xq md=> ?_)))
  have me:=hE.size
  have xr:=a9.size
  have xs:=cb.size
  have xt:j<dk.heap.size:=(bl c)
  have xu:cp<dk.heap.size:=(bl da)
  have xw:a5<dk.heap.size:=(bl ax)
  have mf:∀g,dk.heap.size≤g→OB ec g:=fun g hg=>Bc db hg
  refine Cz 5 _ [fun x w' =>∃b,x = .map (some b)∧MapF B8 AH (fun _:UInt8=>True) w' b AV,Is (PQ j 0),Is (B8 (x.1.kind)),Is (.agg (partsC (⟨false,false,false,false,false,false,false,false⟩:Ai)).toArray),fun x w' =>∃g,x=PQ g 0∧w'.heap[g]? =some (.cells (partsC (⟨false,false,false,false,false,false,false,false⟩:Ai)).toArray 92 (0,0))∧dk.heap.size≤g] (by kernel_rfl) [23,24,25,26,7] (by kernel_rfl) (by kernel_rfl) (by kernel_rfl) rfl rfl rfl ⟨(fun _ _ _ ⟨b,h1,h2⟩ k=>⟨b,h1,MapF.keep h2 k⟩),Stab.is _,Stab.is _,Stab.is _,(fun _ _ _ ⟨g,h1,h2,h3⟩ k=>⟨g,h1,eb k h2,h3⟩),trivial⟩ ?mg ?hQ3007
  case mg=>
   refine⟨?_,?_,?_,?_,?_,?_,trivial⟩
   ·refine Aj (Aa rfl fun σ w1 hC h=>(Yk.callA0 J2 ((Cs _).mono ?_)))
    rintro e w2 ⟨b,rfl,hmk,hx,hom⟩
    exact⟨_,rfl,hx,⟨b,rfl,hmk⟩⟩
   ·refine Aj (Aa rfl fun σ w1 hC h=> ?_)
    have e1:σ 1=PQ j 0:=(Af (h 1 (by decide))).trans rfl
    exact Yk.fieldAt H8 e1 ⟨Ext.refl _,rfl⟩
   ·refine Aj (Aa rfl fun σ w1 hC h=> ?_)
    have bc:=Af (h 24 (by decide))
    exact Yk.cell1 u5 rfl bc (Ab (eb hC c) (show(msgC x)[0]? =some (B8 (x.1.kind):Value)from Bv x)) ⟨Ext.refl _,rfl⟩
   ·refine Aj (Aa rfl fun σ w1 hC h=> ?_)
    have bd:(fun x w' =>∃b,x = .map (some b)∧MapF B8 AH (fun _:UInt8=>True) w' b AV) (σ 23) w1:=h 23 (by decide)
    have be:=Af (h 25 (by decide))
    obtain⟨b6,k6,m6⟩:=(show ∃b,σ 23 = .map (some b)∧MapF B8 AH (fun _:UInt8=>True) w1 b AV from bd)
    exact Yk.lookMS (ek:=B8) (ev:=AH) (D:=fun _:UInt8=>True) CE CF (fun _ _=>Dv) C8 (z:=AH BA) Cr k6 be m6 trivial hK ⟨Ext.refl _,rfl⟩
   ·refine Aj (Aa rfl fun σ w1 hC h=> ?_)
    exact Yk.alloc (cs:=(partsC (⟨false,false,false,false,false,false,false,false⟩:Ai)).toArray) J3 fun g w2 hn hb hx hs=>⟨hx,g,rfl,hb,Nat.le_trans (show Ext dk w1 from hC).size (Nat.le_of_eq hn)⟩
   ·exact trivial
  intro hq mh gp he hf
  obtain⟨-,-,-,k26,k7,-⟩:=hf
  obtain⟨T0,T1,T2,T3,y,T5,T6,-⟩:=he.hold [(0,_),(1,PQ j 0),(2,(Value.slice none 0 0)),(3,NI 0),(4,PQ a5 0),(5,PQ cp 0),(6, .func (.func 49) #[] #[PQ cp 0,PQ a5 0])] ⟨T0,rfl,rfl,rfl,rfl,rfl,rfl,trivial⟩ rfl
  clear he
  have hE:=hE.trans gp
  have c:=eb gp c
  have ax:=eb gp ax
  have db:=Stab.own _ _ _ _ _ _ _ _ db gp
  have bf:hq 26 = .agg (partsC (⟨false,false,false,false,false,false,false,false⟩:Ai)).toArray:=k26
  have k7:(fun x w' =>∃g,x=PQ g 0∧w'.heap[g]? =some (.cells (partsC (⟨false,false,false,false,false,false,false,false⟩:Ai)).toArray 92 (0,0))∧dk.heap.size≤g) (hq 7) mh:=k7
  obtain⟨xx,f⟩:∃v,hq 7=v:=⟨_,rfl⟩
  rw[f]at k7
  have mi:=k7;clear k7
  obtain⟨ci,rfl,b2,mj⟩:=mi
  have xy:=bl b2
  have ml:OB ec ci:=mf _ mj
  clear k26
  refine(Yk.storeAll f bf b2 (by simp only[List.size_toArray,BI]) (Au (BI _) Gt) (Cp (x:=(⟨false,false,false,false,false,false,false,false⟩:Ai))) fun mm i5 gq xz=> ?_)
  have hE:=Ae hE gq (Nat.le_trans me (by omega))
  have c:=kb gq c (by omega)
  have ax:=kb gq ax (by omega)
  have db:=AU db gq ml
  clear b2
  have b2:mm.heap[ci]? =some (.cells (partsC (⟨false,false,false,false,false,false,false,false⟩:Ai)).toArray 92 (0,0)):=i5;clear i5
  have x0:=bl b2
  refine tN (md _ _ (sk fun x1 mn=>(sk fun x2 mo=>(wt (oS rfl (Yk.fieldAt LD f (oS rfl (Yk.cell1 De rfl (vr (PQ ci 0) rfl) (Ab b2 (show(partsC (⟨false,false,false,false,false,false,false,false⟩:Ai))[0]? =some (.bool (false):Value)from BW (⟨false,false,false,false,false,false,false,false⟩:Ai))) (oZ (tN (mo _ _ (Am (vr (.bool (false)) rfl) (Ak (tN (mn _ _ (sk fun x3 mp=>(sk fun x4 mq=>(wt (oS rfl (Yk.fieldAt LE f (oS rfl (Yk.cell1 De rfl (vr (PQ ci 1) rfl) (Ab b2 (show(partsC (⟨false,false,false,false,false,false,false,false⟩:Ai))[1]? =some (.bool (false):Value)from BX (⟨false,false,false,false,false,false,false,false⟩:Ai))) ?_))))))))))))))))))))))
  refine oZ (tN (mq _ _ (Am (vr (.bool (false)) rfl) (Ak (tN (mp _ _ (sk fun x5 mr=>(sk fun x6 ms=>(wt (oS rfl (Yk.fieldAt LF f (oS rfl (Yk.cell1 De rfl (vr (PQ ci 2) rfl) (Ab b2 (show(partsC (⟨false,false,false,false,false,false,false,false⟩:Ai))[2]? =some (.bool (false):Value)from BY (⟨false,false,false,false,false,false,false,false⟩:Ai))) (oZ (tN (ms _ _ (Am (vr (.bool (false)) rfl) (Ak (tN (mr _ _ (sk fun x7 mt=> ?_)))))))))))))))))))))
  refine sk fun x8 mu=>(wt (oS rfl (Yk.fieldAt LG f (oS rfl (Yk.cell1 De rfl (vr (PQ ci 3) rfl) (Ab b2 (show(partsC (⟨false,false,false,false,false,false,false,false⟩:Ai))[3]? =some (.bool (false):Value)from BZ (⟨false,false,false,false,false,false,false,false⟩:Ai))) (oZ (tN (mu _ _ (Am (vr (.bool (false)) rfl) (Ak (tN (mt _ _ (sk fun x9 mv=>(sk fun ya mw=>(wt (oS rfl (Yk.fieldAt LH f (oS rfl (Yk.cell1 De rfl (vr (PQ ci 4) rfl) (Ab b2 (show(partsC (⟨false,false,false,false,false,false,false,false⟩:Ai))[4]? =some (.bool (false):Value)from B0 (⟨false,false,false,false,false,false,false,false⟩:Ai))) (oZ (tN (mw _ _ ?_))))))))))))))))))))))
  refine Am (vr (.bool (false)) rfl) (Ak (tN (mv _ _ (sk fun yb mx=>(sk fun yc my=>(wt (oS rfl (Yk.fieldAt H5 f (oS rfl (Yk.cell1 De rfl (vr (PQ ci 5) rfl) (Ab b2 (show(partsC (⟨false,false,false,false,false,false,false,false⟩:Ai))[5]? =some (.bool (false):Value)from BP (⟨false,false,false,false,false,false,false,false⟩:Ai))) (oZ (tN (my _ _ (Am (vr (.bool (false)) rfl) (Ak (tN (mx _ _ (sk fun yd mz=>(sk fun ye m0=>(wt ?_))))))))))))))))))))
  refine oS rfl (Yk.fieldAt H6 f (oS rfl (Yk.cell1 De rfl (vr (PQ ci 6) rfl) (Ab b2 (show(partsC (⟨false,false,false,false,false,false,false,false⟩:Ai))[6]? =some (.bool (false):Value)from BQ (⟨false,false,false,false,false,false,false,false⟩:Ai))) (oZ (tN (m0 _ _ (Am (vr (.bool (false)) rfl) (Ak (tN (mz _ _ (sk fun yf m1=>(sk fun yg m2=>(wt (oS rfl (Yk.fieldAt LJ f (oS rfl (Yk.cell1 De rfl (vr (PQ ci 7) rfl) (Ab b2 (show(partsC (⟨false,false,false,false,false,false,false,false⟩:Ai))[7]? =some (.bool (false):Value)from BR (⟨false,false,false,false,false,false,false,false⟩:Ai))) (oZ (tN (m2 _ _ (Am (vr (.bool (false)) rfl) (Ak ?_))))))))))))))))))))))
  refine tN (m1 _ _ (sk fun yh m3=>(wt (oS rfl (Yk.cell1 El rfl y (Ab ax (show _=some (ec:Value)from rfl)) (oA rfl (oA rfl (oZ (tN (m3 _ _ (Ao (An (fn:=Tryd.f16) _ rfl [ec,NI 0] (.tuple #[ec,NI 0]) rfl ⟨rfl,rfl,trivial⟩ ?_))))))))))))
  have hen:([(x.1.kind:UInt8)]:List UInt8)++Lib.uvarint x.1.session.toNat=encB x.1:=by unfold encB Ba;rw[hk];simp[List.append_assoc]
  exact⟨ec,by rw[hR];rfl,by rw[hR,if_pos rfl,←hen];exact RB.ofOwn db,hE⟩
 ·refine Ak (tN (c8 _ _ (sk fun yi m4=>(wt (oS rfl (Yk.fieldAt H8 (vr (PQ j 0) rfl) (oS rfl (Yk.cell1 u5 rfl (vr (PQ j 0) rfl) (Ab c (show(msgC x)[0]? =some (B8 (x.1.kind):Value)from Bv x)) (oS rfl (Yk.lit1 (b:=x.1.kind) CA (vr (B8 (x.1.kind)) rfl) fun e9 m5 fa=> ?_))))))))))
  have bg:=Ext.refl c9
  have yj:=hE.size
  have hE:=hE.trans fa.ext
  have c:=eb fa.ext c
  have bg:=bg.trans fa.ext
  have bs:=fa.own;clear fa
  refine oS rfl (Yk.alloc (cs:=([(Value.slice none 0 0)]).toArray) DI fun ac m7 m8 i6 fb yk=> ?_)
  have b3:=Ext.refl m5
  have gr:=hE.size
  have i7:=bg.size
  have yl:=Bo (bl c) m8
  have m9:OB e9 ac:=Bc bs (by omega)
  have hE:=hE.trans fb
  have c:=eb fb c
  have bg:=bg.trans fb
  have bs:=Stab.own _ _ _ _ _ _ _ _ bs fb
  have b3:=b3.trans fb
  have ak:=i6;clear i6
  have ym:ac<m7.heap.size:=by omega
  refine oS rfl (Yk.storeC (i:=0) (v:=e9) (vr (PQ ac 0) rfl) (vr e9 rfl) ak (Nat.le_of_ble_eq_true rfl) IX (A6 bs).1 (A6 bs).2 fun yn i8 fc yo=> ?_)
  have hE:=Ae hE fc (Nat.le_trans gr (by omega))
  have c:=kb fc c (by omega)
  have bg:=Ae bg fc (Nat.le_trans i7 (by omega))
  have bs:=AU bs fc m9
  have b3:=Ae b3 fc (Nat.le_trans (Nat.le_refl _) (by omega))
  clear ak
  have ak:=i8;clear i8
  have yp:=bl ak
  refine oZ (tN (m4 _ _ (sk fun yq na=>(wt (oS rfl (Yk.mkFunc (vs:= #[PQ ac 0]) (by simp only[List.map_toArray,List.map_cons,List.map_nil];exact congrArg List.toArray (Fi (vr (PQ ac 0) rfl))) (oS rfl (Yk.alloc (cs:=([Value.nilFunc]).toArray) DJ fun aw nb i9 ja ed yr=> ?_))))))))
  have nc:=hE.size
  have nd:=bg.size
  have ne:=b3.size
  have ys:=Bo (bl c) i9
  have yt:=Bo (bl ak) i9
  have nf:OB e9 aw:=Bc bs (by omega)
  have hE:=hE.trans ed
  have c:=eb ed c
  have bg:=bg.trans ed
  have bs:=Stab.own _ _ _ _ _ _ _ _ bs ed
  have b3:=b3.trans ed
  have ak:=eb ed ak
  have q:=ja;clear ja
  have yu:aw<nb.heap.size:=by omega
  refine oS rfl (Yk.storeC (i:=0) (v:= .func (.func 47) #[] #[PQ ac 0]) (vr (PQ aw 0) rfl) (vr (.func (.func 47) #[] #[PQ ac 0]) rfl) q (Nat.le_of_ble_eq_true rfl) wr6_isz89 rfl rfl fun yw jb ee yx=> ?_)
  have hE:=Ae hE ee (Nat.le_trans nc (by omega))
  have c:=kb ee c (by omega)
  have bg:=Ae bg ee (Nat.le_trans nd (by omega))
  have bs:=AU bs ee nf
  have b3:=Ae b3 ee (Nat.le_trans ne (by omega))
  have ak:=kb ee ak (by omega)
  clear q
  have q:=jb;clear jb
  have yy:=bl q
  refine oZ (tN (na _ _ (sk fun yz ng=>(wt (oS rfl (Yk.mkFunc (vs:= #[PQ aw 0,PQ ac 0]) (by simp only[List.map_toArray,List.map_cons,List.map_nil];exact congrArg List.toArray (B1 (vr (PQ aw 0) rfl) (vr (PQ ac 0) rfl))) (oA rfl (oZ (tN (ng _ _ (sk fun y0 nh=>(wt (oS rfl (Yk.cell1 Nx rfl (vr (PQ aw 0) rfl) (Ab q (show _=some (.func (.func 47) #[] #[PQ ac 0]:Value)from rfl)) (oS rfl (Yk.fieldAt LK (vr (PQ j 0) rfl) (oS rfl (Yk.cell1 FI rfl (vr (PQ j 1) rfl) (Ab c (show(msgC x)[1]? =some (.int .i64 (x.1.session:Int):Value)from CU x)) (oS rfl (Yk.clo Ny (caps:= #[PQ ac 0]) (vr (.func (.func 47) #[] #[PQ ac 0]) rfl) #[.int .i64 (x.1.session:Int),PQ ac 0] (by simp only[List.map_toArray,List.map_cons,List.map_nil,List.append_toArray,List.cons_append,List.nil_append];exact congrArg List.toArray (B1 (vr (.int .i64 (x.1.session:Int)) rfl) rfl)) ((Cf w _ hE ac (by omega) e9 ([(x.1.kind:UInt8)]) ak (RB.ofOwn bs) (by simp only[List.length_append,List.length_cons,List.length_nil];omega) x.1.session (by omega) (by omega)).mono ?_)))))))))))))))))))))
  rintro e dl ⟨hr,rfl,jc,cq,fd⟩
  refine⟨_,rfl,?_⟩
  have cq:=AC cq hE.size
  have hE:=Ae hE fd (Nat.le_trans gr (by omega))
  have c:=kb fd c (by omega)
  have bg:=Ae bg fd (Nat.le_trans i7 (by omega))
  clear bs
  have b3:=Ae b3 fd (Nat.le_trans (Nat.le_refl _) (by omega))
  clear ak
  have q:=kb fd q (by omega)
  have ak:=jc;clear jc
  have y1:=bl ak
  refine oZ (tN (nh _ _ (sk fun y2 ni=> ?_)))
  have nj:=hE.size
  have y3:=bg.size
  have y4:=b3.size
  have y5:j<dl.heap.size:=(bl c)
  have y6:aw<dl.heap.size:=(bl q)
  have y7:ac<dl.heap.size:=(bl ak)
  have nk:∀g,dl.heap.size≤g→OB hr g:=fun g hg=>Bc cq hg
  refine Cz 5 _ [fun x w' =>∃b,x = .map (some b)∧MapF B8 AH (fun _:UInt8=>True) w' b AV,Is (PQ j 0),Is (B8 (x.1.kind)),Is (.agg (partsC (⟨true,false,false,false,false,false,false,false⟩:Ai)).toArray),fun x w' =>∃g,x=PQ g 0∧w'.heap[g]? =some (.cells (partsC (⟨false,false,false,false,false,false,false,false⟩:Ai)).toArray 92 (0,0))∧dl.heap.size≤g] (by kernel_rfl) [23,24,25,26,7] (by kernel_rfl) (by kernel_rfl) (by kernel_rfl) rfl rfl rfl ⟨(fun _ _ _ ⟨b,h1,h2⟩ k=>⟨b,h1,MapF.keep h2 k⟩),Stab.is _,Stab.is _,Stab.is _,(fun _ _ _ ⟨g,h1,h2,h3⟩ k=>⟨g,h1,eb k h2,h3⟩),trivial⟩ ?nl ?hQ4007
  case nl=>
   refine⟨?_,?_,?_,?_,?_,?_,trivial⟩
   ·refine Aj (Aa rfl fun σ w1 hC h=>(Yk.callA0 J2 ((Cs _).mono ?_)))
    rintro e w2 ⟨b,rfl,hmk,hx,hom⟩
    exact⟨_,rfl,hx,⟨b,rfl,hmk⟩⟩
   ·refine Aj (Aa rfl fun σ w1 hC h=> ?_)
    have e1:σ 1=PQ j 0:=(Af (h 1 (by decide))).trans rfl
    exact Yk.fieldAt H8 e1 ⟨Ext.refl _,rfl⟩
   ·refine Aj (Aa rfl fun σ w1 hC h=> ?_)
    have bc:=Af (h 24 (by decide))
    exact Yk.cell1 u5 rfl bc (Ab (eb hC c) (show(msgC x)[0]? =some (B8 (x.1.kind):Value)from Bv x)) ⟨Ext.refl _,rfl⟩
   ·refine Aj (Aa rfl fun σ w1 hC h=> ?_)
    have bd:(fun x w' =>∃b,x = .map (some b)∧MapF B8 AH (fun _:UInt8=>True) w' b AV) (σ 23) w1:=h 23 (by decide)
    have be:=Af (h 25 (by decide))
    obtain⟨b6,k6,m6⟩:=(show ∃b,σ 23 = .map (some b)∧MapF B8 AH (fun _:UInt8=>True) w1 b AV from bd)
    exact Yk.lookMS (ek:=B8) (ev:=AH) (D:=fun _:UInt8=>True) CE CF (fun _ _=>Dv) C8 (z:=AH BA) Cr k6 be m6 trivial hK ⟨Ext.refl _,rfl⟩
   ·refine Aj (Aa rfl fun σ w1 hC h=> ?_)
    exact Yk.alloc (cs:=(partsC (⟨false,false,false,false,false,false,false,false⟩:Ai)).toArray) J3 fun g w2 hn hb hx hs=>⟨hx,g,rfl,hb,Nat.le_trans (show Ext dl w1 from hC).size (Nat.le_of_eq hn)⟩
   ·exact trivial
  intro ht nm fe he hf
  obtain⟨-,-,-,k26,k7,-⟩:=hf
  obtain⟨T0,T1,T2,T3,y,T5,T6,-⟩:=he.hold [(0,_),(1,PQ j 0),(2,(Value.slice none 0 0)),(3,NI 0),(4,PQ ac 0),(5,PQ aw 0),(6, .func (.func 49) #[] #[PQ aw 0,PQ ac 0])] ⟨T0,rfl,rfl,rfl,rfl,rfl,rfl,trivial⟩ rfl
  clear he
  have hE:=hE.trans fe
  have c:=eb fe c
  have q:=eb fe q
  have ak:=eb fe ak
  have cq:=Stab.own _ _ _ _ _ _ _ _ cq fe
  have bf:ht 26 = .agg (partsC (⟨true,false,false,false,false,false,false,false⟩:Ai)).toArray:=k26
  have k7:(fun x w' =>∃g,x=PQ g 0∧w'.heap[g]? =some (.cells (partsC (⟨false,false,false,false,false,false,false,false⟩:Ai)).toArray 92 (0,0))∧dl.heap.size≤g) (ht 7) nm:=k7
  obtain⟨y8,f⟩:∃v,ht 7=v:=⟨_,rfl⟩
  rw[f]at k7
  have nn:=k7;clear k7
  obtain⟨a4,rfl,r,no⟩:=nn
  have y9:=bl r
  have np:OB hr a4:=nk _ no
  clear k26
  refine(Yk.storeAll f bf r (by simp only[List.size_toArray,BI]) (Au (BI _) Gt) (Cp (x:=(⟨true,false,false,false,false,false,false,false⟩:Ai))) fun nq jd ff za=> ?_)
  have hE:=Ae hE ff (Nat.le_trans nj (by omega))
  have c:=kb ff c (by omega)
  have q:=kb ff q (by omega)
  have ak:=kb ff ak (by omega)
  have cq:=AU cq ff np
  clear r
  have r:nq.heap[a4]? =some (.cells (partsC (⟨true,false,false,false,false,false,false,false⟩:Ai)).toArray 92 (0,0)):=jd;clear jd
  have zb:=bl r
  refine tN (ni _ _ (sk fun zc nr=>(sk fun zd ns=>(wt (oS rfl (Yk.fieldAt LD f (oS rfl (Yk.cell1 De rfl (vr (PQ a4 0) rfl) (Ab r (show(partsC (⟨true,false,false,false,false,false,false,false⟩:Ai))[0]? =some (.bool (true):Value)from BW (⟨true,false,false,false,false,false,false,false⟩:Ai))) (oZ (tN (ns _ _ (At (vr (.bool (true)) rfl) (sk fun ze nt=>(wt (oS rfl (Yk.cell1 Nx rfl T5 (Ab q (show _=some (.func (.func 47) #[] #[PQ ac 0]:Value)from rfl)) (oS rfl (Yk.fieldAt H0 T1 (oS rfl (Yk.cell1 CJ rfl (vr (PQ j 2) rfl) (Ab c (show(msgC x)[2]? =some (x.2.refs:Value)from BF x)) (oS rfl (Yk.lenRG CJ (RG.of (hmr.keep hE) (vr x.2.refs rfl)) (oS rfl (Yk.clo Ny (caps:= #[PQ ac 0]) (vr (.func (.func 47) #[] #[PQ ac 0]) rfl) #[NI ((x.1.refs).length),PQ ac 0] (by simp only[List.map_toArray,List.map_cons,List.map_nil,List.append_toArray,List.cons_append,List.nil_append];exact congrArg List.toArray (B1 (vr (NI ((x.1.refs).length)) rfl) rfl)) ?_))))))))))))))))))))))))
  refine(Cf w _ hE ac (by omega) hr (([(x.1.kind:UInt8)]:List UInt8)++Lib.uvarint x.1.session.toNat) ak (RB.ofOwn cq) (by simp only[List.length_append,List.length_cons,List.length_nil];omega) (((x.1.refs).length:Nat):Int) (by omega) (by omega)).mono ?_
  rintro e zf ⟨fg,rfl,je,dc,gs⟩
  refine⟨_,rfl,?_⟩
  have nu:OB fg j:=AY dc (bl c)
  have nv:OB fg aw:=AY dc (bl q)
  have nw:OB fg ac:=AY dc (bl ak)
  have nx:OB fg a4:=AY dc (bl r)
  have dc:=AC dc hE.size
  have hE:=Ae hE gs (Nat.le_trans gr (by omega))
  have c:=kb gs c (by omega)
  have q:=kb gs q (by omega)
  clear ak
  clear cq
  have r:=kb gs r (by omega)
  have ak:=je;clear je
  have zg:=bl ak
  refine oZ (tN (nt _ _ (sk fun zh ny=>(wt (oS rfl (Yk.fieldAt H0 T1 (oS rfl (Yk.cell1 CJ rfl (vr (PQ j 2) rfl) (Ab c (show(msgC x)[2]? =some (x.2.refs:Value)from BF x)) (oS rfl (Yk.lenRG CJ (RG.of (hmr.keep hE) (vr x.2.refs rfl)) (oM rfl (Bp [(0, .agg (msgC x).toArray),(1,PQ j 0),(2,(Value.slice none 0 0)),(3,NI 0),(4,PQ ac 0),(5,PQ aw 0),(6, .func (.func 49) #[] #[PQ aw 0,PQ ac 0]),(7,PQ a4 0),(28, .bool (true)),(35,x.2.refs),(36,NI ((x.1.refs).length)),(37,NI 0)] ⟨T0,T1,T2,T3,y,T5,T6,f,rfl,rfl,rfl,rfl,trivial⟩ fun zi ⟨T0,T1,T2,T3,y,T5,T6,f,dm,ef,eg,cr,_⟩=>(tN (ny _ _ (AA (Bu (fun(ρ:As) (wz:World)=>∃i:Nat,∃vb1:Value,ρ 0=(.agg (msgC x).toArray:Value)∧ρ 1=(PQ j 0:Value)∧ρ 2=((Value.slice none 0 0):Value)∧ρ 3=(NI 0:Value)∧ρ 4=(PQ ac 0:Value)∧ρ 5=(PQ aw 0:Value)∧ρ 6=(.func (.func 49) #[] #[PQ aw 0,PQ ac 0]:Value)∧ρ 7=(PQ a4 0:Value)∧ρ 28=(.bool (true):Value)∧ρ 35=(x.2.refs:Value)∧ρ 36=(NI ((x.1.refs).length):Value)∧ρ 37=(NI i:Value)∧Ext w wz∧wz.heap[j]? =some (.cells (msgC x).toArray 29 (0,0))∧wz.heap[aw]? =some (.cells ([.func (.func 47) #[] #[PQ ac 0]]).toArray 89 (0,0))∧wz.heap[a4]? =some (.cells (partsC (⟨true,false,false,false,false,false,false,false⟩:Ai)).toArray 92 (0,0))∧wz.heap[ac]? =some (.cells ([vb1]).toArray 26 (0,0))∧wz.ownsRow w.heap.size 5 1 vb1 (((([(x.1.kind:UInt8)]:List UInt8)++Lib.uvarint x.1.session.toNat:List UInt8)++Lib.uvarint ((x.1.refs).length):List UInt8)++(x.1.refs.take i).flatMap B4:List UInt8).length (Lib.byteCells (((([(x.1.kind:UInt8)]:List UInt8)++Lib.uvarint x.1.session.toNat:List UInt8)++Lib.uvarint ((x.1.refs).length):List UInt8)++(x.1.refs.take i).flatMap B4))∧(i≤x.1.refs.length)∧(OB vb1 j)∧(OB vb1 aw)∧(OB vb1 a4)∧(OB vb1 ac)∧True) (fun ρ _=>x.1.refs.length-(intOf (ρ 37)).toNat) ⟨0,fg,T0,T1,T2,T3,y,T5,T6,f,dm,ef,eg,cr,hE,c,q,r,ak,Eb dc (by simp),Nat.zero_le _,nu,nv,nx,nw,trivial⟩ ?_))))))))))))))))
  clear b3
  clear ak
  clear dc
  clear hE c q r
  rintro nz jf ⟨i,vb1,T0,T1,T2,T3,y,T5,T6,f,dm,ef,eg,cr,hE,c,q,r,aa,b4,hi,hap_n2,hap_n153,hap_n204,hap_n132,-⟩
  have q37:=cr
  have hgl:=(bl aa)
  refine sk fun zj n0=>(wt (oS rfl (Yk.eqI (a:=(i:Nat)) (b:=((x.1.refs).length:Nat)) cr eg (A0 _ _ _ _) (oZ (tN (n0 _ _ (sk fun zk n1=> ?_)))))))
  refine AX ((i)<((x.1.refs).length)) (vr (.bool (decide ((i)<((x.1.refs).length)))) rfl) (fun jg=> ?_) (fun jg=> ?_)
  ·have hlt:i<x.1.refs.length:=jg
   have hul:=hp _ (E3 Ac hlt)
   have hLl:=EC (l:=x.1.refs.take i) (fun u hu=>hp u (List.mem_of_mem_take hu))
   rw[List.length_take]at hLl
   have huu:=Bx (n:=(x.1.refs.getD i Ac).name.length) (by omega)
   have htu:=Ep (s:=(x.1.refs.getD i Ac).name) (by omega)
   have hnu:(x.1.refs.getD i Ac).new.1.length=32:=(x.1.refs.getD i Ac).new.2
   refine Ak (tN (n1 _ _ (sk fun zl n3=>(AA (sk fun zm n4=>(wt ?_))))))
   have zn:(updC ((x.1.refs).getD (i) Ac)).length=66:=(RG.elem (hmr.keep hE) Ac (by omega))
   refine oS rfl (Yk.atRG CJ Di (by decide) Ac (RG.of (hmr.keep hE) ef) cr (by omega) fun n5 jh=>(oS rfl (Yk.loadPR (PR.of jh (vr n5 rfl)) (JV).choose_spec rfl (by rw[BH];exact Fl) (oS rfl (Yk.alloc (cs:=(updC (⟨0,[],zid,zid⟩:AJ)).toArray) JW fun bt n6 gt ji dn zo=> ?_)))))
   have dd:=Ext.refl jf
   have n7:=hE.size
   have zp:=Bo (bl c) gt
   have zq:=Bo (bl q) gt
   have zr:=Bo (bl r) gt
   have zs:=Bo (bl aa) gt
   have jj:OB vb1 bt:=Bc b4 (by omega)
   have hE:=hE.trans dn
   have c:=eb dn c
   have q:=eb dn q
   have r:=eb dn r
   have aa:=eb dn aa
   have b4:=Stab.own _ _ _ _ _ _ _ _ b4 dn
   have dd:=dd.trans dn
   have ah:=ji;clear ji
   have zt:bt<n6.heap.size:=by omega
   refine oS rfl (Yk.storeAll (vr (PQ bt 0) rfl) (vr (.agg (updC ((x.1.refs).getD (i) Ac)).toArray) rfl) ah (by simp only[List.size_toArray,BH]) (Au (BH _) Fl) (Em (x:=((x.1.refs).getD (i) Ac))) fun fh jk dp zu=> ?_)
   have hE:=Ae hE dp (Nat.le_trans n7 (by omega))
   have c:=kb dp c (by omega)
   have q:=kb dp q (by omega)
   have r:=kb dp r (by omega)
   have aa:=kb dp aa (by omega)
   have b4:=AU b4 dp jj
   have dd:=Ae dd dp (Nat.le_trans (Nat.le_refl _) (by omega))
   clear ah
   have ah:fh.heap[bt]? =some (.cells (updC ((x.1.refs).getD (i) Ac)).toArray 67 (0,0)):=jk;clear jk
   have zv:=bl ah
   refine oZ ?_
   clear jh
   refine tN (n4 _ _ ?_)
   have de:Ext fh (World.drew fh):=(Below.refl _ _).drew
   have hE:=hE.trans de
   have c:=eb de c
   have q:=eb de q
   have r:=eb de r
   have aa:=eb de aa
   have b4:=Stab.own _ _ _ _ _ _ _ _ b4 de
   have dd:=dd.trans de
   have ah:=eb de ah
   refine Dj [(0,41,vb1),(5,46,PQ bt 1),(6,47,St ((((x.1.refs).getD (i) Ac)).name)),(8,49,PQ bt 34),(9,50,AB ((((x.1.refs).getD (i) Ac)).new.1))] [1,2,3,4,7,10,11] (fun wz=>Ext w wz∧wz.heap[j]? =some (.cells (msgC x).toArray 29 (0,0))∧wz.heap[aw]? =some (.cells ([.func (.func 47) #[] #[PQ ac 0]]).toArray 89 (0,0))∧wz.heap[a4]? =some (.cells (partsC (⟨true,false,false,false,false,false,false,false⟩:Ai)).toArray 92 (0,0))∧wz.heap[ac]? =some (.cells ([vb1]).toArray 26 (0,0))∧wz.heap[bt]? =some (.cells (updC ((x.1.refs).getD (i) Ac)).toArray 67 (0,0))∧True) (by kernel_rfl) (by kernel_rfl) (by kernel_rfl) ⟨hE,c,q,r,aa,ah,trivial⟩ ⟨fun gu ⟨hE,c,q,r,aa,ah,_⟩=>Yk.cell1 El rfl y (Ab aa (show _=some (vb1:Value)from rfl)) ⟨rfl,rfl⟩,fun gu ⟨hE,c,q,r,aa,ah,_⟩=>Yk.fieldAt DS (vr (PQ bt 0) rfl) ⟨rfl,rfl⟩,fun gu ⟨hE,c,q,r,aa,ah,_⟩=>Yk.cell1 CD rfl (vr (PQ bt 1) rfl) (Ab ah (show(updC ((x.1.refs).getD (i) Ac))[1]? =some (St ((((x.1.refs).getD (i) Ac)).name):Value)from Ey ((x.1.refs).getD (i) Ac))) ⟨rfl,rfl⟩,fun gu ⟨hE,c,q,r,aa,ah,_⟩=>Yk.fieldAt HV (vr (PQ bt 0) rfl) ⟨rfl,rfl⟩,fun gu ⟨hE,c,q,r,aa,ah,_⟩=>Yk.loadPR (PR.blk ah (Ec ((x.1.refs).getD (i) Ac)) (Ez ((x.1.refs).getD (i) Ac)) (vr (PQ bt 34) rfl)) NV rfl (Aw (((x.1.refs).getD (i) Ac)).new.2) ⟨rfl,rfl⟩,trivial⟩ (Bb rfl (Yk.fieldAt Cd (vr (PQ bt 0) rfl) ?_))
   refine⟨.inr ⟨hE,c,q,r,aa,ah,trivial⟩,?_⟩
   refine Bb rfl (Yk.cell1 u5 rfl (vr (PQ bt 0) rfl) (Ab ah (show(updC ((x.1.refs).getD (i) Ac))[0]? =some (B8 ((((x.1.refs).getD (i) Ac)).kind):Value)from Dp ((x.1.refs).getD (i) Ac))) ?_)
   refine⟨.inr ⟨hE,c,q,r,aa,ah,trivial⟩,?_⟩
   refine Bb rfl (Yk.lit1 (b:=(((x.1.refs).getD (i) Ac)).kind) CA (vr (B8 ((((x.1.refs).getD (i) Ac)).kind)) rfl) fun n8 n9 ct=> ?_)
   have zw:w.heap.size≤(World.drew fh).heap.size:=hE.size
   have zx:jf.heap.size≤(World.drew fh).heap.size:=dd.size
   have hE:=hE.trans ct.ext
   have c:=eb ct.ext c
   have q:=eb ct.ext q
   have r:=eb ct.ext r
   have aa:=eb ct.ext aa
   have b4:=Stab.own _ _ _ _ _ _ _ _ b4 ct.ext
   have ah:=eb ct.ext ah
   have jl:=ct.own;clear ct
   refine⟨.inr ⟨hE,c,q,r,aa,ah,trivial⟩,?_⟩
   refine Bb rfl (Yk.appendRB _ _ w.heap.size (.int .u8 0) El Hz rfl El (((([(x.1.kind:UInt8)]:List UInt8)++Lib.uvarint x.1.session.toNat:List UInt8)++Lib.uvarint ((x.1.refs).length):List UInt8)++(x.1.refs.take i).flatMap B4) ([((((x.1.refs).getD (i) Ac)).kind:UInt8)]) (own_of b4 (vr vb1 rfl)) (RB.of (RB.ofOwn jl) (vr n8 rfl)) (by simp only[List.length_append,List.length_cons,List.length_nil];omega) hE.size fun hv jm jn df=> ?_)
   have df:Grew n9 jm vb1 hv:=df
   have hE:=AF hE df b4 (Nat.le_refl _)
   have c:=AG c df hap_n2
   have q:=AG q df hap_n153
   have r:=AG r df hap_n204
   have aa:=AG aa df hap_n132
   clear b4
   clear dd
   have ah:=AG ah df jj
   refine⟨.inr ⟨hE,c,q,r,aa,ah,trivial⟩,?_⟩
   refine Bb rfl (Yk.callA2 Hm (vr hv rfl) (vr (St ((((x.1.refs).getD (i) Ac)).name)) rfl) ((Hl _ hv (((([(x.1.kind:UInt8)]:List UInt8)++Lib.uvarint x.1.session.toNat:List UInt8)++Lib.uvarint ((x.1.refs).length):List UInt8)++(x.1.refs.take i).flatMap B4++ [((((x.1.refs).getD (i) Ac)).kind:UInt8)]) (RB.ofOwn jn) ((((x.1.refs).getD (i) Ac)).name) (by simp only[List.length_append,List.length_cons,List.length_nil];omega)).mono ?_))
   rintro e zy ⟨jo,rfl,cu⟩
   refine⟨_,rfl,?_⟩
   have oa:=hE.size
   have hw:=Ext.refl jm
   have zz:=hE.size
   have hE:=hE.trans cu.ext
   have c:=eb cu.ext c
   have q:=eb cu.ext q
   have r:=eb cu.ext r
   have aa:=eb cu.ext aa
   have ah:=eb cu.ext ah
   have hw:=hw.trans cu.ext
   have gv:=cu.own;clear cu
   have gv:=AC gv oa
   refine⟨.inr ⟨hE,c,q,r,aa,ah,trivial⟩,?_⟩
   refine Bb rfl (Yk.callA2 E4 (vr jo rfl) (vr (AB ((((x.1.refs).getD (i) Ac)).new.1)) rfl) ((ED _ jo ((((([(x.1.kind:UInt8)]:List UInt8)++Lib.uvarint x.1.session.toNat:List UInt8)++Lib.uvarint ((x.1.refs).length):List UInt8)++(x.1.refs.take i).flatMap B4++ [((((x.1.refs).getD (i) Ac)).kind:UInt8)]:List UInt8)++Bq ((((x.1.refs).getD (i) Ac)).name)) (RB.ofOwn gv) (by simp only[List.length_append,List.length_cons,List.length_nil];omega) ((((x.1.refs).getD (i) Ac)).new)).mono ?_))
   rintro e z0 ⟨dq,rfl,cc⟩
   refine⟨_,rfl,?_⟩
   have ob:=hE.size
   have z1:=hE.size
   have z2:=hw.size
   have oc:OB dq j:=AY cc.own (bl c)
   have od:OB dq aw:=AY cc.own (bl q)
   have oe:OB dq a4:=AY cc.own (bl r)
   have jp:OB dq ac:=AY cc.own (bl aa)
   have hE:=hE.trans cc.ext
   have c:=eb cc.ext c
   have q:=eb cc.ext q
   have r:=eb cc.ext r
   have aa:=eb cc.ext aa
   have ah:=eb cc.ext ah
   have dr:=cc.own;clear cc
   have dr:=AC dr ob
   refine⟨.inr ⟨hE,c,q,r,aa,ah,trivial⟩,?_⟩
   refine Bb rfl (Yk.storeC (i:=0) (v:=dq) y (vr dq rfl) aa (Nat.le_of_ble_eq_true rfl) IX (A6 dr).1 (A6 dr).2 fun z3 jq fi z4=> ?_)
   have hE:=Ae hE fi (Nat.le_trans gr (by omega))
   have c:=kb fi c (by omega)
   have q:=kb fi q (by omega)
   have r:=kb fi r (by omega)
   clear aa
   have dr:=AU dr fi jp
   have aa:=jq;clear jq
   have z5:=bl aa
   refine⟨.inl rfl,?_⟩
   refine D8 (bN (tN (n3 _ _ (wt (oS rfl (Yk.bin (xv:=NI i) (yv:=NI 1) cr rfl rfl (Be _ _ _ (by omega)) (oM rfl (Bp [(0, .agg (msgC x).toArray),(1,PQ j 0),(2,(Value.slice none 0 0)),(3,NI 0),(4,PQ ac 0),(5,PQ aw 0),(6, .func (.func 49) #[] #[PQ aw 0,PQ ac 0]),(7,PQ a4 0),(9,PQ bt 0),(28, .bool (true)),(35,x.2.refs),(36,NI ((x.1.refs).length)),(37,NI ((i)+(1)))] ⟨T0,T1,T2,T3,y,T5,T6,f,rfl,dm,ef,eg,rfl,trivial⟩ fun og ⟨T0,T1,T2,T3,y,T5,T6,f,T9,dm,ef,eg,cr,_⟩=> ?_))))))))
   clear jl
   clear jn
   clear gv
   refine tN (And.intro ⟨i+1,dq,T0,T1,T2,T3,y,T5,T6,f,dm,ef,eg,cr,hE,c,q,r,aa,Eb (AC dr (by omega)) (by rw[IV hlt];simp only[B4,List.append_assoc]),by omega,oc,od,oe,jp,trivial⟩ ?_)
   show x.1.refs.length-(intOf (og 37)).toNat<x.1.refs.length-(intOf (nz 37)).toNat
   rw[cr,q37]
   simp only[intOf,Int.toNat_natCast];omega
  have hie:i=x.1.refs.length:=by omega
  have hLl:=EC hp
  refine Bm (Ax (Ax (AS (tN (nr _ _ (sk fun z7 oh=>(sk fun z8 oi=>(wt (oS rfl (Yk.fieldAt LE f (oS rfl (Yk.cell1 De rfl (vr (PQ a4 1) rfl) (Ab r (show(partsC (⟨true,false,false,false,false,false,false,false⟩:Ai))[1]? =some (.bool (false):Value)from BX (⟨true,false,false,false,false,false,false,false⟩:Ai))) (oZ (tN (oi _ _ (Am (vr (.bool (false)) rfl) (Ak (tN (oh _ _ (sk fun z9 oj=>(sk fun aaa ok=>(wt (oS rfl (Yk.fieldAt LF f ?_))))))))))))))))))))))))
  refine oS rfl (Yk.cell1 De rfl (vr (PQ a4 2) rfl) (Ab r (show(partsC (⟨true,false,false,false,false,false,false,false⟩:Ai))[2]? =some (.bool (false):Value)from BY (⟨true,false,false,false,false,false,false,false⟩:Ai))) (oZ (tN (ok _ _ (Am (vr (.bool (false)) rfl) (Ak (tN (oj _ _ (sk fun aab ol=>(sk fun aac om=>(wt (oS rfl (Yk.fieldAt LG f (oS rfl (Yk.cell1 De rfl (vr (PQ a4 3) rfl) (Ab r (show(partsC (⟨true,false,false,false,false,false,false,false⟩:Ai))[3]? =some (.bool (false):Value)from BZ (⟨true,false,false,false,false,false,false,false⟩:Ai))) (oZ (tN (om _ _ (Am (vr (.bool (false)) rfl) (Ak (tN (ol _ _ ?_))))))))))))))))))))))
  refine sk fun aad on=>(sk fun aae oo=>(wt (oS rfl (Yk.fieldAt LH f (oS rfl (Yk.cell1 De rfl (vr (PQ a4 4) rfl) (Ab r (show(partsC (⟨true,false,false,false,false,false,false,false⟩:Ai))[4]? =some (.bool (false):Value)from B0 (⟨true,false,false,false,false,false,false,false⟩:Ai))) (oZ (tN (oo _ _ (Am (vr (.bool (false)) rfl) (Ak (tN (on _ _ (sk fun aaf op=>(sk fun aag oq=>(wt (oS rfl (Yk.fieldAt H5 f (oS rfl (Yk.cell1 De rfl (vr (PQ a4 5) rfl) (Ab r (show(partsC (⟨true,false,false,false,false,false,false,false⟩:Ai))[5]? =some (.bool (false):Value)from BP (⟨true,false,false,false,false,false,false,false⟩:Ai))) (oZ ?_)))))))))))))))))))))
  refine tN (oq _ _ (Am (vr (.bool (false)) rfl) (Ak (tN (op _ _ (sk fun aah os=>(sk fun aai ot=>(wt (oS rfl (Yk.fieldAt H6 f (oS rfl (Yk.cell1 De rfl (vr (PQ a4 6) rfl) (Ab r (show(partsC (⟨true,false,false,false,false,false,false,false⟩:Ai))[6]? =some (.bool (false):Value)from BQ (⟨true,false,false,false,false,false,false,false⟩:Ai))) (oZ (tN (ot _ _ (Am (vr (.bool (false)) rfl) (Ak (tN (os _ _ (sk fun aaj ou=>(sk fun aak ov=> ?_)))))))))))))))))))))
  refine wt (oS rfl (Yk.fieldAt LJ f (oS rfl (Yk.cell1 De rfl (vr (PQ a4 7) rfl) (Ab r (show(partsC (⟨true,false,false,false,false,false,false,false⟩:Ai))[7]? =some (.bool (false):Value)from BR (⟨true,false,false,false,false,false,false,false⟩:Ai))) (oZ (tN (ov _ _ (Am (vr (.bool (false)) rfl) (Ak (tN (ou _ _ (sk fun aal ow=>(wt (oS rfl (Yk.cell1 El rfl y (Ab aa (show _=some (vb1:Value)from rfl)) (oA rfl (oA rfl (oZ (tN (ow _ _ (Ao ?_)))))))))))))))))))))
  refine An (fn:=Tryd.f16) _ rfl [vb1,NI 0] (.tuple #[vb1,NI 0]) rfl ⟨rfl,rfl,trivial⟩ ?_
  have hen:((([(x.1.kind:UInt8)]:List UInt8)++Lib.uvarint x.1.session.toNat:List UInt8)++Lib.uvarint ((x.1.refs).length):List UInt8)++(x.1.refs.take i).flatMap B4=encB x.1:=by unfold encB Ba;rw[hk];simp[List.append_assoc,hie]
  exact⟨vb1,by rw[hR];rfl,by rw[hR,if_pos rfl,←hen];exact RB.ofOwn b4,hE⟩
 ·refine Ak (tN (c8 _ _ (sk fun aam ox=>(wt (oS rfl (Yk.fieldAt H8 (vr (PQ j 0) rfl) (oS rfl (Yk.cell1 u5 rfl (vr (PQ j 0) rfl) (Ab c (show(msgC x)[0]? =some (B8 (x.1.kind):Value)from Bv x)) (oS rfl (Yk.lit1 (b:=x.1.kind) CA (vr (B8 (x.1.kind)) rfl) fun fj oy fk=> ?_))))))))))
  have bh:=Ext.refl c9
  have aan:=hE.size
  have hE:=hE.trans fk.ext
  have c:=eb fk.ext c
  have bh:=bh.trans fk.ext
  have bu:=fk.own;clear fk
  refine oS rfl (Yk.alloc (cs:=([(Value.slice none 0 0)]).toArray) DI fun am oz o0 jr fl aao=> ?_)
  have cd:=Ext.refl oy
  have gw:=hE.size
  have js:=bh.size
  have aap:=Bo (bl c) o0
  have o1:OB fj am:=Bc bu (by omega)
  have hE:=hE.trans fl
  have c:=eb fl c
  have bh:=bh.trans fl
  have bu:=Stab.own _ _ _ _ _ _ _ _ bu fl
  have cd:=cd.trans fl
  have aj:=jr;clear jr
  have aaq:am<oz.heap.size:=by omega
  refine oS rfl (Yk.storeC (i:=0) (v:=fj) (vr (PQ am 0) rfl) (vr fj rfl) aj (Nat.le_of_ble_eq_true rfl) IX (A6 bu).1 (A6 bu).2 fun aar jt fm aas=> ?_)
  have hE:=Ae hE fm (Nat.le_trans gw (by omega))
  have c:=kb fm c (by omega)
  have bh:=Ae bh fm (Nat.le_trans js (by omega))
  have bu:=AU bu fm o1
  have cd:=Ae cd fm (Nat.le_trans (Nat.le_refl _) (by omega))
  clear aj
  have aj:=jt;clear jt
  have aat:=bl aj
  refine oZ (tN (ox _ _ (sk fun aau o2=>(wt (oS rfl (Yk.mkFunc (vs:= #[PQ am 0]) (by simp only[List.map_toArray,List.map_cons,List.map_nil];exact congrArg List.toArray (Fi (vr (PQ am 0) rfl))) (oS rfl (Yk.alloc (cs:=([Value.nilFunc]).toArray) DJ fun bi o3 ju jv eh aav=> ?_))))))))
  have o4:=hE.size
  have o5:=bh.size
  have o6:=cd.size
  have aaw:=Bo (bl c) ju
  have aax:=Bo (bl aj) ju
  have o7:OB fj bi:=Bc bu (by omega)
  have hE:=hE.trans eh
  have c:=eb eh c
  have bh:=bh.trans eh
  have bu:=Stab.own _ _ _ _ _ _ _ _ bu eh
  have cd:=cd.trans eh
  have aj:=eb eh aj
  have a7:=jv;clear jv
  have aay:bi<o3.heap.size:=by omega
  refine oS rfl (Yk.storeC (i:=0) (v:= .func (.func 47) #[] #[PQ am 0]) (vr (PQ bi 0) rfl) (vr (.func (.func 47) #[] #[PQ am 0]) rfl) a7 (Nat.le_of_ble_eq_true rfl) wr6_isz89 rfl rfl fun aaz jw ei aa0=> ?_)
  have hE:=Ae hE ei (Nat.le_trans o4 (by omega))
  have c:=kb ei c (by omega)
  have bh:=Ae bh ei (Nat.le_trans o5 (by omega))
  have bu:=AU bu ei o7
  have cd:=Ae cd ei (Nat.le_trans o6 (by omega))
  have aj:=kb ei aj (by omega)
  clear a7
  have a7:=jw;clear jw
  have aa1:=bl a7
  refine oZ (tN (o2 _ _ (sk fun aa2 o8=>(wt (oS rfl (Yk.mkFunc (vs:= #[PQ bi 0,PQ am 0]) (by simp only[List.map_toArray,List.map_cons,List.map_nil];exact congrArg List.toArray (B1 (vr (PQ bi 0) rfl) (vr (PQ am 0) rfl))) (oA rfl (oZ (tN (o8 _ _ (sk fun aa3 o9=>(wt (oS rfl (Yk.cell1 Nx rfl (vr (PQ bi 0) rfl) (Ab a7 (show _=some (.func (.func 47) #[] #[PQ am 0]:Value)from rfl)) (oS rfl (Yk.fieldAt LK (vr (PQ j 0) rfl) (oS rfl (Yk.cell1 FI rfl (vr (PQ j 1) rfl) (Ab c (show(msgC x)[1]? =some (.int .i64 (x.1.session:Int):Value)from CU x)) (oS rfl (Yk.clo Ny (caps:= #[PQ am 0]) (vr (.func (.func 47) #[] #[PQ am 0]) rfl) #[.int .i64 (x.1.session:Int),PQ am 0] (by simp only[List.map_toArray,List.map_cons,List.map_nil,List.append_toArray,List.cons_append,List.nil_append];exact congrArg List.toArray (B1 (vr (.int .i64 (x.1.session:Int)) rfl) rfl)) ((Cf w _ hE am (by omega) fj ([(x.1.kind:UInt8)]) aj (RB.ofOwn bu) (by simp only[List.length_append,List.length_cons,List.length_nil];omega) x.1.session (by omega) (by omega)).mono ?_)))))))))))))))))))))
  rintro e ds ⟨hy,rfl,jx,cv,fo⟩
  refine⟨_,rfl,?_⟩
  have cv:=AC cv hE.size
  have hE:=Ae hE fo (Nat.le_trans gw (by omega))
  have c:=kb fo c (by omega)
  have bh:=Ae bh fo (Nat.le_trans js (by omega))
  clear bu
  have cd:=Ae cd fo (Nat.le_trans (Nat.le_refl _) (by omega))
  clear aj
  have a7:=kb fo a7 (by omega)
  have aj:=jx;clear jx
  have aa4:=bl aj
  refine oZ (tN (o9 _ _ (sk fun aa5 pa=> ?_)))
  have pb:=hE.size
  have aa6:=bh.size
  have aa7:=cd.size
  have aa8:j<ds.heap.size:=(bl c)
  have aa9:bi<ds.heap.size:=(bl a7)
  have aba:am<ds.heap.size:=(bl aj)
  have pc:∀g,ds.heap.size≤g→OB hy g:=fun g hg=>Bc cv hg
  refine Cz 5 _ [fun x w' =>∃b,x = .map (some b)∧MapF B8 AH (fun _:UInt8=>True) w' b AV,Is (PQ j 0),Is (B8 (x.1.kind)),Is (.agg (partsC (⟨false,true,false,false,false,false,false,false⟩:Ai)).toArray),fun x w' =>∃g,x=PQ g 0∧w'.heap[g]? =some (.cells (partsC (⟨false,false,false,false,false,false,false,false⟩:Ai)).toArray 92 (0,0))∧ds.heap.size≤g] (by kernel_rfl) [23,24,25,26,7] (by kernel_rfl) (by kernel_rfl) (by kernel_rfl) rfl rfl rfl ⟨(fun _ _ _ ⟨b,h1,h2⟩ k=>⟨b,h1,MapF.keep h2 k⟩),Stab.is _,Stab.is _,Stab.is _,(fun _ _ _ ⟨g,h1,h2,h3⟩ k=>⟨g,h1,eb k h2,h3⟩),trivial⟩ ?pd ?hQ5007
  case pd=>
   refine⟨?_,?_,?_,?_,?_,?_,trivial⟩
   ·refine Aj (Aa rfl fun σ w1 hC h=>(Yk.callA0 J2 ((Cs _).mono ?_)))
    rintro e w2 ⟨b,rfl,hmk,hx,hom⟩
    exact⟨_,rfl,hx,⟨b,rfl,hmk⟩⟩
   ·refine Aj (Aa rfl fun σ w1 hC h=> ?_)
    have e1:σ 1=PQ j 0:=(Af (h 1 (by decide))).trans rfl
    exact Yk.fieldAt H8 e1 ⟨Ext.refl _,rfl⟩
   ·refine Aj (Aa rfl fun σ w1 hC h=> ?_)
    have bc:=Af (h 24 (by decide))
    exact Yk.cell1 u5 rfl bc (Ab (eb hC c) (show(msgC x)[0]? =some (B8 (x.1.kind):Value)from Bv x)) ⟨Ext.refl _,rfl⟩
   ·refine Aj (Aa rfl fun σ w1 hC h=> ?_)
    have bd:(fun x w' =>∃b,x = .map (some b)∧MapF B8 AH (fun _:UInt8=>True) w' b AV) (σ 23) w1:=h 23 (by decide)
    have be:=Af (h 25 (by decide))
    obtain⟨b6,k6,m6⟩:=(show ∃b,σ 23 = .map (some b)∧MapF B8 AH (fun _:UInt8=>True) w1 b AV from bd)
    exact Yk.lookMS (ek:=B8) (ev:=AH) (D:=fun _:UInt8=>True) CE CF (fun _ _=>Dv) C8 (z:=AH BA) Cr k6 be m6 trivial hK ⟨Ext.refl _,rfl⟩
   ·refine Aj (Aa rfl fun σ w1 hC h=> ?_)
    exact Yk.alloc (cs:=(partsC (⟨false,false,false,false,false,false,false,false⟩:Ai)).toArray) J3 fun g w2 hn hb hx hs=>⟨hx,g,rfl,hb,Nat.le_trans (show Ext ds w1 from hC).size (Nat.le_of_eq hn)⟩
   ·exact trivial
  intro hz pe fp he hf
  obtain⟨-,-,-,k26,k7,-⟩:=hf
  obtain⟨T0,T1,T2,T3,y,T5,T6,-⟩:=he.hold [(0,_),(1,PQ j 0),(2,(Value.slice none 0 0)),(3,NI 0),(4,PQ am 0),(5,PQ bi 0),(6, .func (.func 49) #[] #[PQ bi 0,PQ am 0])] ⟨T0,rfl,rfl,rfl,rfl,rfl,rfl,trivial⟩ rfl
  clear he
  have hE:=hE.trans fp
  have c:=eb fp c
  have a7:=eb fp a7
  have aj:=eb fp aj
  have cv:=Stab.own _ _ _ _ _ _ _ _ cv fp
  have bf:hz 26 = .agg (partsC (⟨false,true,false,false,false,false,false,false⟩:Ai)).toArray:=k26
  have k7:(fun x w' =>∃g,x=PQ g 0∧w'.heap[g]? =some (.cells (partsC (⟨false,false,false,false,false,false,false,false⟩:Ai)).toArray 92 (0,0))∧ds.heap.size≤g) (hz 7) pe:=k7
  obtain⟨abb,f⟩:∃v,hz 7=v:=⟨_,rfl⟩
  rw[f]at k7
  have pf:=k7;clear k7
  obtain⟨cj,rfl,a6,pg⟩:=pf
  have abc:=bl a6
  have ph:OB hy cj:=pc _ pg
  clear k26
  refine(Yk.storeAll f bf a6 (by simp only[List.size_toArray,BI]) (Au (BI _) Gt) (Cp (x:=(⟨false,true,false,false,false,false,false,false⟩:Ai))) fun pi jy fq abd=> ?_)
  have hE:=Ae hE fq (Nat.le_trans pb (by omega))
  have c:=kb fq c (by omega)
  have a7:=kb fq a7 (by omega)
  have aj:=kb fq aj (by omega)
  have cv:=AU cv fq ph
  clear a6
  have a6:pi.heap[cj]? =some (.cells (partsC (⟨false,true,false,false,false,false,false,false⟩:Ai)).toArray 92 (0,0)):=jy;clear jy
  have abe:=bl a6
  refine tN (pa _ _ (sk fun abf pj=>(sk fun abg pk=>(wt (oS rfl (Yk.fieldAt LD f (oS rfl (Yk.cell1 De rfl (vr (PQ cj 0) rfl) (Ab a6 (show(partsC (⟨false,true,false,false,false,false,false,false⟩:Ai))[0]? =some (.bool (false):Value)from BW (⟨false,true,false,false,false,false,false,false⟩:Ai))) (oZ (tN (pk _ _ (Am (vr (.bool (false)) rfl) (Ak (tN (pj _ _ (sk fun abh pl=>(sk fun abi pm=>(wt (oS rfl (Yk.fieldAt LE f (oS rfl (Yk.cell1 De rfl (vr (PQ cj 1) rfl) (Ab a6 (show(partsC (⟨false,true,false,false,false,false,false,false⟩:Ai))[1]? =some (.bool (true):Value)from BX (⟨false,true,false,false,false,false,false,false⟩:Ai))) ?_))))))))))))))))))))))
  refine oZ (tN (pm _ _ (At (vr (.bool (true)) rfl) (sk fun abj pn=>(wt (oM rfl (oS rfl (Yk.fieldAt H1 T1 (oS rfl (Yk.cell1 Bw rfl (vr (PQ j 3) rfl) (Ab c (show(msgC x)[3]? =some (x.2.wants:Value)from DE x)) (oS rfl (Yk.clo J7 (caps:= #[PQ bi 0,PQ am 0]) T6 #[x.2.wants,PQ bi 0,PQ am 0] (by simp only[List.map_toArray,List.map_cons,List.map_nil,List.append_toArray,List.cons_append,List.nil_append];exact congrArg List.toArray (NT (vr x.2.wants rfl) rfl rfl)) ((enc2_any w _ hE am bi (by omega) (by omega) (by omega) hy (([(x.1.kind:UInt8)]:List UInt8)++Lib.uvarint x.1.session.toNat) aj (RB.ofOwn cv) a7 _ x.1.wants hm.wants (by omega) (by simp only[List.length_append,List.length_cons,List.length_nil];omega)).mono ?_)))))))))))))
  rintro e abk ⟨po,rfl,jz,gx,abl,gy⟩
  refine⟨_,rfl,?_⟩
  have gx:=AC gx hE.size
  have hidlq452:=FW (RG.lens hm.wants) (by omega)
  have hE:=Ae hE gy (Nat.le_trans gw (by omega))
  have c:=kb gy c (by omega)
  have a7:=kb gy a7 (by omega)
  clear aj
  clear cv
  have a6:=kb gy a6 (by omega)
  have aj:=jz;clear jz
  have abm:=bl aj
  refine oZ (tN (pn _ _ (wt (oM rfl (oS rfl (Yk.fieldAt H2 T1 (oS rfl (Yk.cell1 Bw rfl (vr (PQ j 4) rfl) (Ab c (show(msgC x)[4]? =some (x.2.haves:Value)from DF x)) (oS rfl (Yk.clo J7 (caps:= #[PQ bi 0,PQ am 0]) T6 #[x.2.haves,PQ bi 0,PQ am 0] (by simp only[List.map_toArray,List.map_cons,List.map_nil,List.append_toArray,List.cons_append,List.nil_append];exact congrArg List.toArray (NT (vr x.2.haves rfl) rfl rfl)) ((enc2_any w _ hE am bi (by omega) (by omega) (by omega) po ((([(x.1.kind:UInt8)]:List UInt8)++Lib.uvarint x.1.session.toNat:List UInt8)++CK x.1.wants) aj (RB.ofOwn gx) a7 _ x.1.haves hm.haves (by omega) (by simp only[List.length_append,List.length_cons,List.length_nil];omega)).mono ?_)))))))))))
  rintro e abn ⟨gz,rfl,j0,h0,abo,h4⟩
  refine⟨_,rfl,?_⟩
  have h0:=AC h0 hE.size
  have hidlq463:=FW (RG.lens hm.haves) (by omega)
  have hE:=Ae hE h4 (Nat.le_trans gw (by omega))
  have c:=kb h4 c (by omega)
  have a6:=kb h4 a6 (by omega)
  clear aj
  clear gx
  have aj:=j0;clear j0
  have abp:=bl aj
  refine oZ (tN (pl _ _ (sk fun abq pp=>(sk fun abr pq=>(wt (oS rfl (Yk.fieldAt LF f (oS rfl (Yk.cell1 De rfl (vr (PQ cj 2) rfl) (Ab a6 (show(partsC (⟨false,true,false,false,false,false,false,false⟩:Ai))[2]? =some (.bool (false):Value)from BY (⟨false,true,false,false,false,false,false,false⟩:Ai))) (oZ (tN (pq _ _ (Am (vr (.bool (false)) rfl) (Ak (tN (pp _ _ (sk fun abs pr=>(sk fun abt ps=>(wt (oS rfl (Yk.fieldAt LG f ?_)))))))))))))))))))))
  refine oS rfl (Yk.cell1 De rfl (vr (PQ cj 3) rfl) (Ab a6 (show(partsC (⟨false,true,false,false,false,false,false,false⟩:Ai))[3]? =some (.bool (false):Value)from BZ (⟨false,true,false,false,false,false,false,false⟩:Ai))) (oZ (tN (ps _ _ (Am (vr (.bool (false)) rfl) (Ak (tN (pr _ _ (sk fun abu pt=>(sk fun abv pu=>(wt (oS rfl (Yk.fieldAt LH f (oS rfl (Yk.cell1 De rfl (vr (PQ cj 4) rfl) (Ab a6 (show(partsC (⟨false,true,false,false,false,false,false,false⟩:Ai))[4]? =some (.bool (false):Value)from B0 (⟨false,true,false,false,false,false,false,false⟩:Ai))) (oZ (tN (pu _ _ (Am (vr (.bool (false)) rfl) (Ak (tN (pt _ _ ?_))))))))))))))))))))))
  refine sk fun abw pv=>(sk fun abx pw=>(wt (oS rfl (Yk.fieldAt H5 f (oS rfl (Yk.cell1 De rfl (vr (PQ cj 5) rfl) (Ab a6 (show(partsC (⟨false,true,false,false,false,false,false,false⟩:Ai))[5]? =some (.bool (false):Value)from BP (⟨false,true,false,false,false,false,false,false⟩:Ai))) (oZ (tN (pw _ _ (Am (vr (.bool (false)) rfl) (Ak (tN (pv _ _ (sk fun aby px=>(sk fun abz py=>(wt (oS rfl (Yk.fieldAt H6 f (oS rfl (Yk.cell1 De rfl (vr (PQ cj 6) rfl) (Ab a6 (show(partsC (⟨false,true,false,false,false,false,false,false⟩:Ai))[6]? =some (.bool (false):Value)from BQ (⟨false,true,false,false,false,false,false,false⟩:Ai))) (oZ ?_)))))))))))))))))))))
  refine tN (py _ _ (Am (vr (.bool (false)) rfl) (Ak (tN (px _ _ (sk fun ab0 pz=>(sk fun ab1 p0=>(wt (oS rfl (Yk.fieldAt LJ f (oS rfl (Yk.cell1 De rfl (vr (PQ cj 7) rfl) (Ab a6 (show(partsC (⟨false,true,false,false,false,false,false,false⟩:Ai))[7]? =some (.bool (false):Value)from BR (⟨false,true,false,false,false,false,false,false⟩:Ai))) (oZ (tN (p0 _ _ (Am (vr (.bool (false)) rfl) (Ak (tN (pz _ _ (sk fun ab2 p1=>(wt ?_)))))))))))))))))))))
  refine oS rfl (Yk.cell1 El rfl y (Ab aj (show _=some (gz:Value)from rfl)) (oA rfl (oA rfl (oZ (tN (p1 _ _ (Ao (An (fn:=Tryd.f16) _ rfl [gz,NI 0] (.tuple #[gz,NI 0]) rfl ⟨rfl,rfl,trivial⟩ ?_))))))))
  have hen:((([(x.1.kind:UInt8)]:List UInt8)++Lib.uvarint x.1.session.toNat:List UInt8)++CK x.1.wants:List UInt8)++CK x.1.haves=encB x.1:=by unfold encB Ba;rw[hk];simp[List.append_assoc]
  exact⟨gz,by rw[hR];rfl,by rw[hR,if_pos rfl,←hen];exact RB.ofOwn h0,hE⟩
 ·refine Ak (tN (c8 _ _ (sk fun ab3 p2=>(wt (oS rfl (Yk.fieldAt H8 (vr (PQ j 0) rfl) (oS rfl (Yk.cell1 u5 rfl (vr (PQ j 0) rfl) (Ab c (show(msgC x)[0]? =some (B8 (x.1.kind):Value)from Bv x)) (oS rfl (Yk.lit1 (b:=x.1.kind) CA (vr (B8 (x.1.kind)) rfl) fun fr p3 fs=> ?_))))))))))
  have bj:=Ext.refl c9
  have ab4:=hE.size
  have hE:=hE.trans fs.ext
  have c:=eb fs.ext c
  have bj:=bj.trans fs.ext
  have bv:=fs.own;clear fs
  refine oS rfl (Yk.alloc (cs:=([(Value.slice none 0 0)]).toArray) DI fun an p4 p5 j1 ft ab5=> ?_)
  have ay:=Ext.refl p3
  have g0:=hE.size
  have j2:=bj.size
  have ab6:=Bo (bl c) p5
  have p6:OB fr an:=Bc bv (by omega)
  have hE:=hE.trans ft
  have c:=eb ft c
  have bj:=bj.trans ft
  have bv:=Stab.own _ _ _ _ _ _ _ _ bv ft
  have ay:=ay.trans ft
  have af:=j1;clear j1
  have ab7:an<p4.heap.size:=by omega
  refine oS rfl (Yk.storeC (i:=0) (v:=fr) (vr (PQ an 0) rfl) (vr fr rfl) af (Nat.le_of_ble_eq_true rfl) IX (A6 bv).1 (A6 bv).2 fun ab8 j3 fu ab9=> ?_)
  have hE:=Ae hE fu (Nat.le_trans g0 (by omega))
  have c:=kb fu c (by omega)
  have bj:=Ae bj fu (Nat.le_trans j2 (by omega))
  have bv:=AU bv fu p6
  have ay:=Ae ay fu (Nat.le_trans (Nat.le_refl _) (by omega))
  clear af
  have af:=j3;clear j3
  have aca:=bl af
  refine oZ (tN (p2 _ _ (sk fun acb p7=>(wt (oS rfl (Yk.mkFunc (vs:= #[PQ an 0]) (by simp only[List.map_toArray,List.map_cons,List.map_nil];exact congrArg List.toArray (Fi (vr (PQ an 0) rfl))) (oS rfl (Yk.alloc (cs:=([Value.nilFunc]).toArray) DJ fun cw p8 j4 j5 ej acc=> ?_))))))))
  have p9:=hE.size
  have qa:=bj.size
  have qb:=ay.size
  have acd:=Bo (bl c) j4
  have ace:=Bo (bl af) j4
  have qc:OB fr cw:=Bc bv (by omega)
  have hE:=hE.trans ej
  have c:=eb ej c
  have bj:=bj.trans ej
  have bv:=Stab.own _ _ _ _ _ _ _ _ bv ej
  have ay:=ay.trans ej
  have af:=eb ej af
  have b5:=j5;clear j5
  have acf:cw<p8.heap.size:=by omega
  refine oS rfl (Yk.storeC (i:=0) (v:= .func (.func 47) #[] #[PQ an 0]) (vr (PQ cw 0) rfl) (vr (.func (.func 47) #[] #[PQ an 0]) rfl) b5 (Nat.le_of_ble_eq_true rfl) wr6_isz89 rfl rfl fun acg j6 el ach=> ?_)
  have hE:=Ae hE el (Nat.le_trans p9 (by omega))
  have c:=kb el c (by omega)
  have bj:=Ae bj el (Nat.le_trans qa (by omega))
  have bv:=AU bv el qc
  have ay:=Ae ay el (Nat.le_trans qb (by omega))
  have af:=kb el af (by omega)
  clear b5
  have b5:=j6;clear j6
  have aci:=bl b5
  refine oZ (tN (p7 _ _ (sk fun acj qd=>(wt (oS rfl (Yk.mkFunc (vs:= #[PQ cw 0,PQ an 0]) (by simp only[List.map_toArray,List.map_cons,List.map_nil];exact congrArg List.toArray (B1 (vr (PQ cw 0) rfl) (vr (PQ an 0) rfl))) (oA rfl (oZ (tN (qd _ _ (sk fun ack qe=>(wt (oS rfl (Yk.cell1 Nx rfl (vr (PQ cw 0) rfl) (Ab b5 (show _=some (.func (.func 47) #[] #[PQ an 0]:Value)from rfl)) (oS rfl (Yk.fieldAt LK (vr (PQ j 0) rfl) (oS rfl (Yk.cell1 FI rfl (vr (PQ j 1) rfl) (Ab c (show(msgC x)[1]? =some (.int .i64 (x.1.session:Int):Value)from CU x)) (oS rfl (Yk.clo Ny (caps:= #[PQ an 0]) (vr (.func (.func 47) #[] #[PQ an 0]) rfl) #[.int .i64 (x.1.session:Int),PQ an 0] (by simp only[List.map_toArray,List.map_cons,List.map_nil,List.append_toArray,List.cons_append,List.nil_append];exact congrArg List.toArray (B1 (vr (.int .i64 (x.1.session:Int)) rfl) rfl)) ((Cf w _ hE an (by omega) fr ([(x.1.kind:UInt8)]) af (RB.ofOwn bv) (by simp only[List.length_append,List.length_cons,List.length_nil];omega) x.1.session (by omega) (by omega)).mono ?_)))))))))))))))))))))
  rintro e dt ⟨h5,rfl,j7,cx,fv⟩
  refine⟨_,rfl,?_⟩
  have cx:=AC cx hE.size
  have hE:=Ae hE fv (Nat.le_trans g0 (by omega))
  have c:=kb fv c (by omega)
  have bj:=Ae bj fv (Nat.le_trans j2 (by omega))
  clear bv
  have ay:=Ae ay fv (Nat.le_trans (Nat.le_refl _) (by omega))
  clear af
  have b5:=kb fv b5 (by omega)
  have af:=j7;clear j7
  have acl:=bl af
  refine oZ (tN (qe _ _ (sk fun acm qf=> ?_)))
  have qg:=hE.size
  have acn:=bj.size
  have qh:=ay.size
  have aco:j<dt.heap.size:=(bl c)
  have acp:cw<dt.heap.size:=(bl b5)
  have acq:an<dt.heap.size:=(bl af)
  have qi:∀g,dt.heap.size≤g→OB h5 g:=fun g hg=>Bc cx hg
  refine Cz 5 _ [fun x w' =>∃b,x = .map (some b)∧MapF B8 AH (fun _:UInt8=>True) w' b AV,Is (PQ j 0),Is (B8 (x.1.kind)),Is (.agg (partsC (⟨false,false,true,false,true,false,false,false⟩:Ai)).toArray),fun x w' =>∃g,x=PQ g 0∧w'.heap[g]? =some (.cells (partsC (⟨false,false,false,false,false,false,false,false⟩:Ai)).toArray 92 (0,0))∧dt.heap.size≤g] (by kernel_rfl) [23,24,25,26,7] (by kernel_rfl) (by kernel_rfl) (by kernel_rfl) rfl rfl rfl ⟨(fun _ _ _ ⟨b,h1,h2⟩ k=>⟨b,h1,MapF.keep h2 k⟩),Stab.is _,Stab.is _,Stab.is _,(fun _ _ _ ⟨g,h1,h2,h3⟩ k=>⟨g,h1,eb k h2,h3⟩),trivial⟩ ?qj ?hQ6007
  case qj=>
   refine⟨?_,?_,?_,?_,?_,?_,trivial⟩
   ·refine Aj (Aa rfl fun σ w1 hC h=>(Yk.callA0 J2 ((Cs _).mono ?_)))
    rintro e w2 ⟨b,rfl,hmk,hx,hom⟩
    exact⟨_,rfl,hx,⟨b,rfl,hmk⟩⟩
   ·refine Aj (Aa rfl fun σ w1 hC h=> ?_)
    have e1:σ 1=PQ j 0:=(Af (h 1 (by decide))).trans rfl
    exact Yk.fieldAt H8 e1 ⟨Ext.refl _,rfl⟩
   ·refine Aj (Aa rfl fun σ w1 hC h=> ?_)
    have bc:=Af (h 24 (by decide))
    exact Yk.cell1 u5 rfl bc (Ab (eb hC c) (show(msgC x)[0]? =some (B8 (x.1.kind):Value)from Bv x)) ⟨Ext.refl _,rfl⟩
   ·refine Aj (Aa rfl fun σ w1 hC h=> ?_)
    have bd:(fun x w' =>∃b,x = .map (some b)∧MapF B8 AH (fun _:UInt8=>True) w' b AV) (σ 23) w1:=h 23 (by decide)
    have be:=Af (h 25 (by decide))
    obtain⟨b6,k6,m6⟩:=(show ∃b,σ 23 = .map (some b)∧MapF B8 AH (fun _:UInt8=>True) w1 b AV from bd)
    exact Yk.lookMS (ek:=B8) (ev:=AH) (D:=fun _:UInt8=>True) CE CF (fun _ _=>Dv) C8 (z:=AH BA) Cr k6 be m6 trivial hK ⟨Ext.refl _,rfl⟩
   ·refine Aj (Aa rfl fun σ w1 hC h=> ?_)
    exact Yk.alloc (cs:=(partsC (⟨false,false,false,false,false,false,false,false⟩:Ai)).toArray) J3 fun g w2 hn hb hx hs=>⟨hx,g,rfl,hb,Nat.le_trans (show Ext dt w1 from hC).size (Nat.le_of_eq hn)⟩
   ·exact trivial
  intro h6 qk em he hf
  obtain⟨-,-,-,k26,k7,-⟩:=hf
  obtain⟨T0,T1,T2,T3,y,T5,T6,-⟩:=he.hold [(0,_),(1,PQ j 0),(2,(Value.slice none 0 0)),(3,NI 0),(4,PQ an 0),(5,PQ cw 0),(6, .func (.func 49) #[] #[PQ cw 0,PQ an 0])] ⟨T0,rfl,rfl,rfl,rfl,rfl,rfl,trivial⟩ rfl
  clear he
  have hE:=hE.trans em
  have c:=eb em c
  have ay:=ay.trans em
  have b5:=eb em b5
  have af:=eb em af
  have cx:=Stab.own _ _ _ _ _ _ _ _ cx em
  have bf:h6 26 = .agg (partsC (⟨false,false,true,false,true,false,false,false⟩:Ai)).toArray:=k26
  have k7:(fun x w' =>∃g,x=PQ g 0∧w'.heap[g]? =some (.cells (partsC (⟨false,false,false,false,false,false,false,false⟩:Ai)).toArray 92 (0,0))∧dt.heap.size≤g) (h6 7) qk:=k7
  obtain⟨acr,f⟩:∃v,h6 7=v:=⟨_,rfl⟩
  rw[f]at k7
  have ql:=k7;clear k7
  obtain⟨ck,rfl,az,qm⟩:=ql
  have acs:=bl az
  have qn:OB h5 ck:=qi _ qm
  clear k26
  refine(Yk.storeAll f bf az (by simp only[List.size_toArray,BI]) (Au (BI _) Gt) (Cp (x:=(⟨false,false,true,false,true,false,false,false⟩:Ai))) fun qo j8 en act=> ?_)
  have hE:=Ae hE en (Nat.le_trans qg (by omega))
  have c:=kb en c (by omega)
  have ay:=Ae ay en (Nat.le_trans qh (by omega))
  have b5:=kb en b5 (by omega)
  have af:=kb en af (by omega)
  have cx:=AU cx en qn
  clear az
  have az:qo.heap[ck]? =some (.cells (partsC (⟨false,false,true,false,true,false,false,false⟩:Ai)).toArray 92 (0,0)):=j8;clear j8
  have acu:=bl az
  refine tN (qf _ _ (sk fun acv qp=>(sk fun acw qq=>(wt (oS rfl (Yk.fieldAt LD f (oS rfl (Yk.cell1 De rfl (vr (PQ ck 0) rfl) (Ab az (show(partsC (⟨false,false,true,false,true,false,false,false⟩:Ai))[0]? =some (.bool (false):Value)from BW (⟨false,false,true,false,true,false,false,false⟩:Ai))) (oZ (tN (qq _ _ (Am (vr (.bool (false)) rfl) (Ak (tN (qp _ _ (sk fun acx qr=>(sk fun acy qs=>(wt (oS rfl (Yk.fieldAt LE f (oS rfl (Yk.cell1 De rfl (vr (PQ ck 1) rfl) (Ab az (show(partsC (⟨false,false,true,false,true,false,false,false⟩:Ai))[1]? =some (.bool (false):Value)from BX (⟨false,false,true,false,true,false,false,false⟩:Ai))) ?_))))))))))))))))))))))
  refine oZ (tN (qs _ _ (Am (vr (.bool (false)) rfl) (Ak (tN (qr _ _ (sk fun acz qt=>(sk fun ac0 qu=>(wt (oS rfl (Yk.fieldAt LF f (oS rfl (Yk.cell1 De rfl (vr (PQ ck 2) rfl) (Ab az (show(partsC (⟨false,false,true,false,true,false,false,false⟩:Ai))[2]? =some (.bool (true):Value)from BY (⟨false,false,true,false,true,false,false,false⟩:Ai))) (oZ (tN (qu _ _ (At (vr (.bool (true)) rfl) (wt (oS rfl (Yk.cell1 Nx rfl T5 (Ab b5 (show _=some (.func (.func 47) #[] #[PQ an 0]:Value)from rfl)) (oS rfl (Yk.fieldAt H3 T1 ?_))))))))))))))))))))))
  refine oS rfl (Yk.cell1 FI rfl (vr (PQ j 5) rfl) (Ab c (show(msgC x)[5]? =some (.int .i64 (x.1.size:Int):Value)from Dq x)) (oS rfl (Yk.clo Ny (caps:= #[PQ an 0]) (vr (.func (.func 47) #[] #[PQ an 0]) rfl) #[.int .i64 (x.1.size:Int),PQ an 0] (by simp only[List.map_toArray,List.map_cons,List.map_nil,List.append_toArray,List.cons_append,List.nil_append];exact congrArg List.toArray (B1 (vr (.int .i64 (x.1.size:Int)) rfl) rfl)) ((Cf w _ hE an (by omega) h5 (([(x.1.kind:UInt8)]:List UInt8)++Lib.uvarint x.1.session.toNat) af (RB.ofOwn cx) (by simp only[List.length_append,List.length_cons,List.length_nil];omega) x.1.size (by omega) (by omega)).mono ?_))))
  rintro e ac1 ⟨h7,rfl,j9,g1,g2⟩
  refine⟨_,rfl,?_⟩
  have g1:=AC g1 hE.size
  have hE:=Ae hE g2 (Nat.le_trans g0 (by omega))
  have c:=kb g2 c (by omega)
  have ay:=Ae ay g2 (Nat.le_trans (Nat.le_refl _) (by omega))
  clear af
  clear cx
  have az:=kb g2 az (by omega)
  have af:=j9;clear j9
  have ac2:=bl af
  refine oZ (tN (qt _ _ (sk fun ac3 qv=>(sk fun ac4 qw=>(wt (oS rfl (Yk.fieldAt LG f (oS rfl (Yk.cell1 De rfl (vr (PQ ck 3) rfl) (Ab az (show(partsC (⟨false,false,true,false,true,false,false,false⟩:Ai))[3]? =some (.bool (false):Value)from BZ (⟨false,false,true,false,true,false,false,false⟩:Ai))) (oZ (tN (qw _ _ (Am (vr (.bool (false)) rfl) (Ak (tN (qv _ _ (sk fun ac5 qx=>(sk fun ac6 qy=>(wt (oS rfl (Yk.fieldAt LH f ?_)))))))))))))))))))))
  refine oS rfl (Yk.cell1 De rfl (vr (PQ ck 4) rfl) (Ab az (show(partsC (⟨false,false,true,false,true,false,false,false⟩:Ai))[4]? =some (.bool (true):Value)from B0 (⟨false,false,true,false,true,false,false,false⟩:Ai))) (oZ (tN (qy _ _ (At (vr (.bool (true)) rfl) (wt (oS rfl (Yk.cell1 El rfl y (Ab af (show _=some (h7:Value)from rfl)) (oS rfl (Yk.fieldAt LI T1 (oS rfl (Yk.loadPR (PR.blk c (CM x) (CV x) (vr (PQ j 7) rfl)) NV rfl (Aw x.1.id.2) (oS rfl (Yk.callA2 E4 (vr h7 rfl) (vr (AB x.1.id.1) rfl) ((ED _ h7 ((([(x.1.kind:UInt8)]:List UInt8)++Lib.uvarint x.1.session.toNat:List UInt8)++Lib.uvarint x.1.size.toNat) (RB.ofOwn g1) (by simp only[List.length_append,List.length_cons,List.length_nil];omega) x.1.id).mono ?_)))))))))))))))
  rintro e ac7 ⟨du,rfl,dv⟩
  refine⟨_,rfl,?_⟩
  have qz:=hE.size
  have ac8:=hE.size
  have ac9:=ay.size
  have q0:OB du an:=AY dv.own (bl af)
  have hE:=hE.trans dv.ext
  have c:=eb dv.ext c
  have az:=eb dv.ext az
  have af:=eb dv.ext af
  have dw:=dv.own;clear dv
  have dw:=AC dw qz
  refine oS rfl (Yk.storeC (i:=0) (v:=du) y (vr du rfl) af (Nat.le_of_ble_eq_true rfl) IX (A6 dw).1 (A6 dw).2 fun ada ka g3 adb=> ?_)
  have hE:=Ae hE g3 (Nat.le_trans g0 (by omega))
  have c:=kb g3 c (by omega)
  have az:=kb g3 az (by omega)
  clear af
  have dw:=AU dw g3 q0
  have af:=ka;clear ka
  have adc:=bl af
  refine oZ ?_
  clear g1
  refine tN (qx _ _ (sk fun add q1=>(sk fun ade q2=>(wt (oS rfl (Yk.fieldAt H5 f (oS rfl (Yk.cell1 De rfl (vr (PQ ck 5) rfl) (Ab az (show(partsC (⟨false,false,true,false,true,false,false,false⟩:Ai))[5]? =some (.bool (false):Value)from BP (⟨false,false,true,false,true,false,false,false⟩:Ai))) (oZ (tN (q2 _ _ (Am (vr (.bool (false)) rfl) (Ak (tN (q1 _ _ (sk fun adf q3=>(sk fun adg q4=>(wt (oS rfl (Yk.fieldAt H6 f (oS rfl (Yk.cell1 De rfl (vr (PQ ck 6) rfl) (Ab az (show(partsC (⟨false,false,true,false,true,false,false,false⟩:Ai))[6]? =some (.bool (false):Value)from BQ (⟨false,false,true,false,true,false,false,false⟩:Ai))) ?_))))))))))))))))))))))
  refine oZ (tN (q4 _ _ (Am (vr (.bool (false)) rfl) (Ak (tN (q3 _ _ (sk fun adh q5=>(sk fun adi q6=>(wt (oS rfl (Yk.fieldAt LJ f (oS rfl (Yk.cell1 De rfl (vr (PQ ck 7) rfl) (Ab az (show(partsC (⟨false,false,true,false,true,false,false,false⟩:Ai))[7]? =some (.bool (false):Value)from BR (⟨false,false,true,false,true,false,false,false⟩:Ai))) (oZ (tN (q6 _ _ (Am (vr (.bool (false)) rfl) (Ak (tN (q5 _ _ (sk fun adj q7=> ?_)))))))))))))))))))))
  refine wt (oS rfl (Yk.cell1 El rfl y (Ab af (show _=some (du:Value)from rfl)) (oA rfl (oA rfl (oZ (tN (q7 _ _ (Ao (An (fn:=Tryd.f16) _ rfl [du,NI 0] (.tuple #[du,NI 0]) rfl ⟨rfl,rfl,trivial⟩ ?_)))))))))
  have hen:((([(x.1.kind:UInt8)]:List UInt8)++Lib.uvarint x.1.session.toNat:List UInt8)++Lib.uvarint x.1.size.toNat:List UInt8)++x.1.id.1=encB x.1:=by unfold encB Ba;rw[hk];simp[List.append_assoc]
  exact⟨du,by rw[hR];rfl,by rw[hR,if_pos rfl,←hen];exact RB.ofOwn dw,hE⟩
 ·refine Ak (tN (c8 _ _ (sk fun adk q8=>(wt (oS rfl (Yk.fieldAt H8 (vr (PQ j 0) rfl) (oS rfl (Yk.cell1 u5 rfl (vr (PQ j 0) rfl) (Ab c (show(msgC x)[0]? =some (B8 (x.1.kind):Value)from Bv x)) (oS rfl (Yk.lit1 (b:=x.1.kind) CA (vr (B8 (x.1.kind)) rfl) fun fw q9 fx=> ?_))))))))))
  have bk:=Ext.refl c9
  have adl:=hE.size
  have hE:=hE.trans fx.ext
  have c:=eb fx.ext c
  have bk:=bk.trans fx.ext
  have bw:=fx.own;clear fx
  refine oS rfl (Yk.alloc (cs:=([(Value.slice none 0 0)]).toArray) DI fun ar ra rb kc fy adm=> ?_)
  have ce:=Ext.refl q9
  have h8:=hE.size
  have kd:=bk.size
  have adn:=Bo (bl c) rb
  have rc:OB fw ar:=Bc bw (by omega)
  have hE:=hE.trans fy
  have c:=eb fy c
  have bk:=bk.trans fy
  have bw:=Stab.own _ _ _ _ _ _ _ _ bw fy
  have ce:=ce.trans fy
  have ao:=kc;clear kc
  have ado:ar<ra.heap.size:=by omega
  refine oS rfl (Yk.storeC (i:=0) (v:=fw) (vr (PQ ar 0) rfl) (vr fw rfl) ao (Nat.le_of_ble_eq_true rfl) IX (A6 bw).1 (A6 bw).2 fun adp ke fz adq=> ?_)
  have hE:=Ae hE fz (Nat.le_trans h8 (by omega))
  have c:=kb fz c (by omega)
  have bk:=Ae bk fz (Nat.le_trans kd (by omega))
  have bw:=AU bw fz rc
  have ce:=Ae ce fz (Nat.le_trans (Nat.le_refl _) (by omega))
  clear ao
  have ao:=ke;clear ke
  have adr:=bl ao
  refine oZ (tN (q8 _ _ (sk fun ads rd=>(wt (oS rfl (Yk.mkFunc (vs:= #[PQ ar 0]) (by simp only[List.map_toArray,List.map_cons,List.map_nil];exact congrArg List.toArray (Fi (vr (PQ ar 0) rfl))) (oS rfl (Yk.alloc (cs:=([Value.nilFunc]).toArray) DJ fun cy re kf kg eo adt=> ?_))))))))
  have rf:=hE.size
  have rg:=bk.size
  have rh:=ce.size
  have adu:=Bo (bl c) kf
  have adv:=Bo (bl ao) kf
  have ri:OB fw cy:=Bc bw (by omega)
  have hE:=hE.trans eo
  have c:=eb eo c
  have bk:=bk.trans eo
  have bw:=Stab.own _ _ _ _ _ _ _ _ bw eo
  have ce:=ce.trans eo
  have ao:=eb eo ao
  have b7:=kg;clear kg
  have adw:cy<re.heap.size:=by omega
  refine oS rfl (Yk.storeC (i:=0) (v:= .func (.func 47) #[] #[PQ ar 0]) (vr (PQ cy 0) rfl) (vr (.func (.func 47) #[] #[PQ ar 0]) rfl) b7 (Nat.le_of_ble_eq_true rfl) wr6_isz89 rfl rfl fun adx kh ep ady=> ?_)
  have hE:=Ae hE ep (Nat.le_trans rf (by omega))
  have c:=kb ep c (by omega)
  have bk:=Ae bk ep (Nat.le_trans rg (by omega))
  have bw:=AU bw ep ri
  have ce:=Ae ce ep (Nat.le_trans rh (by omega))
  have ao:=kb ep ao (by omega)
  clear b7
  have b7:=kh;clear kh
  have adz:=bl b7
  refine oZ (tN (rd _ _ (sk fun ad0 rj=>(wt (oS rfl (Yk.mkFunc (vs:= #[PQ cy 0,PQ ar 0]) (by simp only[List.map_toArray,List.map_cons,List.map_nil];exact congrArg List.toArray (B1 (vr (PQ cy 0) rfl) (vr (PQ ar 0) rfl))) (oA rfl (oZ (tN (rj _ _ (sk fun ad1 rk=>(wt (oS rfl (Yk.cell1 Nx rfl (vr (PQ cy 0) rfl) (Ab b7 (show _=some (.func (.func 47) #[] #[PQ ar 0]:Value)from rfl)) (oS rfl (Yk.fieldAt LK (vr (PQ j 0) rfl) (oS rfl (Yk.cell1 FI rfl (vr (PQ j 1) rfl) (Ab c (show(msgC x)[1]? =some (.int .i64 (x.1.session:Int):Value)from CU x)) (oS rfl (Yk.clo Ny (caps:= #[PQ ar 0]) (vr (.func (.func 47) #[] #[PQ ar 0]) rfl) #[.int .i64 (x.1.session:Int),PQ ar 0] (by simp only[List.map_toArray,List.map_cons,List.map_nil,List.append_toArray,List.cons_append,List.nil_append];exact congrArg List.toArray (B1 (vr (.int .i64 (x.1.session:Int)) rfl) rfl)) ((Cf w _ hE ar (by omega) fw ([(x.1.kind:UInt8)]) ao (RB.ofOwn bw) (by simp only[List.length_append,List.length_cons,List.length_nil];omega) x.1.session (by omega) (by omega)).mono ?_)))))))))))))))))))))
  rintro e dx ⟨h9,rfl,ki,cz,f0⟩
  refine⟨_,rfl,?_⟩
  have cz:=AC cz hE.size
  have hE:=Ae hE f0 (Nat.le_trans h8 (by omega))
  have c:=kb f0 c (by omega)
  have bk:=Ae bk f0 (Nat.le_trans kd (by omega))
  clear bw
  have ce:=Ae ce f0 (Nat.le_trans (Nat.le_refl _) (by omega))
  clear ao
  have b7:=kb f0 b7 (by omega)
  have ao:=ki;clear ki
  have ad2:=bl ao
  refine oZ (tN (rk _ _ (sk fun ad3 rl=> ?_)))
  have rm:=hE.size
  have ad4:=bk.size
  have ad5:=ce.size
  have ad6:j<dx.heap.size:=(bl c)
  have ad7:cy<dx.heap.size:=(bl b7)
  have ad8:ar<dx.heap.size:=(bl ao)
  have rn:∀g,dx.heap.size≤g→OB h9 g:=fun g hg=>Bc cz hg
  refine Cz 5 _ [fun x w' =>∃b,x = .map (some b)∧MapF B8 AH (fun _:UInt8=>True) w' b AV,Is (PQ j 0),Is (B8 (x.1.kind)),Is (.agg (partsC (⟨false,false,false,true,false,false,false,false⟩:Ai)).toArray),fun x w' =>∃g,x=PQ g 0∧w'.heap[g]? =some (.cells (partsC (⟨false,false,false,false,false,false,false,false⟩:Ai)).toArray 92 (0,0))∧dx.heap.size≤g] (by kernel_rfl) [23,24,25,26,7] (by kernel_rfl) (by kernel_rfl) (by kernel_rfl) rfl rfl rfl ⟨(fun _ _ _ ⟨b,h1,h2⟩ k=>⟨b,h1,MapF.keep h2 k⟩),Stab.is _,Stab.is _,Stab.is _,(fun _ _ _ ⟨g,h1,h2,h3⟩ k=>⟨g,h1,eb k h2,h3⟩),trivial⟩ ?ro ?hQ7007
  case ro=>
   refine⟨?_,?_,?_,?_,?_,?_,trivial⟩
   ·refine Aj (Aa rfl fun σ w1 hC h=>(Yk.callA0 J2 ((Cs _).mono ?_)))
    rintro e w2 ⟨b,rfl,hmk,hx,hom⟩
    exact⟨_,rfl,hx,⟨b,rfl,hmk⟩⟩
   ·refine Aj (Aa rfl fun σ w1 hC h=> ?_)
    have e1:σ 1=PQ j 0:=(Af (h 1 (by decide))).trans rfl
    exact Yk.fieldAt H8 e1 ⟨Ext.refl _,rfl⟩
   ·refine Aj (Aa rfl fun σ w1 hC h=> ?_)
    have bc:=Af (h 24 (by decide))
    exact Yk.cell1 u5 rfl bc (Ab (eb hC c) (show(msgC x)[0]? =some (B8 (x.1.kind):Value)from Bv x)) ⟨Ext.refl _,rfl⟩
   ·refine Aj (Aa rfl fun σ w1 hC h=> ?_)
    have bd:(fun x w' =>∃b,x = .map (some b)∧MapF B8 AH (fun _:UInt8=>True) w' b AV) (σ 23) w1:=h 23 (by decide)
    have be:=Af (h 25 (by decide))
    obtain⟨b6,k6,m6⟩:=(show ∃b,σ 23 = .map (some b)∧MapF B8 AH (fun _:UInt8=>True) w1 b AV from bd)
    exact Yk.lookMS (ek:=B8) (ev:=AH) (D:=fun _:UInt8=>True) CE CF (fun _ _=>Dv) C8 (z:=AH BA) Cr k6 be m6 trivial hK ⟨Ext.refl _,rfl⟩
   ·refine Aj (Aa rfl fun σ w1 hC h=> ?_)
    exact Yk.alloc (cs:=(partsC (⟨false,false,false,false,false,false,false,false⟩:Ai)).toArray) J3 fun g w2 hn hb hx hs=>⟨hx,g,rfl,hb,Nat.le_trans (show Ext dx w1 from hC).size (Nat.le_of_eq hn)⟩
   ·exact trivial
  intro ia rp f1 he hf
  obtain⟨-,-,-,k26,k7,-⟩:=hf
  obtain⟨T0,T1,T2,T3,y,T5,T6,-⟩:=he.hold [(0,_),(1,PQ j 0),(2,(Value.slice none 0 0)),(3,NI 0),(4,PQ ar 0),(5,PQ cy 0),(6, .func (.func 49) #[] #[PQ cy 0,PQ ar 0])] ⟨T0,rfl,rfl,rfl,rfl,rfl,rfl,trivial⟩ rfl
  clear he
  have hE:=hE.trans f1
  have c:=eb f1 c
  have b7:=eb f1 b7
  have ao:=eb f1 ao
  have cz:=Stab.own _ _ _ _ _ _ _ _ cz f1
  have bf:ia 26 = .agg (partsC (⟨false,false,false,true,false,false,false,false⟩:Ai)).toArray:=k26
  have k7:(fun x w' =>∃g,x=PQ g 0∧w'.heap[g]? =some (.cells (partsC (⟨false,false,false,false,false,false,false,false⟩:Ai)).toArray 92 (0,0))∧dx.heap.size≤g) (ia 7) rp:=k7
  obtain⟨ad9,f⟩:∃v,ia 7=v:=⟨_,rfl⟩
  rw[f]at k7
  have rq:=k7;clear k7
  obtain⟨cl,rfl,bm,rr⟩:=rq
  have aea:=bl bm
  have rs:OB h9 cl:=rn _ rr
  clear k26
  refine(Yk.storeAll f bf bm (by simp only[List.size_toArray,BI]) (Au (BI _) Gt) (Cp (x:=(⟨false,false,false,true,false,false,false,false⟩:Ai))) fun rt kj f2 aeb=> ?_)
  have hE:=Ae hE f2 (Nat.le_trans rm (by omega))
  have c:=kb f2 c (by omega)
  have b7:=kb f2 b7 (by omega)
  have ao:=kb f2 ao (by omega)
  have cz:=AU cz f2 rs
  clear bm
  have bm:rt.heap[cl]? =some (.cells (partsC (⟨false,false,false,true,false,false,false,false⟩:Ai)).toArray 92 (0,0)):=kj;clear kj
  have aec:=bl bm
  refine tN (rl _ _ (sk fun aed ru=>(sk fun aee rv=>(wt (oS rfl (Yk.fieldAt LD f (oS rfl (Yk.cell1 De rfl (vr (PQ cl 0) rfl) (Ab bm (show(partsC (⟨false,false,false,true,false,false,false,false⟩:Ai))[0]? =some (.bool (false):Value)from BW (⟨false,false,false,true,false,false,false,false⟩:Ai))) (oZ (tN (rv _ _ (Am (vr (.bool (false)) rfl) (Ak (tN (ru _ _ (sk fun aef rx=>(sk fun aeg ry=>(wt (oS rfl (Yk.fieldAt LE f (oS rfl (Yk.cell1 De rfl (vr (PQ cl 1) rfl) (Ab bm (show(partsC (⟨false,false,false,true,false,false,false,false⟩:Ai))[1]? =some (.bool (false):Value)from BX (⟨false,false,false,true,false,false,false,false⟩:Ai))) ?_))))))))))))))))))))))
  refine oZ (tN (ry _ _ (Am (vr (.bool (false)) rfl) (Ak (tN (rx _ _ (sk fun aeh rz=>(sk fun aei r0=>(wt (oS rfl (Yk.fieldAt LF f (oS rfl (Yk.cell1 De rfl (vr (PQ cl 2) rfl) (Ab bm (show(partsC (⟨false,false,false,true,false,false,false,false⟩:Ai))[2]? =some (.bool (false):Value)from BY (⟨false,false,false,true,false,false,false,false⟩:Ai))) (oZ (tN (r0 _ _ (Am (vr (.bool (false)) rfl) (Ak (tN (rz _ _ (sk fun aej r1=> ?_)))))))))))))))))))))
  refine sk fun aek r2=>(wt (oS rfl (Yk.fieldAt LG f (oS rfl (Yk.cell1 De rfl (vr (PQ cl 3) rfl) (Ab bm (show(partsC (⟨false,false,false,true,false,false,false,false⟩:Ai))[3]? =some (.bool (true):Value)from BZ (⟨false,false,false,true,false,false,false,false⟩:Ai))) (oZ (tN (r2 _ _ (At (vr (.bool (true)) rfl) (wt (oS rfl (Yk.cell1 Nx rfl T5 (Ab b7 (show _=some (.func (.func 47) #[] #[PQ ar 0]:Value)from rfl)) (oS rfl (Yk.fieldAt H4 T1 (oS rfl (Yk.cell1 FI rfl (vr (PQ j 6) rfl) (Ab c (show(msgC x)[6]? =some (.int .i64 (x.1.at_:Int):Value)from Dr x)) (oS rfl (Yk.clo Ny (caps:= #[PQ ar 0]) (vr (.func (.func 47) #[] #[PQ ar 0]) rfl) #[.int .i64 (x.1.at_:Int),PQ ar 0] (by simp only[List.map_toArray,List.map_cons,List.map_nil,List.append_toArray,List.cons_append,List.nil_append];exact congrArg List.toArray (B1 (vr (.int .i64 (x.1.at_:Int)) rfl) rfl)) ((Cf w _ hE ar (by omega) h9 (([(x.1.kind:UInt8)]:List UInt8)++Lib.uvarint x.1.session.toNat) ao (RB.ofOwn cz) (by simp only[List.length_append,List.length_cons,List.length_nil];omega) x.1.at_ (by omega) (by omega)).mono ?_)))))))))))))))))))
  rintro e ael ⟨g4,rfl,kk,ib,ic⟩
  refine⟨_,rfl,?_⟩
  have ib:=AC ib hE.size
  have hE:=Ae hE ic (Nat.le_trans h8 (by omega))
  have c:=kb ic c (by omega)
  clear ao
  clear cz
  have bm:=kb ic bm (by omega)
  have ao:=kk;clear kk
  have aem:=bl ao
  refine oZ (tN (r1 _ _ (sk fun aen r3=>(sk fun aeo r4=>(wt (oS rfl (Yk.fieldAt LH f (oS rfl (Yk.cell1 De rfl (vr (PQ cl 4) rfl) (Ab bm (show(partsC (⟨false,false,false,true,false,false,false,false⟩:Ai))[4]? =some (.bool (false):Value)from B0 (⟨false,false,false,true,false,false,false,false⟩:Ai))) (oZ (tN (r4 _ _ (Am (vr (.bool (false)) rfl) (Ak (tN (r3 _ _ (sk fun aep r5=>(sk fun aeq r6=>(wt (oS rfl (Yk.fieldAt H5 f ?_)))))))))))))))))))))
  refine oS rfl (Yk.cell1 De rfl (vr (PQ cl 5) rfl) (Ab bm (show(partsC (⟨false,false,false,true,false,false,false,false⟩:Ai))[5]? =some (.bool (false):Value)from BP (⟨false,false,false,true,false,false,false,false⟩:Ai))) (oZ (tN (r6 _ _ (Am (vr (.bool (false)) rfl) (Ak (tN (r5 _ _ (sk fun aer r7=>(sk fun aes r8=>(wt (oS rfl (Yk.fieldAt H6 f (oS rfl (Yk.cell1 De rfl (vr (PQ cl 6) rfl) (Ab bm (show(partsC (⟨false,false,false,true,false,false,false,false⟩:Ai))[6]? =some (.bool (false):Value)from BQ (⟨false,false,false,true,false,false,false,false⟩:Ai))) (oZ (tN (r8 _ _ (Am (vr (.bool (false)) rfl) (Ak (tN (r7 _ _ ?_))))))))))))))))))))))
  refine sk fun aet r9=>(sk fun aeu sa=>(wt (oS rfl (Yk.fieldAt LJ f (oS rfl (Yk.cell1 De rfl (vr (PQ cl 7) rfl) (Ab bm (show(partsC (⟨false,false,false,true,false,false,false,false⟩:Ai))[7]? =some (.bool (false):Value)from BR (⟨false,false,false,true,false,false,false,false⟩:Ai))) (oZ (tN (sa _ _ (Am (vr (.bool (false)) rfl) (Ak (tN (r9 _ _ (sk fun aev sb=>(wt (oS rfl (Yk.cell1 El rfl y (Ab ao (show _=some (g4:Value)from rfl)) (oA rfl (oA rfl (oZ ?_))))))))))))))))))))
  refine tN (sb _ _ (Ao (An (fn:=Tryd.f16) _ rfl [g4,NI 0] (.tuple #[g4,NI 0]) rfl ⟨rfl,rfl,trivial⟩ ?_)))
  have hen:(([(x.1.kind:UInt8)]:List UInt8)++Lib.uvarint x.1.session.toNat:List UInt8)++Lib.uvarint x.1.at_.toNat=encB x.1:=by unfold encB Ba;rw[hk];simp[List.append_assoc]
  exact⟨g4,by rw[hR];rfl,by rw[hR,if_pos rfl,←hen];exact RB.ofOwn ib,hE⟩
 ·have hbl:=aa rfl
  have htl:=Ep (s:=x.1.bytes) (by omega)
  refine Ak (tN (c8 _ _ (sk fun aew sc=>(wt (oS rfl (Yk.fieldAt H8 (vr (PQ j 0) rfl) (oS rfl (Yk.cell1 u5 rfl (vr (PQ j 0) rfl) (Ab c (show(msgC x)[0]? =some (B8 (x.1.kind):Value)from Bv x)) (oS rfl (Yk.lit1 (b:=x.1.kind) CA (vr (B8 (x.1.kind)) rfl) fun f3 sd f4=> ?_))))))))))
  have bn:=Ext.refl c9
  have aex:=hE.size
  have hE:=hE.trans f4.ext
  have c:=eb f4.ext c
  have bn:=bn.trans f4.ext
  have bx:=f4.own;clear f4
  refine oS rfl (Yk.alloc (cs:=([(Value.slice none 0 0)]).toArray) DI fun ap se sf kl f5 aey=> ?_)
  have a0:=Ext.refl sd
  have g5:=hE.size
  have km:=bn.size
  have aez:=Bo (bl c) sf
  have sg:OB f3 ap:=Bc bx (by omega)
  have hE:=hE.trans f5
  have c:=eb f5 c
  have bn:=bn.trans f5
  have bx:=Stab.own _ _ _ _ _ _ _ _ bx f5
  have a0:=a0.trans f5
  have ag:=kl;clear kl
  have ae0:ap<se.heap.size:=by omega
  refine oS rfl (Yk.storeC (i:=0) (v:=f3) (vr (PQ ap 0) rfl) (vr f3 rfl) ag (Nat.le_of_ble_eq_true rfl) IX (A6 bx).1 (A6 bx).2 fun ae1 kn f6 ae2=> ?_)
  have hE:=Ae hE f6 (Nat.le_trans g5 (by omega))
  have c:=kb f6 c (by omega)
  have bn:=Ae bn f6 (Nat.le_trans km (by omega))
  have bx:=AU bx f6 sg
  have a0:=Ae a0 f6 (Nat.le_trans (Nat.le_refl _) (by omega))
  clear ag
  have ag:=kn;clear kn
  have ae3:=bl ag
  refine oZ (tN (sc _ _ (sk fun ae4 sh=>(wt (oS rfl (Yk.mkFunc (vs:= #[PQ ap 0]) (by simp only[List.map_toArray,List.map_cons,List.map_nil];exact congrArg List.toArray (Fi (vr (PQ ap 0) rfl))) (oS rfl (Yk.alloc (cs:=([Value.nilFunc]).toArray) DJ fun c0 si ko kp eq ae5=> ?_))))))))
  have sj:=hE.size
  have sl:=bn.size
  have sm:=a0.size
  have ae6:=Bo (bl c) ko
  have ae7:=Bo (bl ag) ko
  have sn:OB f3 c0:=Bc bx (by omega)
  have hE:=hE.trans eq
  have c:=eb eq c
  have bn:=bn.trans eq
  have bx:=Stab.own _ _ _ _ _ _ _ _ bx eq
  have a0:=a0.trans eq
  have ag:=eb eq ag
  have b8:=kp;clear kp
  have ae8:c0<si.heap.size:=by omega
  refine oS rfl (Yk.storeC (i:=0) (v:= .func (.func 47) #[] #[PQ ap 0]) (vr (PQ c0 0) rfl) (vr (.func (.func 47) #[] #[PQ ap 0]) rfl) b8 (Nat.le_of_ble_eq_true rfl) wr6_isz89 rfl rfl fun ae9 kq er afa=> ?_)
  have hE:=Ae hE er (Nat.le_trans sj (by omega))
  have c:=kb er c (by omega)
  have bn:=Ae bn er (Nat.le_trans sl (by omega))
  have bx:=AU bx er sn
  have a0:=Ae a0 er (Nat.le_trans sm (by omega))
  have ag:=kb er ag (by omega)
  clear b8
  have b8:=kq;clear kq
  have afb:=bl b8
  refine oZ (tN (sh _ _ (sk fun afc so=>(wt (oS rfl (Yk.mkFunc (vs:= #[PQ c0 0,PQ ap 0]) (by simp only[List.map_toArray,List.map_cons,List.map_nil];exact congrArg List.toArray (B1 (vr (PQ c0 0) rfl) (vr (PQ ap 0) rfl))) (oA rfl (oZ (tN (so _ _ (sk fun afd sp=>(wt (oS rfl (Yk.cell1 Nx rfl (vr (PQ c0 0) rfl) (Ab b8 (show _=some (.func (.func 47) #[] #[PQ ap 0]:Value)from rfl)) (oS rfl (Yk.fieldAt LK (vr (PQ j 0) rfl) (oS rfl (Yk.cell1 FI rfl (vr (PQ j 1) rfl) (Ab c (show(msgC x)[1]? =some (.int .i64 (x.1.session:Int):Value)from CU x)) (oS rfl (Yk.clo Ny (caps:= #[PQ ap 0]) (vr (.func (.func 47) #[] #[PQ ap 0]) rfl) #[.int .i64 (x.1.session:Int),PQ ap 0] (by simp only[List.map_toArray,List.map_cons,List.map_nil,List.append_toArray,List.cons_append,List.nil_append];exact congrArg List.toArray (B1 (vr (.int .i64 (x.1.session:Int)) rfl) rfl)) ((Cf w _ hE ap (by omega) f3 ([(x.1.kind:UInt8)]) ag (RB.ofOwn bx) (by simp only[List.length_append,List.length_cons,List.length_nil];omega) x.1.session (by omega) (by omega)).mono ?_)))))))))))))))))))))
  rintro e dy ⟨ie,rfl,kr,c1,f7⟩
  refine⟨_,rfl,?_⟩
  have c1:=AC c1 hE.size
  have hE:=Ae hE f7 (Nat.le_trans g5 (by omega))
  have c:=kb f7 c (by omega)
  have bn:=Ae bn f7 (Nat.le_trans km (by omega))
  clear bx
  have a0:=Ae a0 f7 (Nat.le_trans (Nat.le_refl _) (by omega))
  clear ag
  have b8:=kb f7 b8 (by omega)
  have ag:=kr;clear kr
  have afe:=bl ag
  refine oZ (tN (sp _ _ (sk fun aff sq=> ?_)))
  have sr:=hE.size
  have afg:=bn.size
  have ss:=a0.size
  have afh:j<dy.heap.size:=(bl c)
  have afi:c0<dy.heap.size:=(bl b8)
  have afj:ap<dy.heap.size:=(bl ag)
  have st:∀g,dy.heap.size≤g→OB ie g:=fun g hg=>Bc c1 hg
  refine Cz 5 _ [fun x w' =>∃b,x = .map (some b)∧MapF B8 AH (fun _:UInt8=>True) w' b AV,Is (PQ j 0),Is (B8 (x.1.kind)),Is (.agg (partsC (⟨false,false,false,true,false,true,false,false⟩:Ai)).toArray),fun x w' =>∃g,x=PQ g 0∧w'.heap[g]? =some (.cells (partsC (⟨false,false,false,false,false,false,false,false⟩:Ai)).toArray 92 (0,0))∧dy.heap.size≤g] (by kernel_rfl) [23,24,25,26,7] (by kernel_rfl) (by kernel_rfl) (by kernel_rfl) rfl rfl rfl ⟨(fun _ _ _ ⟨b,h1,h2⟩ k=>⟨b,h1,MapF.keep h2 k⟩),Stab.is _,Stab.is _,Stab.is _,(fun _ _ _ ⟨g,h1,h2,h3⟩ k=>⟨g,h1,eb k h2,h3⟩),trivial⟩ ?su ?hQ8007
  case su=>
   refine⟨?_,?_,?_,?_,?_,?_,trivial⟩
   ·refine Aj (Aa rfl fun σ w1 hC h=>(Yk.callA0 J2 ((Cs _).mono ?_)))
    rintro e w2 ⟨b,rfl,hmk,hx,hom⟩
    exact⟨_,rfl,hx,⟨b,rfl,hmk⟩⟩
   ·refine Aj (Aa rfl fun σ w1 hC h=> ?_)
    have e1:σ 1=PQ j 0:=(Af (h 1 (by decide))).trans rfl
    exact Yk.fieldAt H8 e1 ⟨Ext.refl _,rfl⟩
   ·refine Aj (Aa rfl fun σ w1 hC h=> ?_)
    have bc:=Af (h 24 (by decide))
    exact Yk.cell1 u5 rfl bc (Ab (eb hC c) (show(msgC x)[0]? =some (B8 (x.1.kind):Value)from Bv x)) ⟨Ext.refl _,rfl⟩
   ·refine Aj (Aa rfl fun σ w1 hC h=> ?_)
    have bd:(fun x w' =>∃b,x = .map (some b)∧MapF B8 AH (fun _:UInt8=>True) w' b AV) (σ 23) w1:=h 23 (by decide)
    have be:=Af (h 25 (by decide))
    obtain⟨b6,k6,m6⟩:=(show ∃b,σ 23 = .map (some b)∧MapF B8 AH (fun _:UInt8=>True) w1 b AV from bd)
    exact Yk.lookMS (ek:=B8) (ev:=AH) (D:=fun _:UInt8=>True) CE CF (fun _ _=>Dv) C8 (z:=AH BA) Cr k6 be m6 trivial hK ⟨Ext.refl _,rfl⟩
   ·refine Aj (Aa rfl fun σ w1 hC h=> ?_)
    exact Yk.alloc (cs:=(partsC (⟨false,false,false,false,false,false,false,false⟩:Ai)).toArray) J3 fun g w2 hn hb hx hs=>⟨hx,g,rfl,hb,Nat.le_trans (show Ext dy w1 from hC).size (Nat.le_of_eq hn)⟩
   ·exact trivial
  intro ig sv es he hf
  obtain⟨-,-,-,k26,k7,-⟩:=hf
  obtain⟨T0,T1,T2,T3,y,T5,T6,-⟩:=he.hold [(0,_),(1,PQ j 0),(2,(Value.slice none 0 0)),(3,NI 0),(4,PQ ap 0),(5,PQ c0 0),(6, .func (.func 49) #[] #[PQ c0 0,PQ ap 0])] ⟨T0,rfl,rfl,rfl,rfl,rfl,rfl,trivial⟩ rfl
  clear he
  have hE:=hE.trans es
  have c:=eb es c
  have a0:=a0.trans es
  have b8:=eb es b8
  have ag:=eb es ag
  have c1:=Stab.own _ _ _ _ _ _ _ _ c1 es
  have bf:ig 26 = .agg (partsC (⟨false,false,false,true,false,true,false,false⟩:Ai)).toArray:=k26
  have k7:(fun x w' =>∃g,x=PQ g 0∧w'.heap[g]? =some (.cells (partsC (⟨false,false,false,false,false,false,false,false⟩:Ai)).toArray 92 (0,0))∧dy.heap.size≤g) (ig 7) sv:=k7
  obtain⟨afk,f⟩:∃v,ig 7=v:=⟨_,rfl⟩
  rw[f]at k7
  have sw:=k7;clear k7
  obtain⟨cm,rfl,a1,sx⟩:=sw
  have afl:=bl a1
  have sy:OB ie cm:=st _ sx
  clear k26
  refine(Yk.storeAll f bf a1 (by simp only[List.size_toArray,BI]) (Au (BI _) Gt) (Cp (x:=(⟨false,false,false,true,false,true,false,false⟩:Ai))) fun sz ks et afm=> ?_)
  have hE:=Ae hE et (Nat.le_trans sr (by omega))
  have c:=kb et c (by omega)
  have a0:=Ae a0 et (Nat.le_trans ss (by omega))
  have b8:=kb et b8 (by omega)
  have ag:=kb et ag (by omega)
  have c1:=AU c1 et sy
  clear a1
  have a1:sz.heap[cm]? =some (.cells (partsC (⟨false,false,false,true,false,true,false,false⟩:Ai)).toArray 92 (0,0)):=ks;clear ks
  have afn:=bl a1
  refine tN (sq _ _ (sk fun afo s0=>(sk fun afp s1=>(wt (oS rfl (Yk.fieldAt LD f (oS rfl (Yk.cell1 De rfl (vr (PQ cm 0) rfl) (Ab a1 (show(partsC (⟨false,false,false,true,false,true,false,false⟩:Ai))[0]? =some (.bool (false):Value)from BW (⟨false,false,false,true,false,true,false,false⟩:Ai))) (oZ (tN (s1 _ _ (Am (vr (.bool (false)) rfl) (Ak (tN (s0 _ _ (sk fun afq s2=>(sk fun afr s3=>(wt (oS rfl (Yk.fieldAt LE f (oS rfl (Yk.cell1 De rfl (vr (PQ cm 1) rfl) (Ab a1 (show(partsC (⟨false,false,false,true,false,true,false,false⟩:Ai))[1]? =some (.bool (false):Value)from BX (⟨false,false,false,true,false,true,false,false⟩:Ai))) ?_))))))))))))))))))))))
  refine oZ (tN (s3 _ _ (Am (vr (.bool (false)) rfl) (Ak (tN (s2 _ _ (sk fun afs s4=>(sk fun aft s5=>(wt (oS rfl (Yk.fieldAt LF f (oS rfl (Yk.cell1 De rfl (vr (PQ cm 2) rfl) (Ab a1 (show(partsC (⟨false,false,false,true,false,true,false,false⟩:Ai))[2]? =some (.bool (false):Value)from BY (⟨false,false,false,true,false,true,false,false⟩:Ai))) (oZ (tN (s5 _ _ (Am (vr (.bool (false)) rfl) (Ak (tN (s4 _ _ (sk fun afu s6=> ?_)))))))))))))))))))))
  refine sk fun afv s7=>(wt (oS rfl (Yk.fieldAt LG f (oS rfl (Yk.cell1 De rfl (vr (PQ cm 3) rfl) (Ab a1 (show(partsC (⟨false,false,false,true,false,true,false,false⟩:Ai))[3]? =some (.bool (true):Value)from BZ (⟨false,false,false,true,false,true,false,false⟩:Ai))) (oZ (tN (s7 _ _ (At (vr (.bool (true)) rfl) (wt (oS rfl (Yk.cell1 Nx rfl T5 (Ab b8 (show _=some (.func (.func 47) #[] #[PQ ap 0]:Value)from rfl)) (oS rfl (Yk.fieldAt H4 T1 (oS rfl (Yk.cell1 FI rfl (vr (PQ j 6) rfl) (Ab c (show(msgC x)[6]? =some (.int .i64 (x.1.at_:Int):Value)from Dr x)) (oS rfl (Yk.clo Ny (caps:= #[PQ ap 0]) (vr (.func (.func 47) #[] #[PQ ap 0]) rfl) #[.int .i64 (x.1.at_:Int),PQ ap 0] (by simp only[List.map_toArray,List.map_cons,List.map_nil,List.append_toArray,List.cons_append,List.nil_append];exact congrArg List.toArray (B1 (vr (.int .i64 (x.1.at_:Int)) rfl) rfl)) ((Cf w _ hE ap (by omega) ie (([(x.1.kind:UInt8)]:List UInt8)++Lib.uvarint x.1.session.toNat) ag (RB.ofOwn c1) (by simp only[List.length_append,List.length_cons,List.length_nil];omega) x.1.at_ (by omega) (by omega)).mono ?_)))))))))))))))))))
  rintro e afw ⟨ih,rfl,kt,g6,g7⟩
  refine⟨_,rfl,?_⟩
  have g6:=AC g6 hE.size
  have hE:=Ae hE g7 (Nat.le_trans g5 (by omega))
  have c:=kb g7 c (by omega)
  have a0:=Ae a0 g7 (Nat.le_trans (Nat.le_refl _) (by omega))
  clear ag
  clear c1
  have a1:=kb g7 a1 (by omega)
  have ag:=kt;clear kt
  have afx:=bl ag
  refine oZ (tN (s6 _ _ (sk fun afy s8=>(sk fun afz s9=>(wt (oS rfl (Yk.fieldAt LH f (oS rfl (Yk.cell1 De rfl (vr (PQ cm 4) rfl) (Ab a1 (show(partsC (⟨false,false,false,true,false,true,false,false⟩:Ai))[4]? =some (.bool (false):Value)from B0 (⟨false,false,false,true,false,true,false,false⟩:Ai))) (oZ (tN (s9 _ _ (Am (vr (.bool (false)) rfl) (Ak (tN (s8 _ _ (sk fun af0 ta=>(sk fun af1 tb=>(wt (oS rfl (Yk.fieldAt H5 f ?_)))))))))))))))))))))
  refine oS rfl (Yk.cell1 De rfl (vr (PQ cm 5) rfl) (Ab a1 (show(partsC (⟨false,false,false,true,false,true,false,false⟩:Ai))[5]? =some (.bool (true):Value)from BP (⟨false,false,false,true,false,true,false,false⟩:Ai))) (oZ (tN (tb _ _ (At (vr (.bool (true)) rfl) (wt (oS rfl (Yk.cell1 El rfl y (Ab ag (show _=some (ih:Value)from rfl)) (oS rfl (Yk.fieldAt FT T1 (oS rfl (Yk.cell1 El rfl (vr (PQ j 39) rfl) (Ab c (show(msgC x)[39]? =some (x.2.bytes:Value)from Ds x)) (oS rfl (Yk.convRB El u5 CD (RB.of (hmb.keep hE) (vr x.2.bytes rfl)) (oS rfl (Yk.callA2 Hm (vr ih rfl) (vr (St (x.1.bytes)) rfl) ((Hl _ ih ((([(x.1.kind:UInt8)]:List UInt8)++Lib.uvarint x.1.session.toNat:List UInt8)++Lib.uvarint x.1.at_.toNat) (RB.ofOwn g6) x.1.bytes (by simp only[List.length_append,List.length_cons,List.length_nil];omega)).mono ?_)))))))))))))))))
  rintro e af2 ⟨dz,rfl,d0⟩
  refine⟨_,rfl,?_⟩
  have tc:=hE.size
  have af3:=hE.size
  have af4:=a0.size
  have td:OB dz ap:=AY d0.own (bl ag)
  have hE:=hE.trans d0.ext
  have c:=eb d0.ext c
  have a1:=eb d0.ext a1
  have ag:=eb d0.ext ag
  have d1:=d0.own;clear d0
  have d1:=AC d1 tc
  refine oS rfl (Yk.storeC (i:=0) (v:=dz) y (vr dz rfl) ag (Nat.le_of_ble_eq_true rfl) IX (A6 d1).1 (A6 d1).2 fun af5 ku g8 af6=> ?_)
  have hE:=Ae hE g8 (Nat.le_trans g5 (by omega))
  have c:=kb g8 c (by omega)
  have a1:=kb g8 a1 (by omega)
  clear ag
  have d1:=AU d1 g8 td
  have ag:=ku;clear ku
  have af7:=bl ag
  refine oZ ?_
  clear g6
  refine tN (ta _ _ (sk fun af8 te=>(sk fun af9 tf=>(wt (oS rfl (Yk.fieldAt H6 f (oS rfl (Yk.cell1 De rfl (vr (PQ cm 6) rfl) (Ab a1 (show(partsC (⟨false,false,false,true,false,true,false,false⟩:Ai))[6]? =some (.bool (false):Value)from BQ (⟨false,false,false,true,false,true,false,false⟩:Ai))) (oZ (tN (tf _ _ (Am (vr (.bool (false)) rfl) (Ak (tN (te _ _ (sk fun aga tg=>(sk fun agb th=>(wt (oS rfl (Yk.fieldAt LJ f (oS rfl (Yk.cell1 De rfl (vr (PQ cm 7) rfl) (Ab a1 (show(partsC (⟨false,false,false,true,false,true,false,false⟩:Ai))[7]? =some (.bool (false):Value)from BR (⟨false,false,false,true,false,true,false,false⟩:Ai))) ?_))))))))))))))))))))))
  refine oZ (tN (th _ _ (Am (vr (.bool (false)) rfl) (Ak (tN (tg _ _ (sk fun agc ti=>(wt (oS rfl (Yk.cell1 El rfl y (Ab ag (show _=some (dz:Value)from rfl)) (oA rfl (oA rfl (oZ (tN (ti _ _ (Ao (An (fn:=Tryd.f16) _ rfl [dz,NI 0] (.tuple #[dz,NI 0]) rfl ⟨rfl,rfl,trivial⟩ ?_)))))))))))))))))
  have hen:((([(x.1.kind:UInt8)]:List UInt8)++Lib.uvarint x.1.session.toNat:List UInt8)++Lib.uvarint x.1.at_.toNat:List UInt8)++Bq x.1.bytes=encB x.1:=by unfold encB Ba;rw[hk];simp[List.append_assoc]
  exact⟨dz,by rw[hR];rfl,by rw[hR,if_pos rfl,←hen];exact RB.ofOwn d1,hE⟩
 ·have hnl:=lz rfl
  have htl:=Ep (s:=x.1.name) (by omega)
  refine Ak (tN (c8 _ _ (sk fun agd tj=>(wt (oS rfl (Yk.fieldAt H8 (vr (PQ j 0) rfl) (oS rfl (Yk.cell1 u5 rfl (vr (PQ j 0) rfl) (Ab c (show(msgC x)[0]? =some (B8 (x.1.kind):Value)from Bv x)) (oS rfl (Yk.lit1 (b:=x.1.kind) CA (vr (B8 (x.1.kind)) rfl) fun f8 kv f9=> ?_))))))))))
  have bo:=Ext.refl c9
  have age:=hE.size
  have hE:=hE.trans f9.ext
  have c:=eb f9.ext c
  have bo:=bo.trans f9.ext
  have bz:=f9.own;clear f9
  refine oS rfl (Yk.alloc (cs:=([(Value.slice none 0 0)]).toArray) DI fun ae tk tl kw ga agf=> ?_)
  have t:=Ext.refl kv
  have d2:=hE.size
  have kx:=bo.size
  have agh:=Bo (bl c) tl
  have tm:OB f8 ae:=Bc bz (by omega)
  have hE:=hE.trans ga
  have c:=eb ga c
  have bo:=bo.trans ga
  have bz:=Stab.own _ _ _ _ _ _ _ _ bz ga
  have t:=t.trans ga
  have m:=kw;clear kw
  have agi:ae<tk.heap.size:=by omega
  refine oS rfl (Yk.storeC (i:=0) (v:=f8) (vr (PQ ae 0) rfl) (vr f8 rfl) m (Nat.le_of_ble_eq_true rfl) IX (A6 bz).1 (A6 bz).2 fun agj ky gb agk=> ?_)
  have hE:=Ae hE gb (Nat.le_trans d2 (by omega))
  have c:=kb gb c (by omega)
  have bo:=Ae bo gb (Nat.le_trans kx (by omega))
  have bz:=AU bz gb tm
  have t:=Ae t gb (Nat.le_trans (Nat.le_refl _) (by omega))
  clear m
  have m:=ky;clear ky
  have agl:=bl m
  refine oZ (tN (tj _ _ (sk fun agm tn=>(wt (oS rfl (Yk.mkFunc (vs:= #[PQ ae 0]) (by simp only[List.map_toArray,List.map_cons,List.map_nil];exact congrArg List.toArray (Fi (vr (PQ ae 0) rfl))) (oS rfl (Yk.alloc (cs:=([Value.nilFunc]).toArray) DJ fun b0 tp kz k0 eu agn=> ?_))))))))
  have tq:=hE.size
  have tr:=bo.size
  have ts:=t.size
  have ago:=Bo (bl c) kz
  have agp:=Bo (bl m) kz
  have tt:OB f8 b0:=Bc bz (by omega)
  have hE:=hE.trans eu
  have c:=eb eu c
  have bo:=bo.trans eu
  have bz:=Stab.own _ _ _ _ _ _ _ _ bz eu
  have t:=t.trans eu
  have m:=eb eu m
  have ab:=k0;clear k0
  have agq:b0<tp.heap.size:=by omega
  refine oS rfl (Yk.storeC (i:=0) (v:= .func (.func 47) #[] #[PQ ae 0]) (vr (PQ b0 0) rfl) (vr (.func (.func 47) #[] #[PQ ae 0]) rfl) ab (Nat.le_of_ble_eq_true rfl) wr6_isz89 rfl rfl fun agr k1 ew ags=> ?_)
  have hE:=Ae hE ew (Nat.le_trans tq (by omega))
  have c:=kb ew c (by omega)
  have bo:=Ae bo ew (Nat.le_trans tr (by omega))
  have bz:=AU bz ew tt
  have t:=Ae t ew (Nat.le_trans ts (by omega))
  have m:=kb ew m (by omega)
  clear ab
  have ab:=k1;clear k1
  have agt:=bl ab
  refine oZ (tN (tn _ _ (sk fun agu tu=>(wt (oS rfl (Yk.mkFunc (vs:= #[PQ b0 0,PQ ae 0]) (by simp only[List.map_toArray,List.map_cons,List.map_nil];exact congrArg List.toArray (B1 (vr (PQ b0 0) rfl) (vr (PQ ae 0) rfl))) (oA rfl (oZ (tN (tu _ _ (sk fun agv tv=>(wt (oS rfl (Yk.cell1 Nx rfl (vr (PQ b0 0) rfl) (Ab ab (show _=some (.func (.func 47) #[] #[PQ ae 0]:Value)from rfl)) (oS rfl (Yk.fieldAt LK (vr (PQ j 0) rfl) (oS rfl (Yk.cell1 FI rfl (vr (PQ j 1) rfl) (Ab c (show(msgC x)[1]? =some (.int .i64 (x.1.session:Int):Value)from CU x)) (oS rfl (Yk.clo Ny (caps:= #[PQ ae 0]) (vr (.func (.func 47) #[] #[PQ ae 0]) rfl) #[.int .i64 (x.1.session:Int),PQ ae 0] (by simp only[List.map_toArray,List.map_cons,List.map_nil,List.append_toArray,List.cons_append,List.nil_append];exact congrArg List.toArray (B1 (vr (.int .i64 (x.1.session:Int)) rfl) rfl)) ((Cf w _ hE ae (by omega) f8 ([(x.1.kind:UInt8)]) m (RB.ofOwn bz) (by simp only[List.length_append,List.length_cons,List.length_nil];omega) x.1.session (by omega) (by omega)).mono ?_)))))))))))))))))))))
  rintro e d3 ⟨ii,rfl,k2,c2,gc⟩
  refine⟨_,rfl,?_⟩
  have c2:=AC c2 hE.size
  have hE:=Ae hE gc (Nat.le_trans d2 (by omega))
  have c:=kb gc c (by omega)
  have bo:=Ae bo gc (Nat.le_trans kx (by omega))
  clear bz
  have t:=Ae t gc (Nat.le_trans (Nat.le_refl _) (by omega))
  clear m
  have ab:=kb gc ab (by omega)
  have m:=k2;clear k2
  have agw:=bl m
  refine oZ (tN (tv _ _ (sk fun agx tw=> ?_)))
  have tx:=hE.size
  have agy:=bo.size
  have ty:=t.size
  have agz:j<d3.heap.size:=(bl c)
  have ag0:b0<d3.heap.size:=(bl ab)
  have ag1:ae<d3.heap.size:=(bl m)
  have tz:∀g,d3.heap.size≤g→OB ii g:=fun g hg=>Bc c2 hg
  refine Cz 5 _ [fun x w' =>∃b,x = .map (some b)∧MapF B8 AH (fun _:UInt8=>True) w' b AV,Is (PQ j 0),Is (B8 (x.1.kind)),Is (.agg (partsC (⟨false,false,true,false,true,false,true,false⟩:Ai)).toArray),fun x w' =>∃g,x=PQ g 0∧w'.heap[g]? =some (.cells (partsC (⟨false,false,false,false,false,false,false,false⟩:Ai)).toArray 92 (0,0))∧d3.heap.size≤g] (by kernel_rfl) [23,24,25,26,7] (by kernel_rfl) (by kernel_rfl) (by kernel_rfl) rfl rfl rfl ⟨(fun _ _ _ ⟨b,h1,h2⟩ k=>⟨b,h1,MapF.keep h2 k⟩),Stab.is _,Stab.is _,Stab.is _,(fun _ _ _ ⟨g,h1,h2,h3⟩ k=>⟨g,h1,eb k h2,h3⟩),trivial⟩ ?t0 ?hQ9007
  case t0=>
   refine⟨?_,?_,?_,?_,?_,?_,trivial⟩
   ·refine Aj (Aa rfl fun σ w1 hC h=>(Yk.callA0 J2 ((Cs _).mono ?_)))
    rintro e w2 ⟨b,rfl,hmk,hx,hom⟩
    exact⟨_,rfl,hx,⟨b,rfl,hmk⟩⟩
   ·refine Aj (Aa rfl fun σ w1 hC h=> ?_)
    have e1:σ 1=PQ j 0:=(Af (h 1 (by decide))).trans rfl
    exact Yk.fieldAt H8 e1 ⟨Ext.refl _,rfl⟩
   ·refine Aj (Aa rfl fun σ w1 hC h=> ?_)
    have bc:=Af (h 24 (by decide))
    exact Yk.cell1 u5 rfl bc (Ab (eb hC c) (show(msgC x)[0]? =some (B8 (x.1.kind):Value)from Bv x)) ⟨Ext.refl _,rfl⟩
   ·refine Aj (Aa rfl fun σ w1 hC h=> ?_)
    have bd:(fun x w' =>∃b,x = .map (some b)∧MapF B8 AH (fun _:UInt8=>True) w' b AV) (σ 23) w1:=h 23 (by decide)
    have be:=Af (h 25 (by decide))
    obtain⟨b6,k6,m6⟩:=(show ∃b,σ 23 = .map (some b)∧MapF B8 AH (fun _:UInt8=>True) w1 b AV from bd)
    exact Yk.lookMS (ek:=B8) (ev:=AH) (D:=fun _:UInt8=>True) CE CF (fun _ _=>Dv) C8 (z:=AH BA) Cr k6 be m6 trivial hK ⟨Ext.refl _,rfl⟩
   ·refine Aj (Aa rfl fun σ w1 hC h=> ?_)
    exact Yk.alloc (cs:=(partsC (⟨false,false,false,false,false,false,false,false⟩:Ai)).toArray) J3 fun g w2 hn hb hx hs=>⟨hx,g,rfl,hb,Nat.le_trans (show Ext d3 w1 from hC).size (Nat.le_of_eq hn)⟩
   ·exact trivial
  intro ij t1 ex he hf
  obtain⟨-,-,-,k26,k7,-⟩:=hf
  obtain⟨T0,T1,T2,T3,y,T5,T6,-⟩:=he.hold [(0,_),(1,PQ j 0),(2,(Value.slice none 0 0)),(3,NI 0),(4,PQ ae 0),(5,PQ b0 0),(6, .func (.func 49) #[] #[PQ b0 0,PQ ae 0])] ⟨T0,rfl,rfl,rfl,rfl,rfl,rfl,trivial⟩ rfl
  clear he
  have hE:=hE.trans ex
  have c:=eb ex c
  have t:=t.trans ex
  have ab:=eb ex ab
  have m:=eb ex m
  have c2:=Stab.own _ _ _ _ _ _ _ _ c2 ex
  have bf:ij 26 = .agg (partsC (⟨false,false,true,false,true,false,true,false⟩:Ai)).toArray:=k26
  have k7:(fun x w' =>∃g,x=PQ g 0∧w'.heap[g]? =some (.cells (partsC (⟨false,false,false,false,false,false,false,false⟩:Ai)).toArray 92 (0,0))∧d3.heap.size≤g) (ij 7) t1:=k7
  obtain⟨ag2,f⟩:∃v,ij 7=v:=⟨_,rfl⟩
  rw[f]at k7
  have t2:=k7;clear k7
  obtain⟨bp,rfl,o,t3⟩:=t2
  have ag3:=bl o
  have t4:OB ii bp:=tz _ t3
  clear k26
  refine(Yk.storeAll f bf o (by simp only[List.size_toArray,BI]) (Au (BI _) Gt) (Cp (x:=(⟨false,false,true,false,true,false,true,false⟩:Ai))) fun t5 k3 ey ag4=> ?_)
  have hE:=Ae hE ey (Nat.le_trans tx (by omega))
  have c:=kb ey c (by omega)
  have t:=Ae t ey (Nat.le_trans ty (by omega))
  have ab:=kb ey ab (by omega)
  have m:=kb ey m (by omega)
  have c2:=AU c2 ey t4
  clear o
  have o:t5.heap[bp]? =some (.cells (partsC (⟨false,false,true,false,true,false,true,false⟩:Ai)).toArray 92 (0,0)):=k3;clear k3
  have ag5:=bl o
  refine tN (tw _ _ (sk fun ag6 t6=>(sk fun ag7 t7=>(wt (oS rfl (Yk.fieldAt LD f (oS rfl (Yk.cell1 De rfl (vr (PQ bp 0) rfl) (Ab o (show(partsC (⟨false,false,true,false,true,false,true,false⟩:Ai))[0]? =some (.bool (false):Value)from BW (⟨false,false,true,false,true,false,true,false⟩:Ai))) (oZ (tN (t7 _ _ (Am (vr (.bool (false)) rfl) (Ak (tN (t6 _ _ (sk fun ag8 t8=>(sk fun ag9 t9=>(wt (oS rfl (Yk.fieldAt LE f (oS rfl (Yk.cell1 De rfl (vr (PQ bp 1) rfl) (Ab o (show(partsC (⟨false,false,true,false,true,false,true,false⟩:Ai))[1]? =some (.bool (false):Value)from BX (⟨false,false,true,false,true,false,true,false⟩:Ai))) ?_))))))))))))))))))))))
  refine oZ (tN (t9 _ _ (Am (vr (.bool (false)) rfl) (Ak (tN (t8 _ _ (sk fun aha ua=>(sk fun ahb ub=>(wt (oS rfl (Yk.fieldAt LF f (oS rfl (Yk.cell1 De rfl (vr (PQ bp 2) rfl) (Ab o (show(partsC (⟨false,false,true,false,true,false,true,false⟩:Ai))[2]? =some (.bool (true):Value)from BY (⟨false,false,true,false,true,false,true,false⟩:Ai))) (oZ (tN (ub _ _ (At (vr (.bool (true)) rfl) (wt (oS rfl (Yk.cell1 Nx rfl T5 (Ab ab (show _=some (.func (.func 47) #[] #[PQ ae 0]:Value)from rfl)) (oS rfl (Yk.fieldAt H3 T1 ?_))))))))))))))))))))))
  refine oS rfl (Yk.cell1 FI rfl (vr (PQ j 5) rfl) (Ab c (show(msgC x)[5]? =some (.int .i64 (x.1.size:Int):Value)from Dq x)) (oS rfl (Yk.clo Ny (caps:= #[PQ ae 0]) (vr (.func (.func 47) #[] #[PQ ae 0]) rfl) #[.int .i64 (x.1.size:Int),PQ ae 0] (by simp only[List.map_toArray,List.map_cons,List.map_nil,List.append_toArray,List.cons_append,List.nil_append];exact congrArg List.toArray (B1 (vr (.int .i64 (x.1.size:Int)) rfl) rfl)) ((Cf w _ hE ae (by omega) ii (([(x.1.kind:UInt8)]:List UInt8)++Lib.uvarint x.1.session.toNat) m (RB.ofOwn c2) (by simp only[List.length_append,List.length_cons,List.length_nil];omega) x.1.size (by omega) (by omega)).mono ?_))))
  rintro e ahc ⟨ik,rfl,k4,g9,gd⟩
  refine⟨_,rfl,?_⟩
  have g9:=AC g9 hE.size
  have hE:=Ae hE gd (Nat.le_trans d2 (by omega))
  have c:=kb gd c (by omega)
  have t:=Ae t gd (Nat.le_trans (Nat.le_refl _) (by omega))
  have ab:=kb gd ab (by omega)
  clear m
  clear c2
  have o:=kb gd o (by omega)
  have m:=k4;clear k4
  have ahd:=bl m
  refine oZ (tN (ua _ _ (sk fun ahe uc=>(sk fun ahf ud=>(wt (oS rfl (Yk.fieldAt LG f (oS rfl (Yk.cell1 De rfl (vr (PQ bp 3) rfl) (Ab o (show(partsC (⟨false,false,true,false,true,false,true,false⟩:Ai))[3]? =some (.bool (false):Value)from BZ (⟨false,false,true,false,true,false,true,false⟩:Ai))) (oZ (tN (ud _ _ (Am (vr (.bool (false)) rfl) (Ak (tN (uc _ _ (sk fun ahg ue=>(sk fun ahh uf=>(wt (oS rfl (Yk.fieldAt LH f ?_)))))))))))))))))))))
  refine oS rfl (Yk.cell1 De rfl (vr (PQ bp 4) rfl) (Ab o (show(partsC (⟨false,false,true,false,true,false,true,false⟩:Ai))[4]? =some (.bool (true):Value)from B0 (⟨false,false,true,false,true,false,true,false⟩:Ai))) (oZ (tN (uf _ _ (At (vr (.bool (true)) rfl) (wt (oS rfl (Yk.cell1 El rfl y (Ab m (show _=some (ik:Value)from rfl)) (oS rfl (Yk.fieldAt LI T1 (oS rfl (Yk.loadPR (PR.blk c (CM x) (CV x) (vr (PQ j 7) rfl)) NV rfl (Aw x.1.id.2) (oS rfl (Yk.callA2 E4 (vr ik rfl) (vr (AB x.1.id.1) rfl) ((ED _ ik ((([(x.1.kind:UInt8)]:List UInt8)++Lib.uvarint x.1.session.toNat:List UInt8)++Lib.uvarint x.1.size.toNat) (RB.ofOwn g9) (by simp only[List.length_append,List.length_cons,List.length_nil];omega) x.1.id).mono ?_)))))))))))))))
  rintro e ahi ⟨dg,rfl,c3⟩
  refine⟨_,rfl,?_⟩
  have ug:=hE.size
  have ahj:=hE.size
  have ahk:=t.size
  have uh:OB dg ae:=AY c3.own (bl m)
  have hE:=hE.trans c3.ext
  have c:=eb c3.ext c
  have t:=t.trans c3.ext
  have ab:=eb c3.ext ab
  have o:=eb c3.ext o
  have m:=eb c3.ext m
  have cn:=c3.own;clear c3
  have cn:=AC cn ug
  refine oS rfl (Yk.storeC (i:=0) (v:=dg) y (vr dg rfl) m (Nat.le_of_ble_eq_true rfl) IX (A6 cn).1 (A6 cn).2 fun ez k5 e0 ahl=> ?_)
  have hE:=Ae hE e0 (Nat.le_trans d2 (by omega))
  have c:=kb e0 c (by omega)
  have t:=Ae t e0 (Nat.le_trans (Nat.le_refl _) (by omega))
  have ab:=kb e0 ab (by omega)
  have o:=kb e0 o (by omega)
  clear m
  have cn:=AU cn e0 uh
  have m:=k5;clear k5
  have ahm:=bl m
  refine oZ ?_
  clear g9
  refine tN (ue _ _ (sk fun ahn ui=>(sk fun aho uj=>(wt (oS rfl (Yk.fieldAt H5 f (oS rfl (Yk.cell1 De rfl (vr (PQ bp 5) rfl) (Ab o (show(partsC (⟨false,false,true,false,true,false,true,false⟩:Ai))[5]? =some (.bool (false):Value)from BP (⟨false,false,true,false,true,false,true,false⟩:Ai))) (oZ (tN (uj _ _ (Am (vr (.bool (false)) rfl) (Ak (tN (ui _ _ (sk fun ahp k8=>(sk fun ahq uk=>(wt (oS rfl (Yk.fieldAt H6 f (oS rfl (Yk.cell1 De rfl (vr (PQ bp 6) rfl) (Ab o (show(partsC (⟨false,false,true,false,true,false,true,false⟩:Ai))[6]? =some (.bool (true):Value)from BQ (⟨false,false,true,false,true,false,true,false⟩:Ai))) ?_))))))))))))))))))))))
  refine oZ (tN (uk _ _ (At (vr (.bool (true)) rfl) (sk fun ahr ul=> ?_))))
  have d4:Ext ez (World.drew ez):=(Below.refl _ _).drew
  have hE:=hE.trans d4
  have c:=eb d4 c
  have t:=t.trans d4
  have ab:=eb d4 ab
  have o:=eb d4 o
  have cn:=Stab.own _ _ _ _ _ _ _ _ cn d4
  have m:=eb d4 m
  refine Dj [(0,90,dg),(4,94,PQ j 41),(5,95,AB x.1.old.1),(7,97,PQ j 73),(8,98,AB x.1.new.1)] [1,2,3,6,9,10] (fun wz=>Ext w wz∧wz.heap[j]? =some (.cells (msgC x).toArray 29 (0,0))∧wz.heap[b0]? =some (.cells ([.func (.func 47) #[] #[PQ ae 0]]).toArray 89 (0,0))∧wz.heap[bp]? =some (.cells (partsC (⟨false,false,true,false,true,false,true,false⟩:Ai)).toArray 92 (0,0))∧wz.heap[ae]? =some (.cells ([dg]).toArray 26 (0,0))∧True) (by kernel_rfl) (by kernel_rfl) (by kernel_rfl) ⟨hE,c,ab,o,m,trivial⟩ ⟨fun ha ⟨hE,c,ab,o,m,_⟩=>Yk.cell1 El rfl y (Ab m (show _=some (dg:Value)from rfl)) ⟨rfl,rfl⟩,fun ha ⟨hE,c,ab,o,m,_⟩=>Yk.fieldAt KF T1 ⟨rfl,rfl⟩,fun ha ⟨hE,c,ab,o,m,_⟩=>Yk.loadPR (PR.blk c (Dz x) (DP x) (vr (PQ j 41) rfl)) NV rfl (Aw x.1.old.2) ⟨rfl,rfl⟩,fun ha ⟨hE,c,ab,o,m,_⟩=>Yk.fieldAt G8 T1 ⟨rfl,rfl⟩,fun ha ⟨hE,c,ab,o,m,_⟩=>Yk.loadPR (PR.blk c (C1 x) (Dd x) (vr (PQ j 73) rfl)) NV rfl (Aw x.1.new.2) ⟨rfl,rfl⟩,trivial⟩ (Bb rfl (Yk.fieldAt H7 T1 ?_))
  refine⟨.inr ⟨hE,c,ab,o,m,trivial⟩,?_⟩
  refine Bb rfl (Yk.cell1 CD rfl (vr (PQ j 40) rfl) (Ab c (show(msgC x)[40]? =some (St (x.1.name):Value)from Ee x)) ?_)
  refine⟨.inr ⟨hE,c,ab,o,m,trivial⟩,?_⟩
  refine Bb rfl (Yk.callA2 Hm (vr dg rfl) (vr (St (x.1.name)) rfl) ((Hl _ dg (((([(x.1.kind:UInt8)]:List UInt8)++Lib.uvarint x.1.session.toNat:List UInt8)++Lib.uvarint x.1.size.toNat:List UInt8)++x.1.id.1) (RB.ofOwn cn) x.1.name (by simp only[List.length_append,List.length_cons,List.length_nil];omega)).mono ?_))
  rintro e k9 ⟨la,rfl,c4⟩
  refine⟨_,rfl,?_⟩
  have um:=hE.size
  have il:=Ext.refl (World.drew ez)
  have ahs:w.heap.size≤(World.drew ez).heap.size:=hE.size
  have aht:kv.heap.size≤(World.drew ez).heap.size:=t.size
  have hE:=hE.trans c4.ext
  have c:=eb c4.ext c
  have t:=t.trans c4.ext
  have ab:=eb c4.ext ab
  have o:=eb c4.ext o
  have m:=eb c4.ext m
  have il:=il.trans c4.ext
  have hc:=c4.own;clear c4
  have hc:=AC hc um
  refine⟨.inr ⟨hE,c,ab,o,m,trivial⟩,?_⟩
  refine Bb rfl (Yk.callA2 E4 (vr la rfl) (vr (AB x.1.old.1) rfl) ((ED _ la ((((([(x.1.kind:UInt8)]:List UInt8)++Lib.uvarint x.1.session.toNat:List UInt8)++Lib.uvarint x.1.size.toNat:List UInt8)++x.1.id.1:List UInt8)++Bq x.1.name) (RB.ofOwn hc) (by simp only[List.length_append,List.length_cons,List.length_nil];omega) x.1.old).mono ?_))
  rintro e ahu ⟨lb,rfl,c5⟩
  refine⟨_,rfl,?_⟩
  have un:=hE.size
  have im:=Ext.refl k9
  have ahv:=hE.size
  have ahw:=t.size
  have ahx:(World.drew ez).heap.size≤k9.heap.size:=il.size
  have hE:=hE.trans c5.ext
  have c:=eb c5.ext c
  have t:=t.trans c5.ext
  have ab:=eb c5.ext ab
  have o:=eb c5.ext o
  have m:=eb c5.ext m
  have im:=im.trans c5.ext
  have hd:=c5.own;clear c5
  have hd:=AC hd un
  refine⟨.inr ⟨hE,c,ab,o,m,trivial⟩,?_⟩
  refine Bb rfl (Yk.callA2 E4 (vr lb rfl) (vr (AB x.1.new.1) rfl) ((ED _ lb (((((([(x.1.kind:UInt8)]:List UInt8)++Lib.uvarint x.1.session.toNat:List UInt8)++Lib.uvarint x.1.size.toNat:List UInt8)++x.1.id.1:List UInt8)++Bq x.1.name:List UInt8)++x.1.old.1) (RB.ofOwn hd) (by simp only[List.length_append,List.length_cons,List.length_nil];omega) x.1.new).mono ?_))
  rintro e ahy ⟨cg,rfl,ch⟩
  refine⟨_,rfl,?_⟩
  have uo:=hE.size
  have ahz:=hE.size
  have ah0:=t.size
  have ah1:=im.size
  have lc:OB cg j:=AY ch.own (bl c)
  have ld:OB cg bp:=AY ch.own (bl o)
  have ge:OB cg ae:=AY ch.own (bl m)
  have hE:=hE.trans ch.ext
  have c:=eb ch.ext c
  have t:=t.trans ch.ext
  have ab:=eb ch.ext ab
  have o:=eb ch.ext o
  have m:=eb ch.ext m
  have a8:=ch.own;clear ch
  have a8:=AC a8 uo
  refine⟨.inr ⟨hE,c,ab,o,m,trivial⟩,?_⟩
  refine Bb rfl (Yk.storeC (i:=0) (v:=cg) y (vr cg rfl) m (Nat.le_of_ble_eq_true rfl) IX (A6 a8).1 (A6 a8).2 fun ah2 le gf ah3=> ?_)
  have hE:=Ae hE gf (Nat.le_trans d2 (by omega))
  have c:=kb gf c (by omega)
  have t:=Ae t gf (Nat.le_trans (Nat.le_refl _) (by omega))
  have o:=kb gf o (by omega)
  clear m
  have a8:=AU a8 gf ge
  have m:=le;clear le
  have ah4:=bl m
  refine⟨.inl rfl,?_⟩
  refine D8 ?_
  clear cn
  clear hc
  clear hd
  refine tN (ul _ _ (sk fun ah5 up=>(wt (oA rfl (oZ (tN (up _ _ (sk fun ah6 lf=>(sk fun ah7 uq=>(wt (oS rfl (Yk.fieldAt KG T1 (oS rfl (Yk.cell1 De rfl (vr (PQ j 105) rfl) (Ab c (show(msgC x)[105]? =some (.bool (x.1.force):Value)from ET x)) (oZ (tN (uq _ _ ?_)))))))))))))))))
  refine Bz (x.1.force) (vr (.bool (x.1.force)) rfl) (fun io=> ?_) (fun io=> ?_)
  ·have hfc:=io
   refine wt (oA rfl (oZ (tN (lf _ _ (wt (oS rfl (Yk.cell1 El rfl y (Ab m (show _=some (cg:Value)from rfl)) (oM rfl (oS rfl (Yk.lit1 (b:=1) CA (vr (B8 (1)) rfl) fun ur ut dh=> ?_))))))))))
   have ah8:=hE.size
   have ah9:=t.size
   have hE:=hE.trans dh.ext
   have c:=eb dh.ext c
   have t:=t.trans dh.ext
   have o:=eb dh.ext o
   have a8:=Stab.own _ _ _ _ _ _ _ _ a8 dh.ext
   have m:=eb dh.ext m
   have lg:=dh.own;clear dh
   refine oS rfl (Yk.appendRB _ _ w.heap.size (.int .u8 0) El Hz rfl El ((((((([(x.1.kind:UInt8)]:List UInt8)++Lib.uvarint x.1.session.toNat:List UInt8)++Lib.uvarint x.1.size.toNat:List UInt8)++x.1.id.1:List UInt8)++Bq x.1.name:List UInt8)++x.1.old.1:List UInt8)++x.1.new.1) ([(1:UInt8)]) (own_of a8 (vr cg rfl)) (RB.of (RB.ofOwn lg) (vr ur rfl)) (by simp only[List.length_append,List.length_cons,List.length_nil];omega) hE.size fun di uu gg d5=> ?_)
   have d5:Grew ut uu cg di:=d5
   have uv:OB di ae:=AP d5 ge (bl m)
   have hE:=AF hE d5 a8 (Nat.le_refl _)
   have c:=AG c d5 lc
   clear t
   have o:=AG o d5 ld
   clear a8
   have m:=AG m d5 ge
   refine oS rfl (Yk.storeC (i:=0) (v:=di) y (vr di rfl) m (Nat.le_of_ble_eq_true rfl) IX (A6 gg).1 (A6 gg).2 fun aia lh hh aib=> ?_)
   have hE:=Ae hE hh (Nat.le_trans d2 (by omega))
   have c:=kb hh c (by omega)
   have o:=kb hh o (by omega)
   clear m
   have gg:=AU gg hh uv
   have m:=lh;clear lh
   have aic:=bl m
   refine Bp [(0, .agg (msgC x).toArray),(1,PQ j 0),(2,(Value.slice none 0 0)),(3,NI 0),(4,PQ ae 0),(5,PQ b0 0),(6, .func (.func 49) #[] #[PQ b0 0,PQ ae 0]),(7,PQ bp 0),(10,B8 (1)),(28, .bool (false)),(54, .bool (false)),(64, .bool (true)),(70, .bool (false)),(76, .bool (true)),(82, .bool (false)),(89, .bool (true))] ⟨T0,T1,T2,T3,y,T5,T6,f,rfl,rfl,rfl,rfl,rfl,rfl,rfl,rfl,trivial⟩ fun aid ⟨T0,T1,T2,T3,y,T5,T6,f,uw,dm,ux,uy,uz,u0,u1,u2,_⟩=> ?_
   clear lg
   refine tN (k8 _ _ (sk fun aie u3=>(sk fun aif u4=>(wt (oS rfl (Yk.fieldAt LJ f (oS rfl (Yk.cell1 De rfl (vr (PQ bp 7) rfl) (Ab o (show(partsC (⟨false,false,true,false,true,false,true,false⟩:Ai))[7]? =some (.bool (false):Value)from BR (⟨false,false,true,false,true,false,true,false⟩:Ai))) (oZ (tN (u4 _ _ (Am (vr (.bool (false)) rfl) (Ak (tN (u3 _ _ (sk fun aig u6=>(wt (oS rfl (Yk.cell1 El rfl y (Ab m (show _=some (di:Value)from rfl)) (oA rfl (oA rfl ?_)))))))))))))))))))))
   refine oZ (tN (u6 _ _ (Ao (An (fn:=Tryd.f16) _ rfl [di,NI 0] (.tuple #[di,NI 0]) rfl ⟨rfl,rfl,trivial⟩ ?_))))
   have hen:(((((([(x.1.kind:UInt8)]:List UInt8)++Lib.uvarint x.1.session.toNat:List UInt8)++Lib.uvarint x.1.size.toNat:List UInt8)++x.1.id.1:List UInt8)++Bq x.1.name:List UInt8)++x.1.old.1:List UInt8)++x.1.new.1++ [(1:UInt8)]=encB x.1:=by unfold encB Ba;rw[hk];simp[List.append_assoc,Ej,hfc]
   exact⟨di,by rw[hR];rfl,by rw[hR,if_pos rfl,←hen];exact RB.ofOwn gg,hE⟩
  have hfc:=io
  refine Ak (tN (lf _ _ (wt (oS rfl (Yk.cell1 El rfl y (Ab m (show _=some (cg:Value)from rfl)) (oM rfl (oS rfl (Yk.lit1 (b:=0) CA (vr (B8 (0)) rfl) fun u7 u9 d6=> ?_))))))))
  have aih:=hE.size
  have aii:=t.size
  have hE:=hE.trans d6.ext
  have c:=eb d6.ext c
  have o:=eb d6.ext o
  have a8:=Stab.own _ _ _ _ _ _ _ _ a8 d6.ext
  have m:=eb d6.ext m
  have li:=d6.own;clear d6
  refine oS rfl (Yk.appendRB _ _ w.heap.size (.int .u8 0) El Hz rfl El ((((((([(x.1.kind:UInt8)]:List UInt8)++Lib.uvarint x.1.session.toNat:List UInt8)++Lib.uvarint x.1.size.toNat:List UInt8)++x.1.id.1:List UInt8)++Bq x.1.name:List UInt8)++x.1.old.1:List UInt8)++x.1.new.1) ([(0:UInt8)]) (own_of a8 (vr cg rfl)) (RB.of (RB.ofOwn li) (vr u7 rfl)) (by simp only[List.length_append,List.length_cons,List.length_nil];omega) hE.size fun dj va gh d7=> ?_)
  have d7:Grew u9 va cg dj:=d7
  have vb:OB dj ae:=AP d7 ge (bl m)
  have hE:=AF hE d7 a8 (Nat.le_refl _)
  have c:=AG c d7 lc
  clear t
  have o:=AG o d7 ld
  clear a8
  have m:=AG m d7 ge
  refine oS rfl (Yk.storeC (i:=0) (v:=dj) y (vr dj rfl) m (Nat.le_of_ble_eq_true rfl) IX (A6 gh).1 (A6 gh).2 fun aij lj hj aik=> ?_)
  have hE:=Ae hE hj (Nat.le_trans d2 (by omega))
  have c:=kb hj c (by omega)
  have o:=kb hj o (by omega)
  clear m
  have gh:=AU gh hj vb
  have m:=lj;clear lj
  have ail:=bl m
  refine Bp [(0, .agg (msgC x).toArray),(1,PQ j 0),(2,(Value.slice none 0 0)),(3,NI 0),(4,PQ ae 0),(5,PQ b0 0),(6, .func (.func 49) #[] #[PQ b0 0,PQ ae 0]),(7,PQ bp 0),(10,B8 (0)),(28, .bool (false)),(54, .bool (false)),(64, .bool (true)),(70, .bool (false)),(76, .bool (true)),(82, .bool (false)),(89, .bool (true))] ⟨T0,T1,T2,T3,y,T5,T6,f,rfl,rfl,rfl,rfl,rfl,rfl,rfl,rfl,trivial⟩ fun aim ⟨T0,T1,T2,T3,y,T5,T6,f,uw,dm,ux,uy,uz,u0,u1,u2,_⟩=> ?_
  clear li
  refine tN (k8 _ _ (sk fun ain vc=>(sk fun aio vd=>(wt (oS rfl (Yk.fieldAt LJ f (oS rfl (Yk.cell1 De rfl (vr (PQ bp 7) rfl) (Ab o (show(partsC (⟨false,false,true,false,true,false,true,false⟩:Ai))[7]? =some (.bool (false):Value)from BR (⟨false,false,true,false,true,false,true,false⟩:Ai))) (oZ (tN (vd _ _ (Am (vr (.bool (false)) rfl) (Ak (tN (vc _ _ (sk fun aip ve=>(wt (oS rfl (Yk.cell1 El rfl y (Ab m (show _=some (dj:Value)from rfl)) (oA rfl (oA rfl ?_)))))))))))))))))))))
  refine oZ (tN (ve _ _ (Ao (An (fn:=Tryd.f16) _ rfl [dj,NI 0] (.tuple #[dj,NI 0]) rfl ⟨rfl,rfl,trivial⟩ ?_))))
  have hen:(((((([(x.1.kind:UInt8)]:List UInt8)++Lib.uvarint x.1.session.toNat:List UInt8)++Lib.uvarint x.1.size.toNat:List UInt8)++x.1.id.1:List UInt8)++Bq x.1.name:List UInt8)++x.1.old.1:List UInt8)++x.1.new.1++ [(0:UInt8)]=encB x.1:=by unfold encB Ba;rw[hk];simp[List.append_assoc,Ej,hfc]
  exact⟨dj,by rw[hR];rfl,by rw[hR,if_pos rfl,←hen];exact RB.ofOwn gh,hE⟩
 refine Ak (tN (c8 _ _ (sk fun aiq vf=>(wt (oS rfl (Yk.fieldAt H8 (vr (PQ j 0) rfl) (oS rfl (Yk.cell1 u5 rfl (vr (PQ j 0) rfl) (Ab c (show(msgC x)[0]? =some (B8 (x.1.kind):Value)from Bv x)) (oS rfl (Yk.lit1 (b:=x.1.kind) CA (vr (B8 (x.1.kind)) rfl) fun gi vg gj=> ?_))))))))))
 have bq:=Ext.refl c9
 have air:=hE.size
 have hE:=hE.trans gj.ext
 have c:=eb gj.ext c
 have bq:=bq.trans gj.ext
 have b1:=gj.own;clear gj
 refine oS rfl (Yk.alloc (cs:=([(Value.slice none 0 0)]).toArray) DI fun au vh vi lk gk ais=> ?_)
 have cf:=Ext.refl vg
 have ip:=hE.size
 have ll:=bq.size
 have ait:=Bo (bl c) vi
 have vj:OB gi au:=Bc b1 (by omega)
 have hE:=hE.trans gk
 have c:=eb gk c
 have bq:=bq.trans gk
 have b1:=Stab.own _ _ _ _ _ _ _ _ b1 gk
 have cf:=cf.trans gk
 have aq:=lk;clear lk
 have aiu:au<vh.heap.size:=by omega
 refine oS rfl (Yk.storeC (i:=0) (v:=gi) (vr (PQ au 0) rfl) (vr gi rfl) aq (Nat.le_of_ble_eq_true rfl) IX (A6 b1).1 (A6 b1).2 fun aiv lm gl aiw=> ?_)
 have hE:=Ae hE gl (Nat.le_trans ip (by omega))
 have c:=kb gl c (by omega)
 have bq:=Ae bq gl (Nat.le_trans ll (by omega))
 have b1:=AU b1 gl vj
 have cf:=Ae cf gl (Nat.le_trans (Nat.le_refl _) (by omega))
 clear aq
 have aq:=lm;clear lm
 have aix:=bl aq
 refine oZ (tN (vf _ _ (sk fun aiy vk=>(wt (oS rfl (Yk.mkFunc (vs:= #[PQ au 0]) (by simp only[List.map_toArray,List.map_cons,List.map_nil];exact congrArg List.toArray (Fi (vr (PQ au 0) rfl))) (oS rfl (Yk.alloc (cs:=([Value.nilFunc]).toArray) DJ fun c6 vl ln lo e2 aiz=> ?_))))))))
 have vm:=hE.size
 have vn:=bq.size
 have vo:=cf.size
 have ai0:=Bo (bl c) ln
 have ai1:=Bo (bl aq) ln
 have vp:OB gi c6:=Bc b1 (by omega)
 have hE:=hE.trans e2
 have c:=eb e2 c
 have bq:=bq.trans e2
 have b1:=Stab.own _ _ _ _ _ _ _ _ b1 e2
 have cf:=cf.trans e2
 have aq:=eb e2 aq
 have b9:=lo;clear lo
 have ai2:c6<vl.heap.size:=by omega
 refine oS rfl (Yk.storeC (i:=0) (v:= .func (.func 47) #[] #[PQ au 0]) (vr (PQ c6 0) rfl) (vr (.func (.func 47) #[] #[PQ au 0]) rfl) b9 (Nat.le_of_ble_eq_true rfl) wr6_isz89 rfl rfl fun ai3 lp e3 ai4=> ?_)
 have hE:=Ae hE e3 (Nat.le_trans vm (by omega))
 have c:=kb e3 c (by omega)
 have bq:=Ae bq e3 (Nat.le_trans vn (by omega))
 have b1:=AU b1 e3 vp
 have cf:=Ae cf e3 (Nat.le_trans vo (by omega))
 have aq:=kb e3 aq (by omega)
 clear b9
 have b9:=lp;clear lp
 have ai5:=bl b9
 refine oZ (tN (vk _ _ (sk fun ai6 vq=>(wt (oS rfl (Yk.mkFunc (vs:= #[PQ c6 0,PQ au 0]) (by simp only[List.map_toArray,List.map_cons,List.map_nil];exact congrArg List.toArray (B1 (vr (PQ c6 0) rfl) (vr (PQ au 0) rfl))) (oA rfl (oZ (tN (vq _ _ (sk fun ai7 vt=>(wt (oS rfl (Yk.cell1 Nx rfl (vr (PQ c6 0) rfl) (Ab b9 (show _=some (.func (.func 47) #[] #[PQ au 0]:Value)from rfl)) (oS rfl (Yk.fieldAt LK (vr (PQ j 0) rfl) (oS rfl (Yk.cell1 FI rfl (vr (PQ j 1) rfl) (Ab c (show(msgC x)[1]? =some (.int .i64 (x.1.session:Int):Value)from CU x)) (oS rfl (Yk.clo Ny (caps:= #[PQ au 0]) (vr (.func (.func 47) #[] #[PQ au 0]) rfl) #[.int .i64 (x.1.session:Int),PQ au 0] (by simp only[List.map_toArray,List.map_cons,List.map_nil,List.append_toArray,List.cons_append,List.nil_append];exact congrArg List.toArray (B1 (vr (.int .i64 (x.1.session:Int)) rfl) rfl)) ((Cf w _ hE au (by omega) gi ([(x.1.kind:UInt8)]) aq (RB.ofOwn b1) (by simp only[List.length_append,List.length_cons,List.length_nil];omega) x.1.session (by omega) (by omega)).mono ?_)))))))))))))))))))))
 rintro e d8 ⟨iq,rfl,lq,c7,gm⟩
 refine⟨_,rfl,?_⟩
 have c7:=AC c7 hE.size
 have hE:=Ae hE gm (Nat.le_trans ip (by omega))
 have c:=kb gm c (by omega)
 have bq:=Ae bq gm (Nat.le_trans ll (by omega))
 clear b1
 have cf:=Ae cf gm (Nat.le_trans (Nat.le_refl _) (by omega))
 clear aq
 have b9:=kb gm b9 (by omega)
 have aq:=lq;clear lq
 have ai8:=bl aq
 refine oZ (tN (vt _ _ (sk fun ai9 vu=> ?_)))
 have vv:=hE.size
 have aja:=bq.size
 have ajb:=cf.size
 have ajc:j<d8.heap.size:=(bl c)
 have ajd:c6<d8.heap.size:=(bl b9)
 have aje:au<d8.heap.size:=(bl aq)
 have vw:∀g,d8.heap.size≤g→OB iq g:=fun g hg=>Bc c7 hg
 refine Cz 5 _ [fun x w' =>∃b,x = .map (some b)∧MapF B8 AH (fun _:UInt8=>True) w' b AV,Is (PQ j 0),Is (B8 (x.1.kind)),Is (.agg (partsC (⟨false,false,false,false,false,false,false,true⟩:Ai)).toArray),fun x w' =>∃g,x=PQ g 0∧w'.heap[g]? =some (.cells (partsC (⟨false,false,false,false,false,false,false,false⟩:Ai)).toArray 92 (0,0))∧d8.heap.size≤g] (by kernel_rfl) [23,24,25,26,7] (by kernel_rfl) (by kernel_rfl) (by kernel_rfl) rfl rfl rfl ⟨(fun _ _ _ ⟨b,h1,h2⟩ k=>⟨b,h1,MapF.keep h2 k⟩),Stab.is _,Stab.is _,Stab.is _,(fun _ _ _ ⟨g,h1,h2,h3⟩ k=>⟨g,h1,eb k h2,h3⟩),trivial⟩ ?vx ?hQ10007
 case vx=>
  refine⟨?_,?_,?_,?_,?_,?_,trivial⟩
  ·refine Aj (Aa rfl fun σ w1 hC h=>(Yk.callA0 J2 ((Cs _).mono ?_)))
   rintro e w2 ⟨b,rfl,hmk,hx,hom⟩
   exact⟨_,rfl,hx,⟨b,rfl,hmk⟩⟩
  ·refine Aj (Aa rfl fun σ w1 hC h=> ?_)
   have e1:σ 1=PQ j 0:=(Af (h 1 (by decide))).trans rfl
   exact Yk.fieldAt H8 e1 ⟨Ext.refl _,rfl⟩
  ·refine Aj (Aa rfl fun σ w1 hC h=> ?_)
   have bc:=Af (h 24 (by decide))
   exact Yk.cell1 u5 rfl bc (Ab (eb hC c) (show(msgC x)[0]? =some (B8 (x.1.kind):Value)from Bv x)) ⟨Ext.refl _,rfl⟩
  ·refine Aj (Aa rfl fun σ w1 hC h=> ?_)
   have bd:(fun x w' =>∃b,x = .map (some b)∧MapF B8 AH (fun _:UInt8=>True) w' b AV) (σ 23) w1:=h 23 (by decide)
   have be:=Af (h 25 (by decide))
   obtain⟨b6,k6,m6⟩:=(show ∃b,σ 23 = .map (some b)∧MapF B8 AH (fun _:UInt8=>True) w1 b AV from bd)
   exact Yk.lookMS (ek:=B8) (ev:=AH) (D:=fun _:UInt8=>True) CE CF (fun _ _=>Dv) C8 (z:=AH BA) Cr k6 be m6 trivial hK ⟨Ext.refl _,rfl⟩
  ·refine Aj (Aa rfl fun σ w1 hC h=> ?_)
   exact Yk.alloc (cs:=(partsC (⟨false,false,false,false,false,false,false,false⟩:Ai)).toArray) J3 fun g w2 hn hb hx hs=>⟨hx,g,rfl,hb,Nat.le_trans (show Ext d8 w1 from hC).size (Nat.le_of_eq hn)⟩
  ·exact trivial
 intro ir vy gn he hf
 obtain⟨-,-,-,k26,k7,-⟩:=hf
 obtain⟨T0,T1,T2,T3,y,T5,T6,-⟩:=he.hold [(0,_),(1,PQ j 0),(2,(Value.slice none 0 0)),(3,NI 0),(4,PQ au 0),(5,PQ c6 0),(6, .func (.func 49) #[] #[PQ c6 0,PQ au 0])] ⟨T0,rfl,rfl,rfl,rfl,rfl,rfl,trivial⟩ rfl
 clear he
 have hE:=hE.trans gn
 have c:=eb gn c
 have b9:=eb gn b9
 have aq:=eb gn aq
 have c7:=Stab.own _ _ _ _ _ _ _ _ c7 gn
 have bf:ir 26 = .agg (partsC (⟨false,false,false,false,false,false,false,true⟩:Ai)).toArray:=k26
 have k7:(fun x w' =>∃g,x=PQ g 0∧w'.heap[g]? =some (.cells (partsC (⟨false,false,false,false,false,false,false,false⟩:Ai)).toArray 92 (0,0))∧d8.heap.size≤g) (ir 7) vy:=k7
 obtain⟨ajf,f⟩:∃v,ir 7=v:=⟨_,rfl⟩
 rw[f]at k7
 have vz:=k7;clear k7
 obtain⟨co,rfl,ca,v0⟩:=vz
 have ajg:=bl ca
 have v1:OB iq co:=vw _ v0
 clear k26
 refine(Yk.storeAll f bf ca (by simp only[List.size_toArray,BI]) (Au (BI _) Gt) (Cp (x:=(⟨false,false,false,false,false,false,false,true⟩:Ai))) fun v2 lr go ajh=> ?_)
 have hE:=Ae hE go (Nat.le_trans vv (by omega))
 have c:=kb go c (by omega)
 have b9:=kb go b9 (by omega)
 have aq:=kb go aq (by omega)
 have c7:=AU c7 go v1
 clear ca
 have ca:v2.heap[co]? =some (.cells (partsC (⟨false,false,false,false,false,false,false,true⟩:Ai)).toArray 92 (0,0)):=lr;clear lr
 have aji:=bl ca
 refine tN (vu _ _ (sk fun ajj v3=>(sk fun ajk v4=>(wt (oS rfl (Yk.fieldAt LD f (oS rfl (Yk.cell1 De rfl (vr (PQ co 0) rfl) (Ab ca (show(partsC (⟨false,false,false,false,false,false,false,true⟩:Ai))[0]? =some (.bool (false):Value)from BW (⟨false,false,false,false,false,false,false,true⟩:Ai))) (oZ (tN (v4 _ _ (Am (vr (.bool (false)) rfl) (Ak (tN (v3 _ _ (sk fun ajl v5=>(sk fun ajm v6=>(wt (oS rfl (Yk.fieldAt LE f (oS rfl (Yk.cell1 De rfl (vr (PQ co 1) rfl) (Ab ca (show(partsC (⟨false,false,false,false,false,false,false,true⟩:Ai))[1]? =some (.bool (false):Value)from BX (⟨false,false,false,false,false,false,false,true⟩:Ai))) ?_))))))))))))))))))))))
 refine oZ (tN (v6 _ _ (Am (vr (.bool (false)) rfl) (Ak (tN (v5 _ _ (sk fun ajn v7=>(sk fun ajo v8=>(wt (oS rfl (Yk.fieldAt LF f (oS rfl (Yk.cell1 De rfl (vr (PQ co 2) rfl) (Ab ca (show(partsC (⟨false,false,false,false,false,false,false,true⟩:Ai))[2]? =some (.bool (false):Value)from BY (⟨false,false,false,false,false,false,false,true⟩:Ai))) (oZ (tN (v8 _ _ (Am (vr (.bool (false)) rfl) (Ak (tN (v7 _ _ (sk fun ajp v9=> ?_)))))))))))))))))))))
 refine sk fun ajq wa=>(wt (oS rfl (Yk.fieldAt LG f (oS rfl (Yk.cell1 De rfl (vr (PQ co 3) rfl) (Ab ca (show(partsC (⟨false,false,false,false,false,false,false,true⟩:Ai))[3]? =some (.bool (false):Value)from BZ (⟨false,false,false,false,false,false,false,true⟩:Ai))) (oZ (tN (wa _ _ (Am (vr (.bool (false)) rfl) (Ak (tN (v9 _ _ (sk fun ajr wb=>(sk fun ajs wc=>(wt (oS rfl (Yk.fieldAt LH f (oS rfl (Yk.cell1 De rfl (vr (PQ co 4) rfl) (Ab ca (show(partsC (⟨false,false,false,false,false,false,false,true⟩:Ai))[4]? =some (.bool (false):Value)from B0 (⟨false,false,false,false,false,false,false,true⟩:Ai))) (oZ (tN (wc _ _ ?_))))))))))))))))))))))
 refine Am (vr (.bool (false)) rfl) (Ak (tN (wb _ _ (sk fun ajt wd=>(sk fun aju we=>(wt (oS rfl (Yk.fieldAt H5 f (oS rfl (Yk.cell1 De rfl (vr (PQ co 5) rfl) (Ab ca (show(partsC (⟨false,false,false,false,false,false,false,true⟩:Ai))[5]? =some (.bool (false):Value)from BP (⟨false,false,false,false,false,false,false,true⟩:Ai))) (oZ (tN (we _ _ (Am (vr (.bool (false)) rfl) (Ak (tN (wd _ _ (sk fun ajv wf=>(sk fun ajw wg=>(wt ?_))))))))))))))))))))
 refine oS rfl (Yk.fieldAt H6 f (oS rfl (Yk.cell1 De rfl (vr (PQ co 6) rfl) (Ab ca (show(partsC (⟨false,false,false,false,false,false,false,true⟩:Ai))[6]? =some (.bool (false):Value)from BQ (⟨false,false,false,false,false,false,false,true⟩:Ai))) (oZ (tN (wg _ _ (Am (vr (.bool (false)) rfl) (Ak (tN (wf _ _ (sk fun ajx wh=>(sk fun ajy wi=>(wt (oS rfl (Yk.fieldAt LJ f (oS rfl (Yk.cell1 De rfl (vr (PQ co 7) rfl) (Ab ca (show(partsC (⟨false,false,false,false,false,false,false,true⟩:Ai))[7]? =some (.bool (true):Value)from BR (⟨false,false,false,false,false,false,false,true⟩:Ai))) (oZ (tN (wi _ _ (At (vr (.bool (true)) rfl) (wt ?_))))))))))))))))))))))
 refine oS rfl (Yk.cell1 Nx rfl T5 (Ab b9 (show _=some (.func (.func 47) #[] #[PQ au 0]:Value)from rfl)) (oS rfl (Yk.fieldAt G9 T1 (oS rfl (Yk.cell1 J1 rfl (vr (PQ j 106) rfl) (Ab c (show(msgC x)[106]? =some (.int .i64 (x.1.code:Int):Value)from DQ x)) (oS rfl (Yk.clo Ny (caps:= #[PQ au 0]) (vr (.func (.func 47) #[] #[PQ au 0]) rfl) #[.int .i64 (x.1.code:Int),PQ au 0] (by simp only[List.map_toArray,List.map_cons,List.map_nil,List.append_toArray,List.cons_append,List.nil_append];exact congrArg List.toArray (B1 (vr (.int .i64 (x.1.code:Int)) rfl) rfl)) ((Cf w _ hE au (by omega) iq (([(x.1.kind:UInt8)]:List UInt8)++Lib.uvarint x.1.session.toNat) aq (RB.ofOwn c7) (by simp only[List.length_append,List.length_cons,List.length_nil];omega) x.1.code (by omega) (by omega)).mono ?_))))))))
 rintro e ajz ⟨hl,rfl,ls,iu,wj⟩
 refine⟨_,rfl,?_⟩
 have iu:=AC iu hE.size
 have hE:=Ae hE wj (Nat.le_trans ip (by omega))
 clear aq
 clear c7
 have aq:=ls;clear ls
 have aj0:=bl aq
 refine oZ (tN (wh _ _ (sk fun aj1 wk=>(wt (oS rfl (Yk.cell1 El rfl y (Ab aq (show _=some (hl:Value)from rfl)) (oA rfl (oA rfl (oZ (tN (wk _ _ (Ao (An (fn:=Tryd.f16) _ rfl [hl,NI 0] (.tuple #[hl,NI 0]) rfl ⟨rfl,rfl,trivial⟩ ?_)))))))))))))
 have hen:(([(x.1.kind:UInt8)]:List UInt8)++Lib.uvarint x.1.session.toNat:List UInt8)++Lib.uvarint x.1.code.toNat=encB x.1:=by unfold encB Ba;rw[hk];simp[List.append_assoc]
 exact⟨hl,by rw[hR];rfl,by rw[hR,if_pos rfl,←hen];exact RB.ofOwn iu,hE⟩
open Go.RowKit
abbrev AL(v:Value)(b:Bs)(i:Nat):DY:=(⟨b,((i:Nat):Int)⟩,⟨v⟩)
def Cx(b:Bs)(i:Nat):Option (UInt8 × Nat):=if i<b.length then some (b.getD i 0,i+1)else none
def Bk(b:Bs)(i:Nat):Option (Nat × Nat):=(AQ 0 (b.drop i)).map fun x=>(x.1,i+x.2)
def BU(b:Bs)(i most:Nat):Option (Bs × Nat):=match AQ 0 (b.drop i)with
  | none=>none
  | some x=>if most<x.1 then none else if b.length<i+x.2+x.1 then none else some ((b.drop (i+x.2)).take x.1,i+x.2+x.1)
def CZ(b:Bs)(i:Nat):Option (CI × Nat):=if h:i+32≤b.length then some (⟨(b.drop i).take 32,by rw[List.length_take,List.length_drop];omega⟩,i+32)else none
theorem Hn{b:Bs}{i n:Nat}{c:UInt8}(h:Cx b i=some (c,n)):n≤b.length:=by
  unfold Cx at h
  split at h
  · cases h;omega
  · cases h
theorem DA{b:Bs}{i n k:Nat}(hi:i≤b.length)(h:Bk b i=some (k,n)):n≤b.length:=by
  unfold Bk at h
  cases hd:AQ 0 (b.drop i)with
  | none=>rw[hd]at h;cases h
  | some x=>
    rw[hd]at h
    cases h
    have:=(Eg _ _ _ hd).2.1
    rw[List.length_drop]at this
    omega
theorem Er{b:Bs}{i most n:Nat}{s:Bs}(h:BU b i most=some (s,n)):n≤b.length∧s.length≤most:=by
  unfold BU at h
  split at h
  · cases h
  · split at h
    · cases h
    · split at h
      · cases h
      · cases h
        rw[List.length_take,List.length_drop]
        omega
theorem E5{b:Bs}{i n:Nat}{x:CI}(h:CZ b i=some (x,n)):n≤b.length:=by
  unfold CZ at h
  split at h
  · cases h;omega
  · cases h
theorem GQ{b:Bs}{i n k:Nat}(h:Bk b i=some (k,n)):k<9223372036854775808:=by
  unfold Bk at h
  cases hd:AQ 0 (b.drop i)with
  | none=>rw[hd]at h;cases h
  | some x=>
    rw[hd]at h
    cases h
    have h1:=Fk _ _ _ hd
    have h2:=(Eg _ _ _ hd).2.2
    have h3:128^x.2≤128^9:=Nat.pow_le_pow_right (by decide) (by omega)
    have h4:(128:Nat)^9=9223372036854775808:=by decide
    omega
theorem RB.keptE{w w' :World}{v:Value}{l:List UInt8}(h:RB w v l){row:Option Nat}(hg:w.grownBy w' row)(hv:l= []∨v.ownBlock≠row):RB w' v l:=by
  rcases hv with rfl | hv
  · obtain⟨h1,ao,cap,rfl,h2,h3,h4,h5⟩:=h
    exact⟨h1,ao,cap,rfl,h2,h3,h4,fun a ha j u hu=>by simp[Lib.byteCells]at hu⟩
  · exact RB.kept h hg (.inr hv)
def updP(b:Bs)(i:Nat):Option (AJ × Nat):=(Cx b i).bind fun x=>(BU b x.2 32).bind fun y=>(CZ b y.2).bind fun z=>some (⟨x.1,y.1,zid,z.1⟩,z.2)
def Dw{σ:Type}(f:σ→Option σ):Nat→σ→Option σ
  | 0,s=>some s
  | n+1,s=>(Dw f n s).bind f
theorem FY{σ:Type}{f:σ→Option σ}{s:σ}{j:Nat}(h:Dw f j s=none):∀n,j≤n→Dw f n s=none
  | 0,hn=>by(have:j=0:=by omega);rw[this]at h;exact h
  | n+1,hn=>by
    by_cases e:j=n+1
    · rw[←e];exact h
    · show(Dw f n s).bind f=none
      rw[FY h n (by omega)];rfl
theorem Es{σ:Type}{f:σ→Option σ}{s t:σ}{j:Nat}(h:Dw f j s=some t):Dw f (j+1) s=f t:=by
  show(Dw f j s).bind f=_
  rw[h];rfl
def BO{σ:Type}(b:Bs)(i most:Nat)(st:σ × Nat→Option (σ × Nat))(s:σ):Option (σ × Nat):=
  (Bk b i).bind fun x=>if x.1≤most then Dw st x.1 (s,x.2)else none
def addUpd(b:Bs)(s:List AJ × Nat):Option (List AJ × Nat):=(updP b s.2).map fun x=>(s.1++ [x.1],x.2)
def addId(b:Bs)(s:List Bs × Nat):Option (List Bs × Nat):=(CZ b s.2).map fun x=>(s.1++ [x.1.1],x.2)
theorem FZ{σ:Type}{b:Bs}{i most:Nat}{st:σ × Nat→Option (σ × Nat)}{s:σ}(h:Bk b i=none∨∃n j,Bk b i=some (n,j)∧¬n≤most):BO b i most st s=none:=by
  unfold BO
  rcases h with h | ⟨n,j,h,hn⟩
  · rw[h];rfl
  · rw[h];exact if_neg hn
theorem Dl{σ:Type}{b:Bs}{i most n j:Nat}{st:σ × Nat→Option (σ × Nat)}{s:σ}(h:Bk b i=some (n,j))(hn:n≤most):BO b i most st s=Dw st n (s,j):=by
  unfold BO
  rw[h];exact if_pos hn
theorem F0{σ:Type}{f:σ→Option σ}{s t:σ}{n:Nat}(h:Dw f (n+1) s=some t):∃u,Dw f n s=some u∧f u=some t:=by
  have h:(Dw f n s).bind f=some t:=h
  exact Option.bind_eq_some_iff.1 h
theorem Gw{b:Bs}:∀(n:Nat) {s t:List AJ × Nat},Dw (addUpd b) n s=some t→(∀u∈s.1,u.name.length≤32)→∀u∈t.1,u.name.length≤32
  | 0,s,t,h,hs=>by cases h;exact hs
  | n+1,s,t,h,hs=>by
    obtain⟨u,h1,h2⟩:=F0 h
    have hu:=Gw n h1 hs
    unfold addUpd at h2
    cases hd:updP b u.2 with
    | none=>rw[hd]at h2;cases h2
    | some x=>
      rw[hd]at h2
      cases h2
      intro y hy
      rcases List.mem_append.1 hy with hy | hy
      · exact hu y hy
      · rw[List.mem_singleton.1 hy]
        unfold updP at hd
        simp only[Option.bind_eq_some_iff]at hd
        obtain⟨c,h3,d,h4,e,h5,h6⟩:=hd
        cases h6
        exact(Er h4).2
theorem Iw{σ:Type}{f:List σ × Nat→Option (List σ × Nat)}(hf:∀s t,f s=some t→t.1.length=s.1.length+1):∀(n:Nat) {s t:List σ × Nat},Dw f n s=some t→t.1.length=s.1.length+n
  | 0,s,t,h=>by cases h;rfl
  | n+1,s,t,h=>by
    obtain⟨u,h1,h2⟩:=F0 h
    rw[hf u t h2,Iw hf n h1];omega
theorem Fo{σ:Type}{b:Bs}{i most:Nat}{st:σ × Nat→Option (σ × Nat)}{s:σ}{t:σ × Nat}(h:BO b i most st s=some t):∃n j,Bk b i=some (n,j)∧n≤most∧Dw st n (s,j)=some t:=by
  unfold BO at h
  rw[Option.bind_eq_some_iff]at h
  obtain⟨x,h1,h2⟩:=h
  split at h2
  · rename_i hn
    exact⟨x.1,x.2,h1,hn,h2⟩
  · cases h2
theorem J8{b:Bs}{i:Nat}{t:List AJ × Nat}(h:BO b i 128 (addUpd b) []=some t):t.1.length≤128∧∀u∈t.1,u.name.length≤32:=by
  obtain⟨n,j,-,hn,hi⟩:=Fo h
  refine⟨?_,Gw n hi (fun u hu=>by cases hu)⟩
  have:=Iw (fun s t h=>by unfold addUpd at h;rw[Option.map_eq_some_iff]at h;obtain⟨x,_,rfl⟩:=h;simp) n hi
  rw[this];simpa using hn
theorem Ld{b:Bs}{i:Nat}{t:List Bs × Nat}(h:BO b i 65536 (addId b) []=some t):t.1.length≤65536:=by
  obtain⟨n,j,-,hn,hi⟩:=Fo h
  have:=Iw (fun s t h=>by unfold addId at h;rw[Option.map_eq_some_iff]at h;obtain⟨x,_,rfl⟩:=h;simp) n hi
  rw[this];simpa using hn
def Ck(b:Bs)(m:Msg)(i:Nat):Option (Msg × Nat):=
  if m.kind=1 then some (m,i)
  else if m.kind=2 then(BO b i 128 (addUpd b) []).bind fun x=>some ({ m with refs:=x.1 },x.2)
  else if m.kind=3 then(BO b i 65536 (addId b) []).bind fun x=>(BO b x.2 65536 (addId b) []).bind fun y=>some ({ m with wants:=x.1,haves:=y.1 },y.2)
  else if m.kind=4 then(Bk b i).bind fun x=>(CZ b x.2).bind fun y=>some ({ m with size:=((x.1:Nat):Int),id:=y.1 },y.2)
  else if m.kind=5 then(Bk b i).bind fun x=>some ({ m with at_:=((x.1:Nat):Int) },x.2)
  else if m.kind=6 then(Bk b i).bind fun x=>(BU b x.2 256).bind fun y=>some ({ m with at_:=((x.1:Nat):Int),bytes:=y.1 },y.2)
  else if m.kind=7 then(Bk b i).bind fun x=>(CZ b x.2).bind fun y=>(BU b y.2 32).bind fun z=>(CZ b z.2).bind fun o=>(CZ b o.2).bind fun n=>(Cx b n.2).bind fun f=>if f.1.toNat≤1 then some ({ m with size:=((x.1:Nat):Int),id:=y.1,name:=z.1,old:=o.1,new:=n.1,force:=decide (f.1.toNat=1) },f.2)else none
  else if m.kind=8 then(Bk b i).bind fun x=>some ({ m with code:=((x.1:Nat):Int) },x.2)
  else none
noncomputable def Cv(b:Bs):Option Msg:=(Cx b 0).bind fun k=>if(AV k.1).isSome=true then(Bk b k.2).bind fun s=>(Ck b ⟨k.1,((s.1:Nat):Int),[],[],[],0,0,zid,[],[],zid,zid,false,0⟩ s.2).bind fun z=>if z.2=b.length∧rightB z.1=true then some z.1 else none else none
theorem DU{b:Bs}{n j1 j2:Nat}{k:UInt8}{p:Ai}(h1:Cx b 0=some (k,j1))(hK:AV k=some p)(h2:Bk b j1=some (n,j2)):
    Cv b=(Ck b ⟨k,((n:Nat):Int),[],[],[],0,0,zid,[],[],zid,zid,false,0⟩ j2).bind fun z=>if z.2=b.length∧rightB z.1=true then some z.1 else none:=by
  unfold Cv
  simp only[h1,Option.bind_some,hK,Option.isSome_some,↓reduceIte,h2]
theorem Mu{b:Bs}{m:Msg}{i:Nat}(h:m.kind=1):Ck b m i=some (m,i):=by
  unfold Ck
  rw[if_pos h]
theorem Mv{b:Bs}{m:Msg}{i:Nat}(h:m.kind=2):Ck b m i=(BO b i 128 (addUpd b) []).bind fun x=>some ({ m with refs:=x.1 },x.2):=by
  unfold Ck
  rw[if_neg (show ¬m.kind=1 by rw[h];decide),if_pos h]
theorem Mw{b:Bs}{m:Msg}{i:Nat}(h:m.kind=3):Ck b m i=(BO b i 65536 (addId b) []).bind fun x=>(BO b x.2 65536 (addId b) []).bind fun y=>some ({ m with wants:=x.1,haves:=y.1 },y.2):=by
  unfold Ck
  rw[if_neg (show ¬m.kind=1 by rw[h];decide),if_neg (show ¬m.kind=2 by rw[h];decide),if_pos h]
theorem Mx{b:Bs}{m:Msg}{i:Nat}(h:m.kind=4):Ck b m i=(Bk b i).bind fun x=>(CZ b x.2).bind fun y=>some ({ m with size:=((x.1:Nat):Int),id:=y.1 },y.2):=by
  unfold Ck
  rw[if_neg (show ¬m.kind=1 by rw[h];decide),if_neg (show ¬m.kind=2 by rw[h];decide),if_neg (show ¬m.kind=3 by rw[h];decide),if_pos h]
theorem My{b:Bs}{m:Msg}{i:Nat}(h:m.kind=5):Ck b m i=(Bk b i).bind fun x=>some ({ m with at_:=((x.1:Nat):Int) },x.2):=by
  unfold Ck
  rw[if_neg (show ¬m.kind=1 by rw[h];decide),if_neg (show ¬m.kind=2 by rw[h];decide),if_neg (show ¬m.kind=3 by rw[h];decide),if_neg (show ¬m.kind=4 by rw[h];decide),if_pos h]
theorem Mz{b:Bs}{m:Msg}{i:Nat}(h:m.kind=6):Ck b m i=(Bk b i).bind fun x=>(BU b x.2 256).bind fun y=>some ({ m with at_:=((x.1:Nat):Int),bytes:=y.1 },y.2):=by
  unfold Ck
  rw[if_neg (show ¬m.kind=1 by rw[h];decide),if_neg (show ¬m.kind=2 by rw[h];decide),if_neg (show ¬m.kind=3 by rw[h];decide),if_neg (show ¬m.kind=4 by rw[h];decide),if_neg (show ¬m.kind=5 by rw[h];decide),if_pos h]
theorem MA{b:Bs}{m:Msg}{i:Nat}(h:m.kind=7):Ck b m i=(Bk b i).bind fun x=>(CZ b x.2).bind fun y=>(BU b y.2 32).bind fun z=>(CZ b z.2).bind fun o=>(CZ b o.2).bind fun n=>(Cx b n.2).bind fun f=>if f.1.toNat≤1 then some ({ m with size:=((x.1:Nat):Int),id:=y.1,name:=z.1,old:=o.1,new:=n.1,force:=decide (f.1.toNat=1) },f.2)else none:=by
  unfold Ck
  rw[if_neg (show ¬m.kind=1 by rw[h];decide),if_neg (show ¬m.kind=2 by rw[h];decide),if_neg (show ¬m.kind=3 by rw[h];decide),if_neg (show ¬m.kind=4 by rw[h];decide),if_neg (show ¬m.kind=5 by rw[h];decide),if_neg (show ¬m.kind=6 by rw[h];decide),if_pos h]
theorem MB{b:Bs}{m:Msg}{i:Nat}(h:m.kind=8):Ck b m i=(Bk b i).bind fun x=>some ({ m with code:=((x.1:Nat):Int) },x.2):=by
  unfold Ck
  rw[if_neg (show ¬m.kind=1 by rw[h];decide),if_neg (show ¬m.kind=2 by rw[h];decide),if_neg (show ¬m.kind=3 by rw[h];decide),if_neg (show ¬m.kind=4 by rw[h];decide),if_neg (show ¬m.kind=5 by rw[h];decide),if_neg (show ¬m.kind=6 by rw[h];decide),if_neg (show ¬m.kind=7 by rw[h];decide),if_pos h]
open Go.RowKit
set_option maxRecDepth 100000
def BS:PanicEntry:= { v:= .iface 107 (.agg #[]),recovered:=false }
theorem MC:∃fs,Tryd.prog.underlying 107=some (.struct fs):=Fh (by kernel_rfl)
theorem Bi:A5 Tryd.prog 111 1 1:=fun b o w=>by simp[go_sem]
theorem Cb:A5 Tryd.prog 111 0 0:=fun b o w=>by simp[go_sem]
theorem CQ:AN Tryd.prog 109:=fun _ _=>by kernel_rfl
theorem Dm:(Tryd.prog.info? 3).map (·.size)=some 1:=by kernel_rfl
theorem IY:AN Tryd.prog 145:=fun _ _=>by kernel_rfl
theorem Fp:AN Tryd.prog 146:=fun _ _=>by kernel_rfl
theorem IZ:AN Tryd.prog 147:=fun _ _=>by kernel_rfl
set_option maxHeartbeats 1600000
theorem AZ(w:World)(b:Bool):
  Calls Tryd.prog 109 #[.bool b] w fun r w' =>(∃v,r = .returned v∧v = .tuple #[]∧b=true∧Ext w w')∨∃ch,r = .panicked ch∧ch= [BS]∧b=false∧Ext w w' :=by
 refine BN (args:= [.bool (b)]) Tryd.func109 rfl 6 rfl (Nat.le_of_ble_eq_true rfl) ?_
 intro c hb
 have e:c 0=(.bool (b):Value):=hb.get 0
 clear hb
 have hE:=Ext.refl w
 refine sk fun g f=>(wt (oM rfl (oS rfl (Yk.notB e (oZ (tN (f _ _ ?_)))))))
 refine Bz (!(b)) (vr (.bool (!(b))) rfl) (fun a=> ?_) (fun a=> ?_)
 ·refine wt (oS rfl (Yk.run (v:= .agg #[]) (by kernel_rfl) (oS rfl (Yk.mkIface (MC).choose_spec (vr (.agg #[]) rfl) (oP rfl (Yp.panic (vr (.iface 107 (.agg #[])) rfl) (postP_panic ?_)))))))
  exact .inr ⟨_,rfl,rfl,by simpa using a,hE⟩
 refine Ak (C3 (fn:=Tryd.f109) [] rfl [] (.tuple #[]) rfl trivial ?_)
 exact .inl ⟨_,rfl,rfl,by simpa using a,hE⟩

theorem Ho(w:World)(r:Nat)(v:Value)(b:Bs)(i:Nat)(hb:w.heap[r]? =some (.cells (A4 (AL v b (i))).toArray 111 (0,0)))(hr:RB w v b)(hap:b= []∨OB v r)(hi:i≤b.length)(hl:b.length≤4611686018427387904):
  Calls Tryd.prog 108 #[PQ r 0] w fun e w' =>(∃x,e = .returned x∧∃c n,Cx b i=some (c,n)∧x=B8 c∧w'.heap[r]? =some (.cells (A4 (AL v b (n))).toArray 111 (0,0))∧w.grownBy w' (some r))∨∃ch,e = .panicked ch∧Cx b i=none∧ch= [BS]∧w.grownBy w' (some r):=by
 have hlr:=(bl hb)
 have hgr:=World.grownBy.refl w (some r)
 refine BN (args:= [PQ r 0]) Tryd.func108 rfl 32 rfl (Nat.le_of_ble_eq_true rfl) ?_
 intro al hb
 have f:al 0=(PQ r 0:Value):=hb.get 0
 clear hb
 have hE:=Ext.refl w
 refine sk fun K1 ad=>(wt (oA rfl (oZ ?_)))
 by_cases hlt:i<b.length
 ·have hP:Cx b i=some (b.getD i 0,i+1):=if_pos hlt
  refine tN (ad _ _ (sk fun K2 am=> ?_))
  refine Bh 10 _ [Is (PQ r 0),Is (PQ r 0),Is (PQ r 1),Is (NI i),Is (PQ r 0),Is (PQ r 0),Is (PQ r 0),Is (v),Is (NI b.length),Is (.bool (true))] (by kernel_rfl) [3,4,5,6,7,8,9,10,11,12,13] (by kernel_rfl) (by kernel_rfl) (by kernel_rfl) rfl rfl rfl (fun _ _=>trivial) (Oy trivial) ?an ?hQ1001
  case an=>
   refine⟨?_,?_,?_,?_,?_,?_,?_,?_,?_,?_,?_,trivial⟩
   ·refine Aj (Aa rfl fun σ w1 hC h=> ?_)
    have g:=(Af (h 0 (by decide))).trans f
    exact Yk.move g ⟨Ext.refl _,rfl⟩
   ·refine Aj (Aa rfl fun σ w1 hC h=> ?_)
    have k:=Af (h 3 (by decide))
    exact Yk.nilCheck k ⟨Ext.refl _,rfl⟩
   ·refine Aj (Aa rfl fun σ w1 hC h=> ?_)
    have m:=Af (h 4 (by decide))
    exact Yk.fieldAt Bi m ⟨Ext.refl _,rfl⟩
   ·refine Aj (Aa rfl fun σ w1 hC h=> ?_)
    have o:=Af (h 5 (by decide))
    exact Yk.cell1 FI rfl o (Ab (eb hC hb) (show(A4 (AL v b (i)))[1]? =some (NI i:Value)from BV (AL v b (i)))) ⟨Ext.refl _,rfl⟩
   ·refine Aj (Aa rfl fun σ w1 hC h=> ?_)
    have g:=(Af (h 0 (by decide))).trans f
    exact Yk.move g ⟨Ext.refl _,rfl⟩
   ·refine Aj (Aa rfl fun σ w1 hC h=> ?_)
    have p:=Af (h 7 (by decide))
    exact Yk.nilCheck p ⟨Ext.refl _,rfl⟩
   ·refine Aj (Aa rfl fun σ w1 hC h=> ?_)
    have q:=Af (h 8 (by decide))
    exact Yk.fieldAt Cb q ⟨Ext.refl _,rfl⟩
   ·refine Aj (Aa rfl fun σ w1 hC h=> ?_)
    have s:=Af (h 9 (by decide))
    exact Yk.cell1 El rfl s (Ab (eb hC hb) (show(A4 (AL v b (i)))[0]? =some (v:Value)from B2 (AL v b (i)))) ⟨Ext.refl _,rfl⟩
   ·refine Aj (Aa rfl fun σ w1 hC h=> ?_)
    have t:=Af (h 10 (by decide))
    exact Yk.lenRB El (RB.of (hr.keep (hE.trans hC)) t) ⟨Ext.refl _,rfl⟩
   ·refine Aj (Aa rfl fun σ w1 hC h=> ?_)
    have u:=Af (h 6 (by decide))
    have y:=Af (h 11 (by decide))
    exact Yk.eqI (a:=(i:Nat)) (b:=(b.length:Nat)) u y (A0 _ _ _ _) ⟨Ext.refl _,(congrArg Value.bool (decide_eq_true ((by omega))))⟩
   ·exact trivial
  intro ao w4 z he hf
  obtain⟨-,-,-,-,-,-,-,-,-,k12,-⟩:=hf
  obtain⟨f,j,-⟩:=he.hold [(0,_),(2,B8 (0))] ⟨f,rfl,trivial⟩ rfl
  clear he
  have hb:=eb z hb
  have hgr:w.grownBy w4 (some r):=Ag hgr z.grown (fun _ e=>by cases e)
  have hE:=hE.trans z
  have aa:ao 12 = .bool (true):=k12
  clear k12
  refine Yp.callA1 CQ aa ?_
  refine Ar (AZ _ (true)) ?_ ?_
  rotate_left
  ·
   rintro ch w8 ⟨rfl,hb,hx⟩
   refine Aq (postP_panic ?_)
   cases hb
  rintro v_ w9 ⟨rfl,bf,ab⟩
  have hb:=eb ab hb
  have hgr:w.grownBy w9 (some r):=Ag hgr ab.grown (fun _ e=>by cases e)
  have hE:=hE.trans ab
  intro ae af
  have f:ae 0=(PQ r 0:Value):=(af 0 (by decide)).trans f
  have j:ae 2=(B8 (0):Value):=(af 2 (by decide)).trans j
  have hr:=(hr.keep hE)
  refine tN (am _ _ (sk fun bg ar=>(wt (oM rfl (oS rfl (Yk.nilCheck f (oS rfl (Yk.fieldAt Bi (vr (PQ r 0) rfl) (oS rfl (Yk.cell1 FI rfl (vr (PQ r 1) rfl) (Ab hb (show(A4 (AL v b (i)))[1]? =some (NI i:Value)from BV (AL v b (i)))) (oS rfl (Yk.bin (xv:=NI i) (yv:=NI 1) rfl rfl rfl (Be _ _ _ (by omega)) (oS rfl (Yk.nilCheck f (oS rfl (Yk.fieldAt Bi (vr (PQ r 0) rfl) (oS rfl (Yk.storeC (i:=1) (v:=NI ((i)+(1))) (vr (PQ r 1) rfl) (vr (NI ((i)+(1))) rfl) hb (by rw[Ef];decide) Dm rfl rfl fun ag ah ai bh=> ?_))))))))))))))))))
  clear hb
  have hr:=RB.keptE hr ai hap
  have hgr:w.grownBy ag (some r):=Ag hgr ai (fun _ e=> .inl e)
  clear hE
  have hb:ag.heap[r]? =some (.cells (A4 ((⟨b,(((i)+(1):Nat):Int)⟩,⟨v⟩):DY)).toArray 111 (0,0)):=Az ah (EK (AL v b (i)) (((i)+(1):Nat):Int));clear ah
  have bi:=bl hb
  refine oZ (tN (ar _ _ (sk fun bj au=> ?_)))
  refine A2 [Is (PQ r 0),Is (PQ r 0),Is (PQ r 0),Is (v),Is (PQ r 0),Is (PQ r 0),Is (PQ r 1),Is (NI ((i)+(1))),Is (NI (((i)+(1))-(1))),PCell (B8 (b.getD (((i)+(1))-(1)) 0)),Is (B8 (b.getD (((i)+(1))-(1)) 0)),Is (B8 (b.getD (((i)+(1))-(1)) 0))] (by kernel_rfl) [21,22,23,24,25,26,27,28,29,30,31,2] (by kernel_rfl) (by kernel_rfl) (L7 ⟨Stab.pcell _,(Db trivial)⟩) ?av ?hQ2003
  case av=>
   refine⟨?_,?_,?_,?_,?_,?_,?_,?_,?_,?_,?_,?_,trivial⟩
   ·refine Aa rfl fun σ w1 hC h=> ?_
    have g:=(Af (h 0 (by decide))).trans f
    exact Yk.move g ⟨Ext.refl _,rfl⟩
   ·refine Aa rfl fun σ w1 hC h=> ?_
    have aw:=Af (h 21 (by decide))
    exact Yk.nilCheck aw ⟨Ext.refl _,rfl⟩
   ·refine Aa rfl fun σ w1 hC h=> ?_
    have ax:=Af (h 22 (by decide))
    exact Yk.fieldAt Cb ax ⟨Ext.refl _,rfl⟩
   ·refine Aa rfl fun σ w1 hC h=> ?_
    have ay:=Af (h 23 (by decide))
    exact Yk.cell1 El rfl ay (Ab (eb hC hb) (show(A4 ((⟨b,(((i)+(1):Nat):Int)⟩,⟨v⟩):DY))[0]? =some (v:Value)from B2 ((⟨b,(((i)+(1):Nat):Int)⟩,⟨v⟩):DY))) ⟨Ext.refl _,rfl⟩
   ·refine Aa rfl fun σ w1 hC h=> ?_
    have g:=(Af (h 0 (by decide))).trans f
    exact Yk.move g ⟨Ext.refl _,rfl⟩
   ·refine Aa rfl fun σ w1 hC h=> ?_
    have az:=Af (h 25 (by decide))
    exact Yk.nilCheck az ⟨Ext.refl _,rfl⟩
   ·refine Aa rfl fun σ w1 hC h=> ?_
    have a0:=Af (h 26 (by decide))
    exact Yk.fieldAt Bi a0 ⟨Ext.refl _,rfl⟩
   ·refine Aa rfl fun σ w1 hC h=> ?_
    have a1:=Af (h 27 (by decide))
    exact Yk.cell1 FI rfl a1 (Ab (eb hC hb) (show(A4 ((⟨b,(((i)+(1):Nat):Int)⟩,⟨v⟩):DY))[1]? =some (NI ((i)+(1)):Value)from BV ((⟨b,(((i)+(1):Nat):Int)⟩,⟨v⟩):DY))) ⟨Ext.refl _,rfl⟩
   ·refine Aa rfl fun σ w1 hC h=> ?_
    have a2:=Af (h 28 (by decide))
    exact Yk.bin (xv:=NI ((i)+(1))) (yv:=NI 1) a2 rfl rfl (BE _ _ _ (by omega) (by omega)) ⟨Ext.refl _,rfl⟩
   ·refine Aa rfl fun σ w1 hC h=> ?_
    have a3:=Af (h 24 (by decide))
    have a4:=Af (h 29 (by decide))
    exact Yk.atRB (l:=b) (i:=((i)+(1))-(1)) El Lt (RB.of (hr.keep hC) a3) a4 (by omega) fun _ h=>⟨Ext.refl _,h⟩
   ·refine Aa rfl fun σ w1 hC h=> ?_
    have a5:(PCell (B8 (b.getD (((i)+(1))-(1)) 0))) (σ 30) w1:=h 30 (by decide)
    exact Yk.loadC u5 rfl a5 ⟨Ext.refl _,rfl⟩
   ·refine Aa rfl fun σ w1 hC h=> ?_
    have a6:=Af (h 31 (by decide))
    exact Yk.assign a6 ⟨Ext.refl _,rfl⟩
  intro aj a7 ac he hf
  obtain⟨-,-,-,-,-,-,-,-,-,-,-,k2,-⟩:=hf
  have f:aj 0=PQ r 0:=he.at_ f rfl
  clear he
  have hr:=hr.keep ac
  have hgr:w.grownBy a7 (some r):=Ag hgr ac.grown (fun _ e=>by cases e)
  have hb:=eb ac hb
  have j:aj 2=B8 (b.getD (((i)+(1))-(1)) 0):=k2
  clear k2
  refine tN (au _ _ (Ao (BJ (fn:=Tryd.f108) _ rfl [B8 (b.getD (((i)+(1))-(1)) 0)] (B8 (b.getD (((i)+(1))-(1)) 0)) rfl ⟨j,trivial⟩ ?_)))
  exact .inl ⟨_,rfl,_,_,hP,rfl,hb,hgr⟩
 have hP:Cx b i=none:=if_neg hlt
 refine tN (ad _ _ (sk fun bk bm=> ?_))
 refine Bh 10 _ [Is (PQ r 0),Is (PQ r 0),Is (PQ r 1),Is (NI i),Is (PQ r 0),Is (PQ r 0),Is (PQ r 0),Is (v),Is (NI b.length),Is (.bool (false))] (by kernel_rfl) [3,4,5,6,7,8,9,10,11,12,13] (by kernel_rfl) (by kernel_rfl) (by kernel_rfl) rfl rfl rfl (fun _ _=>trivial) (Oy trivial) ?a8 ?hQ3001
 case a8=>
  refine⟨?_,?_,?_,?_,?_,?_,?_,?_,?_,?_,?_,trivial⟩
  ·refine Aj (Aa rfl fun σ w1 hC h=> ?_)
   have g:=(Af (h 0 (by decide))).trans f
   exact Yk.move g ⟨Ext.refl _,rfl⟩
  ·refine Aj (Aa rfl fun σ w1 hC h=> ?_)
   have k:=Af (h 3 (by decide))
   exact Yk.nilCheck k ⟨Ext.refl _,rfl⟩
  ·refine Aj (Aa rfl fun σ w1 hC h=> ?_)
   have m:=Af (h 4 (by decide))
   exact Yk.fieldAt Bi m ⟨Ext.refl _,rfl⟩
  ·refine Aj (Aa rfl fun σ w1 hC h=> ?_)
   have o:=Af (h 5 (by decide))
   exact Yk.cell1 FI rfl o (Ab (eb hC hb) (show(A4 (AL v b (i)))[1]? =some (NI i:Value)from BV (AL v b (i)))) ⟨Ext.refl _,rfl⟩
  ·refine Aj (Aa rfl fun σ w1 hC h=> ?_)
   have g:=(Af (h 0 (by decide))).trans f
   exact Yk.move g ⟨Ext.refl _,rfl⟩
  ·refine Aj (Aa rfl fun σ w1 hC h=> ?_)
   have p:=Af (h 7 (by decide))
   exact Yk.nilCheck p ⟨Ext.refl _,rfl⟩
  ·refine Aj (Aa rfl fun σ w1 hC h=> ?_)
   have q:=Af (h 8 (by decide))
   exact Yk.fieldAt Cb q ⟨Ext.refl _,rfl⟩
  ·refine Aj (Aa rfl fun σ w1 hC h=> ?_)
   have s:=Af (h 9 (by decide))
   exact Yk.cell1 El rfl s (Ab (eb hC hb) (show(A4 (AL v b (i)))[0]? =some (v:Value)from B2 (AL v b (i)))) ⟨Ext.refl _,rfl⟩
  ·refine Aj (Aa rfl fun σ w1 hC h=> ?_)
   have t:=Af (h 10 (by decide))
   exact Yk.lenRB El (RB.of (hr.keep (hE.trans hC)) t) ⟨Ext.refl _,rfl⟩
  ·refine Aj (Aa rfl fun σ w1 hC h=> ?_)
   have u:=Af (h 6 (by decide))
   have y:=Af (h 11 (by decide))
   exact Yk.eqI (a:=(i:Nat)) (b:=(b.length:Nat)) u y (A0 _ _ _ _) ⟨Ext.refl _,(congrArg Value.bool (decide_eq_false ((by omega))))⟩
  ·exact trivial
 intro a9 ba ak he hf
 obtain⟨-,-,-,-,-,-,-,-,-,k12,-⟩:=hf
 obtain⟨f,j,-⟩:=he.hold [(0,_),(2,B8 (0))] ⟨f,rfl,trivial⟩ rfl
 clear he
 have hb:=eb ak hb
 have hgr:w.grownBy ba (some r):=Ag hgr ak.grown (fun _ e=>by cases e)
 have aa:a9 12 = .bool (false):=k12
 clear k12
 refine Yp.callA1 CQ aa ?_
 refine Ar (AZ _ (false)) ?_ ?_
 rotate_left
 ·
  rintro ch bn ⟨rfl,hb,hx⟩
  refine Aq (postP_panic ?_)
  exact .inr ⟨_,rfl,hP,rfl,(Ag hgr hx.grown (fun _ e=>by cases e))⟩
 rintro v_ bo ⟨rfl,bb,bp⟩
 cases bb

theorem Cy(w:World)(r:Nat)(v:Value)(b:Bs)(i:Nat)(hb:w.heap[r]? =some (.cells (A4 (AL v b (i))).toArray 111 (0,0)))(hr:RB w v b)(hap:b= []∨OB v r)(hi:i≤b.length)(hl:b.length≤4611686018427387904):
  Calls Tryd.prog 110 #[PQ r 0] w fun e w' =>(∃x,e = .returned x∧∃c n,Bk b i=some (c,n)∧x=NI c∧w'.heap[r]? =some (.cells (A4 (AL v b (n))).toArray 111 (0,0))∧w.grownBy w' (some r))∨∃ch,e = .panicked ch∧Bk b i=none∧ch= [BS]∧w.grownBy w' (some r):=by
 have hlr:=(bl hb)
 have hgr:=World.grownBy.refl w (some r)
 refine BN (args:= [PQ r 0]) Tryd.func110 rfl 27 rfl (Nat.le_of_ble_eq_true rfl) ?_
 intro aq hb
 have g:aq 0=(PQ r 0:Value):=hb.get 0
 clear hb
 have hE:=Ext.refl w
 refine sk fun K1 aj=>(wt (oA rfl (oZ ?_)))
 rcases hd:AQ 0 (b.drop i)with _ | ⟨xn,xk⟩
 ·have hP:Bk b i=none:=by unfold Bk;rw[hd];rfl
  refine tN (aj _ _ (sk fun K2 ar=> ?_))
  refine A2 [Is (PQ r 0),Is (PQ r 0),Is (PQ r 0),Is (v),Is (PQ r 0),Is (PQ r 0),Is (PQ r 1),Is (NI i),Is (.tuple #[NI 0,NI 0,NI 6]),Is (.tuple #[NI 0,NI 0,NI 6]),Is (NI 0),Is (NI 0),Is (NI 6),Is (NI 0),Is (NI 0),Is (NI 6)] (by kernel_rfl) [7,8,9,10,11,12,13,14,15,6,16,17,18,3,4,5] (by kernel_rfl) (by kernel_rfl) (JG (B6 trivial)) ?au ?hQ1001
  case au=>
   refine⟨?_,?_,?_,?_,?_,?_,?_,?_,?_,?_,?_,?_,?_,?_,?_,?_,trivial⟩
   ·refine Aa rfl fun σ w1 hC h=> ?_
    have j:=(Af (h 0 (by decide))).trans g
    exact Yk.move j ⟨Ext.refl _,rfl⟩
   ·refine Aa rfl fun σ w1 hC h=> ?_
    have l:=Af (h 7 (by decide))
    exact Yk.nilCheck l ⟨Ext.refl _,rfl⟩
   ·refine Aa rfl fun σ w1 hC h=> ?_
    have m:=Af (h 8 (by decide))
    exact Yk.fieldAt Cb m ⟨Ext.refl _,rfl⟩
   ·refine Aa rfl fun σ w1 hC h=> ?_
    have o:=Af (h 9 (by decide))
    exact Yk.cell1 El rfl o (Ab (eb hC hb) (show(A4 (AL v b (i)))[0]? =some (v:Value)from B2 (AL v b (i)))) ⟨Ext.refl _,rfl⟩
   ·refine Aa rfl fun σ w1 hC h=> ?_
    have j:=(Af (h 0 (by decide))).trans g
    exact Yk.move j ⟨Ext.refl _,rfl⟩
   ·refine Aa rfl fun σ w1 hC h=> ?_
    have p:=Af (h 11 (by decide))
    exact Yk.nilCheck p ⟨Ext.refl _,rfl⟩
   ·refine Aa rfl fun σ w1 hC h=> ?_
    have q:=Af (h 12 (by decide))
    exact Yk.fieldAt Bi q ⟨Ext.refl _,rfl⟩
   ·refine Aa rfl fun σ w1 hC h=> ?_
    have s:=Af (h 13 (by decide))
    exact Yk.cell1 FI rfl s (Ab (eb hC hb) (show(A4 (AL v b (i)))[1]? =some (NI i:Value)from BV (AL v b (i)))) ⟨Ext.refl _,rfl⟩
   ·refine Aa rfl fun σ w1 hC h=> ?_
    have t:=Af (h 10 (by decide))
    have u:=Af (h 14 (by decide))
    refine Yk.callA2 IY t u ?_
    refine((show Calls _ _ _ _ (fun e k=>e = .returned (.tuple #[NI 0,NI 0,NI 6])∧Ext _ k)from(JO _ v b (hr.keep (hE.trans hC)) i hi).mono fun e k ⟨h1,h2⟩=>by subst h2;subst h1;refine⟨?_,Ext.refl _⟩;rw[hd];rfl)).mono ?_
    rintro e k ⟨rfl,hx⟩
    exact⟨_,rfl,hx,rfl⟩
   ·refine Aa rfl fun σ w1 hC h=> ?_
    have y:=Af (h 15 (by decide))
    exact Yk.move y ⟨Ext.refl _,rfl⟩
   ·refine Aa rfl fun σ w1 hC h=> ?_
    have f:=Af (h 6 (by decide))
    exact Yk.extract (vs:= [NI 0,NI 0,NI 6]) f (show _=some (NI 0:Value)from rfl) ⟨Ext.refl _,rfl⟩
   ·refine Aa rfl fun σ w1 hC h=> ?_
    have f:=Af (h 6 (by decide))
    exact Yk.extract (vs:= [NI 0,NI 0,NI 6]) f (show _=some (NI 0:Value)from rfl) ⟨Ext.refl _,rfl⟩
   ·refine Aa rfl fun σ w1 hC h=> ?_
    have f:=Af (h 6 (by decide))
    exact Yk.extract (vs:= [NI 0,NI 0,NI 6]) f (show _=some (NI 6:Value)from rfl) ⟨Ext.refl _,rfl⟩
   ·refine Aa rfl fun σ w1 hC h=> ?_
    have z:=Af (h 16 (by decide))
    exact Yk.assign z ⟨Ext.refl _,rfl⟩
   ·refine Aa rfl fun σ w1 hC h=> ?_
    have aa:=Af (h 17 (by decide))
    exact Yk.assign aa ⟨Ext.refl _,rfl⟩
   ·refine Aa rfl fun σ w1 hC h=> ?_
    have ab:=Af (h 18 (by decide))
    exact Yk.assign ab ⟨Ext.refl _,rfl⟩
  intro ac w4 ad he hf
  obtain⟨-,-,-,-,-,-,-,-,-,-,-,-,-,k3,k4,k5,-⟩:=hf
  obtain⟨g,T2,-⟩:=he.hold [(0,_),(2,NI 0)] ⟨g,rfl,trivial⟩ rfl
  clear he
  have hb:=eb ad hb
  have hgr:w.grownBy w4 (some r):=Ag hgr ad.grown (fun _ e=>by cases e)
  have hE:=hE.trans ad
  have T3:ac 3=NI 0:=k3
  have T4:ac 4=NI 0:=k4
  have T5:ac 5=NI 6:=k5
  clear k3 k4 k5
  refine tN (ar _ _ (sk fun K6 ax=>(wt (oM rfl (oS rfl (Yk.eqI (a:=(6:Nat)) (b:=(0:Nat)) T5 rfl (k_eql _ _ _ _) (oP rfl (Yp.callA1 CQ (vr (.bool (decide ((6:Nat)=(0)))) rfl) ?_))))))))
  refine Ar (AZ _ (decide ((6:Nat)=(0)))) ?_ ?_
  rotate_left
  ·
   rintro ch w9 ⟨rfl,hb,hx⟩
   refine Aq (postP_panic ?_)
   have hno:=of_decide_eq_false hb
   exact .inr ⟨_,rfl,hP,rfl,(Ag hgr hx.grown (fun _ e=>by cases e))⟩
  rintro v_ ay ⟨rfl,az,ah⟩
  have hb:=eb ah hb
  have hgr:w.grownBy ay (some r):=Ag hgr ah.grown (fun _ e=>by cases e)
  have hE:=hE.trans ah
  have bg:=of_decide_eq_true az
  refine oZ (tN (ax _ _ (sk fun bh a0=>(wt (oM rfl (oM rfl (oS rfl (Yk.nilCheck g (oS rfl (Yk.fieldAt Bi (vr (PQ r 0) rfl) (oS rfl (Yk.storeC (i:=1) (v:=NI 0) (vr (PQ r 1) rfl) T4 hb (by rw[Ef];decide) Dm rfl rfl fun ak al a1 bi=> ?_))))))))))))
  clear hb
  have hgr:w.grownBy ak (some r):=Ag hgr a1 (fun _ e=> .inl e)
  clear hE
  have hb:ak.heap[r]? =some (.cells (A4 ((⟨b,((0:Nat):Int)⟩,⟨v⟩):DY)).toArray 111 (0,0)):=Az al (EK (AL v b (i)) ((0:Nat):Int));clear al
  have bj:=bl hb
  refine oZ (tN (a0 _ _ (sk fun bk a2=>(wt (oM rfl (oA rfl (oZ (tN (a2 _ _ (Ao (BJ (fn:=Tryd.f110) _ rfl [NI 0] (NI 0) rfl ⟨T3,trivial⟩ ?_)))))))))))
  omega
 have hP:Bk b i=some (xn,i+xk):=by unfold Bk;rw[hd];rfl
 refine tN (aj _ _ (sk fun bm a3=> ?_))
 refine A2 [Is (PQ r 0),Is (PQ r 0),Is (PQ r 0),Is (v),Is (PQ r 0),Is (PQ r 0),Is (PQ r 1),Is (NI i),Is (.tuple #[NI xn,NI (i+xk),NI 0]),Is (.tuple #[NI xn,NI (i+xk),NI 0]),Is (NI xn),Is (NI (i+xk)),Is (NI 0),Is (NI xn),Is (NI (i+xk)),Is (NI 0)] (by kernel_rfl) [7,8,9,10,11,12,13,14,15,6,16,17,18,3,4,5] (by kernel_rfl) (by kernel_rfl) (JG (B6 trivial)) ?a4 ?hQ2001
 case a4=>
  refine⟨?_,?_,?_,?_,?_,?_,?_,?_,?_,?_,?_,?_,?_,?_,?_,?_,trivial⟩
  ·refine Aa rfl fun σ w1 hC h=> ?_
   have j:=(Af (h 0 (by decide))).trans g
   exact Yk.move j ⟨Ext.refl _,rfl⟩
  ·refine Aa rfl fun σ w1 hC h=> ?_
   have l:=Af (h 7 (by decide))
   exact Yk.nilCheck l ⟨Ext.refl _,rfl⟩
  ·refine Aa rfl fun σ w1 hC h=> ?_
   have m:=Af (h 8 (by decide))
   exact Yk.fieldAt Cb m ⟨Ext.refl _,rfl⟩
  ·refine Aa rfl fun σ w1 hC h=> ?_
   have o:=Af (h 9 (by decide))
   exact Yk.cell1 El rfl o (Ab (eb hC hb) (show(A4 (AL v b (i)))[0]? =some (v:Value)from B2 (AL v b (i)))) ⟨Ext.refl _,rfl⟩
  ·refine Aa rfl fun σ w1 hC h=> ?_
   have j:=(Af (h 0 (by decide))).trans g
   exact Yk.move j ⟨Ext.refl _,rfl⟩
  ·refine Aa rfl fun σ w1 hC h=> ?_
   have p:=Af (h 11 (by decide))
   exact Yk.nilCheck p ⟨Ext.refl _,rfl⟩
  ·refine Aa rfl fun σ w1 hC h=> ?_
   have q:=Af (h 12 (by decide))
   exact Yk.fieldAt Bi q ⟨Ext.refl _,rfl⟩
  ·refine Aa rfl fun σ w1 hC h=> ?_
   have s:=Af (h 13 (by decide))
   exact Yk.cell1 FI rfl s (Ab (eb hC hb) (show(A4 (AL v b (i)))[1]? =some (NI i:Value)from BV (AL v b (i)))) ⟨Ext.refl _,rfl⟩
  ·refine Aa rfl fun σ w1 hC h=> ?_
   have t:=Af (h 10 (by decide))
   have u:=Af (h 14 (by decide))
   refine Yk.callA2 IY t u ?_
   refine((show Calls _ _ _ _ (fun e k=>e = .returned (.tuple #[NI xn,NI (i+xk),NI 0])∧Ext _ k)from(JO _ v b (hr.keep (hE.trans hC)) i hi).mono fun e k ⟨h1,h2⟩=>by subst h2;subst h1;refine⟨?_,Ext.refl _⟩;rw[hd];rfl)).mono ?_
   rintro e k ⟨rfl,hx⟩
   exact⟨_,rfl,hx,rfl⟩
  ·refine Aa rfl fun σ w1 hC h=> ?_
   have y:=Af (h 15 (by decide))
   exact Yk.move y ⟨Ext.refl _,rfl⟩
  ·refine Aa rfl fun σ w1 hC h=> ?_
   have f:=Af (h 6 (by decide))
   exact Yk.extract (vs:= [NI xn,NI (i+xk),NI 0]) f (show _=some (NI xn:Value)from rfl) ⟨Ext.refl _,rfl⟩
  ·refine Aa rfl fun σ w1 hC h=> ?_
   have f:=Af (h 6 (by decide))
   exact Yk.extract (vs:= [NI xn,NI (i+xk),NI 0]) f (show _=some (NI (i+xk):Value)from rfl) ⟨Ext.refl _,rfl⟩
  ·refine Aa rfl fun σ w1 hC h=> ?_
   have f:=Af (h 6 (by decide))
   exact Yk.extract (vs:= [NI xn,NI (i+xk),NI 0]) f (show _=some (NI 0:Value)from rfl) ⟨Ext.refl _,rfl⟩
  ·refine Aa rfl fun σ w1 hC h=> ?_
   have z:=Af (h 16 (by decide))
   exact Yk.assign z ⟨Ext.refl _,rfl⟩
  ·refine Aa rfl fun σ w1 hC h=> ?_
   have aa:=Af (h 17 (by decide))
   exact Yk.assign aa ⟨Ext.refl _,rfl⟩
  ·refine Aa rfl fun σ w1 hC h=> ?_
   have ab:=Af (h 18 (by decide))
   exact Yk.assign ab ⟨Ext.refl _,rfl⟩
 intro ai a5 am he hf
 obtain⟨-,-,-,-,-,-,-,-,-,-,-,-,-,k3,k4,k5,-⟩:=hf
 obtain⟨g,T2,-⟩:=he.hold [(0,_),(2,NI 0)] ⟨g,rfl,trivial⟩ rfl
 clear he
 have hb:=eb am hb
 have hgr:w.grownBy a5 (some r):=Ag hgr am.grown (fun _ e=>by cases e)
 have T3:ai 3=NI xn:=k3
 have T4:ai 4=NI (i+xk):=k4
 have T5:ai 5=NI 0:=k5
 clear k3 k4 k5
 refine tN (a3 _ _ (sk fun bn a6=>(wt (oM rfl (oS rfl (Yk.eqI (a:=(0:Nat)) (b:=(0:Nat)) T5 rfl (k_eql _ _ _ _) (oP rfl (Yp.callA1 CQ (vr (.bool (decide ((0:Nat)=(0)))) rfl) ?_))))))))
 refine Ar (AZ _ (decide ((0:Nat)=(0)))) ?_ ?_
 rotate_left
 ·
  rintro ch bo ⟨rfl,hb,hx⟩
  refine Aq (postP_panic ?_)
  have hno:=of_decide_eq_false hb
  exact absurd rfl hno
 rintro v_ a7 ⟨rfl,a8,an⟩
 have hb:=eb an hb
 have hgr:w.grownBy a7 (some r):=Ag hgr an.grown (fun _ e=>by cases e)
 have bp:=of_decide_eq_true a8
 refine oZ (tN (a6 _ _ (sk fun bq a9=>(wt (oM rfl (oM rfl (oS rfl (Yk.nilCheck g (oS rfl (Yk.fieldAt Bi (vr (PQ r 0) rfl) (oS rfl (Yk.storeC (i:=1) (v:=NI (i+xk)) (vr (PQ r 1) rfl) T4 hb (by rw[Ef];decide) Dm rfl rfl fun ao ap ba br=> ?_))))))))))))
 clear hb
 have hgr:w.grownBy ao (some r):=Ag hgr ba (fun _ e=> .inl e)
 clear hE
 have hb:ao.heap[r]? =some (.cells (A4 ((⟨b,((i+xk:Nat):Int)⟩,⟨v⟩):DY)).toArray 111 (0,0)):=Az ap (EK (AL v b (i)) ((i+xk:Nat):Int));clear ap
 have bs:=bl hb
 refine oZ (tN (a9 _ _ (sk fun bt bb=>(wt (oM rfl (oA rfl (oZ (tN (bb _ _ (Ao (BJ (fn:=Tryd.f110) _ rfl [NI xn] (NI xn) rfl ⟨T3,trivial⟩ ?_)))))))))))
 exact .inl ⟨_,rfl,_,_,hP,rfl,hb,hgr⟩

theorem Gx(w:World)(r:Nat)(v:Value)(b:Bs)(i:Nat)(hb:w.heap[r]? =some (.cells (A4 (AL v b (i))).toArray 111 (0,0)))(hr:RB w v b)(hap:b= []∨OB v r)(hi:i≤b.length)(hl:b.length≤4611686018427387904)(most:Nat):
  Calls Tryd.prog 113 #[PQ r 0,NI most] w fun e w' =>(∃x,e = .returned x∧∃c n,BU b i most=some (c,n)∧x=St c∧w'.heap[r]? =some (.cells (A4 (AL v b (n))).toArray 111 (0,0))∧w.grownBy w' (some r))∨∃ch,e = .panicked ch∧BU b i most=none∧ch= [BS]∧w.grownBy w' (some r):=by
 have hlr:=(bl hb)
 have hgr:=World.grownBy.refl w (some r)
 refine BN (args:= [PQ r 0,NI most]) Tryd.func113 rfl 30 rfl (Nat.le_of_ble_eq_true rfl) ?_
 intro ax hb
 have g:ax 0=(PQ r 0:Value):=hb.get 0
 have l:ax 1=(NI most:Value):=hb.get 1
 clear hb
 have hE:=Ext.refl w
 refine sk fun K1 ai=>(wt (oA rfl (oZ ?_)))
 rcases hd:AQ 0 (b.drop i)with _ | ⟨xn,xk⟩
 ·have hP:BU b i most=none:=by unfold BU;rw[hd]
  refine tN (ai _ _ (sk fun K2 a8=> ?_))
  refine A2 [Is (PQ r 0),Is (PQ r 0),Is (PQ r 0),Is (v),Is (PQ r 0),Is (PQ r 0),Is (PQ r 1),Is (NI i),Is (NI most),Is (.tuple #[St (([]:List UInt8)),NI 0,NI 6]),Is (.tuple #[St (([]:List UInt8)),NI 0,NI 6]),Is (St (([]:List UInt8))),Is (NI 0),Is (NI 6),Is (St (([]:List UInt8))),Is (NI 0),Is (NI 6)] (by kernel_rfl) [9,10,11,12,13,14,15,16,17,18,8,19,20,21,5,6,7] (by kernel_rfl) (by kernel_rfl) (Hx (B6 trivial)) ?a9 ?hQ1001
  case a9=>
   refine⟨?_,?_,?_,?_,?_,?_,?_,?_,?_,?_,?_,?_,?_,?_,?_,?_,?_,trivial⟩
   ·refine Aa rfl fun σ w1 hC h=> ?_
    have j:=(Af (h 0 (by decide))).trans g
    exact Yk.move j ⟨Ext.refl _,rfl⟩
   ·refine Aa rfl fun σ w1 hC h=> ?_
    have m:=Af (h 9 (by decide))
    exact Yk.nilCheck m ⟨Ext.refl _,rfl⟩
   ·refine Aa rfl fun σ w1 hC h=> ?_
    have o:=Af (h 10 (by decide))
    exact Yk.fieldAt Cb o ⟨Ext.refl _,rfl⟩
   ·refine Aa rfl fun σ w1 hC h=> ?_
    have p:=Af (h 11 (by decide))
    exact Yk.cell1 El rfl p (Ab (eb hC hb) (show(A4 (AL v b (i)))[0]? =some (v:Value)from B2 (AL v b (i)))) ⟨Ext.refl _,rfl⟩
   ·refine Aa rfl fun σ w1 hC h=> ?_
    have j:=(Af (h 0 (by decide))).trans g
    exact Yk.move j ⟨Ext.refl _,rfl⟩
   ·refine Aa rfl fun σ w1 hC h=> ?_
    have q:=Af (h 13 (by decide))
    exact Yk.nilCheck q ⟨Ext.refl _,rfl⟩
   ·refine Aa rfl fun σ w1 hC h=> ?_
    have s:=Af (h 14 (by decide))
    exact Yk.fieldAt Bi s ⟨Ext.refl _,rfl⟩
   ·refine Aa rfl fun σ w1 hC h=> ?_
    have t:=Af (h 15 (by decide))
    exact Yk.cell1 FI rfl t (Ab (eb hC hb) (show(A4 (AL v b (i)))[1]? =some (NI i:Value)from BV (AL v b (i)))) ⟨Ext.refl _,rfl⟩
   ·refine Aa rfl fun σ w1 hC h=> ?_
    have u:=(Af (h 1 (by decide))).trans l
    exact Yk.move u ⟨Ext.refl _,rfl⟩
   ·refine Aa rfl fun σ w1 hC h=> ?_
    have y:=Af (h 12 (by decide))
    have z:=Af (h 16 (by decide))
    have aa:=Af (h 17 (by decide))
    refine Yk.callA3 Fp y z aa ?_
    refine((show Calls _ _ _ _ (fun e k=>e = .returned (.tuple #[St (([]:List UInt8)),NI 0,NI 6])∧Ext _ k)from(EL _ v b (hr.keep (hE.trans hC)) i hi ((most:Nat):Int)).mono fun e k ⟨h1,h2⟩=>by subst h2;subst h1;refine⟨?_,Ext.refl _⟩;unfold B3;rw[hd];simp only;rfl)).mono ?_
    rintro e k ⟨rfl,hx⟩
    exact⟨_,rfl,hx,rfl⟩
   ·refine Aa rfl fun σ w1 hC h=> ?_
    have ab:=Af (h 18 (by decide))
    exact Yk.move ab ⟨Ext.refl _,rfl⟩
   ·refine Aa rfl fun σ w1 hC h=> ?_
    have f:=Af (h 8 (by decide))
    exact Yk.extract (vs:= [St (([]:List UInt8)),NI 0,NI 6]) f (show _=some (St (([]:List UInt8)):Value)from rfl) ⟨Ext.refl _,rfl⟩
   ·refine Aa rfl fun σ w1 hC h=> ?_
    have f:=Af (h 8 (by decide))
    exact Yk.extract (vs:= [St (([]:List UInt8)),NI 0,NI 6]) f (show _=some (NI 0:Value)from rfl) ⟨Ext.refl _,rfl⟩
   ·refine Aa rfl fun σ w1 hC h=> ?_
    have f:=Af (h 8 (by decide))
    exact Yk.extract (vs:= [St (([]:List UInt8)),NI 0,NI 6]) f (show _=some (NI 6:Value)from rfl) ⟨Ext.refl _,rfl⟩
   ·refine Aa rfl fun σ w1 hC h=> ?_
    have ac:=Af (h 19 (by decide))
    exact Yk.assign ac ⟨Ext.refl _,rfl⟩
   ·refine Aa rfl fun σ w1 hC h=> ?_
    have ad:=Af (h 20 (by decide))
    exact Yk.assign ad ⟨Ext.refl _,rfl⟩
   ·refine Aa rfl fun σ w1 hC h=> ?_
    have ae:=Af (h 21 (by decide))
    exact Yk.assign ae ⟨Ext.refl _,rfl⟩
  intro ak w4 al he hf
  obtain⟨-,-,-,-,-,-,-,-,-,-,-,-,-,-,k5,k6,k7,-⟩:=hf
  obtain⟨g,l,T4,-⟩:=he.hold [(0,_),(1,_),(4,St (([]:List UInt8)))] ⟨g,l,rfl,trivial⟩ rfl
  clear he
  have hb:=eb al hb
  have hgr:w.grownBy w4 (some r):=Ag hgr al.grown (fun _ e=>by cases e)
  have hE:=hE.trans al
  have T5:ak 5=St (([]:List UInt8)):=k5
  have T6:ak 6=NI 0:=k6
  have T7:ak 7=NI 6:=k7
  clear k5 k6 k7
  refine tN (a8 _ _ (sk fun K6 bb=>(wt (oM rfl (oS rfl (Yk.eqI (a:=(6:Nat)) (b:=(0:Nat)) T7 rfl (k_eql _ _ _ _) (oP rfl (Yp.callA1 CQ (vr (.bool (decide ((6:Nat)=(0)))) rfl) ?_))))))))
  refine Ar (AZ _ (decide ((6:Nat)=(0)))) ?_ ?_
  rotate_left
  ·
   rintro ch w9 ⟨rfl,hb,hx⟩
   refine Aq (postP_panic ?_)
   have hno:=of_decide_eq_false hb
   exact .inr ⟨_,rfl,hP,rfl,(Ag hgr hx.grown (fun _ e=>by cases e))⟩
  rintro v_ bc ⟨rfl,bd,an⟩
  have hb:=eb an hb
  have hgr:w.grownBy bc (some r):=Ag hgr an.grown (fun _ e=>by cases e)
  have hE:=hE.trans an
  have ce:=of_decide_eq_true bd
  refine oZ (tN (bb _ _ (sk fun cf be=>(wt (oM rfl (oM rfl (oS rfl (Yk.nilCheck g (oS rfl (Yk.fieldAt Bi (vr (PQ r 0) rfl) (oS rfl (Yk.storeC (i:=1) (v:=NI 0) (vr (PQ r 1) rfl) T6 hb (by rw[Ef];decide) Dm rfl rfl fun ay az bf cg=> ?_))))))))))))
  clear hb
  have hgr:w.grownBy ay (some r):=Ag hgr bf (fun _ e=> .inl e)
  clear hE
  have hb:ay.heap[r]? =some (.cells (A4 ((⟨b,((0:Nat):Int)⟩,⟨v⟩):DY)).toArray 111 (0,0)):=Az az (EK (AL v b (i)) ((0:Nat):Int));clear az
  have ci:=bl hb
  refine oZ (tN (be _ _ (sk fun cj bg=>(wt (oM rfl (oA rfl (oZ (tN (bg _ _ (Ao (BJ (fn:=Tryd.f113) _ rfl [St (([]:List UInt8))] (St (([]:List UInt8))) rfl ⟨T5,trivial⟩ ?_)))))))))))
  omega
 by_cases hm:most<xn
 ·have hP:BU b i most=none:=by unfold BU;rw[hd];exact if_pos hm
  refine tN (ai _ _ (sk fun ck bh=> ?_))
  refine A2 [Is (PQ r 0),Is (PQ r 0),Is (PQ r 0),Is (v),Is (PQ r 0),Is (PQ r 0),Is (PQ r 1),Is (NI i),Is (NI most),Is (.tuple #[St (([]:List UInt8)),NI 0,NI 2]),Is (.tuple #[St (([]:List UInt8)),NI 0,NI 2]),Is (St (([]:List UInt8))),Is (NI 0),Is (NI 2),Is (St (([]:List UInt8))),Is (NI 0),Is (NI 2)] (by kernel_rfl) [9,10,11,12,13,14,15,16,17,18,8,19,20,21,5,6,7] (by kernel_rfl) (by kernel_rfl) (Hx (B6 trivial)) ?bi ?hQ2001
  case bi=>
   refine⟨?_,?_,?_,?_,?_,?_,?_,?_,?_,?_,?_,?_,?_,?_,?_,?_,?_,trivial⟩
   ·refine Aa rfl fun σ w1 hC h=> ?_
    have j:=(Af (h 0 (by decide))).trans g
    exact Yk.move j ⟨Ext.refl _,rfl⟩
   ·refine Aa rfl fun σ w1 hC h=> ?_
    have m:=Af (h 9 (by decide))
    exact Yk.nilCheck m ⟨Ext.refl _,rfl⟩
   ·refine Aa rfl fun σ w1 hC h=> ?_
    have o:=Af (h 10 (by decide))
    exact Yk.fieldAt Cb o ⟨Ext.refl _,rfl⟩
   ·refine Aa rfl fun σ w1 hC h=> ?_
    have p:=Af (h 11 (by decide))
    exact Yk.cell1 El rfl p (Ab (eb hC hb) (show(A4 (AL v b (i)))[0]? =some (v:Value)from B2 (AL v b (i)))) ⟨Ext.refl _,rfl⟩
   ·refine Aa rfl fun σ w1 hC h=> ?_
    have j:=(Af (h 0 (by decide))).trans g
    exact Yk.move j ⟨Ext.refl _,rfl⟩
   ·refine Aa rfl fun σ w1 hC h=> ?_
    have q:=Af (h 13 (by decide))
    exact Yk.nilCheck q ⟨Ext.refl _,rfl⟩
   ·refine Aa rfl fun σ w1 hC h=> ?_
    have s:=Af (h 14 (by decide))
    exact Yk.fieldAt Bi s ⟨Ext.refl _,rfl⟩
   ·refine Aa rfl fun σ w1 hC h=> ?_
    have t:=Af (h 15 (by decide))
    exact Yk.cell1 FI rfl t (Ab (eb hC hb) (show(A4 (AL v b (i)))[1]? =some (NI i:Value)from BV (AL v b (i)))) ⟨Ext.refl _,rfl⟩
   ·refine Aa rfl fun σ w1 hC h=> ?_
    have u:=(Af (h 1 (by decide))).trans l
    exact Yk.move u ⟨Ext.refl _,rfl⟩
   ·refine Aa rfl fun σ w1 hC h=> ?_
    have y:=Af (h 12 (by decide))
    have z:=Af (h 16 (by decide))
    have aa:=Af (h 17 (by decide))
    refine Yk.callA3 Fp y z aa ?_
    refine((show Calls _ _ _ _ (fun e k=>e = .returned (.tuple #[St (([]:List UInt8)),NI 0,NI 2])∧Ext _ k)from(EL _ v b (hr.keep (hE.trans hC)) i hi ((most:Nat):Int)).mono fun e k ⟨h1,h2⟩=>by subst h2;subst h1;refine⟨?_,Ext.refl _⟩;unfold B3;rw[hd];simp only;rw[if_pos (by omega)];rfl)).mono ?_
    rintro e k ⟨rfl,hx⟩
    exact⟨_,rfl,hx,rfl⟩
   ·refine Aa rfl fun σ w1 hC h=> ?_
    have ab:=Af (h 18 (by decide))
    exact Yk.move ab ⟨Ext.refl _,rfl⟩
   ·refine Aa rfl fun σ w1 hC h=> ?_
    have f:=Af (h 8 (by decide))
    exact Yk.extract (vs:= [St (([]:List UInt8)),NI 0,NI 2]) f (show _=some (St (([]:List UInt8)):Value)from rfl) ⟨Ext.refl _,rfl⟩
   ·refine Aa rfl fun σ w1 hC h=> ?_
    have f:=Af (h 8 (by decide))
    exact Yk.extract (vs:= [St (([]:List UInt8)),NI 0,NI 2]) f (show _=some (NI 0:Value)from rfl) ⟨Ext.refl _,rfl⟩
   ·refine Aa rfl fun σ w1 hC h=> ?_
    have f:=Af (h 8 (by decide))
    exact Yk.extract (vs:= [St (([]:List UInt8)),NI 0,NI 2]) f (show _=some (NI 2:Value)from rfl) ⟨Ext.refl _,rfl⟩
   ·refine Aa rfl fun σ w1 hC h=> ?_
    have ac:=Af (h 19 (by decide))
    exact Yk.assign ac ⟨Ext.refl _,rfl⟩
   ·refine Aa rfl fun σ w1 hC h=> ?_
    have ad:=Af (h 20 (by decide))
    exact Yk.assign ad ⟨Ext.refl _,rfl⟩
   ·refine Aa rfl fun σ w1 hC h=> ?_
    have ae:=Af (h 21 (by decide))
    exact Yk.assign ae ⟨Ext.refl _,rfl⟩
  intro ao bj ap he hf
  obtain⟨-,-,-,-,-,-,-,-,-,-,-,-,-,-,k5,k6,k7,-⟩:=hf
  obtain⟨g,l,T4,-⟩:=he.hold [(0,_),(1,_),(4,St (([]:List UInt8)))] ⟨g,l,rfl,trivial⟩ rfl
  clear he
  have hb:=eb ap hb
  have hgr:w.grownBy bj (some r):=Ag hgr ap.grown (fun _ e=>by cases e)
  have hE:=hE.trans ap
  have T5:ao 5=St (([]:List UInt8)):=k5
  have T6:ao 6=NI 0:=k6
  have T7:ao 7=NI 2:=k7
  clear k5 k6 k7
  refine tN (bh _ _ (sk fun cl bk=>(wt (oM rfl (oS rfl (Yk.eqI (a:=(2:Nat)) (b:=(0:Nat)) T7 rfl (k_eql _ _ _ _) (oP rfl (Yp.callA1 CQ (vr (.bool (decide ((2:Nat)=(0)))) rfl) ?_))))))))
  refine Ar (AZ _ (decide ((2:Nat)=(0)))) ?_ ?_
  rotate_left
  ·
   rintro ch cm ⟨rfl,hb,hx⟩
   refine Aq (postP_panic ?_)
   have hno:=of_decide_eq_false hb
   exact .inr ⟨_,rfl,hP,rfl,(Ag hgr hx.grown (fun _ e=>by cases e))⟩
  rintro v_ bm ⟨rfl,bn,aq⟩
  have hb:=eb aq hb
  have hgr:w.grownBy bm (some r):=Ag hgr aq.grown (fun _ e=>by cases e)
  have hE:=hE.trans aq
  have cn:=of_decide_eq_true bn
  refine oZ (tN (bk _ _ (sk fun co bo=>(wt (oM rfl (oM rfl (oS rfl (Yk.nilCheck g (oS rfl (Yk.fieldAt Bi (vr (PQ r 0) rfl) (oS rfl (Yk.storeC (i:=1) (v:=NI 0) (vr (PQ r 1) rfl) T6 hb (by rw[Ef];decide) Dm rfl rfl fun a0 a1 bp cp=> ?_))))))))))))
  clear hb
  have hgr:w.grownBy a0 (some r):=Ag hgr bp (fun _ e=> .inl e)
  clear hE
  have hb:a0.heap[r]? =some (.cells (A4 ((⟨b,((0:Nat):Int)⟩,⟨v⟩):DY)).toArray 111 (0,0)):=Az a1 (EK (AL v b (i)) ((0:Nat):Int));clear a1
  have cq:=bl hb
  refine oZ (tN (bo _ _ (sk fun cr bq=>(wt (oM rfl (oA rfl (oZ (tN (bq _ _ (Ao (BJ (fn:=Tryd.f113) _ rfl [St (([]:List UInt8))] (St (([]:List UInt8))) rfl ⟨T5,trivial⟩ ?_)))))))))))
  omega
 by_cases aj:b.length<i+xk+xn
 ·have hP:BU b i most=none:=by unfold BU;rw[hd];exact(if_neg hm).trans (if_pos aj)
  refine tN (ai _ _ (sk fun cs br=> ?_))
  refine A2 [Is (PQ r 0),Is (PQ r 0),Is (PQ r 0),Is (v),Is (PQ r 0),Is (PQ r 0),Is (PQ r 1),Is (NI i),Is (NI most),Is (.tuple #[St (([]:List UInt8)),NI 0,NI 6]),Is (.tuple #[St (([]:List UInt8)),NI 0,NI 6]),Is (St (([]:List UInt8))),Is (NI 0),Is (NI 6),Is (St (([]:List UInt8))),Is (NI 0),Is (NI 6)] (by kernel_rfl) [9,10,11,12,13,14,15,16,17,18,8,19,20,21,5,6,7] (by kernel_rfl) (by kernel_rfl) (Hx (B6 trivial)) ?bs ?hQ3001
  case bs=>
   refine⟨?_,?_,?_,?_,?_,?_,?_,?_,?_,?_,?_,?_,?_,?_,?_,?_,?_,trivial⟩
   ·refine Aa rfl fun σ w1 hC h=> ?_
    have j:=(Af (h 0 (by decide))).trans g
    exact Yk.move j ⟨Ext.refl _,rfl⟩
   ·refine Aa rfl fun σ w1 hC h=> ?_
    have m:=Af (h 9 (by decide))
    exact Yk.nilCheck m ⟨Ext.refl _,rfl⟩
   ·refine Aa rfl fun σ w1 hC h=> ?_
    have o:=Af (h 10 (by decide))
    exact Yk.fieldAt Cb o ⟨Ext.refl _,rfl⟩
   ·refine Aa rfl fun σ w1 hC h=> ?_
    have p:=Af (h 11 (by decide))
    exact Yk.cell1 El rfl p (Ab (eb hC hb) (show(A4 (AL v b (i)))[0]? =some (v:Value)from B2 (AL v b (i)))) ⟨Ext.refl _,rfl⟩
   ·refine Aa rfl fun σ w1 hC h=> ?_
    have j:=(Af (h 0 (by decide))).trans g
    exact Yk.move j ⟨Ext.refl _,rfl⟩
   ·refine Aa rfl fun σ w1 hC h=> ?_
    have q:=Af (h 13 (by decide))
    exact Yk.nilCheck q ⟨Ext.refl _,rfl⟩
   ·refine Aa rfl fun σ w1 hC h=> ?_
    have s:=Af (h 14 (by decide))
    exact Yk.fieldAt Bi s ⟨Ext.refl _,rfl⟩
   ·refine Aa rfl fun σ w1 hC h=> ?_
    have t:=Af (h 15 (by decide))
    exact Yk.cell1 FI rfl t (Ab (eb hC hb) (show(A4 (AL v b (i)))[1]? =some (NI i:Value)from BV (AL v b (i)))) ⟨Ext.refl _,rfl⟩
   ·refine Aa rfl fun σ w1 hC h=> ?_
    have u:=(Af (h 1 (by decide))).trans l
    exact Yk.move u ⟨Ext.refl _,rfl⟩
   ·refine Aa rfl fun σ w1 hC h=> ?_
    have y:=Af (h 12 (by decide))
    have z:=Af (h 16 (by decide))
    have aa:=Af (h 17 (by decide))
    refine Yk.callA3 Fp y z aa ?_
    refine((show Calls _ _ _ _ (fun e k=>e = .returned (.tuple #[St (([]:List UInt8)),NI 0,NI 6])∧Ext _ k)from(EL _ v b (hr.keep (hE.trans hC)) i hi ((most:Nat):Int)).mono fun e k ⟨h1,h2⟩=>by subst h2;subst h1;refine⟨?_,Ext.refl _⟩;unfold B3;rw[hd];simp only;rw[if_neg (by omega),if_pos aj];rfl)).mono ?_
    rintro e k ⟨rfl,hx⟩
    exact⟨_,rfl,hx,rfl⟩
   ·refine Aa rfl fun σ w1 hC h=> ?_
    have ab:=Af (h 18 (by decide))
    exact Yk.move ab ⟨Ext.refl _,rfl⟩
   ·refine Aa rfl fun σ w1 hC h=> ?_
    have f:=Af (h 8 (by decide))
    exact Yk.extract (vs:= [St (([]:List UInt8)),NI 0,NI 6]) f (show _=some (St (([]:List UInt8)):Value)from rfl) ⟨Ext.refl _,rfl⟩
   ·refine Aa rfl fun σ w1 hC h=> ?_
    have f:=Af (h 8 (by decide))
    exact Yk.extract (vs:= [St (([]:List UInt8)),NI 0,NI 6]) f (show _=some (NI 0:Value)from rfl) ⟨Ext.refl _,rfl⟩
   ·refine Aa rfl fun σ w1 hC h=> ?_
    have f:=Af (h 8 (by decide))
    exact Yk.extract (vs:= [St (([]:List UInt8)),NI 0,NI 6]) f (show _=some (NI 6:Value)from rfl) ⟨Ext.refl _,rfl⟩
   ·refine Aa rfl fun σ w1 hC h=> ?_
    have ac:=Af (h 19 (by decide))
    exact Yk.assign ac ⟨Ext.refl _,rfl⟩
   ·refine Aa rfl fun σ w1 hC h=> ?_
    have ad:=Af (h 20 (by decide))
    exact Yk.assign ad ⟨Ext.refl _,rfl⟩
   ·refine Aa rfl fun σ w1 hC h=> ?_
    have ae:=Af (h 21 (by decide))
    exact Yk.assign ae ⟨Ext.refl _,rfl⟩
  intro ar bt au he hf
  obtain⟨-,-,-,-,-,-,-,-,-,-,-,-,-,-,k5,k6,k7,-⟩:=hf
  obtain⟨g,l,T4,-⟩:=he.hold [(0,_),(1,_),(4,St (([]:List UInt8)))] ⟨g,l,rfl,trivial⟩ rfl
  clear he
  have hb:=eb au hb
  have hgr:w.grownBy bt (some r):=Ag hgr au.grown (fun _ e=>by cases e)
  have hE:=hE.trans au
  have T5:ar 5=St (([]:List UInt8)):=k5
  have T6:ar 6=NI 0:=k6
  have T7:ar 7=NI 6:=k7
  clear k5 k6 k7
  refine tN (br _ _ (sk fun ct bu=>(wt (oM rfl (oS rfl (Yk.eqI (a:=(6:Nat)) (b:=(0:Nat)) T7 rfl (k_eql _ _ _ _) (oP rfl (Yp.callA1 CQ (vr (.bool (decide ((6:Nat)=(0)))) rfl) ?_))))))))
  refine Ar (AZ _ (decide ((6:Nat)=(0)))) ?_ ?_
  rotate_left
  ·
   rintro ch cu ⟨rfl,hb,hx⟩
   refine Aq (postP_panic ?_)
   have hno:=of_decide_eq_false hb
   exact .inr ⟨_,rfl,hP,rfl,(Ag hgr hx.grown (fun _ e=>by cases e))⟩
  rintro v_ bv ⟨rfl,bw,av⟩
  have hb:=eb av hb
  have hgr:w.grownBy bv (some r):=Ag hgr av.grown (fun _ e=>by cases e)
  have hE:=hE.trans av
  have cv:=of_decide_eq_true bw
  refine oZ (tN (bu _ _ (sk fun cw bx=>(wt (oM rfl (oM rfl (oS rfl (Yk.nilCheck g (oS rfl (Yk.fieldAt Bi (vr (PQ r 0) rfl) (oS rfl (Yk.storeC (i:=1) (v:=NI 0) (vr (PQ r 1) rfl) T6 hb (by rw[Ef];decide) Dm rfl rfl fun a2 a3 bz cx=> ?_))))))))))))
  clear hb
  have hgr:w.grownBy a2 (some r):=Ag hgr bz (fun _ e=> .inl e)
  clear hE
  have hb:a2.heap[r]? =some (.cells (A4 ((⟨b,((0:Nat):Int)⟩,⟨v⟩):DY)).toArray 111 (0,0)):=Az a3 (EK (AL v b (i)) ((0:Nat):Int));clear a3
  have cy:=bl hb
  refine oZ (tN (bx _ _ (sk fun cz b0=>(wt (oM rfl (oA rfl (oZ (tN (b0 _ _ (Ao (BJ (fn:=Tryd.f113) _ rfl [St (([]:List UInt8))] (St (([]:List UInt8))) rfl ⟨T5,trivial⟩ ?_)))))))))))
  omega
 have hP:BU b i most=some ((b.drop (i+xk)).take xn,i+xk+xn):=by unfold BU;rw[hd];exact(if_neg hm).trans (if_neg aj)
 refine tN (ai _ _ (sk fun c0 b1=> ?_))
 refine A2 [Is (PQ r 0),Is (PQ r 0),Is (PQ r 0),Is (v),Is (PQ r 0),Is (PQ r 0),Is (PQ r 1),Is (NI i),Is (NI most),Is (.tuple #[St (((b.drop (i+xk)).take xn)),NI (i+xk+xn),NI 0]),Is (.tuple #[St (((b.drop (i+xk)).take xn)),NI (i+xk+xn),NI 0]),Is (St (((b.drop (i+xk)).take xn))),Is (NI (i+xk+xn)),Is (NI 0),Is (St (((b.drop (i+xk)).take xn))),Is (NI (i+xk+xn)),Is (NI 0)] (by kernel_rfl) [9,10,11,12,13,14,15,16,17,18,8,19,20,21,5,6,7] (by kernel_rfl) (by kernel_rfl) (Hx (B6 trivial)) ?b2 ?hQ4001
 case b2=>
  refine⟨?_,?_,?_,?_,?_,?_,?_,?_,?_,?_,?_,?_,?_,?_,?_,?_,?_,trivial⟩
  ·refine Aa rfl fun σ w1 hC h=> ?_
   have j:=(Af (h 0 (by decide))).trans g
   exact Yk.move j ⟨Ext.refl _,rfl⟩
  ·refine Aa rfl fun σ w1 hC h=> ?_
   have m:=Af (h 9 (by decide))
   exact Yk.nilCheck m ⟨Ext.refl _,rfl⟩
  ·refine Aa rfl fun σ w1 hC h=> ?_
   have o:=Af (h 10 (by decide))
   exact Yk.fieldAt Cb o ⟨Ext.refl _,rfl⟩
  ·refine Aa rfl fun σ w1 hC h=> ?_
   have p:=Af (h 11 (by decide))
   exact Yk.cell1 El rfl p (Ab (eb hC hb) (show(A4 (AL v b (i)))[0]? =some (v:Value)from B2 (AL v b (i)))) ⟨Ext.refl _,rfl⟩
  ·refine Aa rfl fun σ w1 hC h=> ?_
   have j:=(Af (h 0 (by decide))).trans g
   exact Yk.move j ⟨Ext.refl _,rfl⟩
  ·refine Aa rfl fun σ w1 hC h=> ?_
   have q:=Af (h 13 (by decide))
   exact Yk.nilCheck q ⟨Ext.refl _,rfl⟩
  ·refine Aa rfl fun σ w1 hC h=> ?_
   have s:=Af (h 14 (by decide))
   exact Yk.fieldAt Bi s ⟨Ext.refl _,rfl⟩
  ·refine Aa rfl fun σ w1 hC h=> ?_
   have t:=Af (h 15 (by decide))
   exact Yk.cell1 FI rfl t (Ab (eb hC hb) (show(A4 (AL v b (i)))[1]? =some (NI i:Value)from BV (AL v b (i)))) ⟨Ext.refl _,rfl⟩
  ·refine Aa rfl fun σ w1 hC h=> ?_
   have u:=(Af (h 1 (by decide))).trans l
   exact Yk.move u ⟨Ext.refl _,rfl⟩
  ·refine Aa rfl fun σ w1 hC h=> ?_
   have y:=Af (h 12 (by decide))
   have z:=Af (h 16 (by decide))
   have aa:=Af (h 17 (by decide))
   refine Yk.callA3 Fp y z aa ?_
   refine((show Calls _ _ _ _ (fun e k=>e = .returned (.tuple #[St (((b.drop (i+xk)).take xn)),NI (i+xk+xn),NI 0])∧Ext _ k)from(EL _ v b (hr.keep (hE.trans hC)) i hi ((most:Nat):Int)).mono fun e k ⟨h1,h2⟩=>by subst h2;subst h1;refine⟨?_,Ext.refl _⟩;unfold B3;rw[hd];simp only;rw[if_neg (by omega),if_neg aj];rfl)).mono ?_
   rintro e k ⟨rfl,hx⟩
   exact⟨_,rfl,hx,rfl⟩
  ·refine Aa rfl fun σ w1 hC h=> ?_
   have ab:=Af (h 18 (by decide))
   exact Yk.move ab ⟨Ext.refl _,rfl⟩
  ·refine Aa rfl fun σ w1 hC h=> ?_
   have f:=Af (h 8 (by decide))
   exact Yk.extract (vs:= [St (((b.drop (i+xk)).take xn)),NI (i+xk+xn),NI 0]) f (show _=some (St (((b.drop (i+xk)).take xn)):Value)from rfl) ⟨Ext.refl _,rfl⟩
  ·refine Aa rfl fun σ w1 hC h=> ?_
   have f:=Af (h 8 (by decide))
   exact Yk.extract (vs:= [St (((b.drop (i+xk)).take xn)),NI (i+xk+xn),NI 0]) f (show _=some (NI (i+xk+xn):Value)from rfl) ⟨Ext.refl _,rfl⟩
  ·refine Aa rfl fun σ w1 hC h=> ?_
   have f:=Af (h 8 (by decide))
   exact Yk.extract (vs:= [St (((b.drop (i+xk)).take xn)),NI (i+xk+xn),NI 0]) f (show _=some (NI 0:Value)from rfl) ⟨Ext.refl _,rfl⟩
  ·refine Aa rfl fun σ w1 hC h=> ?_
   have ac:=Af (h 19 (by decide))
   exact Yk.assign ac ⟨Ext.refl _,rfl⟩
  ·refine Aa rfl fun σ w1 hC h=> ?_
   have ad:=Af (h 20 (by decide))
   exact Yk.assign ad ⟨Ext.refl _,rfl⟩
  ·refine Aa rfl fun σ w1 hC h=> ?_
   have ae:=Af (h 21 (by decide))
   exact Yk.assign ae ⟨Ext.refl _,rfl⟩
 intro aw b3 a4 he hf
 obtain⟨-,-,-,-,-,-,-,-,-,-,-,-,-,-,k5,k6,k7,-⟩:=hf
 obtain⟨g,l,T4,-⟩:=he.hold [(0,_),(1,_),(4,St (([]:List UInt8)))] ⟨g,l,rfl,trivial⟩ rfl
 clear he
 have hb:=eb a4 hb
 have hgr:w.grownBy b3 (some r):=Ag hgr a4.grown (fun _ e=>by cases e)
 have T5:aw 5=St (((b.drop (i+xk)).take xn)):=k5
 have T6:aw 6=NI (i+xk+xn):=k6
 have T7:aw 7=NI 0:=k7
 clear k5 k6 k7
 refine tN (b1 _ _ (sk fun c1 b4=>(wt (oM rfl (oS rfl (Yk.eqI (a:=(0:Nat)) (b:=(0:Nat)) T7 rfl (k_eql _ _ _ _) (oP rfl (Yp.callA1 CQ (vr (.bool (decide ((0:Nat)=(0)))) rfl) ?_))))))))
 refine Ar (AZ _ (decide ((0:Nat)=(0)))) ?_ ?_
 rotate_left
 ·
  rintro ch c2 ⟨rfl,hb,hx⟩
  refine Aq (postP_panic ?_)
  have hno:=of_decide_eq_false hb
  exact absurd rfl hno
 rintro v_ b5 ⟨rfl,b6,a5⟩
 have hb:=eb a5 hb
 have hgr:w.grownBy b5 (some r):=Ag hgr a5.grown (fun _ e=>by cases e)
 have c3:=of_decide_eq_true b6
 refine oZ (tN (b4 _ _ (sk fun c4 b7=>(wt (oM rfl (oM rfl (oS rfl (Yk.nilCheck g (oS rfl (Yk.fieldAt Bi (vr (PQ r 0) rfl) (oS rfl (Yk.storeC (i:=1) (v:=NI (i+xk+xn)) (vr (PQ r 1) rfl) T6 hb (by rw[Ef];decide) Dm rfl rfl fun a6 a7 b8 c5=> ?_))))))))))))
 clear hb
 have hgr:w.grownBy a6 (some r):=Ag hgr b8 (fun _ e=> .inl e)
 clear hE
 have hb:a6.heap[r]? =some (.cells (A4 ((⟨b,((i+xk+xn:Nat):Int)⟩,⟨v⟩):DY)).toArray 111 (0,0)):=Az a7 (EK (AL v b (i)) ((i+xk+xn:Nat):Int));clear a7
 have c6:=bl hb
 refine oZ (tN (b7 _ _ (sk fun c7 b9=>(wt (oM rfl (oA rfl (oZ (tN (b9 _ _ (Ao (BJ (fn:=Tryd.f113) _ rfl [St (((b.drop (i+xk)).take xn))] (St (((b.drop (i+xk)).take xn))) rfl ⟨T5,trivial⟩ ?_)))))))))))
 exact .inl ⟨_,rfl,_,_,hP,rfl,hb,hgr⟩

theorem Et(w:World)(r:Nat)(v:Value)(b:Bs)(i:Nat)(hb:w.heap[r]? =some (.cells (A4 (AL v b (i))).toArray 111 (0,0)))(hr:RB w v b)(hap:b= []∨OB v r)(hi:i≤b.length)(hl:b.length≤4611686018427387904):
  Calls Tryd.prog 114 #[PQ r 0] w fun e w' =>(∃x,e = .returned x∧∃c n,CZ b i=some (c,n)∧x=AB c.1∧w'.heap[r]? =some (.cells (A4 (AL v b (n))).toArray 111 (0,0))∧w.grownBy w' (some r))∨∃ch,e = .panicked ch∧CZ b i=none∧ch= [BS]∧w.grownBy w' (some r):=by
 have hlr:=(bl hb)
 have hgr:=World.grownBy.refl w (some r)
 refine BN (args:= [PQ r 0]) Tryd.func114 rfl 27 rfl (Nat.le_of_ble_eq_true rfl) ?_
 intro a8 hb
 have p:a8 0=(PQ r 0:Value):=hb.get 0
 clear hb
 have hE:=Ext.refl w
 refine sk fun K1 ap=>(wt (oS rfl (Yk.alloc (cs:=(Lib.byteCells (List.replicate 32 0)).toArray) Hh fun q m a9 aq ak b2=> ?_)))
 have b3:=Bo (bl hb) a9
 have hb:=eb ak hb
 have hgr:w.grownBy m (some r):=Ag hgr ak.grown (fun _ e=>by cases e)
 have hE:=hE.trans ak
 have f:=aq;clear aq
 have b4:q<m.heap.size:=by omega
 refine oZ ?_
 by_cases hle:i+32≤b.length
 ·have hQ:((b.drop i).take 32).length=32:=by rw[List.length_take,List.length_drop];omega
  have hP:CZ b i=some (⟨(b.drop i).take 32,hQ⟩,i+32):=dif_pos hle
  refine tN (ap _ _ (sk fun b5 ba=> ?_))
  have ab:Ext m (World.drew m):=(Below.refl _ _).drew
  have hb:=eb ab hb
  have hgr:w.grownBy (World.drew m) (some r):=Ag hgr ab.grown (fun _ e=>by cases e)
  have hE:=hE.trans ab
  have f:=eb ab f
  refine BL [(0,7,PQ r 0),(1,8,PQ r 0),(2,9,PQ r 0),(3,10,v),(4,11,PQ r 0),(5,12,PQ r 0),(6,13,PQ r 1),(7,14,NI i),(8,15, .tuple #[AB ((b.drop i).take 32),NI (i+32),NI 0]),(9,6, .tuple #[AB ((b.drop i).take 32),NI (i+32),NI 0]),(10,16,AB ((b.drop i).take 32)),(11,17,NI (i+32)),(12,18,NI 0)] [13,14,15,16] (fun wz=>wz.heap[r]? =some (.cells (A4 (AL v b (i))).toArray 111 (0,0))∧Ext w wz∧wz.heap[q]? =some (.cells (Lib.byteCells (List.replicate 32 0)).toArray 25 (0,0))∧True) (fun _ _ ⟨hb,hE,f,_⟩ k=>⟨(eb k hb),(hE.trans k),(eb k f),trivial⟩) (by kernel_rfl) (by kernel_rfl) (by kernel_rfl) ⟨hb,hE,f,trivial⟩ ⟨fun j ⟨hb,hE,f,_⟩=>Yk.move p ⟨rfl,Ext.refl _⟩,fun j ⟨hb,hE,f,_⟩=>Yk.nilCheck (vr (PQ r 0) rfl) ⟨rfl,Ext.refl _⟩,fun j ⟨hb,hE,f,_⟩=>Yk.fieldAt Cb (vr (PQ r 0) rfl) ⟨rfl,Ext.refl _⟩,fun j ⟨hb,hE,f,_⟩=>Yk.cell1 El rfl (vr (PQ r 0) rfl) (Ab hb (show(A4 (AL v b (i)))[0]? =some (v:Value)from B2 (AL v b (i)))) ⟨rfl,Ext.refl _⟩,fun j ⟨hb,hE,f,_⟩=>Yk.move p ⟨rfl,Ext.refl _⟩,fun j ⟨hb,hE,f,_⟩=>Yk.nilCheck (vr (PQ r 0) rfl) ⟨rfl,Ext.refl _⟩,fun j ⟨hb,hE,f,_⟩=>Yk.fieldAt Bi (vr (PQ r 0) rfl) ⟨rfl,Ext.refl _⟩,fun j ⟨hb,hE,f,_⟩=>Yk.cell1 FI rfl (vr (PQ r 1) rfl) (Ab hb (show(A4 (AL v b (i)))[1]? =some (NI i:Value)from BV (AL v b (i)))) ⟨rfl,Ext.refl _⟩,fun j ⟨hb,hE,f,_⟩=>Yk.callA2 IZ (vr v rfl) (vr (NI i) rfl) (((show Calls _ _ _ _ (fun e o=>e = .returned (.tuple #[AB ((b.drop i).take 32),NI (i+32),NI 0])∧Ext _ o)from(JP _ v b (hr.keep hE) i hi).mono fun e o ⟨h1,h2⟩=>by subst h1;refine⟨?_,h2⟩;unfold D2;rw[if_neg (by omega)];rfl)).mono (by rintro e o ⟨rfl,hx⟩;exact⟨_,rfl,rfl,hx⟩)),fun j ⟨hb,hE,f,_⟩=>Yk.move (vr (.tuple #[AB ((b.drop i).take 32),NI (i+32),NI 0]) rfl) ⟨rfl,Ext.refl _⟩,fun j ⟨hb,hE,f,_⟩=>Yk.extract (vs:= [AB ((b.drop i).take 32),NI (i+32),NI 0]) (vr (.tuple #[AB ((b.drop i).take 32),NI (i+32),NI 0]) rfl) (show _=some (AB ((b.drop i).take 32):Value)from rfl) ⟨rfl,Ext.refl _⟩,fun j ⟨hb,hE,f,_⟩=>Yk.extract (vs:= [AB ((b.drop i).take 32),NI (i+32),NI 0]) (vr (.tuple #[AB ((b.drop i).take 32),NI (i+32),NI 0]) rfl) (show _=some (NI (i+32):Value)from rfl) ⟨rfl,Ext.refl _⟩,fun j ⟨hb,hE,f,_⟩=>Yk.extract (vs:= [AB ((b.drop i).take 32),NI (i+32),NI 0]) (vr (.tuple #[AB ((b.drop i).take 32),NI (i+32),NI 0]) rfl) (show _=some (NI 0:Value)from rfl) ⟨rfl,Ext.refl _⟩,trivial⟩ ?_
  refine AI rfl fun bb ac=> ?_
  have hb:=eb ac hb
  have hgr:w.grownBy bb (some r):=Ag hgr ac.grown (fun _ e=>by cases e)
  have hE:=hE.trans ac
  have f:=eb ac f
  refine AW (Yk.alloc (cs:=(Lib.byteCells (List.replicate 32 0)).toArray) Hh fun al ar au av ad b6=> ?_)
  have bc:=hE.size
  have b7:=Bo (bl hb) au
  have b8:=Bo (bl f) au
  have hb:=eb ad hb
  have hgr:w.grownBy ar (some r):=Ag hgr ad.grown (fun _ e=>by cases e)
  have hE:=hE.trans ad
  have f:=eb ad f
  have g:=av;clear av
  have b9:al<ar.heap.size:=by omega
  refine⟨.inr ⟨hb,hE,f,trivial⟩,?_⟩
  refine AI rfl fun bd s=> ?_
  have hb:=eb s hb
  have hgr:w.grownBy bd (some r):=Ag hgr s.grown (fun _ e=>by cases e)
  have hE:=hE.trans s
  have f:=eb s f
  have g:=eb s g
  refine AW (Yk.storeAll (vr (PQ al 0) rfl) (vr (AB ((b.drop i).take 32)) rfl) g (by exact CL hQ List.length_replicate) (by exact Aw hQ) (Av _) fun be aw ae ca=> ?_)
  have hb:=kb ae hb (by omega)
  have hgr:w.grownBy be (some r):=Ag hgr ae (fun _ e=> .inr (by cases e;omega))
  have hE:=Ae hE ae (Nat.le_trans bc (by omega))
  have f:=kb ae f (by omega)
  clear g
  have g:=aw;clear aw
  have cb:=bl g
  refine⟨.inr ⟨hb,hE,f,trivial⟩,?_⟩
  refine AI rfl fun bf t=> ?_
  have hb:=eb t hb
  have hgr:w.grownBy bf (some r):=Ag hgr t.grown (fun _ e=>by cases e)
  have hE:=hE.trans t
  have f:=eb t f
  have g:=eb t g
  refine AW (Yk.assign (vr (NI (i+32)) rfl) ?_)
  refine⟨.inr ⟨hb,hE,f,trivial⟩,?_⟩
  refine AI rfl fun bg u=> ?_
  have hb:=eb u hb
  have hgr:w.grownBy bg (some r):=Ag hgr u.grown (fun _ e=>by cases e)
  have hE:=hE.trans u
  have f:=eb u f
  have g:=eb u g
  refine AW (Yk.assign (vr (NI 0) rfl) ?_)
  refine⟨.inl rfl,?_⟩
  refine Cu (tN (ba _ _ (sk fun cc bh=>(wt (oM rfl (oS rfl (Yk.eqI (a:=(0:Nat)) (b:=(0:Nat)) rfl rfl (k_eql _ _ _ _) (oP rfl (Yp.callA1 CQ (vr (.bool (decide ((0:Nat)=(0)))) rfl) ?_)))))))))
  refine Ar (AZ _ (decide ((0:Nat)=(0)))) ?_ ?_
  rotate_left
  ·
   rintro ch cd ⟨rfl,hb,hx⟩
   refine Aq (postP_panic ?_)
   have hno:=of_decide_eq_false hb
   exact absurd rfl hno
  rintro v_ bi ⟨rfl,bj,y⟩
  have hb:=eb y hb
  have hgr:w.grownBy bi (some r):=Ag hgr y.grown (fun _ e=>by cases e)
  have hE:=hE.trans y
  have f:=eb y f
  have g:=eb y g
  have ce:=of_decide_eq_true bj
  refine oZ (tN (bh _ _ (sk fun cf bk=>(wt (oM rfl (oM rfl (oS rfl (Yk.nilCheck p (oS rfl (Yk.fieldAt Bi (vr (PQ r 0) rfl) (oS rfl (Yk.storeC (i:=1) (v:=NI (i+32)) (vr (PQ r 1) rfl) (vr (NI (i+32)) rfl) hb (by rw[Ef];decide) Dm rfl rfl fun ax ay am cg=> ?_))))))))))))
  clear hb
  have hgr:w.grownBy ax (some r):=Ag hgr am (fun _ e=> .inl e)
  clear hE
  have f:=kb am f (by omega)
  have g:=kb am g (by omega)
  have hb:ax.heap[r]? =some (.cells (A4 ((⟨b,((i+32:Nat):Int)⟩,⟨v⟩):DY)).toArray 111 (0,0)):=Az ay (EK (AL v b (i)) ((i+32:Nat):Int));clear ay
  have ci:=bl hb
  refine oZ (tN (bk _ _ (sk fun cj bm=>(wt (oS rfl (Yk.loadAll (vr (PQ al 0) rfl) g NV rfl (by exact Aw hQ) (oS rfl (Yk.storeAll (vr (PQ q 0) rfl) (vr (AB ((b.drop i).take 32)) rfl) f (by exact CL hQ List.length_replicate) (by exact Aw hQ) (Av _) fun bn az a0 ck=> ?_))))))))
  have hgr:w.grownBy bn (some r):=Ag hgr a0 (fun _ e=> .inr (by cases e;omega))
  clear f
  have hb:=kb a0 hb (by omega)
  have f:=az;clear az
  have cl:=bl f
  refine oZ (tN (bm _ _ (Ao (BJ (fn:=Tryd.f114) _ rfl [AB ((b.drop i).take 32)] (AB ((b.drop i).take 32)) rfl ⟨ResF.row rfl f NV rfl (by exact Aw hQ),trivial⟩ ?_))))
  exact .inl ⟨_,rfl,_,_,hP,rfl,hb,hgr⟩
 have hP:CZ b i=none:=dif_neg hle
 refine tN (ap _ _ (sk fun cm bo=> ?_))
 have af:Ext m (World.drew m):=(Below.refl _ _).drew
 have hb:=eb af hb
 have hgr:w.grownBy (World.drew m) (some r):=Ag hgr af.grown (fun _ e=>by cases e)
 have hE:=hE.trans af
 have f:=eb af f
 refine BL [(0,7,PQ r 0),(1,8,PQ r 0),(2,9,PQ r 0),(3,10,v),(4,11,PQ r 0),(5,12,PQ r 0),(6,13,PQ r 1),(7,14,NI i),(8,15, .tuple #[AB zero32,NI 0,NI 6]),(9,6, .tuple #[AB zero32,NI 0,NI 6]),(10,16,AB zero32),(11,17,NI 0),(12,18,NI 6)] [13,14,15,16] (fun wz=>wz.heap[r]? =some (.cells (A4 (AL v b (i))).toArray 111 (0,0))∧Ext w wz∧wz.heap[q]? =some (.cells (Lib.byteCells (List.replicate 32 0)).toArray 25 (0,0))∧True) (fun _ _ ⟨hb,hE,f,_⟩ k=>⟨(eb k hb),(hE.trans k),(eb k f),trivial⟩) (by kernel_rfl) (by kernel_rfl) (by kernel_rfl) ⟨hb,hE,f,trivial⟩ ⟨fun l ⟨hb,hE,f,_⟩=>Yk.move p ⟨rfl,Ext.refl _⟩,fun l ⟨hb,hE,f,_⟩=>Yk.nilCheck (vr (PQ r 0) rfl) ⟨rfl,Ext.refl _⟩,fun l ⟨hb,hE,f,_⟩=>Yk.fieldAt Cb (vr (PQ r 0) rfl) ⟨rfl,Ext.refl _⟩,fun l ⟨hb,hE,f,_⟩=>Yk.cell1 El rfl (vr (PQ r 0) rfl) (Ab hb (show(A4 (AL v b (i)))[0]? =some (v:Value)from B2 (AL v b (i)))) ⟨rfl,Ext.refl _⟩,fun l ⟨hb,hE,f,_⟩=>Yk.move p ⟨rfl,Ext.refl _⟩,fun l ⟨hb,hE,f,_⟩=>Yk.nilCheck (vr (PQ r 0) rfl) ⟨rfl,Ext.refl _⟩,fun l ⟨hb,hE,f,_⟩=>Yk.fieldAt Bi (vr (PQ r 0) rfl) ⟨rfl,Ext.refl _⟩,fun l ⟨hb,hE,f,_⟩=>Yk.cell1 FI rfl (vr (PQ r 1) rfl) (Ab hb (show(A4 (AL v b (i)))[1]? =some (NI i:Value)from BV (AL v b (i)))) ⟨rfl,Ext.refl _⟩,fun l ⟨hb,hE,f,_⟩=>Yk.callA2 IZ (vr v rfl) (vr (NI i) rfl) (((show Calls _ _ _ _ (fun e o=>e = .returned (.tuple #[AB zero32,NI 0,NI 6])∧Ext _ o)from(JP _ v b (hr.keep hE) i hi).mono fun e o ⟨h1,h2⟩=>by subst h1;refine⟨?_,h2⟩;unfold D2;rw[if_pos (by omega)];rfl)).mono (by rintro e o ⟨rfl,hx⟩;exact⟨_,rfl,rfl,hx⟩)),fun l ⟨hb,hE,f,_⟩=>Yk.move (vr (.tuple #[AB zero32,NI 0,NI 6]) rfl) ⟨rfl,Ext.refl _⟩,fun l ⟨hb,hE,f,_⟩=>Yk.extract (vs:= [AB zero32,NI 0,NI 6]) (vr (.tuple #[AB zero32,NI 0,NI 6]) rfl) (show _=some (AB zero32:Value)from rfl) ⟨rfl,Ext.refl _⟩,fun l ⟨hb,hE,f,_⟩=>Yk.extract (vs:= [AB zero32,NI 0,NI 6]) (vr (.tuple #[AB zero32,NI 0,NI 6]) rfl) (show _=some (NI 0:Value)from rfl) ⟨rfl,Ext.refl _⟩,fun l ⟨hb,hE,f,_⟩=>Yk.extract (vs:= [AB zero32,NI 0,NI 6]) (vr (.tuple #[AB zero32,NI 0,NI 6]) rfl) (show _=some (NI 6:Value)from rfl) ⟨rfl,Ext.refl _⟩,trivial⟩ ?_
 refine AI rfl fun bp ag=> ?_
 have hb:=eb ag hb
 have hgr:w.grownBy bp (some r):=Ag hgr ag.grown (fun _ e=>by cases e)
 have hE:=hE.trans ag
 have f:=eb ag f
 refine AW (Yk.alloc (cs:=(Lib.byteCells (List.replicate 32 0)).toArray) Hh fun an a1 a2 a3 ah cn=> ?_)
 have bq:=hE.size
 have co:=Bo (bl hb) a2
 have cp:=Bo (bl f) a2
 have hb:=eb ah hb
 have hgr:w.grownBy a1 (some r):=Ag hgr ah.grown (fun _ e=>by cases e)
 have hE:=hE.trans ah
 have f:=eb ah f
 have h:=a3;clear a3
 have cq:an<a1.heap.size:=by omega
 refine⟨.inr ⟨hb,hE,f,trivial⟩,?_⟩
 refine AI rfl fun br z=> ?_
 have hb:=eb z hb
 have hgr:w.grownBy br (some r):=Ag hgr z.grown (fun _ e=>by cases e)
 have hE:=hE.trans z
 have f:=eb z f
 have h:=eb z h
 refine AW (Yk.storeAll (vr (PQ an 0) rfl) (vr (AB zero32) rfl) h (by exact CL (by decide) List.length_replicate) (by exact Aw (by decide)) (Av _) fun bs a4 ai cr=> ?_)
 have hb:=kb ai hb (by omega)
 have hgr:w.grownBy bs (some r):=Ag hgr ai (fun _ e=> .inr (by cases e;omega))
 have hE:=Ae hE ai (Nat.le_trans bq (by omega))
 have f:=kb ai f (by omega)
 clear h
 have h:=a4;clear a4
 have ct:=bl h
 refine⟨.inr ⟨hb,hE,f,trivial⟩,?_⟩
 refine AI rfl fun bt aa=> ?_
 have hb:=eb aa hb
 have hgr:w.grownBy bt (some r):=Ag hgr aa.grown (fun _ e=>by cases e)
 have hE:=hE.trans aa
 have f:=eb aa f
 have h:=eb aa h
 refine AW (Yk.assign (vr (NI 0) rfl) ?_)
 refine⟨.inr ⟨hb,hE,f,trivial⟩,?_⟩
 refine AI rfl fun bu aj=> ?_
 have hb:=eb aj hb
 have hgr:w.grownBy bu (some r):=Ag hgr aj.grown (fun _ e=>by cases e)
 have f:=eb aj f
 have h:=eb aj h
 refine AW (Yk.assign (vr (NI 6) rfl) ?_)
 refine⟨.inl rfl,?_⟩
 refine Cu (tN (bo _ _ (sk fun cu bv=>(wt (oM rfl (oS rfl (Yk.eqI (a:=(6:Nat)) (b:=(0:Nat)) rfl rfl (k_eql _ _ _ _) (oP rfl (Yp.callA1 CQ (vr (.bool (decide ((6:Nat)=(0)))) rfl) ?_)))))))))
 refine Ar (AZ _ (decide ((6:Nat)=(0)))) ?_ ?_
 rotate_left
 ·
  rintro ch cv ⟨rfl,hb,hx⟩
  refine Aq (postP_panic ?_)
  have hno:=of_decide_eq_false hb
  exact .inr ⟨_,rfl,hP,rfl,(Ag hgr hx.grown (fun _ e=>by cases e))⟩
 rintro v_ cw ⟨rfl,bw,ao⟩
 have hb:=eb ao hb
 have f:=eb ao f
 have h:=eb ao h
 have cx:=of_decide_eq_true bw
 refine oZ (tN (bv _ _ (sk fun cy bx=>(wt (oM rfl (oM rfl (oS rfl (Yk.nilCheck p (oS rfl (Yk.fieldAt Bi (vr (PQ r 0) rfl) (oS rfl (Yk.storeC (i:=1) (v:=NI 0) (vr (PQ r 1) rfl) (vr (NI 0) rfl) hb (by rw[Ef];decide) Dm rfl rfl fun bz a5 a6 cz=> ?_))))))))))))
 clear hb
 clear hE
 have f:=kb a6 f (by omega)
 have h:=kb a6 h (by omega)
 have hb:bz.heap[r]? =some (.cells (A4 ((⟨b,((0:Nat):Int)⟩,⟨v⟩):DY)).toArray 111 (0,0)):=Az a5 (EK (AL v b (i)) ((0:Nat):Int));clear a5
 have c0:=bl hb
 refine oZ (tN (bx _ _ (sk fun c1 b0=>(wt (oS rfl (Yk.loadAll (vr (PQ an 0) rfl) h NV rfl (by exact Aw (by decide)) (oS rfl (Yk.storeAll (vr (PQ q 0) rfl) (vr (AB zero32) rfl) f (by exact CL (by decide) List.length_replicate) (by exact Aw (by decide)) (Av _) fun c2 a7 c3 c4=> ?_))))))))
 clear f
 have f:=a7;clear a7
 have c5:=bl f
 refine oZ (tN (b0 _ _ (Ao (BJ (fn:=Tryd.f114) _ rfl [AB zero32] (AB zero32) rfl ⟨ResF.row rfl f NV rfl (by exact Aw (by decide)),trivial⟩ ?_))))
 omega
open Go.RowKit
theorem Le{P:Program}{e:TypeId}{k b:Nat}(h:(P.info? e).map (fun i=>(i.zero.map (fun z=>z.cells.size),i.size,i.bytes))=some (some k,k,b)):∃z,(P.info? e).map (fun i=>(i.zero,i.size,i.bytes))=some (some z,k,b)∧z.cells.size=k:=by
  cases hi:P.info? e with
  | none=>rw[hi]at h;cases h
  | some i=>
    rw[hi]at h
    simp only[Option.map_some,Option.some.injEq,Prod.mk.injEq]at h
    cases hz:i.zero with
    | none=>rw[hz]at h;cases h.1
    | some z=>
      rw[hz]at h
      simp only[Option.map_some,Option.some.injEq]at h
      exact⟨z,by simp[hz,h.2.1,h.2.2],h.1⟩
section
variable {P : Program} {ρ : As} {w : World}
theorem Yp.clo{f:FuncId}{dst:Option Tmp}{ty:TypeId}{pos:String}{af:Array Edge}{gd:Option (Nat × Bool)}{K:Value→World→Prop}{J:List PanicEntry→World→Prop}(hp:AN P f){c:Operand}{args:Array Operand}{at_:Array TypeId}{caps:Array Value}(hc:Al ρ c = .func (.func f) #[] caps)(vs:Array Value)(hv:args.map (Al ρ)++caps=vs) 
    (h:Calls P f vs w fun e w' =>match e with | .returned v=>K v w' | .panicked ch=>J ch w' | .outgrown=>False):Yp P K J ((execOp (Al ρ) ⟨dst, .call ⟨.value c,args,at_⟩,ty,pos,af,gd⟩).run P w):=by
  subst hv
  have hr:(execOp (Al ρ) ⟨dst, .call ⟨.value c,args,at_⟩,ty,pos,af,gd⟩).run P w = .ok (.enter f (args.map (Al ρ)++caps)) w:=by
    unfold execOp
    simp[resolve,hc,Deferred.ofValue,invoke,hp _ w]
  rw[hr]
  exact h
end
section
variable {P : Program} {K : Value → World → Prop} {ρ : As} {w : World} {d : Option Tmp} {ty : TypeId} {pos : String} {af : Array Edge} {gd : Option (Nat × Bool)}
theorem Yk.convStr{t e s:TypeId}{u:TypeDesc}(hs:P.underlying s=some u)(ht:P.underlying t=some (.slice e))(he:P.underlying e=some (.int .u8)){x:Operand}{l:List UInt8}(hx:Al ρ x=St l)(hl:l.length≤9223372036854775807) 
    (hk:∀v w',RB w' v l→Ext w w' →(∀k,v.ownBlock=some k→w.heap.size≤k∧k<w'.heap.size)→K v w'):Yk P K ((execOp (Al ρ) ⟨d, .convert s t x,ty,pos,af,gd⟩).run P w):=by
  have hr:=Lib.run_convert_string_bytes (P:=P) w s t e ⟨l.toArray⟩ hs ht he
  have hsz:(⟨l.toArray⟩:ByteArray).size=l.length:=by simp[ByteArray.size]
  rw[hsz]at hr
  refine Yk.value (v:= .slice (some ⟨w.heap.size,0,none⟩) l.length (grownCap w l.length 0 e)) (w' :=Lib.bytesWorld w e ⟨l.toArray⟩) ?_ (hk _ _ ?_ (Lib.bytesWorld_below w e _) ?_)
  · unfold execOp
    simp only[hx,hr,Sem.run_bind,Sem.run_pure,Result.andThen_ok]
  · refine⟨by rw[Lib.byteCells_length,Nat.mul_one],_,_,rfl,grownCap_ge w _ _ _,grownCap_le_maxLen w _ _ _ (by simpa [maxLen] using hl),(fun h=>by cases h),fun a ha j u hu=> ?_⟩
    cases ha
    have hj:j<l.length:=by have:=(List.getElem?_eq_some_iff.1 hu).1;rwa [Lib.byteCells_length]at this
    have hc:=Lib.bytesWorld_cell w e ⟨l.toArray⟩ j (by rw[hsz];exact hj)
    rw[show(⟨w.heap.size,0,none⟩:Addr).add j=⟨w.heap.size,j,none⟩ by simp[Addr.add];exact fun h=>h.symm]
    rw[hc,←hu,Dc hj]
  · intro k hk
    cases hk
    rw[Lib.bytesWorld_size]
    exact⟨Nat.le_refl _,Nat.lt_succ_self _⟩
end
end Go.Proofs.YtmonlobfofkbdaaDoor
