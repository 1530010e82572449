/- Part 2 of what stands behind closeWireReads.card: laws and walks of the functions that are reached. Conditions: those that each theorem names. -/
import Derived.Test.YtmonlobfofkbdaaDoorVCloseWireReadsP1
set_option linter.unusedVariables false
set_option linter.unusedSimpArgs false
namespace Go.Proofs.YtmonlobfofkbdaaDoor
open Go.RowKit
set_option maxRecDepth 100000
theorem Ik{z0:Value}(h0:∃ao n c,z0 = .slice ao n c)(z2:Bool)(w:World):(Instr.build 115 #[(0,z0),(2, .bool z2)]).run Tryd.prog w = .ok (.agg #[z0, .int .i64 0, .bool z2]) w:=by obtain⟨_,_,_,rfl⟩:=h0;kernel_rfl
theorem ID{z0:Value}(h0:∃ao n c,z0 = .slice ao n c)(z2:Bool)(w:World):(Instr.build 115 #[(0,z0),(2, .bool z2)]).run Tryd.prog w = .ok (.agg (z0 :: (.int .i64 (0) :: (.bool (z2) :: ([])))).toArray) w:=by
 exact Ik h0 _ w
theorem GI:AN Tryd.prog 68:=fun _ _=>by kernel_rfl
theorem GJ:AN Tryd.prog 70:=fun _ _=>by kernel_rfl
theorem Nf:∀(cs:Array Value),cs.size=66→∀w:World,(Instr.buildSlice 22 1 #[(0, .agg cs)]).run Tryd.prog w = .ok (.slice (some ⟨w.heap.size,0,none⟩) 1 1) (w.alloc (.cells cs 67))
 | ⟨c0 :: c1 :: c2 :: c3 :: c4 :: c5 :: c6 :: c7 :: c8 :: c9 :: c10 :: c11 :: c12 :: c13 :: c14 :: c15 :: c16 :: c17 :: c18 :: c19 :: c20 :: c21 :: c22 :: c23 :: c24 :: c25 :: c26 :: c27 :: c28 :: c29 :: c30 :: c31 :: c32 :: c33 :: c34 :: c35 :: c36 :: c37 :: c38 :: c39 :: c40 :: c41 :: c42 :: c43 :: c44 :: c45 :: c46 :: c47 :: c48 :: c49 :: c50 :: c51 :: c52 :: c53 :: c54 :: c55 :: c56 :: c57 :: c58 :: c59 :: c60 :: c61 :: c62 :: c63 :: c64 :: c65 :: []⟩,_,w=>NB c0 c1 c2 c3 c4 c5 c6 c7 c8 c9 c10 c11 c12 c13 c14 c15 c16 c17 c18 c19 c20 c21 c22 c23 c24 c25 c26 c27 c28 c29 c30 c31 c32 c33 c34 c35 c36 c37 c38 c39 c40 c41 c42 c43 c44 c45 c46 c47 c48 c49 c50 c51 c52 c53 c54 c55 c56 c57 c58 c59 c60 c61 c62 c63 c64 c65 w
theorem Jg:AN Tryd.prog 72:=fun _ _=>by kernel_rfl
theorem Jh:AN Tryd.prog 23:=fun _ _=>by kernel_rfl
set_option maxHeartbeats 3200000
theorem Gf(w:World)(v:Value)(b:Bs)(hr:RB w v b)(hl:b.length≤6000):
  Calls Tryd.prog 23 #[v] w fun e w' =>∃X c,e = .returned (.tuple #[.agg (msgC X).toArray,NI c])∧MsgAt w' X∧NK X.1 c (Cv b)∧Ext w w' :=by
 refine calls_of_wpF (args:= [v]) Tryd.func23 rfl 137 rfl (Nat.le_of_ble_eq_true rfl) ?_
 intro em hb
 have q:em 0=(v:Value):=hb.get 0
 clear hb
 have hE:=Ext.refl w
 refine sk fun K1 en=>(wt (oS rfl (Yk.alloc (cs:=(msgC ((⟨0,0,[],[],[],0,0,zid,[],[],zid,zid,false,0⟩,⟨.slice none 0 0, .slice none 0 0, .slice none 0 0, .slice none 0 0⟩):Ah)).toArray) MN fun n2 w3 hz dg eo h0=> ?_)))
 have hE:=hE.trans eo
 have f:=dg;clear dg
 have h1:n2<w3.heap.size:=by omega
 refine oA rfl (oZ (tN (en _ _ (sk fun h2 ep=>(wt (oM rfl (oS rfl (Yk.build2 q (vr (.bool (true)) rfl) (fun w=>ID (RB.slice (hr.keep hE)) true w) (oS rfl (Yk.box (cs:=(AK ((⟨b,0,true⟩,⟨v⟩):Ch):List Value).toArray) (vr (.agg (AK ((⟨b,0,true⟩,⟨v⟩):Ch)).toArray) rfl) fun o dh eq di cd h3=> ?_))))))))))
 have ac:=Ext.refl w3
 have ae:=hE.size
 have h4:=Bo (bl f) eq
 have hE:=hE.trans cd
 have f:=eb cd f
 have ac:=ac.trans cd
 have g:=di;clear di
 have h5:o<dh.heap.size:=by omega
 refine oA rfl (oZ ?_)
 have g:dh.heap[o]? =some (.cells (AK (Ay v b (0) true)).toArray 115 (0,0)):=g
 have hapr:=RB.new hr (r:=o) (by have:=hE.size;omega)
 refine tN (ep _ _ (sk fun h6 er=>(wt (oS rfl (Yk.alloc (cs:=(msgC ((⟨0,0,[],[],[],0,0,zid,[],[],zid,zid,false,0⟩,⟨.slice none 0 0, .slice none 0 0, .slice none 0 0, .slice none 0 0⟩):Ah)).toArray) MN fun p es dj dk bu h7=> ?_)))))
 have ag:=hE.size
 have ce:=ac.size
 have h8:=Bo (bl f) dj
 have h9:=Bo (bl g) dj
 have hE:=hE.trans bu
 have f:=eb bu f
 have ac:=ac.trans bu
 have g:=eb bu g
 have n:=dk;clear dk
 have ia:p<es.heap.size:=by omega
 refine oZ (tN (er _ _ (sk fun ib et=>(wt (oM rfl (oS rfl (Yk.callA1 GI (vr (PQ o 0) rfl) ((GG _ o v b (0) true g (hr.keep hE) hapr (Nat.zero_le _) hl).mono ?_))))))))
 rintro e ic ⟨c40,i40,k40,hq40,rfl,hbr40,eu,bv⟩
 refine⟨_,rfl,?_⟩
 have hE:=Ae hE bv (Nat.le_trans ae (by omega))
 have f:=kb bv f (by omega)
 have ac:=Ae ac bv (Nat.le_trans (Nat.le_refl _) (by omega))
 clear g
 have n:=kb bv n (by omega)
 have g:=hbr40;clear hbr40
 have ie:=bl g
 refine oS rfl (Yk.fieldAt H8 (vr (PQ p 0) rfl) (oS rfl (Yk.storeC (i:=0) (v:=B8 (c40)) (vr (PQ p 0) rfl) (vr (B8 (c40)) rfl) n (by rw[msg_len];decide) OC rfl rfl fun ew dl bw ig=> ?_)))
 have hE:=Ae hE bw (Nat.le_trans ag (by omega))
 have f:=kb bw f (by omega)
 have ac:=Ae ac bw (Nat.le_trans ce (by omega))
 clear n
 have g:=kb bw g (by omega)
 have n:ew.heap[p]? =some (.cells (msgC ((⟨c40,0,[],[],[],0,0,zid,[],[],zid,zid,false,0⟩,⟨(Value.slice none 0 0),(Value.slice none 0 0),(Value.slice none 0 0),(Value.slice none 0 0)⟩):Ah)).toArray 29 (0,0)):=Az dl (Me ((⟨0,0,[],[],[],0,0,zid,[],[],zid,zid,false,0⟩,⟨.slice none 0 0, .slice none 0 0, .slice none 0 0, .slice none 0 0⟩):Ah) c40);clear dl
 have ih:=bl n
 refine oZ (tN (et _ _ (sk fun ii ex=>(wt (oM rfl (oS rfl (Yk.callA1 Nb (vr (PQ o 0) rfl) ((DL _ o v b (i40) k40 g (hr.keep hE) hapr eu hl).mono ?_))))))))
 rintro e ij ⟨c49,i49,k49,hq49,rfl,hbr49,ax,bx⟩
 refine⟨_,rfl,?_⟩
 have hE:=Ae hE bx (Nat.le_trans ae (by omega))
 have f:=kb bx f (by omega)
 have ac:=Ae ac bx (Nat.le_trans (Nat.le_refl _) (by omega))
 clear g
 have n:=kb bx n (by omega)
 have g:=hbr49;clear hbr49
 have ik:=bl g
 refine oS rfl (Yk.fieldAt LK (vr (PQ p 0) rfl) (oS rfl (Yk.storeC (i:=1) (v:=NI c49) (vr (PQ p 1) rfl) (vr (NI c49) rfl) n (by rw[msg_len];decide) Dm rfl rfl fun ey dm bz il=> ?_)))
 have hE:=Ae hE bz (Nat.le_trans ag (by omega))
 have f:=kb bz f (by omega)
 have ac:=Ae ac bz (Nat.le_trans ce (by omega))
 clear n
 have g:=kb bz g (by omega)
 have n:ey.heap[p]? =some (.cells (msgC ((⟨c40,((c49:Nat):Int),[],[],[],0,0,zid,[],[],zid,zid,false,0⟩,⟨(Value.slice none 0 0),(Value.slice none 0 0),(Value.slice none 0 0),(Value.slice none 0 0)⟩):Ah)).toArray 29 (0,0)):=Az dm (Mf ((⟨c40,0,[],[],[],0,0,zid,[],[],zid,zid,false,0⟩,⟨(Value.slice none 0 0),(Value.slice none 0 0),(Value.slice none 0 0),(Value.slice none 0 0)⟩):Ah) ((c49:Nat):Int));clear dm
 have im:=bl n
 refine oZ (tN (ex _ _ (sk fun ez dn=> ?_)))
 have hJK57:∀(ρ:As) (wz:World),(∃X:Ah,∃iJ:Nat,∃kJ:Bool,ρ 0=(v:Value)∧ρ 2=(PQ n2 0:Value)∧ρ 3=(NI 0:Value)∧ρ 4=(PQ o 0:Value)∧ρ 5=(PQ p 0:Value)∧Ext w wz∧wz.heap[n2]? =some (.cells (msgC ((⟨0,0,[],[],[],0,0,zid,[],[],zid,zid,false,0⟩,⟨.slice none 0 0, .slice none 0 0, .slice none 0 0, .slice none 0 0⟩):Ah)).toArray 29 (0,0))∧wz.heap[o]? =some (.cells (AK (Ay v b (iJ) kJ)).toArray 115 (0,0))∧wz.heap[p]? =some (.cells (msgC X).toArray 29 (0,0))∧MsgAt wz X∧(CH b=(X.1,(iJ,kJ)))∧(Na X n2)∧True)→ez ρ wz:=by
  clear hE f
  rintro io ip ⟨X,iJ,kJ,q,u,T3,s,t,hE,f,hbJ,hmJ,hX,hR,hXo,-⟩
  refine dn _ _ ?_
  have hXr:=hX.refs
  have hXw:=hX.wants
  have hXh:=hX.haves
  have hXb:=hX.bytes
  have hMl:B9 X.1:=by have:=NP b;rw[hR]at this;exact this
  have hI:DV (CH b).1:=by rw[hR];exact hX.ids
  have hD:=M9 hI
  unfold Ij at hD
  rw[hR]at hD
  cases kJ
  ·rw[if_neg (fun h=>Bool.noConfusion h.1)]at hD
   refine sk fun iq ir=>(sk fun iu e1=> ?_)
   refine A2 [Is (PQ o 0),Is (PQ o 0),Is (PQ o 2),Is (.bool (false)),Is (.bool (true)),Is (.bool (true)),Is undef,Is undef,Is undef,Is (.bool (true)),Is (.bool (true)),Is undef,Is undef,Is undef,Is undef,Is undef,Is undef,Is (.bool (true))] (by kernel_rfl) [117,118,119,120,121,122,123,124,125,126,127,128,129,130,131,132,133,134] (by kernel_rfl) (by kernel_rfl) (KX (B6 trivial)) ?e2 ?hQ5037
   case e2=>
    refine⟨?_,?_,?_,?_,?_,?_,?_,?_,?_,?_,?_,?_,?_,?_,?_,?_,?_,?_,trivial⟩
    ·refine Aa rfl fun σ w1 hC h=> ?_
     have e4:=(Af (h 4 (by decide))).trans s
     exact Yk.move e4 ⟨Ext.refl _,rfl⟩
    ·refine Aa rfl fun σ w1 hC h=> ?_
     have az:=Af (h 117 (by decide))
     exact Yk.nilCheck az ⟨Ext.refl _,rfl⟩
    ·refine Aa rfl fun σ w1 hC h=> ?_
     have a0:=Af (h 118 (by decide))
     exact Yk.fieldAt A1 a0 ⟨Ext.refl _,rfl⟩
    ·refine Aa rfl fun σ w1 hC h=> ?_
     have a1:=Af (h 119 (by decide))
     exact Yk.cell1 De rfl a1 (Ab (eb hC hbJ) (show(AK (Ay v b (iJ) false))[2]? =some (.bool (false):Value)from Cj (Ay v b (iJ) false))) ⟨Ext.refl _,rfl⟩
    ·refine Aa rfl fun σ w1 hC h=> ?_
     have a2:=Af (h 120 (by decide))
     exact Yk.notB a2 ⟨Ext.refl _,rfl⟩
    ·refine Aa rfl fun σ w1 hC h=> ?_
     have a3:=Af (h 121 (by decide))
     exact Yk.move a3 ⟨Ext.refl _,rfl⟩
    ·refine A9 5 false 122 rfl rfl (fun x _ (h:x = .bool true)=>by rw[h];intro h;cases h) fun _=>rfl
    ·refine A9 5 false 122 rfl rfl (fun x _ (h:x = .bool true)=>by rw[h];intro h;cases h) fun _=>rfl
    ·refine A9 5 false 122 rfl rfl (fun x _ (h:x = .bool true)=>by rw[h];intro h;cases h) fun _=>rfl
    ·refine Aa rfl fun σ w1 hC h=> ?_
     have a4:=Af (h 122 (by decide))
     exact Yk.pickT a4 (vr (.bool (true)) rfl) ⟨Ext.refl _,rfl⟩
    ·refine Aa rfl fun σ w1 hC h=> ?_
     have a5:=Af (h 126 (by decide))
     exact Yk.move a5 ⟨Ext.refl _,rfl⟩
    ·refine A9 10 false 127 rfl rfl (fun x _ (h:x = .bool true)=>by rw[h];intro h;cases h) fun _=>rfl
    ·refine A9 10 false 127 rfl rfl (fun x _ (h:x = .bool true)=>by rw[h];intro h;cases h) fun _=>rfl
    ·refine A9 10 false 127 rfl rfl (fun x _ (h:x = .bool true)=>by rw[h];intro h;cases h) fun _=>rfl
    ·refine A9 10 false 127 rfl rfl (fun x _ (h:x = .bool true)=>by rw[h];intro h;cases h) fun _=>rfl
    ·refine A9 10 false 127 rfl rfl (fun x _ (h:x = .bool true)=>by rw[h];intro h;cases h) fun _=>rfl
    ·refine A9 10 false 127 rfl rfl (fun x _ (h:x = .bool true)=>by rw[h];intro h;cases h) fun _=>rfl
    ·refine Aa rfl fun σ w1 hC h=> ?_
     have a6:=Af (h 127 (by decide))
     exact Yk.pickT a6 (vr (.bool (true)) rfl) ⟨Ext.refl _,rfl⟩
   intro e3 e6 an he hf
   obtain⟨-,-,-,-,-,-,-,-,-,-,-,-,-,-,-,-,-,k134,-⟩:=hf
   obtain⟨q,u,T3,s,t,-⟩:=he.hold [(0,_),(2,_),(3,_),(4,_),(5,_)] ⟨q,u,T3,s,t,trivial⟩ rfl
   clear he
   have hE:=hE.trans an
   have f:=eb an f
   have hbJ:=eb an hbJ
   have hmJ:=eb an hmJ
   have hX:MsgAt e6 X:=(hX.keep an)
   have hXr:=hXr.keep an
   have hXw:=hXw.keep an
   have hXh:=hXh.keep an
   have hXb:=hXb.keep an
   have a7:e3 134 = .bool (true):=k134
   clear k134
   refine tN (e1 _ _ (At a7 (sk fun iv e7=>(wt (oS rfl (Yk.run (v:= .agg (msgC ((⟨0,0,[],[],[],0,0,zid,[],[],zid,zid,false,0⟩,⟨.slice none 0 0, .slice none 0 0, .slice none 0 0, .slice none 0 0⟩):Ah)).toArray) (by kernel_rfl) (oS rfl (Yk.storeAll u (vr (.agg (msgC ((⟨0,0,[],[],[],0,0,zid,[],[],zid,zid,false,0⟩,⟨.slice none 0 0, .slice none 0 0, .slice none 0 0, .slice none 0 0⟩):Ah)).toArray) rfl) f (by simp only[List.size_toArray,msg_len]) (Au (msg_len _) Mr) (BK (x:=((⟨0,0,[],[],[],0,0,zid,[],[],zid,zid,false,0⟩,⟨.slice none 0 0, .slice none 0 0, .slice none 0 0, .slice none 0 0⟩):Ah)) rfl rfl rfl rfl) fun dp dq b0 iw=> ?_))))))))
   have hE:=Ae hE b0 (Nat.le_trans (Nat.le_refl _) (by omega))
   clear f
   have hbJ:=kb b0 hbJ (by omega)
   have hmJ:=kb b0 hmJ (by omega)
   have hX:MsgAt dp X:=MsgAt.off hX hXo b0
   clear hXr
   clear hXw
   clear hXh
   clear hXb
   have f:dp.heap[n2]? =some (.cells (msgC ((⟨0,0,[],[],[],0,0,zid,[],[],zid,zid,false,0⟩,⟨.slice none 0 0, .slice none 0 0, .slice none 0 0, .slice none 0 0⟩):Ah)).toArray 29 (0,0)):=dq;clear dq
   have ix:=bl f
   refine oA rfl (oZ (tN (e7 _ _ (Ao (Ap (An (fn:=Tryd.f23) _ rfl [.agg (msgC ((⟨0,0,[],[],[],0,0,zid,[],[],zid,zid,false,0⟩,⟨.slice none 0 0, .slice none 0 0, .slice none 0 0, .slice none 0 0⟩):Ah)).toArray,NI 6] (.tuple #[.agg (msgC ((⟨0,0,[],[],[],0,0,zid,[],[],zid,zid,false,0⟩,⟨.slice none 0 0, .slice none 0 0, .slice none 0 0, .slice none 0 0⟩):Ah)).toArray,NI 6]) rfl ⟨ResF.row u f (Nr).choose_spec rfl (Au (msg_len _) Mr),rfl,trivial⟩ ?_))))))
   exact⟨_,6,rfl,⟨RG.nil _ _ _,RG.nil _ _ _,RG.nil _ _ _,RB.nil _⟩,by rw[←hD];exact⟨rfl,rfl⟩,hE⟩
  cases hRt:rightB X.1
  ·rw[if_neg (fun h=>Bool.noConfusion (hRt.symm.trans h.2.1))]at hD
   refine sk fun iy iz=>(sk fun i0 e8=> ?_)
   refine A2 [Is (PQ o 0),Is (PQ o 0),Is (PQ o 2),Is (.bool (true)),Is (.bool (false)),Is (.bool (false)),Is (.agg (msgC X).toArray),Is (.bool (false)),Is (.bool (true)),Is (.bool (true)),Is (.bool (true)),Is undef,Is undef,Is undef,Is undef,Is undef,Is undef,Is (.bool (true))] (by kernel_rfl) [117,118,119,120,121,122,123,124,125,126,127,128,129,130,131,132,133,134] (by kernel_rfl) (by kernel_rfl) (KX (B6 trivial)) ?e9 ?hQ6037
   case e9=>
    refine⟨?_,?_,?_,?_,?_,?_,?_,?_,?_,?_,?_,?_,?_,?_,?_,?_,?_,?_,trivial⟩
    ·refine Aa rfl fun σ w1 hC h=> ?_
     have e4:=(Af (h 4 (by decide))).trans s
     exact Yk.move e4 ⟨Ext.refl _,rfl⟩
    ·refine Aa rfl fun σ w1 hC h=> ?_
     have az:=Af (h 117 (by decide))
     exact Yk.nilCheck az ⟨Ext.refl _,rfl⟩
    ·refine Aa rfl fun σ w1 hC h=> ?_
     have a0:=Af (h 118 (by decide))
     exact Yk.fieldAt A1 a0 ⟨Ext.refl _,rfl⟩
    ·refine Aa rfl fun σ w1 hC h=> ?_
     have a1:=Af (h 119 (by decide))
     exact Yk.cell1 De rfl a1 (Ab (eb hC hbJ) (show(AK (Ay v b (iJ) true))[2]? =some (.bool (true):Value)from Cj (Ay v b (iJ) true))) ⟨Ext.refl _,rfl⟩
    ·refine Aa rfl fun σ w1 hC h=> ?_
     have a2:=Af (h 120 (by decide))
     exact Yk.notB a2 ⟨Ext.refl _,rfl⟩
    ·refine Aa rfl fun σ w1 hC h=> ?_
     have a3:=Af (h 121 (by decide))
     exact Yk.move a3 ⟨Ext.refl _,rfl⟩
    ·refine AD 5 false 122 rfl rfl (fun _ _ h=>h) fun σ w1 hC h=> ?_
     have e5:=(Af (h 5 (by decide))).trans t
     exact Yk.loadAll e5 (eb hC hmJ) (Nr).choose_spec rfl (Au (msg_len X) Mr) ⟨Ext.refl _,rfl⟩
    ·refine AD 5 false 122 rfl rfl (fun _ _ h=>h) fun σ w1 hC h=> ?_
     have bd:=Af (h 123 (by decide))
     refine Yk.callA1 Ft bd ((C9 _ X (hX.keep hC) hMl hRt).mono ?_)
     rintro e w2 ⟨rfl,hx⟩
     exact⟨_,rfl,hx,rfl⟩
    ·refine AD 5 false 122 rfl rfl (fun _ _ h=>h) fun σ w1 hC h=> ?_
     have be:=Af (h 124 (by decide))
     exact Yk.notB be ⟨Ext.refl _,rfl⟩
    ·refine Aa rfl fun σ w1 hC h=> ?_
     have a4:=Af (h 122 (by decide))
     have bf:=Af (h 125 (by decide))
     exact Yk.pickF a4 bf ⟨Ext.refl _,rfl⟩
    ·refine Aa rfl fun σ w1 hC h=> ?_
     have a5:=Af (h 126 (by decide))
     exact Yk.move a5 ⟨Ext.refl _,rfl⟩
    ·refine A9 10 false 127 rfl rfl (fun x _ (h:x = .bool true)=>by rw[h];intro h;cases h) fun _=>rfl
    ·refine A9 10 false 127 rfl rfl (fun x _ (h:x = .bool true)=>by rw[h];intro h;cases h) fun _=>rfl
    ·refine A9 10 false 127 rfl rfl (fun x _ (h:x = .bool true)=>by rw[h];intro h;cases h) fun _=>rfl
    ·refine A9 10 false 127 rfl rfl (fun x _ (h:x = .bool true)=>by rw[h];intro h;cases h) fun _=>rfl
    ·refine A9 10 false 127 rfl rfl (fun x _ (h:x = .bool true)=>by rw[h];intro h;cases h) fun _=>rfl
    ·refine A9 10 false 127 rfl rfl (fun x _ (h:x = .bool true)=>by rw[h];intro h;cases h) fun _=>rfl
    ·refine Aa rfl fun σ w1 hC h=> ?_
     have a6:=Af (h 127 (by decide))
     exact Yk.pickT a6 (vr (.bool (true)) rfl) ⟨Ext.refl _,rfl⟩
   intro fa fb ap he hf
   obtain⟨-,-,-,-,-,-,-,-,-,-,-,-,-,-,-,-,-,k134,-⟩:=hf
   obtain⟨q,u,T3,s,t,-⟩:=he.hold [(0,_),(2,_),(3,_),(4,_),(5,_)] ⟨q,u,T3,s,t,trivial⟩ rfl
   clear he
   have hE:=hE.trans ap
   have f:=eb ap f
   have hbJ:=eb ap hbJ
   have hmJ:=eb ap hmJ
   have hX:MsgAt fb X:=(hX.keep ap)
   have hXr:=hXr.keep ap
   have hXw:=hXw.keep ap
   have hXh:=hXh.keep ap
   have hXb:=hXb.keep ap
   have a7:fa 134 = .bool (true):=k134
   clear k134
   refine tN (e8 _ _ (At a7 (sk fun i2 fc=>(wt (oS rfl (Yk.run (v:= .agg (msgC ((⟨0,0,[],[],[],0,0,zid,[],[],zid,zid,false,0⟩,⟨.slice none 0 0, .slice none 0 0, .slice none 0 0, .slice none 0 0⟩):Ah)).toArray) (by kernel_rfl) (oS rfl (Yk.storeAll u (vr (.agg (msgC ((⟨0,0,[],[],[],0,0,zid,[],[],zid,zid,false,0⟩,⟨.slice none 0 0, .slice none 0 0, .slice none 0 0, .slice none 0 0⟩):Ah)).toArray) rfl) f (by simp only[List.size_toArray,msg_len]) (Au (msg_len _) Mr) (BK (x:=((⟨0,0,[],[],[],0,0,zid,[],[],zid,zid,false,0⟩,⟨.slice none 0 0, .slice none 0 0, .slice none 0 0, .slice none 0 0⟩):Ah)) rfl rfl rfl rfl) fun dr ds b2 i3=> ?_))))))))
   have hE:=Ae hE b2 (Nat.le_trans (Nat.le_refl _) (by omega))
   clear f
   have hbJ:=kb b2 hbJ (by omega)
   have hmJ:=kb b2 hmJ (by omega)
   have hX:MsgAt dr X:=MsgAt.off hX hXo b2
   clear hXr
   clear hXw
   clear hXh
   clear hXb
   have f:dr.heap[n2]? =some (.cells (msgC ((⟨0,0,[],[],[],0,0,zid,[],[],zid,zid,false,0⟩,⟨.slice none 0 0, .slice none 0 0, .slice none 0 0, .slice none 0 0⟩):Ah)).toArray 29 (0,0)):=ds;clear ds
   have i4:=bl f
   refine oA rfl (oZ (tN (fc _ _ (Ao (Ap (An (fn:=Tryd.f23) _ rfl [.agg (msgC ((⟨0,0,[],[],[],0,0,zid,[],[],zid,zid,false,0⟩,⟨.slice none 0 0, .slice none 0 0, .slice none 0 0, .slice none 0 0⟩):Ah)).toArray,NI 6] (.tuple #[.agg (msgC ((⟨0,0,[],[],[],0,0,zid,[],[],zid,zid,false,0⟩,⟨.slice none 0 0, .slice none 0 0, .slice none 0 0, .slice none 0 0⟩):Ah)).toArray,NI 6]) rfl ⟨ResF.row u f (Nr).choose_spec rfl (Au (msg_len _) Mr),rfl,trivial⟩ ?_))))))
   exact⟨_,6,rfl,⟨RG.nil _ _ _,RG.nil _ _ _,RG.nil _ _ _,RB.nil _⟩,by rw[←hD];exact⟨rfl,rfl⟩,hE⟩
  by_cases hen:encB X.1=b
  ·rw[if_pos ⟨rfl,hRt,hen⟩]at hD
   refine sk fun i5 fd=>(sk fun i6 fe=> ?_)
   refine A2 [Is (PQ o 0),Is (PQ o 0),Is (PQ o 2),Is (.bool (true)),Is (.bool (false)),Is (.bool (false)),Is (.agg (msgC X).toArray),Is (.bool (true)),Is (.bool (false)),Is (.bool (false)),Is (.bool (false)),Is (.agg (msgC X).toArray),fun x w' =>RB w' x (encB X.1),Is (St (encB X.1)),Is (v),Is (St (b)),Is (.bool (false)),Is (.bool (false))] (by kernel_rfl) [117,118,119,120,121,122,123,124,125,126,127,128,129,130,131,132,133,134] (by kernel_rfl) (by kernel_rfl) (B6 ⟨(fun _ _ _ h k=>RB.keep h k),(Hx trivial)⟩) ?ff ?hQ7037
   case ff=>
    refine⟨?_,?_,?_,?_,?_,?_,?_,?_,?_,?_,?_,?_,?_,?_,?_,?_,?_,?_,trivial⟩
    ·refine Aa rfl fun σ w1 hC h=> ?_
     have e4:=(Af (h 4 (by decide))).trans s
     exact Yk.move e4 ⟨Ext.refl _,rfl⟩
    ·refine Aa rfl fun σ w1 hC h=> ?_
     have az:=Af (h 117 (by decide))
     exact Yk.nilCheck az ⟨Ext.refl _,rfl⟩
    ·refine Aa rfl fun σ w1 hC h=> ?_
     have a0:=Af (h 118 (by decide))
     exact Yk.fieldAt A1 a0 ⟨Ext.refl _,rfl⟩
    ·refine Aa rfl fun σ w1 hC h=> ?_
     have a1:=Af (h 119 (by decide))
     exact Yk.cell1 De rfl a1 (Ab (eb hC hbJ) (show(AK (Ay v b (iJ) true))[2]? =some (.bool (true):Value)from Cj (Ay v b (iJ) true))) ⟨Ext.refl _,rfl⟩
    ·refine Aa rfl fun σ w1 hC h=> ?_
     have a2:=Af (h 120 (by decide))
     exact Yk.notB a2 ⟨Ext.refl _,rfl⟩
    ·refine Aa rfl fun σ w1 hC h=> ?_
     have a3:=Af (h 121 (by decide))
     exact Yk.move a3 ⟨Ext.refl _,rfl⟩
    ·refine AD 5 false 122 rfl rfl (fun _ _ h=>h) fun σ w1 hC h=> ?_
     have e5:=(Af (h 5 (by decide))).trans t
     exact Yk.loadAll e5 (eb hC hmJ) (Nr).choose_spec rfl (Au (msg_len X) Mr) ⟨Ext.refl _,rfl⟩
    ·refine AD 5 false 122 rfl rfl (fun _ _ h=>h) fun σ w1 hC h=> ?_
     have bd:=Af (h 123 (by decide))
     refine Yk.callA1 Ft bd ((C9 _ X (hX.keep hC) hMl hRt).mono ?_)
     rintro e w2 ⟨rfl,hx⟩
     exact⟨_,rfl,hx,rfl⟩
    ·refine AD 5 false 122 rfl rfl (fun _ _ h=>h) fun σ w1 hC h=> ?_
     have be:=Af (h 124 (by decide))
     exact Yk.notB be ⟨Ext.refl _,rfl⟩
    ·refine Aa rfl fun σ w1 hC h=> ?_
     have a4:=Af (h 122 (by decide))
     have bf:=Af (h 125 (by decide))
     exact Yk.pickF a4 bf ⟨Ext.refl _,rfl⟩
    ·refine Aa rfl fun σ w1 hC h=> ?_
     have a5:=Af (h 126 (by decide))
     exact Yk.move a5 ⟨Ext.refl _,rfl⟩
    ·refine AD 10 false 127 rfl rfl (fun _ _ h=>h) fun σ w1 hC h=> ?_
     have e5:=(Af (h 5 (by decide))).trans t
     exact Yk.loadAll e5 (eb hC hmJ) (Nr).choose_spec rfl (Au (msg_len X) Mr) ⟨Ext.refl _,rfl⟩
    ·refine AD 10 false 127 rfl rfl (fun _ _ h=>h) fun σ w1 hC h=> ?_
     have cf:=Af (h 128 (by decide))
     refine Yk.callA1 M7 cf ((GE _ X (hX.keep hC) hRt).mono ?_)
     rintro e w2 ⟨v,rfl,hN⟩
     exact⟨_,rfl,hN.ext,hN.rb⟩
    ·refine AD 10 false 127 rfl rfl (fun _ _ h=>h) fun σ w1 hC h=> ?_
     have cg:(fun x w' =>RB w' x (encB X.1)) (σ 129) w1:=h 129 (by decide)
     exact Yk.convRB El u5 CD cg ⟨Ext.refl _,rfl⟩
    ·refine AD 10 false 127 rfl rfl (fun _ _ h=>h) fun σ w1 hC h=> ?_
     have e0:=(Af (h 0 (by decide))).trans q
     exact Yk.move e0 ⟨Ext.refl _,rfl⟩
    ·refine AD 10 false 127 rfl rfl (fun _ _ h=>h) fun σ w1 hC h=> ?_
     have ci:=Af (h 131 (by decide))
     exact Yk.convRB El u5 CD (RB.of (hr.keep (hE.trans hC)) ci) ⟨Ext.refl _,rfl⟩
    ·refine AD 10 false 127 rfl rfl (fun _ _ h=>h) fun σ w1 hC h=> ?_
     have cj:=Af (h 130 (by decide))
     have ck:=Af (h 132 (by decide))
     exact Yk.eqSt (l:=encB X.1) (m:=b) (.inr rfl) cj ck (decide ((encB X.1:List UInt8)≠b)) rfl ⟨Ext.refl _,(congrArg Value.bool (decide_eq_false (fun h=>h hen)))⟩
    ·refine Aa rfl fun σ w1 hC h=> ?_
     have a6:=Af (h 127 (by decide))
     have cl:=Af (h 133 (by decide))
     exact Yk.pickF a6 cl ⟨Ext.refl _,rfl⟩
   intro fg fh aq he hf
   obtain⟨-,-,-,-,-,-,-,-,-,-,-,-,-,-,-,-,-,k134,-⟩:=hf
   obtain⟨q,u,T3,s,t,-⟩:=he.hold [(0,_),(2,_),(3,_),(4,_),(5,_)] ⟨q,u,T3,s,t,trivial⟩ rfl
   clear he
   have hE:=hE.trans aq
   have f:=eb aq f
   have hbJ:=eb aq hbJ
   have hmJ:=eb aq hmJ
   have hX:MsgAt fh X:=(hX.keep aq)
   have hXr:=hXr.keep aq
   have hXw:=hXw.keep aq
   have hXh:=hXh.keep aq
   have hXb:=hXb.keep aq
   have a7:fg 134 = .bool (false):=k134
   clear k134
   refine tN (fe _ _ (Am a7 (Ak (tN (fd _ _ (sk fun i7 fi=>(wt (oS rfl (Yk.loadAll t hmJ (Nr).choose_spec rfl (Au (msg_len X) Mr) (oS rfl (Yk.storeAll u (vr (.agg (msgC X).toArray) rfl) f (by simp only[List.size_toArray,msg_len]) (Au (msg_len _) Mr) (BK (x:=X) (RG.one hXr).2 (RG.one hXw).2 (RG.one hXh).2 (RB.one hXb).2) fun dt du b3 i8=> ?_)))))))))))
   have hE:=Ae hE b3 (Nat.le_trans (Nat.le_refl _) (by omega))
   clear f
   have hbJ:=kb b3 hbJ (by omega)
   have hmJ:=kb b3 hmJ (by omega)
   have hX:MsgAt dt X:=MsgAt.off hX hXo b3
   clear hXr
   clear hXw
   clear hXh
   clear hXb
   have f:dt.heap[n2]? =some (.cells (msgC X).toArray 29 (0,0)):=du;clear du
   have i9:=bl f
   refine oA rfl (oZ (tN (fi _ _ (Ao (An (fn:=Tryd.f23) _ rfl [.agg (msgC X).toArray,NI 0] (.tuple #[.agg (msgC X).toArray,NI 0]) rfl ⟨ResF.row u f (Nr).choose_spec rfl (Au (msg_len _) Mr),rfl,trivial⟩ ?_)))))
   exact⟨X,0,rfl,hX,by rw[←hD];exact⟨rfl,rfl⟩,hE⟩
  rw[if_neg (fun h=>hen h.2.2)]at hD
  refine sk fun ja jb=>(sk fun jc fj=> ?_)
  refine A2 [Is (PQ o 0),Is (PQ o 0),Is (PQ o 2),Is (.bool (true)),Is (.bool (false)),Is (.bool (false)),Is (.agg (msgC X).toArray),Is (.bool (true)),Is (.bool (false)),Is (.bool (false)),Is (.bool (false)),Is (.agg (msgC X).toArray),fun x w' =>RB w' x (encB X.1),Is (St (encB X.1)),Is (v),Is (St (b)),Is (.bool (true)),Is (.bool (true))] (by kernel_rfl) [117,118,119,120,121,122,123,124,125,126,127,128,129,130,131,132,133,134] (by kernel_rfl) (by kernel_rfl) (B6 ⟨(fun _ _ _ h k=>RB.keep h k),(Hx trivial)⟩) ?fk ?hQ8037
  case fk=>
   refine⟨?_,?_,?_,?_,?_,?_,?_,?_,?_,?_,?_,?_,?_,?_,?_,?_,?_,?_,trivial⟩
   ·refine Aa rfl fun σ w1 hC h=> ?_
    have e4:=(Af (h 4 (by decide))).trans s
    exact Yk.move e4 ⟨Ext.refl _,rfl⟩
   ·refine Aa rfl fun σ w1 hC h=> ?_
    have az:=Af (h 117 (by decide))
    exact Yk.nilCheck az ⟨Ext.refl _,rfl⟩
   ·refine Aa rfl fun σ w1 hC h=> ?_
    have a0:=Af (h 118 (by decide))
    exact Yk.fieldAt A1 a0 ⟨Ext.refl _,rfl⟩
   ·refine Aa rfl fun σ w1 hC h=> ?_
    have a1:=Af (h 119 (by decide))
    exact Yk.cell1 De rfl a1 (Ab (eb hC hbJ) (show(AK (Ay v b (iJ) true))[2]? =some (.bool (true):Value)from Cj (Ay v b (iJ) true))) ⟨Ext.refl _,rfl⟩
   ·refine Aa rfl fun σ w1 hC h=> ?_
    have a2:=Af (h 120 (by decide))
    exact Yk.notB a2 ⟨Ext.refl _,rfl⟩
   ·refine Aa rfl fun σ w1 hC h=> ?_
    have a3:=Af (h 121 (by decide))
    exact Yk.move a3 ⟨Ext.refl _,rfl⟩
   ·refine AD 5 false 122 rfl rfl (fun _ _ h=>h) fun σ w1 hC h=> ?_
    have e5:=(Af (h 5 (by decide))).trans t
    exact Yk.loadAll e5 (eb hC hmJ) (Nr).choose_spec rfl (Au (msg_len X) Mr) ⟨Ext.refl _,rfl⟩
   ·refine AD 5 false 122 rfl rfl (fun _ _ h=>h) fun σ w1 hC h=> ?_
    have bd:=Af (h 123 (by decide))
    refine Yk.callA1 Ft bd ((C9 _ X (hX.keep hC) hMl hRt).mono ?_)
    rintro e w2 ⟨rfl,hx⟩
    exact⟨_,rfl,hx,rfl⟩
   ·refine AD 5 false 122 rfl rfl (fun _ _ h=>h) fun σ w1 hC h=> ?_
    have be:=Af (h 124 (by decide))
    exact Yk.notB be ⟨Ext.refl _,rfl⟩
   ·refine Aa rfl fun σ w1 hC h=> ?_
    have a4:=Af (h 122 (by decide))
    have bf:=Af (h 125 (by decide))
    exact Yk.pickF a4 bf ⟨Ext.refl _,rfl⟩
   ·refine Aa rfl fun σ w1 hC h=> ?_
    have a5:=Af (h 126 (by decide))
    exact Yk.move a5 ⟨Ext.refl _,rfl⟩
   ·refine AD 10 false 127 rfl rfl (fun _ _ h=>h) fun σ w1 hC h=> ?_
    have e5:=(Af (h 5 (by decide))).trans t
    exact Yk.loadAll e5 (eb hC hmJ) (Nr).choose_spec rfl (Au (msg_len X) Mr) ⟨Ext.refl _,rfl⟩
   ·refine AD 10 false 127 rfl rfl (fun _ _ h=>h) fun σ w1 hC h=> ?_
    have cf:=Af (h 128 (by decide))
    refine Yk.callA1 M7 cf ((GE _ X (hX.keep hC) hRt).mono ?_)
    rintro e w2 ⟨v,rfl,hN⟩
    exact⟨_,rfl,hN.ext,hN.rb⟩
   ·refine AD 10 false 127 rfl rfl (fun _ _ h=>h) fun σ w1 hC h=> ?_
    have cg:(fun x w' =>RB w' x (encB X.1)) (σ 129) w1:=h 129 (by decide)
    exact Yk.convRB El u5 CD cg ⟨Ext.refl _,rfl⟩
   ·refine AD 10 false 127 rfl rfl (fun _ _ h=>h) fun σ w1 hC h=> ?_
    have e0:=(Af (h 0 (by decide))).trans q
    exact Yk.move e0 ⟨Ext.refl _,rfl⟩
   ·refine AD 10 false 127 rfl rfl (fun _ _ h=>h) fun σ w1 hC h=> ?_
    have ci:=Af (h 131 (by decide))
    exact Yk.convRB El u5 CD (RB.of (hr.keep (hE.trans hC)) ci) ⟨Ext.refl _,rfl⟩
   ·refine AD 10 false 127 rfl rfl (fun _ _ h=>h) fun σ w1 hC h=> ?_
    have cj:=Af (h 130 (by decide))
    have ck:=Af (h 132 (by decide))
    exact Yk.eqSt (l:=encB X.1) (m:=b) (.inr rfl) cj ck (decide ((encB X.1:List UInt8)≠b)) rfl ⟨Ext.refl _,(congrArg Value.bool (decide_eq_true (hen)))⟩
   ·refine Aa rfl fun σ w1 hC h=> ?_
    have a6:=Af (h 127 (by decide))
    have cl:=Af (h 133 (by decide))
    exact Yk.pickF a6 cl ⟨Ext.refl _,rfl⟩
  intro fl fm b4 he hf
  obtain⟨-,-,-,-,-,-,-,-,-,-,-,-,-,-,-,-,-,k134,-⟩:=hf
  obtain⟨q,u,T3,s,t,-⟩:=he.hold [(0,_),(2,_),(3,_),(4,_),(5,_)] ⟨q,u,T3,s,t,trivial⟩ rfl
  clear he
  have hE:=hE.trans b4
  have f:=eb b4 f
  have hmJ:=eb b4 hmJ
  have hX:MsgAt fm X:=(hX.keep b4)
  have a7:fl 134 = .bool (true):=k134
  clear k134
  refine tN (fj _ _ (At a7 (sk fun jd fo=>(wt (oS rfl (Yk.run (v:= .agg (msgC ((⟨0,0,[],[],[],0,0,zid,[],[],zid,zid,false,0⟩,⟨.slice none 0 0, .slice none 0 0, .slice none 0 0, .slice none 0 0⟩):Ah)).toArray) (by kernel_rfl) (oS rfl (Yk.storeAll u (vr (.agg (msgC ((⟨0,0,[],[],[],0,0,zid,[],[],zid,zid,false,0⟩,⟨.slice none 0 0, .slice none 0 0, .slice none 0 0, .slice none 0 0⟩):Ah)).toArray) rfl) f (by simp only[List.size_toArray,msg_len]) (Au (msg_len _) Mr) (BK (x:=((⟨0,0,[],[],[],0,0,zid,[],[],zid,zid,false,0⟩,⟨.slice none 0 0, .slice none 0 0, .slice none 0 0, .slice none 0 0⟩):Ah)) rfl rfl rfl rfl) fun dv dw cm je=> ?_))))))))
  have hE:=Ae hE cm (Nat.le_trans (Nat.le_refl _) (by omega))
  clear f
  have hmJ:=kb cm hmJ (by omega)
  have hX:MsgAt dv X:=MsgAt.off hX hXo cm
  clear hXr
  clear hXw
  clear hXh
  clear hXb
  have f:dv.heap[n2]? =some (.cells (msgC ((⟨0,0,[],[],[],0,0,zid,[],[],zid,zid,false,0⟩,⟨.slice none 0 0, .slice none 0 0, .slice none 0 0, .slice none 0 0⟩):Ah)).toArray 29 (0,0)):=dw;clear dw
  have jf:=bl f
  refine oA rfl (oZ (tN (fo _ _ (Ao (Ap (An (fn:=Tryd.f23) _ rfl [.agg (msgC ((⟨0,0,[],[],[],0,0,zid,[],[],zid,zid,false,0⟩,⟨.slice none 0 0, .slice none 0 0, .slice none 0 0, .slice none 0 0⟩):Ah)).toArray,NI 6] (.tuple #[.agg (msgC ((⟨0,0,[],[],[],0,0,zid,[],[],zid,zid,false,0⟩,⟨.slice none 0 0, .slice none 0 0, .slice none 0 0, .slice none 0 0⟩):Ah)).toArray,NI 6]) rfl ⟨ResF.row u f (Nr).choose_spec rfl (Au (msg_len _) Mr),rfl,trivial⟩ ?_))))))
  exact⟨_,6,rfl,⟨RG.nil _ _ _,RG.nil _ _ _,RG.nil _ _ _,RB.nil _⟩,by rw[←hD];exact⟨rfl,rfl⟩,hE⟩
 clear dn
 refine sk fun jg fp=>(wt (oS rfl (Yk.fieldAt H8 (vr (PQ p 0) rfl) (oS rfl (Yk.cell1 u5 rfl (vr (PQ p 0) rfl) (Ab n (show(msgC ((⟨c40,((c49:Nat):Int),[],[],[],0,0,zid,[],[],zid,zid,false,0⟩,⟨(Value.slice none 0 0),(Value.slice none 0 0),(Value.slice none 0 0),(Value.slice none 0 0)⟩):Ah))[0]? =some (B8 (c40):Value)from Bv ((⟨c40,((c49:Nat):Int),[],[],[],0,0,zid,[],[],zid,zid,false,0⟩,⟨(Value.slice none 0 0),(Value.slice none 0 0),(Value.slice none 0 0),(Value.slice none 0 0)⟩):Ah))) (oZ (tN (fp _ _ (AA (sk fun jh fq=>(wt (oS rfl (Yk.eqI (a:=((c40).toNat:Nat)) (b:=(2:Nat)) rfl rfl (k_eql _ _ _ _) (oA rfl (oZ (tN (fq _ _ ?_)))))))))))))))))
 refine AX (((c40).toNat:Nat)=(2)) (vr (.bool (decide (((c40).toNat:Nat)=(2)))) rfl) (fun ak=> ?_) (fun ak=> ?_)
 ·refine sk fun ji fr=>(wt (oM rfl (oS rfl (Yk.callA1 Nb (vr (PQ o 0) rfl) ((DL _ o v b (i49) k49 g (hr.keep hE) hapr ax hl).mono ?_)))))
  rintro e jj ⟨c108,i108,k108,hq108,rfl,hbr108,fs,b5⟩
  refine⟨_,rfl,?_⟩
  have hE:=Ae hE b5 (Nat.le_trans ae (by omega))
  have f:=kb b5 f (by omega)
  have ac:=Ae ac b5 (Nat.le_trans (Nat.le_refl _) (by omega))
  clear g
  have n:=kb b5 n (by omega)
  have g:=hbr108;clear hbr108
  have jk:=bl g
  refine oA rfl (oZ ?_)
  have hnlt:=Ln hq108
  refine tN (fr _ _ (sk fun jl ft=>(wt (oM rfl (oM rfl (oS rfl (Yk.nilCheck (vr (PQ o 0) rfl) (oS rfl (Yk.fieldAt A1 (vr (PQ o 0) rfl) (oS rfl (Yk.cell1 De rfl (vr (PQ o 2) rfl) (Ab g (show(AK (Ay v b (i108) k108))[2]? =some (.bool (k108):Value)from Cj (Ay v b (i108) k108))) (oM rfl (Ad (NI c108) rfl rfl (gT (vr (.bool (k108)) rfl)) (fun hG112=>Yk.move (vr (NI c108) rfl) ⟨rfl,rfl⟩) (Ad (.bool (decide ((c108)≤(128)))) rfl rfl (gT (vr (.bool (k108)) rfl)) (fun hG113=>Yk.eqI (a:=((c108:Nat):Int)) (b:=((128:Nat):Int)) (mayT (vr (cond (k108) (NI c108) undef) rfl) hG113) (vr (NI 128) rfl) (CC _ .i64 (c108) (128)) ⟨rfl,rfl⟩) (oS rfl (Yk.pickAndN (vr (.bool (k108)) rfl) (fun hA=>(mayT (vr (cond (k108) (.bool (decide ((c108)≤(128)))) undef) rfl) hA)) (vr (.bool (false)) rfl) fun bb114 hbb115=>(oS rfl (Yk.nilCheck (vr (PQ o 0) rfl) (oS rfl (Yk.fieldAt A1 (vr (PQ o 0) rfl) (oS rfl (Yk.storeC (i:=2) (v:= .bool (bb114)) (vr (PQ o 2) rfl) (vr (.bool (bb114)) rfl) g (by rw[Co];decide) MO rfl rfl fun fu dx b6 jm=> ?_))))))))))))))))))))))
  have hE:=Ae hE b6 (Nat.le_trans ae (by omega))
  have f:=kb b6 f (by omega)
  have ac:=Ae ac b6 (Nat.le_trans (Nat.le_refl _) (by omega))
  have n:=kb b6 n (by omega)
  clear g
  have g:fu.heap[o]? =some (.cells (AK ((⟨b,((i108:Nat):Int),bb114⟩,⟨v⟩):Ch)).toArray 115 (0,0)):=Az dx (Dt (Ay v b (i108) k108) bb114);clear dx
  have jn:=bl g
  refine oZ ?_
  subst hbb115
  refine tN (ft _ _ (sk fun jo fv=>(wt (oA rfl (Bp [(0,v),(2,PQ n2 0),(3,NI 0),(4,PQ o 0),(5,PQ p 0),(6,NI c108),(7,NI 0),(19,B8 (c40))] ⟨q,rfl,rfl,rfl,rfl,rfl,rfl,rfl,trivial⟩ fun jp ⟨q,u,T3,s,t,T6,T7,ah,_⟩=>(tN (fv _ _ (AA (Bu (fun(ρ:As) (wz:World)=>∃j:Nat,∃ls:List AJ,∃i1:Nat,∃k1:Bool,∃vb1:Value,ρ 0=(v:Value)∧ρ 2=(PQ n2 0:Value)∧ρ 3=(NI 0:Value)∧ρ 4=(PQ o 0:Value)∧ρ 5=(PQ p 0:Value)∧ρ 6=(NI c108:Value)∧ρ 19=(B8 (c40):Value)∧ρ 7=(NI j:Value)∧Ext w wz∧wz.heap[n2]? =some (.cells (msgC ((⟨0,0,[],[],[],0,0,zid,[],[],zid,zid,false,0⟩,⟨.slice none 0 0, .slice none 0 0, .slice none 0 0, .slice none 0 0⟩):Ah)).toArray 29 (0,0))∧wz.heap[o]? =some (.cells (AK (Ay v b (i1) k1)).toArray 115 (0,0))∧wz.heap[p]? =some (.cells (msgC ((⟨c40,((c49:Nat):Int),ls,[],[],0,0,zid,[],[],zid,zid,false,0⟩,⟨vb1,(Value.slice none 0 0),(Value.slice none 0 0),(Value.slice none 0 0)⟩):Ah)).toArray 29 (0,0))∧OG w.heap.size 67 66 (updC) wz vb1 ls∧(itR (addUpdR b) j ([],(i108,(k108&&decide (c108≤128))))=(ls,(i1,k1)))∧(i1≤b.length)∧(ls.length=j)∧(j=0∨c108≤128)∧(j≤c108)∧(OB vb1 n2)∧(OB vb1 p)∧(OB vb1 o)∧True) (fun ρ _=>c108-(intOf (ρ 7)).toNat) ⟨0,[],i108,(k108&&decide (c108≤128)),(Value.slice none 0 0),q,u,T3,s,t,T6,ah,T7,hE,f,g,n,OG.nil _ _ _ _ _,rfl,fs,rfl, .inl rfl,Nat.zero_le _,(fun h=>by cases h),(fun h=>by cases h),(fun h=>by cases h),trivial⟩ ?_)))))))))
  clear ac
  clear n
  clear g
  clear hE f
  rintro fw jq ⟨j,ls,i1,k1,vb1,q,u,T3,s,t,T6,ah,T7,hE,f,y,hm1,ad,hit,hi1,hls,fx,hjn,hap_n2,hap_n24,hap_n11,-⟩
  have q7:=T7
  have jr:=bl y
  have js:=bl hm1
  have jt:=(bl f)
  by_cases hlt:j<c108
  ·cases k1
   ·have hM:manyR (addUpdR b) b 128 (i49,k49)=(ls,(i1,false)):=F6 hq108 (Ht hit _ (by omega))
    refine sk fun ju jv=>(sk fun jw fy=>(wt (oM rfl (oM rfl (oS rfl (Yk.eqI (a:=(j:Nat)) (b:=(c108:Nat)) T7 T6 (A0 _ _ _ _) (oM rfl (oY (d:=38) rfl rfl (vr (.bool (true)) (congrArg Value.bool (decide_eq_true (hlt)))) (Yk.move s (oY (d:=38) rfl rfl (vr (.bool (true)) (congrArg Value.bool (decide_eq_true (hlt)))) (Yk.nilCheck (vr (PQ o 0) rfl) (oY (d:=38) rfl rfl (vr (.bool (true)) (congrArg Value.bool (decide_eq_true (hlt)))) (Yk.fieldAt A1 (vr (PQ o 0) rfl) (oY (d:=38) rfl rfl (vr (.bool (true)) (congrArg Value.bool (decide_eq_true (hlt)))) (Yk.cell1 De rfl (vr (PQ o 2) rfl) (Ab y (show(AK (Ay v b (i1) false))[2]? =some (.bool (false):Value)from Cj (Ay v b (i1) false))) (oS rfl (Yk.pickT (vr (.bool (true)) (congrArg Value.bool (decide_eq_true (hlt)))) (vr (.bool (false)) rfl) (oZ (tN (fy _ _ (Am (vr (.bool (false)) rfl) (Bm (Ax (Ax (AS ?_)))))))))))))))))))))))))
    refine bN ?_
    exact tN (hJK57 _ _ ⟨((⟨c40,((c49:Nat):Int),ls,[],[],0,0,zid,[],[],zid,zid,false,0⟩,⟨vb1,(Value.slice none 0 0),(Value.slice none 0 0),(Value.slice none 0 0)⟩):Ah),i1,false,q,u,T3,s,t,hE,f,y,hm1,⟨RG.ofOwn ad,RG.nil _ _ _,RG.nil _ _ _,RB.nil _⟩,by simp only[CH,CO,hq40,hq49,if_pos ak,hM],⟨(hap_n2),(fun h=>by cases h),(fun h=>by cases h),(fun h=>by cases h)⟩,trivial⟩)
   have fz:c108≤128:=fx.elim (fun e=>by subst e;have h:([],(i108,(k108&&decide (c108≤128))))=(ls,(i1,true)):=hit;have h:=congrArg (fun z=>z.2.2) h;simp only[Bool.and_eq_true,decide_eq_true_eq]at h;exact h.2) id
   refine sk fun jx f0=>(sk fun jy f1=>(wt (oM rfl (oM rfl (oS rfl (Yk.eqI (a:=(j:Nat)) (b:=(c108:Nat)) T7 T6 (A0 _ _ _ _) (oM rfl (oY (d:=38) rfl rfl (vr (.bool (true)) (congrArg Value.bool (decide_eq_true (hlt)))) (Yk.move s (oY (d:=38) rfl rfl (vr (.bool (true)) (congrArg Value.bool (decide_eq_true (hlt)))) (Yk.nilCheck (vr (PQ o 0) rfl) (oY (d:=38) rfl rfl (vr (.bool (true)) (congrArg Value.bool (decide_eq_true (hlt)))) (Yk.fieldAt A1 (vr (PQ o 0) rfl) (oY (d:=38) rfl rfl (vr (.bool (true)) (congrArg Value.bool (decide_eq_true (hlt)))) (Yk.cell1 De rfl (vr (PQ o 2) rfl) (Ab y (show(AK (Ay v b (i1) true))[2]? =some (.bool (true):Value)from Cj (Ay v b (i1) true))) (oS rfl (Yk.pickT (vr (.bool (true)) (congrArg Value.bool (decide_eq_true (hlt)))) (vr (.bool (true)) rfl) (oZ (tN (f1 _ _ (At (vr (.bool (true)) rfl) (Ak ?_))))))))))))))))))))))
   refine tN (f0 _ _ (sk fun jz f2=>(AA (sk fun j0 f3=>(wt (oS rfl (Yk.alloc (cs:=(updC (⟨0,[],zid,zid⟩:AJ)).toArray) JW fun ai f4 cn dy bg j1=> ?_)))))))
   have co:=hE.size
   have j2:=Bo (bl f) cn
   have j3:=Bo (bl y) cn
   have j4:=Bo (bl hm1) cn
   have cp:OB vb1 ai:=Bc ad.2 (by omega)
   have hE:=hE.trans bg
   have f:=eb bg f
   have y:=eb bg y
   have hm1:=eb bg hm1
   have ad:=ad.keep bg
   have af:=dy;clear dy
   have j5:ai<f4.heap.size:=by omega
   refine oZ (tN (f3 _ _ (sk fun j6 f5=>(wt (oM rfl (oS rfl (Yk.callA1 GI s ((GG _ o v b (i1) true y (hr.keep hE) hapr hi1 hl).mono ?_))))))))
   rintro e j7 ⟨c150,i150,k150,hq150,rfl,hbr150,f6,bh⟩
   refine⟨_,rfl,?_⟩
   have hE:=Ae hE bh (Nat.le_trans ae (by omega))
   have f:=kb bh f (by omega)
   clear y
   have hm1:=kb bh hm1 (by omega)
   have ad:=OG.kept ad bh hap_n11
   have af:=kb bh af (by omega)
   have y:=hbr150;clear hbr150
   have j8:=bl y
   refine oS rfl (Yk.fieldAt Cd (vr (PQ ai 0) rfl) (oS rfl (Yk.storeC (i:=0) (v:=B8 (c150)) (vr (PQ ai 0) rfl) (vr (B8 (c150)) rfl) af (by rw[BH];decide) OC rfl rfl fun f7 dz bi j9=> ?_)))
   have hE:=Ae hE bi (Nat.le_trans co (by omega))
   have f:=kb bi f (by omega)
   have hm1:=kb bi hm1 (by omega)
   have ad:=OG.kept ad bi cp
   clear af
   have y:=kb bi y (by omega)
   have af:f7.heap[ai]? =some (.cells (updC (⟨c150,((⟨0,[],zid,zid⟩:AJ)).name,((⟨0,[],zid,zid⟩:AJ)).old,((⟨0,[],zid,zid⟩:AJ)).new⟩:AJ)).toArray 67 (0,0)):=Az dz (Oz (⟨0,[],zid,zid⟩:AJ) c150);clear dz
   have ka:=bl af
   refine oZ (tN (f5 _ _ (sk fun kc f8=>(wt (oM rfl (oS rfl (Yk.callA2 GJ s (vr (NI 32) rfl) ((GH _ o v b (i150) k150 y (hr.keep hE) hapr f6 hl 32).mono ?_))))))))
   rintro e kd ⟨c159,i159,k159,hq159,rfl,hbr159,f9,bj⟩
   refine⟨_,rfl,?_⟩
   have hE:=Ae hE bj (Nat.le_trans ae (by omega))
   have f:=kb bj f (by omega)
   have hm1:=kb bj hm1 (by omega)
   have ad:=OG.kept ad bj hap_n11
   clear y
   have af:=kb bj af (by omega)
   have y:=hbr159;clear hbr159
   have ke:=bl y
   refine oS rfl (Yk.fieldAt DS (vr (PQ ai 0) rfl) (oS rfl (Yk.storeC (i:=1) (v:=St (c159)) (vr (PQ ai 1) rfl) (vr (St (c159)) rfl) af (by rw[BH];decide) NA rfl rfl fun ga d0 bk kf=> ?_)))
   have hE:=Ae hE bk (Nat.le_trans co (by omega))
   have f:=kb bk f (by omega)
   have hm1:=kb bk hm1 (by omega)
   have ad:=OG.kept ad bk cp
   clear af
   have y:=kb bk y (by omega)
   have af:ga.heap[ai]? =some (.cells (updC (⟨c150,c159,((⟨0,[],zid,zid⟩:AJ)).old,((⟨0,[],zid,zid⟩:AJ)).new⟩:AJ)).toArray 67 (0,0)):=Az d0 (Mb (⟨c150,((⟨0,[],zid,zid⟩:AJ)).name,((⟨0,[],zid,zid⟩:AJ)).old,((⟨0,[],zid,zid⟩:AJ)).new⟩:AJ) c159);clear d0
   have kg:=bl af
   refine oZ (tN (f8 _ _ (sk fun kh gb=>(wt (oM rfl (oS rfl (Yk.callA1 Nc s ((EU _ o v b (i159) k159 y (hr.keep hE) hapr f9 hl).mono ?_))))))))
   rintro e ki ⟨c168,i168,k168,hq168,rfl,hbr168,gc,bm⟩
   refine⟨_,rfl,?_⟩
   have hE:=Ae hE bm (Nat.le_trans ae (by omega))
   have f:=kb bm f (by omega)
   have hm1:=kb bm hm1 (by omega)
   have ad:=OG.kept ad bm hap_n11
   clear y
   have af:=kb bm af (by omega)
   have y:=hbr168;clear hbr168
   have kj:=bl y
   refine oS rfl (Yk.fieldAt HV (vr (PQ ai 0) rfl) (oS rfl (Yk.storeMid (a:=E1 (⟨c150,c159,((⟨0,[],zid,zid⟩:AJ)).old,((⟨0,[],zid,zid⟩:AJ)).new⟩:AJ)) (m:=Lib.byteCells (((⟨0,[],zid,zid⟩:AJ)).new).1) (z:=Gn (⟨c150,c159,((⟨0,[],zid,zid⟩:AJ)).old,((⟨0,[],zid,zid⟩:AJ)).new⟩:AJ)) (cells:=Lib.byteCells c168.1) (vr (PQ ai 34) rfl) (vr (AB c168.1) rfl) (Ec (⟨c150,c159,((⟨0,[],zid,zid⟩:AJ)).old,((⟨0,[],zid,zid⟩:AJ)).new⟩:AJ)▸af) (Ez (⟨c150,c159,((⟨0,[],zid,zid⟩:AJ)).old,((⟨0,[],zid,zid⟩:AJ)).new⟩:AJ)) (by rw[Lib.byteCells_length,Lib.byteCells_length,(((⟨0,[],zid,zid⟩:AJ)).new).2,c168.2]) (by rw[Lib.byteCells_length,c168.2];exact Mh) (Av _) fun gd d1 bn kk=> ?_)))
   have hE:=Ae hE bn (Nat.le_trans co (by omega))
   have f:=kb bn f (by omega)
   have hm1:=kb bn hm1 (by omega)
   have ad:=OG.kept ad bn cp
   clear af
   have y:=kb bn y (by omega)
   have af:gd.heap[ai]? =some (.cells (updC (⟨c150,c159,((⟨0,[],zid,zid⟩:AJ)).old,c168⟩:AJ)).toArray 67 (0,0)):=Az d1 (Md (⟨c150,c159,((⟨0,[],zid,zid⟩:AJ)).old,((⟨0,[],zid,zid⟩:AJ)).new⟩:AJ) c168);clear d1
   have kl:=bl af
   refine oZ (tN (gb _ _ (wt (oS rfl (Yk.fieldAt H0 t (oS rfl (Yk.cell1 CJ rfl (vr (PQ p 2) rfl) (Ab hm1 (show(msgC ((⟨c40,((c49:Nat):Int),ls,[],[],0,0,zid,[],[],zid,zid,false,0⟩,⟨vb1,(Value.slice none 0 0),(Value.slice none 0 0),(Value.slice none 0 0)⟩):Ah))[2]? =some (vb1:Value)from BF ((⟨c40,((c49:Nat):Int),ls,[],[],0,0,zid,[],[],zid,zid,false,0⟩,⟨vb1,(Value.slice none 0 0),(Value.slice none 0 0),(Value.slice none 0 0)⟩):Ah))) (oS rfl (Yk.loadAll (vr (PQ ai 0) rfl) af (JV).choose_spec rfl (Au (BH (⟨c150,c159,((⟨0,[],zid,zid⟩:AJ)).old,c168⟩:AJ)) Fl) (oS rfl (Yk.lit1G (a:=(⟨c150,c159,((⟨0,[],zid,zid⟩:AJ)).old,c168⟩:AJ)) (enc:=updC) (vr (.agg (updC (⟨c150,c159,((⟨0,[],zid,zid⟩:AJ)).old,c168⟩:AJ)).toArray) rfl) (BH _) Nf fun ge gf d2 bo=> ?_)))))))))))
   have hE:=hE.trans bo
   have f:=eb bo f
   have hm1:=eb bo hm1
   have ad:=ad.keep bo
   have y:=eb bo y
   refine oS rfl (Yk.appendRG _ _ w.heap.size _ 88 CJ wr9_ig67.choose_spec.1 wr9_ig67.choose_spec.2 CJ (ls) ([(⟨c150,c159,((⟨0,[],zid,zid⟩:AJ)).old,c168⟩:AJ)]) (OG.of ad (vr vb1 rfl)) (RG.of d2 (vr ge rfl)) (fun _ _=>Em) (by simp only[List.length_cons,List.length_nil];omega) (by simp only[List.length_cons,List.length_nil];omega) hE.size fun ar gg bp au=> ?_)
   have au:Grew gf gg vb1 ar:=au
   have gh:OB ar n2:=AP au hap_n2 (bl f)
   have d3:OB ar p:=AP au hap_n24 (bl hm1)
   have gi:OB ar o:=AP au hap_n11 (bl y)
   have hE:=AF hE au ad.2 (Nat.le_refl _)
   have f:=AG f au hap_n2
   have hm1:=AG hm1 au hap_n24
   clear ad
   have y:=AG y au hap_n11
   clear d2
   refine oS rfl (Yk.fieldAt H0 t (oS rfl (Yk.storeC (i:=2) (v:=ar) (vr (PQ p 2) rfl) (vr ar rfl) hm1 (by rw[msg_len];decide) ML (RG.one (RG.ofOwn bp)).1 (RG.one (RG.ofOwn bp)).2 fun gj d4 b7 km=> ?_)))
   have hE:=Ae hE b7 (Nat.le_trans ag (by omega))
   have f:=kb b7 f (by omega)
   clear hm1
   have y:=kb b7 y (by omega)
   have bp:=OG.kept bp b7 d3
   have hm1:gj.heap[p]? =some (.cells (msgC ((⟨c40,((c49:Nat):Int),(ls)++ [(⟨c150,c159,((⟨0,[],zid,zid⟩:AJ)).old,c168⟩:AJ)],[],[],0,0,zid,[],[],zid,zid,false,0⟩,⟨ar,(Value.slice none 0 0),(Value.slice none 0 0),(Value.slice none 0 0)⟩):Ah)).toArray 29 (0,0)):=Az d4 (HI ((⟨c40,((c49:Nat):Int),ls,[],[],0,0,zid,[],[],zid,zid,false,0⟩,⟨vb1,(Value.slice none 0 0),(Value.slice none 0 0),(Value.slice none 0 0)⟩):Ah) ar ((ls)++ [(⟨c150,c159,((⟨0,[],zid,zid⟩:AJ)).old,c168⟩:AJ)]));clear d4
   have kn:=bl hm1
   refine oZ (bN (tN (f2 _ _ (wt (oM rfl (oS rfl (Yk.bin (xv:=NI j) (yv:=NI 1) T7 rfl rfl (Be _ _ _ (by omega)) (oA rfl (Bp [(0,v),(2,PQ n2 0),(3,NI 0),(4,PQ o 0),(5,PQ p 0),(6,NI c108),(7,NI ((j)+(1))),(8,PQ ai 0),(19,B8 (c40)),(43, .bool (true))] ⟨q,u,T3,s,t,T6,rfl,rfl,ah,rfl,trivial⟩ fun gk ⟨q,u,T3,s,t,T6,T7,T8,ah,kp,_⟩=>(tN (And.intro ⟨j+1,(ls)++ [(⟨c150,c159,((⟨0,[],zid,zid⟩:AJ)).old,c168⟩:AJ)],i168,k168,ar,q,u,T3,s,t,T6,ah,T7,hE,f,y,hm1,L1 bp (by rfl),(Hs hit).trans (by unfold addUpdR;simp only[hq150,hq159,hq168]),gc,by rw[List.length_append,hls];rfl, .inr fz,by omega,gh,d3,gi,trivial⟩ ?_)))))))))))
   show c108-(intOf (gk 7)).toNat<c108-(intOf (fw 7)).toNat
   rw[T7,q7]
   simp only[intOf,Int.toNat_natCast];omega
  have hM:manyR (addUpdR b) b 128 (i49,k49)=(ls,(i1,k1)):=F6 hq108 (by rw[←hit];congr 1;omega)
  refine sk fun kq kr=>(sk fun ks gl=>(wt (oM rfl (oM rfl (oS rfl (Yk.eqI (a:=(j:Nat)) (b:=(c108:Nat)) T7 T6 (A0 _ _ _ _) (oM rfl (oN (d:=38) rfl rfl rfl (vr (.bool (false)) (congrArg Value.bool (decide_eq_false (hlt)))) rfl (oN (d:=38) rfl rfl rfl (vr (.bool (false)) (congrArg Value.bool (decide_eq_false (hlt)))) rfl (oN (d:=38) rfl rfl rfl (vr (.bool (false)) (congrArg Value.bool (decide_eq_false (hlt)))) rfl (oN (d:=38) rfl rfl rfl (vr (.bool (false)) (congrArg Value.bool (decide_eq_false (hlt)))) rfl (oS rfl (Yk.pickF (vr (.bool (false)) (congrArg Value.bool (decide_eq_false (hlt)))) (vr (.bool (false)) rfl) (oZ (tN (gl _ _ (Am (vr (.bool (false)) rfl) (Bm (Ax (Ax (AS ?_)))))))))))))))))))))
  refine bN ?_
  exact tN (hJK57 _ _ ⟨((⟨c40,((c49:Nat):Int),ls,[],[],0,0,zid,[],[],zid,zid,false,0⟩,⟨vb1,(Value.slice none 0 0),(Value.slice none 0 0),(Value.slice none 0 0)⟩):Ah),i1,k1,q,u,T3,s,t,hE,f,y,hm1,⟨RG.ofOwn ad,RG.nil _ _ _,RG.nil _ _ _,RB.nil _⟩,by simp only[CH,CO,hq40,hq49,if_pos ak,hM],⟨(hap_n2),(fun h=>by cases h),(fun h=>by cases h),(fun h=>by cases h)⟩,trivial⟩)
 refine sk fun kt gm=>(wt (oS rfl (Yk.eqI (a:=((c40).toNat:Nat)) (b:=(3:Nat)) rfl rfl (k_eql _ _ _ _) (oA rfl (oZ (tN (gm _ _ ?_)))))))
 refine AX (((c40).toNat:Nat)=(3)) (vr (.bool (decide (((c40).toNat:Nat)=(3)))) rfl) (fun aw=> ?_) (fun aw=> ?_)
 ·refine sk fun ku gn=>(wt (oM rfl ?_))
  have kv:=hE.size
  have kw:=ac.size
  refine oS rfl (Yk.callA1 Jg (vr (PQ o 0) rfl) ((Kv _ o v b (i49) k49 g (hr.keep hE) hapr ax hl).mono ?_))
  rintro e kx ⟨am,l198,i198,k198,hq198,rfl,aj,hbr198,go,b8⟩
  refine⟨_,rfl,?_⟩
  have gp:OB am n2:=AY aj.2 (bl f)
  have gq:OB am o:=AY aj.2 (bl g)
  have d5:OB am p:=AY aj.2 (bl n)
  have hE:=Ae hE b8 (Nat.le_trans ae (by omega))
  have f:=kb b8 f (by omega)
  have ac:=Ae ac b8 (Nat.le_trans (Nat.le_refl _) (by omega))
  clear g
  have n:=kb b8 n (by omega)
  have g:=hbr198;clear hbr198
  have ky:=bl g
  refine oS rfl (Yk.fieldAt H1 (vr (PQ p 0) rfl) (oS rfl (Yk.storeC (i:=3) (v:=am) (vr (PQ p 3) rfl) (vr am rfl) n (by rw[msg_len];decide) I0 (RG.one (RG.ofOwn aj)).1 (RG.one (RG.ofOwn aj)).2 fun gr d6 bq kz=> ?_)))
  have hE:=Ae hE bq (Nat.le_trans ag (by omega))
  have f:=kb bq f (by omega)
  have ac:=Ae ac bq (Nat.le_trans ce (by omega))
  clear n
  have g:=kb bq g (by omega)
  have aj:=OG.kept aj bq d5
  have n:gr.heap[p]? =some (.cells (msgC ((⟨c40,((c49:Nat):Int),[],l198,[],0,0,zid,[],[],zid,zid,false,0⟩,⟨(Value.slice none 0 0),am,(Value.slice none 0 0),(Value.slice none 0 0)⟩):Ah)).toArray 29 (0,0)):=Az d6 (HJ ((⟨c40,((c49:Nat):Int),[],[],[],0,0,zid,[],[],zid,zid,false,0⟩,⟨(Value.slice none 0 0),(Value.slice none 0 0),(Value.slice none 0 0),(Value.slice none 0 0)⟩):Ah) am (l198));clear d6
  have k0:=bl n
  refine oZ (tN (gn _ _ (wt (oM rfl ?_))))
  have k2:=hE.size
  have k3:=ac.size
  refine oS rfl (Yk.callA1 Jg (vr (PQ o 0) rfl) ((Kv _ o v b (i198) k198 g (hr.keep hE) hapr go hl).mono ?_))
  rintro e k4 ⟨a8,l214,i214,k214,hq214,rfl,a9,hbr214,k5,b9⟩
  refine⟨_,rfl,?_⟩
  have gs:OB a8 n2:=AY a9.2 (bl f)
  have gt:OB a8 p:=AY a9.2 (bl n)
  have hE:=Ae hE b9 (Nat.le_trans ae (by omega))
  have f:=kb b9 f (by omega)
  clear g
  have aj:=OG.kept aj b9 gq
  have n:=kb b9 n (by omega)
  have g:=hbr214;clear hbr214
  have k6:=bl g
  refine oS rfl (Yk.fieldAt H2 (vr (PQ p 0) rfl) (oS rfl (Yk.storeC (i:=4) (v:=a8) (vr (PQ p 4) rfl) (vr a8 rfl) n (by rw[msg_len];decide) I0 (RG.one (RG.ofOwn a9)).1 (RG.one (RG.ofOwn a9)).2 fun gu d7 br k7=> ?_)))
  have hE:=Ae hE br (Nat.le_trans ag (by omega))
  have f:=kb br f (by omega)
  have aj:=OG.kept aj br d5
  clear n
  have g:=kb br g (by omega)
  have a9:=OG.kept a9 br gt
  have n:gu.heap[p]? =some (.cells (msgC ((⟨c40,((c49:Nat):Int),[],l198,l214,0,0,zid,[],[],zid,zid,false,0⟩,⟨(Value.slice none 0 0),am,a8,(Value.slice none 0 0)⟩):Ah)).toArray 29 (0,0)):=Az d7 (HK ((⟨c40,((c49:Nat):Int),[],l198,[],0,0,zid,[],[],zid,zid,false,0⟩,⟨(Value.slice none 0 0),am,(Value.slice none 0 0),(Value.slice none 0 0)⟩):Ah) a8 (l214));clear d7
  have k8:=bl n
  refine Bp [(0,v),(2,PQ n2 0),(3,NI 0),(4,PQ o 0),(5,PQ p 0),(19,B8 (c40))] ⟨q,rfl,rfl,rfl,rfl,rfl,trivial⟩ fun k9 ⟨q,u,T3,s,t,ah,_⟩=>(bN ?_)
  exact tN (hJK57 _ _ ⟨((⟨c40,((c49:Nat):Int),[],l198,l214,0,0,zid,[],[],zid,zid,false,0⟩,⟨(Value.slice none 0 0),am,a8,(Value.slice none 0 0)⟩):Ah),i214,k214,q,u,T3,s,t,hE,f,g,n,⟨RG.nil _ _ _,RG.ofOwn aj,RG.ofOwn a9,RB.nil _⟩,by simp only[CH,CO,hq40,hq49,if_neg ak,if_pos aw,hq198,hq214],⟨(fun h=>by cases h),(gp),(gs),(fun h=>by cases h)⟩,trivial⟩)
 refine sk fun la gv=>(wt (oS rfl (Yk.eqI (a:=((c40).toNat:Nat)) (b:=(4:Nat)) rfl rfl (k_eql _ _ _ _) (oA rfl (oZ (tN (gv _ _ ?_)))))))
 refine AX (((c40).toNat:Nat)=(4)) (vr (.bool (decide (((c40).toNat:Nat)=(4)))) rfl) (fun ba=> ?_) (fun ba=> ?_)
 ·refine sk fun lb gw=>(wt (oM rfl (oS rfl (Yk.callA1 Nb (vr (PQ o 0) rfl) ((DL _ o v b (i49) k49 g (hr.keep hE) hapr ax hl).mono ?_)))))
  rintro e lc ⟨c235,i235,k235,hq235,rfl,hbr235,gx,cq⟩
  refine⟨_,rfl,?_⟩
  have hE:=Ae hE cq (Nat.le_trans ae (by omega))
  have f:=kb cq f (by omega)
  clear g
  have n:=kb cq n (by omega)
  have g:=hbr235;clear hbr235
  have ld:=bl g
  refine oS rfl (Yk.fieldAt H3 (vr (PQ p 0) rfl) (oS rfl (Yk.storeC (i:=5) (v:=NI c235) (vr (PQ p 5) rfl) (vr (NI c235) rfl) n (by rw[msg_len];decide) Dm rfl rfl fun gy d8 cr le=> ?_)))
  have hE:=Ae hE cr (Nat.le_trans ag (by omega))
  have f:=kb cr f (by omega)
  clear n
  have g:=kb cr g (by omega)
  have n:gy.heap[p]? =some (.cells (msgC ((⟨c40,((c49:Nat):Int),[],[],[],((c235:Nat):Int),0,zid,[],[],zid,zid,false,0⟩,⟨(Value.slice none 0 0),(Value.slice none 0 0),(Value.slice none 0 0),(Value.slice none 0 0)⟩):Ah)).toArray 29 (0,0)):=Az d8 (FD ((⟨c40,((c49:Nat):Int),[],[],[],0,0,zid,[],[],zid,zid,false,0⟩,⟨(Value.slice none 0 0),(Value.slice none 0 0),(Value.slice none 0 0),(Value.slice none 0 0)⟩):Ah) ((c235:Nat):Int));clear d8
  have lf:=bl n
  refine oZ (tN (gw _ _ (wt (oM rfl (oS rfl (Yk.callA1 Nc (vr (PQ o 0) rfl) ((EU _ o v b (i235) k235 g (hr.keep hE) hapr gx hl).mono ?_)))))))
  rintro e lg ⟨c243,i243,k243,hq243,rfl,hbr243,lh,ct⟩
  refine⟨_,rfl,?_⟩
  have hE:=Ae hE ct (Nat.le_trans ae (by omega))
  have f:=kb ct f (by omega)
  clear g
  have n:=kb ct n (by omega)
  have g:=hbr243;clear hbr243
  have li:=bl g
  refine oS rfl (Yk.fieldAt LI (vr (PQ p 0) rfl) (oS rfl (Yk.storeMid (a:=DG ((⟨c40,((c49:Nat):Int),[],[],[],((c235:Nat):Int),0,zid,[],[],zid,zid,false,0⟩,⟨(Value.slice none 0 0),(Value.slice none 0 0),(Value.slice none 0 0),(Value.slice none 0 0)⟩):Ah)) (m:=Lib.byteCells zid.1) (z:=Ed ((⟨c40,((c49:Nat):Int),[],[],[],((c235:Nat):Int),0,zid,[],[],zid,zid,false,0⟩,⟨(Value.slice none 0 0),(Value.slice none 0 0),(Value.slice none 0 0),(Value.slice none 0 0)⟩):Ah)) (cells:=Lib.byteCells c243.1) (vr (PQ p 7) rfl) (vr (AB c243.1) rfl) (CM ((⟨c40,((c49:Nat):Int),[],[],[],((c235:Nat):Int),0,zid,[],[],zid,zid,false,0⟩,⟨(Value.slice none 0 0),(Value.slice none 0 0),(Value.slice none 0 0),(Value.slice none 0 0)⟩):Ah)▸n) (CV ((⟨c40,((c49:Nat):Int),[],[],[],((c235:Nat):Int),0,zid,[],[],zid,zid,false,0⟩,⟨(Value.slice none 0 0),(Value.slice none 0 0),(Value.slice none 0 0),(Value.slice none 0 0)⟩):Ah)) (by rw[Lib.byteCells_length,Lib.byteCells_length,zid.2,c243.2]) (by rw[Lib.byteCells_length,c243.2];exact Mh) (Av _) fun gz d9 cu lj=> ?_)))
  have hE:=Ae hE cu (Nat.le_trans ag (by omega))
  have f:=kb cu f (by omega)
  clear n
  have g:=kb cu g (by omega)
  have n:gz.heap[p]? =some (.cells (msgC ((⟨c40,((c49:Nat):Int),[],[],[],((c235:Nat):Int),0,c243,[],[],zid,zid,false,0⟩,⟨(Value.slice none 0 0),(Value.slice none 0 0),(Value.slice none 0 0),(Value.slice none 0 0)⟩):Ah)).toArray 29 (0,0)):=Az d9 (FF ((⟨c40,((c49:Nat):Int),[],[],[],((c235:Nat):Int),0,zid,[],[],zid,zid,false,0⟩,⟨(Value.slice none 0 0),(Value.slice none 0 0),(Value.slice none 0 0),(Value.slice none 0 0)⟩):Ah) c243);clear d9
  have lk:=bl n
  refine Bp [(0,v),(2,PQ n2 0),(3,NI 0),(4,PQ o 0),(5,PQ p 0),(19,B8 (c40))] ⟨q,rfl,rfl,rfl,rfl,rfl,trivial⟩ fun ll ⟨q,u,T3,s,t,ah,_⟩=>(bN ?_)
  exact tN (hJK57 _ _ ⟨((⟨c40,((c49:Nat):Int),[],[],[],((c235:Nat):Int),0,c243,[],[],zid,zid,false,0⟩,⟨(Value.slice none 0 0),(Value.slice none 0 0),(Value.slice none 0 0),(Value.slice none 0 0)⟩):Ah),i243,k243,q,u,T3,s,t,hE,f,g,n,⟨RG.nil _ _ _,RG.nil _ _ _,RG.nil _ _ _,RB.nil _⟩,by simp only[CH,CO,hq40,hq49,if_neg ak,if_neg aw,if_pos ba,hq235,hq243],⟨(fun h=>by cases h),(fun h=>by cases h),(fun h=>by cases h),(fun h=>by cases h)⟩,trivial⟩)
 refine sk fun lm g0=>(wt (oS rfl (Yk.eqI (a:=((c40).toNat:Nat)) (b:=(5:Nat)) rfl rfl (k_eql _ _ _ _) (oA rfl (oZ (tN (g0 _ _ ?_)))))))
 refine AX (((c40).toNat:Nat)=(5)) (vr (.bool (decide (((c40).toNat:Nat)=(5)))) rfl) (fun bc=> ?_) (fun bc=> ?_)
 ·refine wt (oM rfl (oS rfl (Yk.callA1 Nb (vr (PQ o 0) rfl) ((DL _ o v b (i49) k49 g (hr.keep hE) hapr ax hl).mono ?_))))
  rintro e ln ⟨c253,i253,k253,hq253,rfl,hbr253,lo,cv⟩
  refine⟨_,rfl,?_⟩
  have hE:=Ae hE cv (Nat.le_trans ae (by omega))
  have f:=kb cv f (by omega)
  clear g
  have n:=kb cv n (by omega)
  have g:=hbr253;clear hbr253
  have lp:=bl g
  refine oS rfl (Yk.fieldAt H4 (vr (PQ p 0) rfl) (oS rfl (Yk.storeC (i:=6) (v:=NI c253) (vr (PQ p 6) rfl) (vr (NI c253) rfl) n (by rw[msg_len];decide) Dm rfl rfl fun g1 ea cw lq=> ?_)))
  have hE:=Ae hE cw (Nat.le_trans ag (by omega))
  have f:=kb cw f (by omega)
  clear n
  have g:=kb cw g (by omega)
  have n:g1.heap[p]? =some (.cells (msgC ((⟨c40,((c49:Nat):Int),[],[],[],0,((c253:Nat):Int),zid,[],[],zid,zid,false,0⟩,⟨(Value.slice none 0 0),(Value.slice none 0 0),(Value.slice none 0 0),(Value.slice none 0 0)⟩):Ah)).toArray 29 (0,0)):=Az ea (FE ((⟨c40,((c49:Nat):Int),[],[],[],0,0,zid,[],[],zid,zid,false,0⟩,⟨(Value.slice none 0 0),(Value.slice none 0 0),(Value.slice none 0 0),(Value.slice none 0 0)⟩):Ah) ((c253:Nat):Int));clear ea
  have lr:=bl n
  refine Bp [(0,v),(2,PQ n2 0),(3,NI 0),(4,PQ o 0),(5,PQ p 0),(19,B8 (c40))] ⟨q,rfl,rfl,rfl,rfl,rfl,trivial⟩ fun lt ⟨q,u,T3,s,t,ah,_⟩=>(bN ?_)
  exact tN (hJK57 _ _ ⟨((⟨c40,((c49:Nat):Int),[],[],[],0,((c253:Nat):Int),zid,[],[],zid,zid,false,0⟩,⟨(Value.slice none 0 0),(Value.slice none 0 0),(Value.slice none 0 0),(Value.slice none 0 0)⟩):Ah),i253,k253,q,u,T3,s,t,hE,f,g,n,⟨RG.nil _ _ _,RG.nil _ _ _,RG.nil _ _ _,RB.nil _⟩,by simp only[CH,CO,hq40,hq49,if_neg ak,if_neg aw,if_neg ba,if_pos bc,hq253],⟨(fun h=>by cases h),(fun h=>by cases h),(fun h=>by cases h),(fun h=>by cases h)⟩,trivial⟩)
 refine sk fun lu g2=>(wt (oS rfl (Yk.eqI (a:=((c40).toNat:Nat)) (b:=(6:Nat)) rfl rfl (k_eql _ _ _ _) (oA rfl (oZ (tN (g2 _ _ ?_)))))))
 refine AX (((c40).toNat:Nat)=(6)) (vr (.bool (decide (((c40).toNat:Nat)=(6)))) rfl) (fun bs=> ?_) (fun bs=> ?_)
 ·refine sk fun lv g3=>(wt (oM rfl (oS rfl (Yk.callA1 Nb (vr (PQ o 0) rfl) ((DL _ o v b (i49) k49 g (hr.keep hE) hapr ax hl).mono ?_)))))
  rintro e lw ⟨c264,i264,k264,hq264,rfl,hbr264,g4,cx⟩
  refine⟨_,rfl,?_⟩
  have hE:=Ae hE cx (Nat.le_trans ae (by omega))
  have f:=kb cx f (by omega)
  clear g
  have n:=kb cx n (by omega)
  have g:=hbr264;clear hbr264
  have lx:=bl g
  refine oS rfl (Yk.fieldAt H4 (vr (PQ p 0) rfl) (oS rfl (Yk.storeC (i:=6) (v:=NI c264) (vr (PQ p 6) rfl) (vr (NI c264) rfl) n (by rw[msg_len];decide) Dm rfl rfl fun g5 ec cy ly=> ?_)))
  have hE:=Ae hE cy (Nat.le_trans ag (by omega))
  have f:=kb cy f (by omega)
  clear n
  have g:=kb cy g (by omega)
  have n:g5.heap[p]? =some (.cells (msgC ((⟨c40,((c49:Nat):Int),[],[],[],0,((c264:Nat):Int),zid,[],[],zid,zid,false,0⟩,⟨(Value.slice none 0 0),(Value.slice none 0 0),(Value.slice none 0 0),(Value.slice none 0 0)⟩):Ah)).toArray 29 (0,0)):=Az ec (FE ((⟨c40,((c49:Nat):Int),[],[],[],0,0,zid,[],[],zid,zid,false,0⟩,⟨(Value.slice none 0 0),(Value.slice none 0 0),(Value.slice none 0 0),(Value.slice none 0 0)⟩):Ah) ((c264:Nat):Int));clear ec
  have lz:=bl n
  refine oZ (tN (g3 _ _ (wt (oM rfl (oS rfl (Yk.callA2 GJ (vr (PQ o 0) rfl) (vr (NI 256) rfl) ((GH _ o v b (i264) k264 g (hr.keep hE) hapr g4 hl 256).mono ?_)))))))
  rintro e l0 ⟨c272,i272,k272,hq272,rfl,hbr272,l1,cz⟩
  refine⟨_,rfl,?_⟩
  have hE:=Ae hE cz (Nat.le_trans ae (by omega))
  have f:=kb cz f (by omega)
  clear g
  have n:=kb cz n (by omega)
  have g:=hbr272;clear hbr272
  have l2:=bl g
  have l3:=txtR_len hq272
  refine oS rfl (Yk.convStr CD El u5 (vr (St (c272)) rfl) (by omega) fun bb l4 bt ca hq279=> ?_)
  have g6:OB bb n2:=fun e=>by have:=(hq279 _ e).1;have:=(bl f);omega
  have g7:OB bb p:=fun e=>by have:=(hq279 _ e).1;have:=(bl n);omega
  have hE:=hE.trans ca
  have f:=eb ca f
  have n:=eb ca n
  have g:=eb ca g
  refine oS rfl (Yk.fieldAt FT (vr (PQ p 0) rfl) (oS rfl (Yk.storeC (i:=39) (v:=bb) (vr (PQ p 39) rfl) (vr bb rfl) n (by rw[msg_len];decide) IX (RB.one bt).1 (RB.one bt).2 fun g8 ed cb l5=> ?_)))
  have hE:=Ae hE cb (Nat.le_trans ag (by omega))
  have f:=kb cb f (by omega)
  clear n
  have g:=kb cb g (by omega)
  have bt:=RB.kept bt cb (.inr g7)
  have n:g8.heap[p]? =some (.cells (msgC ((⟨c40,((c49:Nat):Int),[],[],[],0,((c264:Nat):Int),zid,c272,[],zid,zid,false,0⟩,⟨(Value.slice none 0 0),(Value.slice none 0 0),(Value.slice none 0 0),bb⟩):Ah)).toArray 29 (0,0)):=Az ed (HM ((⟨c40,((c49:Nat):Int),[],[],[],0,((c264:Nat):Int),zid,[],[],zid,zid,false,0⟩,⟨(Value.slice none 0 0),(Value.slice none 0 0),(Value.slice none 0 0),(Value.slice none 0 0)⟩):Ah) bb (c272));clear ed
  have l6:=bl n
  refine Bp [(0,v),(2,PQ n2 0),(3,NI 0),(4,PQ o 0),(5,PQ p 0),(19,B8 (c40))] ⟨q,rfl,rfl,rfl,rfl,rfl,trivial⟩ fun l7 ⟨q,u,T3,s,t,ah,_⟩=>(bN ?_)
  exact tN (hJK57 _ _ ⟨((⟨c40,((c49:Nat):Int),[],[],[],0,((c264:Nat):Int),zid,c272,[],zid,zid,false,0⟩,⟨(Value.slice none 0 0),(Value.slice none 0 0),(Value.slice none 0 0),bb⟩):Ah),i272,k272,q,u,T3,s,t,hE,f,g,n,⟨RG.nil _ _ _,RG.nil _ _ _,RG.nil _ _ _,bt⟩,by simp only[CH,CO,hq40,hq49,if_neg ak,if_neg aw,if_neg ba,if_neg bc,if_pos bs,hq264,hq272],⟨(fun h=>by cases h),(fun h=>by cases h),(fun h=>by cases h),(g6)⟩,trivial⟩)
 refine sk fun l8 g9=>(wt (oS rfl (Yk.eqI (a:=((c40).toNat:Nat)) (b:=(7:Nat)) rfl rfl (k_eql _ _ _ _) (oA rfl (oZ (tN (g9 _ _ ?_)))))))
 refine AX (((c40).toNat:Nat)=(7)) (vr (.bool (decide (((c40).toNat:Nat)=(7)))) rfl) (fun cc=> ?_) (fun cc=> ?_)
 ·refine sk fun l9 ha=>(wt (oM rfl (oS rfl (Yk.callA1 Nb (vr (PQ o 0) rfl) ((DL _ o v b (i49) k49 g (hr.keep hE) hapr ax hl).mono ?_)))))
  rintro e ma ⟨c292,i292,k292,hq292,rfl,hbr292,hc,c0⟩
  refine⟨_,rfl,?_⟩
  have hE:=Ae hE c0 (Nat.le_trans ae (by omega))
  have f:=kb c0 f (by omega)
  clear g
  have n:=kb c0 n (by omega)
  have g:=hbr292;clear hbr292
  have mb:=bl g
  refine oS rfl (Yk.fieldAt H3 (vr (PQ p 0) rfl) (oS rfl (Yk.storeC (i:=5) (v:=NI c292) (vr (PQ p 5) rfl) (vr (NI c292) rfl) n (by rw[msg_len];decide) Dm rfl rfl fun hd ee c1 mc=> ?_)))
  have hE:=Ae hE c1 (Nat.le_trans ag (by omega))
  have f:=kb c1 f (by omega)
  clear n
  have g:=kb c1 g (by omega)
  have n:hd.heap[p]? =some (.cells (msgC ((⟨c40,((c49:Nat):Int),[],[],[],((c292:Nat):Int),0,zid,[],[],zid,zid,false,0⟩,⟨(Value.slice none 0 0),(Value.slice none 0 0),(Value.slice none 0 0),(Value.slice none 0 0)⟩):Ah)).toArray 29 (0,0)):=Az ee (FD ((⟨c40,((c49:Nat):Int),[],[],[],0,0,zid,[],[],zid,zid,false,0⟩,⟨(Value.slice none 0 0),(Value.slice none 0 0),(Value.slice none 0 0),(Value.slice none 0 0)⟩):Ah) ((c292:Nat):Int));clear ee
  have md:=bl n
  refine oZ (tN (ha _ _ (sk fun me hg=>(wt (oM rfl (oS rfl (Yk.callA1 Nc (vr (PQ o 0) rfl) ((EU _ o v b (i292) k292 g (hr.keep hE) hapr hc hl).mono ?_))))))))
  rintro e mf ⟨c301,i301,k301,hq301,rfl,hbr301,hh,c2⟩
  refine⟨_,rfl,?_⟩
  have hE:=Ae hE c2 (Nat.le_trans ae (by omega))
  have f:=kb c2 f (by omega)
  clear g
  have n:=kb c2 n (by omega)
  have g:=hbr301;clear hbr301
  have mg:=bl g
  refine oS rfl (Yk.fieldAt LI (vr (PQ p 0) rfl) (oS rfl (Yk.storeMid (a:=DG ((⟨c40,((c49:Nat):Int),[],[],[],((c292:Nat):Int),0,zid,[],[],zid,zid,false,0⟩,⟨(Value.slice none 0 0),(Value.slice none 0 0),(Value.slice none 0 0),(Value.slice none 0 0)⟩):Ah)) (m:=Lib.byteCells zid.1) (z:=Ed ((⟨c40,((c49:Nat):Int),[],[],[],((c292:Nat):Int),0,zid,[],[],zid,zid,false,0⟩,⟨(Value.slice none 0 0),(Value.slice none 0 0),(Value.slice none 0 0),(Value.slice none 0 0)⟩):Ah)) (cells:=Lib.byteCells c301.1) (vr (PQ p 7) rfl) (vr (AB c301.1) rfl) (CM ((⟨c40,((c49:Nat):Int),[],[],[],((c292:Nat):Int),0,zid,[],[],zid,zid,false,0⟩,⟨(Value.slice none 0 0),(Value.slice none 0 0),(Value.slice none 0 0),(Value.slice none 0 0)⟩):Ah)▸n) (CV ((⟨c40,((c49:Nat):Int),[],[],[],((c292:Nat):Int),0,zid,[],[],zid,zid,false,0⟩,⟨(Value.slice none 0 0),(Value.slice none 0 0),(Value.slice none 0 0),(Value.slice none 0 0)⟩):Ah)) (by rw[Lib.byteCells_length,Lib.byteCells_length,zid.2,c301.2]) (by rw[Lib.byteCells_length,c301.2];exact Mh) (Av _) fun hi ef c3 mh=> ?_)))
  have hE:=Ae hE c3 (Nat.le_trans ag (by omega))
  have f:=kb c3 f (by omega)
  clear n
  have g:=kb c3 g (by omega)
  have n:hi.heap[p]? =some (.cells (msgC ((⟨c40,((c49:Nat):Int),[],[],[],((c292:Nat):Int),0,c301,[],[],zid,zid,false,0⟩,⟨(Value.slice none 0 0),(Value.slice none 0 0),(Value.slice none 0 0),(Value.slice none 0 0)⟩):Ah)).toArray 29 (0,0)):=Az ef (FF ((⟨c40,((c49:Nat):Int),[],[],[],((c292:Nat):Int),0,zid,[],[],zid,zid,false,0⟩,⟨(Value.slice none 0 0),(Value.slice none 0 0),(Value.slice none 0 0),(Value.slice none 0 0)⟩):Ah) c301);clear ef
  have mi:=bl n
  refine oZ (tN (hg _ _ (sk fun mj hj=>(wt (oM rfl (oS rfl (Yk.callA2 GJ (vr (PQ o 0) rfl) (vr (NI 32) rfl) ((GH _ o v b (i301) k301 g (hr.keep hE) hapr hh hl 32).mono ?_))))))))
  rintro e mk ⟨c310,i310,k310,hq310,rfl,hbr310,hk,c4⟩
  refine⟨_,rfl,?_⟩
  have hE:=Ae hE c4 (Nat.le_trans ae (by omega))
  have f:=kb c4 f (by omega)
  clear g
  have n:=kb c4 n (by omega)
  have g:=hbr310;clear hbr310
  have ml:=bl g
  refine oS rfl (Yk.fieldAt H7 (vr (PQ p 0) rfl) (oS rfl (Yk.storeC (i:=40) (v:=St (c310)) (vr (PQ p 40) rfl) (vr (St (c310)) rfl) n (by rw[msg_len];decide) NA rfl rfl fun hm eg c5 mm=> ?_)))
  have hE:=Ae hE c5 (Nat.le_trans ag (by omega))
  have f:=kb c5 f (by omega)
  clear n
  have g:=kb c5 g (by omega)
  have n:hm.heap[p]? =some (.cells (msgC ((⟨c40,((c49:Nat):Int),[],[],[],((c292:Nat):Int),0,c301,[],c310,zid,zid,false,0⟩,⟨(Value.slice none 0 0),(Value.slice none 0 0),(Value.slice none 0 0),(Value.slice none 0 0)⟩):Ah)).toArray 29 (0,0)):=Az eg (JK ((⟨c40,((c49:Nat):Int),[],[],[],((c292:Nat):Int),0,c301,[],[],zid,zid,false,0⟩,⟨(Value.slice none 0 0),(Value.slice none 0 0),(Value.slice none 0 0),(Value.slice none 0 0)⟩):Ah) c310);clear eg
  have mn:=bl n
  refine oZ (tN (hj _ _ (sk fun mo hn=>(wt (oM rfl (oS rfl (Yk.callA1 Nc (vr (PQ o 0) rfl) ((EU _ o v b (i310) k310 g (hr.keep hE) hapr hk hl).mono ?_))))))))
  rintro e mp ⟨c319,i319,k319,hq319,rfl,hbr319,ho,c6⟩
  refine⟨_,rfl,?_⟩
  have hE:=Ae hE c6 (Nat.le_trans ae (by omega))
  have f:=kb c6 f (by omega)
  clear g
  have n:=kb c6 n (by omega)
  have g:=hbr319;clear hbr319
  have mq:=bl g
  refine oS rfl (Yk.fieldAt KF (vr (PQ p 0) rfl) (oS rfl (Yk.storeMid (a:=D6 ((⟨c40,((c49:Nat):Int),[],[],[],((c292:Nat):Int),0,c301,[],c310,zid,zid,false,0⟩,⟨(Value.slice none 0 0),(Value.slice none 0 0),(Value.slice none 0 0),(Value.slice none 0 0)⟩):Ah)) (m:=Lib.byteCells zid.1) (z:=ER ((⟨c40,((c49:Nat):Int),[],[],[],((c292:Nat):Int),0,c301,[],c310,zid,zid,false,0⟩,⟨(Value.slice none 0 0),(Value.slice none 0 0),(Value.slice none 0 0),(Value.slice none 0 0)⟩):Ah)) (cells:=Lib.byteCells c319.1) (vr (PQ p 41) rfl) (vr (AB c319.1) rfl) (Dz ((⟨c40,((c49:Nat):Int),[],[],[],((c292:Nat):Int),0,c301,[],c310,zid,zid,false,0⟩,⟨(Value.slice none 0 0),(Value.slice none 0 0),(Value.slice none 0 0),(Value.slice none 0 0)⟩):Ah)▸n) (DP ((⟨c40,((c49:Nat):Int),[],[],[],((c292:Nat):Int),0,c301,[],c310,zid,zid,false,0⟩,⟨(Value.slice none 0 0),(Value.slice none 0 0),(Value.slice none 0 0),(Value.slice none 0 0)⟩):Ah)) (by rw[Lib.byteCells_length,Lib.byteCells_length,zid.2,c319.2]) (by rw[Lib.byteCells_length,c319.2];exact Mh) (Av _) fun hp eh c7 mr=> ?_)))
  have hE:=Ae hE c7 (Nat.le_trans ag (by omega))
  have f:=kb c7 f (by omega)
  clear n
  have g:=kb c7 g (by omega)
  have n:hp.heap[p]? =some (.cells (msgC ((⟨c40,((c49:Nat):Int),[],[],[],((c292:Nat):Int),0,c301,[],c310,c319,zid,false,0⟩,⟨(Value.slice none 0 0),(Value.slice none 0 0),(Value.slice none 0 0),(Value.slice none 0 0)⟩):Ah)).toArray 29 (0,0)):=Az eh (Io ((⟨c40,((c49:Nat):Int),[],[],[],((c292:Nat):Int),0,c301,[],c310,zid,zid,false,0⟩,⟨(Value.slice none 0 0),(Value.slice none 0 0),(Value.slice none 0 0),(Value.slice none 0 0)⟩):Ah) c319);clear eh
  have ms:=bl n
  refine oZ (tN (hn _ _ (sk fun mt hq=>(wt (oM rfl (oS rfl (Yk.callA1 Nc (vr (PQ o 0) rfl) ((EU _ o v b (i319) k319 g (hr.keep hE) hapr ho hl).mono ?_))))))))
  rintro e mu ⟨c328,i328,k328,hq328,rfl,hbr328,hs,c8⟩
  refine⟨_,rfl,?_⟩
  have hE:=Ae hE c8 (Nat.le_trans ae (by omega))
  have f:=kb c8 f (by omega)
  clear g
  have n:=kb c8 n (by omega)
  have g:=hbr328;clear hbr328
  have mv:=bl g
  refine oS rfl (Yk.fieldAt G8 (vr (PQ p 0) rfl) (oS rfl (Yk.storeMid (a:=D7 ((⟨c40,((c49:Nat):Int),[],[],[],((c292:Nat):Int),0,c301,[],c310,c319,zid,false,0⟩,⟨(Value.slice none 0 0),(Value.slice none 0 0),(Value.slice none 0 0),(Value.slice none 0 0)⟩):Ah)) (m:=Lib.byteCells zid.1) (z:=ES ((⟨c40,((c49:Nat):Int),[],[],[],((c292:Nat):Int),0,c301,[],c310,c319,zid,false,0⟩,⟨(Value.slice none 0 0),(Value.slice none 0 0),(Value.slice none 0 0),(Value.slice none 0 0)⟩):Ah)) (cells:=Lib.byteCells c328.1) (vr (PQ p 73) rfl) (vr (AB c328.1) rfl) (C1 ((⟨c40,((c49:Nat):Int),[],[],[],((c292:Nat):Int),0,c301,[],c310,c319,zid,false,0⟩,⟨(Value.slice none 0 0),(Value.slice none 0 0),(Value.slice none 0 0),(Value.slice none 0 0)⟩):Ah)▸n) (Dd ((⟨c40,((c49:Nat):Int),[],[],[],((c292:Nat):Int),0,c301,[],c310,c319,zid,false,0⟩,⟨(Value.slice none 0 0),(Value.slice none 0 0),(Value.slice none 0 0),(Value.slice none 0 0)⟩):Ah)) (by rw[Lib.byteCells_length,Lib.byteCells_length,zid.2,c328.2]) (by rw[Lib.byteCells_length,c328.2];exact Mh) (Av _) fun ht ei c9 mw=> ?_)))
  have hE:=Ae hE c9 (Nat.le_trans ag (by omega))
  have f:=kb c9 f (by omega)
  clear n
  have g:=kb c9 g (by omega)
  have n:ht.heap[p]? =some (.cells (msgC ((⟨c40,((c49:Nat):Int),[],[],[],((c292:Nat):Int),0,c301,[],c310,c319,c328,false,0⟩,⟨(Value.slice none 0 0),(Value.slice none 0 0),(Value.slice none 0 0),(Value.slice none 0 0)⟩):Ah)).toArray 29 (0,0)):=Az ei (Ip ((⟨c40,((c49:Nat):Int),[],[],[],((c292:Nat):Int),0,c301,[],c310,c319,zid,false,0⟩,⟨(Value.slice none 0 0),(Value.slice none 0 0),(Value.slice none 0 0),(Value.slice none 0 0)⟩):Ah) c328);clear ei
  have mx:=bl n
  refine Bp [(0,v),(2,PQ n2 0),(3,NI 0),(4,PQ o 0),(5,PQ p 0),(19,B8 (c40))] ⟨q,rfl,rfl,rfl,rfl,rfl,trivial⟩ fun my ⟨q,u,T3,s,t,ah,_⟩=>(tN (hq _ _ (wt (oM rfl (oS rfl (Yk.callA1 GI s ((GG _ o v b (i328) k328 g (hr.keep hE) hapr hs hl).mono ?_)))))))
  rintro e mz ⟨c337,i337,k337,hq337,rfl,hbr337,m0,da⟩
  refine⟨_,rfl,?_⟩
  have hE:=Ae hE da (Nat.le_trans ae (by omega))
  have f:=kb da f (by omega)
  clear g
  have n:=kb da n (by omega)
  have g:=hbr337;clear hbr337
  have m1:=bl g
  refine oS rfl (Yk.eqI (a:=((c337).toNat:Nat)) (b:=(1:Nat)) rfl rfl (k_eql _ _ _ _) (oS rfl (Yk.fieldAt KG t (oS rfl (Yk.storeC (i:=105) (v:= .bool (decide (((c337).toNat:Nat)=(1)))) (vr (PQ p 105) rfl) (vr (.bool (decide (((c337).toNat:Nat)=(1)))) rfl) n (by rw[msg_len];decide) MO rfl rfl fun hu ej db m2=> ?_)))))
  have hE:=Ae hE db (Nat.le_trans ag (by omega))
  have f:=kb db f (by omega)
  clear n
  have g:=kb db g (by omega)
  have n:hu.heap[p]? =some (.cells (msgC ((⟨c40,((c49:Nat):Int),[],[],[],((c292:Nat):Int),0,c301,[],c310,c319,c328,(decide (((c337).toNat:Nat)=(1))),0⟩,⟨(Value.slice none 0 0),(Value.slice none 0 0),(Value.slice none 0 0),(Value.slice none 0 0)⟩):Ah)).toArray 29 (0,0)):=Az ej (Iq ((⟨c40,((c49:Nat):Int),[],[],[],((c292:Nat):Int),0,c301,[],c310,c319,c328,false,0⟩,⟨(Value.slice none 0 0),(Value.slice none 0 0),(Value.slice none 0 0),(Value.slice none 0 0)⟩):Ah) (decide (((c337).toNat:Nat)=(1))));clear ej
  have m3:=bl n
  refine Bp [(0,v),(2,PQ n2 0),(3,NI 0),(4,PQ o 0),(5,PQ p 0),(19,B8 (c40))] ⟨q,u,T3,s,t,ah,trivial⟩ fun m4 ⟨q,u,T3,s,t,ah,_⟩=>(bN ?_)
  exact tN (hJK57 _ _ ⟨((⟨c40,((c49:Nat):Int),[],[],[],((c292:Nat):Int),0,c301,[],c310,c319,c328,(decide (((c337).toNat:Nat)=(1))),0⟩,⟨(Value.slice none 0 0),(Value.slice none 0 0),(Value.slice none 0 0),(Value.slice none 0 0)⟩):Ah),i337,k337,q,u,T3,s,t,hE,f,g,n,⟨RG.nil _ _ _,RG.nil _ _ _,RG.nil _ _ _,RB.nil _⟩,by simp only[CH,CO,hq40,hq49,if_neg ak,if_neg aw,if_neg ba,if_neg bc,if_neg bs,if_pos cc,hq292,hq301,hq310,hq319,hq328,hq337],⟨(fun h=>by cases h),(fun h=>by cases h),(fun h=>by cases h),(fun h=>by cases h)⟩,trivial⟩)
 refine sk fun m5 hv=>(wt (oS rfl (Yk.eqI (a:=((c40).toNat:Nat)) (b:=(8:Nat)) rfl rfl (k_eql _ _ _ _) (oA rfl (oZ (tN (hv _ _ ?_)))))))
 refine AX (((c40).toNat:Nat)=(8)) (vr (.bool (decide (((c40).toNat:Nat)=(8)))) rfl) (fun dc=> ?_) (fun dc=> ?_)
 ·refine wt (oM rfl (oS rfl (Yk.callA1 Nb (vr (PQ o 0) rfl) ((DL _ o v b (i49) k49 g (hr.keep hE) hapr ax hl).mono ?_))))
  rintro e m6 ⟨c347,i347,k347,hq347,rfl,hbr347,m7,dd⟩
  refine⟨_,rfl,?_⟩
  have hE:=Ae hE dd (Nat.le_trans ae (by omega))
  have f:=kb dd f (by omega)
  clear g
  have n:=kb dd n (by omega)
  have g:=hbr347;clear hbr347
  have m8:=bl g
  refine oS rfl (Yk.fieldAt G9 (vr (PQ p 0) rfl) (oS rfl (Yk.storeC (i:=106) (v:=NI c347) (vr (PQ p 106) rfl) (vr (NI c347) rfl) n (by rw[msg_len];decide) LR rfl rfl fun hw el de m9=> ?_)))
  have hE:=Ae hE de (Nat.le_trans ag (by omega))
  have f:=kb de f (by omega)
  clear n
  have g:=kb de g (by omega)
  have n:hw.heap[p]? =some (.cells (msgC ((⟨c40,((c49:Nat):Int),[],[],[],0,0,zid,[],[],zid,zid,false,((c347:Nat):Int)⟩,⟨(Value.slice none 0 0),(Value.slice none 0 0),(Value.slice none 0 0),(Value.slice none 0 0)⟩):Ah)).toArray 29 (0,0)):=Az el (Ir ((⟨c40,((c49:Nat):Int),[],[],[],0,0,zid,[],[],zid,zid,false,0⟩,⟨(Value.slice none 0 0),(Value.slice none 0 0),(Value.slice none 0 0),(Value.slice none 0 0)⟩):Ah) ((c347:Nat):Int));clear el
  have na:=bl n
  refine Bp [(0,v),(2,PQ n2 0),(3,NI 0),(4,PQ o 0),(5,PQ p 0),(19,B8 (c40))] ⟨q,rfl,rfl,rfl,rfl,rfl,trivial⟩ fun nb ⟨q,u,T3,s,t,ah,_⟩=>(bN ?_)
  exact tN (hJK57 _ _ ⟨((⟨c40,((c49:Nat):Int),[],[],[],0,0,zid,[],[],zid,zid,false,((c347:Nat):Int)⟩,⟨(Value.slice none 0 0),(Value.slice none 0 0),(Value.slice none 0 0),(Value.slice none 0 0)⟩):Ah),i347,k347,q,u,T3,s,t,hE,f,g,n,⟨RG.nil _ _ _,RG.nil _ _ _,RG.nil _ _ _,RB.nil _⟩,by simp only[CH,CO,hq40,hq49,if_neg ak,if_neg aw,if_neg ba,if_neg bc,if_neg bs,if_neg cc,if_pos dc,hq347],⟨(fun h=>by cases h),(fun h=>by cases h),(fun h=>by cases h),(fun h=>by cases h)⟩,trivial⟩)
 refine Ak (bN ?_)
 exact tN (hJK57 _ _ ⟨((⟨c40,((c49:Nat):Int),[],[],[],0,0,zid,[],[],zid,zid,false,0⟩,⟨(Value.slice none 0 0),(Value.slice none 0 0),(Value.slice none 0 0),(Value.slice none 0 0)⟩):Ah),i49,k49,q,rfl,rfl,rfl,rfl,hE,f,g,n,⟨RG.nil _ _ _,RG.nil _ _ _,RG.nil _ _ _,RB.nil _⟩,by simp only[CH,CO,hq40,hq49,if_neg ak,if_neg aw,if_neg ba,if_neg bc,if_neg bs,if_neg cc,if_neg dc],⟨(fun h=>by cases h),(fun h=>by cases h),(fun h=>by cases h),(fun h=>by cases h)⟩,trivial⟩)

theorem IE(w:World)(v:Value)(b:Bs)(hr:RB w v b):
  Calls Tryd.prog 4 #[v] w fun e w' =>e = .returned (.bool true)∧Ext w w' :=by
 refine calls_of_wpF (args:= [v]) Tryd.func4 rfl 33 rfl (Nat.le_of_ble_eq_true rfl) ?_
 intro a0 hb
 have k:a0 0=(v:Value):=hb.get 0
 clear hb
 have hE:=Ext.refl w
 refine sk fun K1 a1=>(wt (oA rfl (oZ (tN (a1 _ _ (sk fun K2 aj=>(sk fun K3 a2=>(wt (oM rfl (oS rfl (Yk.lenRB El (RB.of (hr.keep hE) k) (oS rfl (Yk.eqI (a:=(b.length:Nat)) (b:=(6000:Nat)) rfl rfl (k_gtr _ _ _ _) (oZ (tN (a2 _ _ ?_))))))))))))))))
 refine AX ((6000)<(b.length)) (vr (.bool (decide ((6000)<(b.length)))) rfl) (fun a3=> ?_) (fun a3=> ?_)
 ·refine sk fun K4 a4=>(wt (oA rfl (oZ (tN (a4 _ _ (Ao (Ap (An (fn:=Tryd.f4) _ rfl [.bool (true)] (.bool (true)) rfl ⟨rfl,trivial⟩ ?_))))))))
  exact⟨rfl,hE⟩
 rcases hD:Cv b with _ | m
 ·refine Ak (tN (aj _ _ (sk fun K5 a5=>(wt (oS rfl (Yk.lit0 L5 fun v6 w7 z=> ?_))))))
  have hE:=hE.trans z.ext
  have aa:=z.own;clear z
  refine oM rfl (oS rfl (Yk.appendRB _ _ w.heap.size (.int .u8 0) El Hz rfl El (([]:List UInt8)) (b) (own_of aa (vr v6 rfl)) (RB.of (hr.keep hE) k) (by simp only[List.length_nil];omega) hE.size fun ab a7 a8 ac=> ?_))
  have ac:Grew w7 a7 v6 ab:=ac
  have hE:=AF hE ac aa (Nat.le_refl _)
  clear aa
  refine oS rfl (Yk.callA1 MY (vr ab rfl) ((F2 _ ab (([]:List UInt8)++b) (RB.ofOwn a8) (by rw[List.nil_append];omega)).mono ?_))
  rintro e a9 ⟨X14,c14,rfl,hX14,hd14,ba⟩
  refine⟨_,rfl,?_⟩
  have hE:=hE.trans ba
  have hX14r:=hX14.refs
  have hX14w:=hX14.wants
  have hX14h:=hX14.haves
  have hX14b:=hX14.bytes
  rw[show Cv _=_ from(show Cv (([]:List UInt8)++b)=none from hD)]at hd14
  obtain⟨bb,hm14⟩:=hd14
  subst bb
  refine oM rfl (oS rfl (Yk.extract (vs:= [.agg (msgC X14).toArray,NI 6]) (vr (.tuple #[.agg (msgC X14).toArray,NI 6]) rfl) (show _=some (.agg (msgC X14).toArray:Value)from rfl) (oS rfl (Yk.extract (vs:= [.agg (msgC X14).toArray,NI 6]) (vr (.tuple #[.agg (msgC X14).toArray,NI 6]) rfl) (show _=some (NI 6:Value)from rfl) (oS rfl (Yk.alloc (cs:=(msgC ((⟨0,0,[],[],[],0,0,zid,[],[],zid,zid,false,0⟩,⟨.slice none 0 0, .slice none 0 0, .slice none 0 0, .slice none 0 0⟩):Ah)).toArray) MN fun o bc ci al am cj=> ?_))))))
  have c:=Ext.refl a9
  have bd:=hE.size
  have hE:=hE.trans am
  have c:=c.trans am
  have g:=al;clear al
  have ck:o<bc.heap.size:=by omega
  refine oS rfl (Yk.storeAll (vr (PQ o 0) rfl) (vr (.agg (msgC X14).toArray) rfl) g (by simp only[List.size_toArray,msg_len]) (Au (msg_len _) Mr) (BK (x:=X14) (RG.one (hX14r.keep c)).2 (RG.one (hX14w.keep c)).2 (RG.one (hX14h.keep c)).2 (RB.one (hX14b.keep c)).2) fun be an ao cl=> ?_)
  have hE:=Ae hE ao (Nat.le_trans bd (by omega))
  have c:=Ae c ao (Nat.le_trans (Nat.le_refl _) (by omega))
  clear g
  have g:be.heap[o]? =some (.cells (msgC X14).toArray 29 (0,0)):=an;clear an
  have cm:=bl g
  refine oA rfl (oZ (tN (a5 _ _ (sk fun cn bf=>(wt (oM rfl (oS rfl (Yk.callA1 Jh k ((Gf _ v (b) (hr.keep hE) (by omega)).mono ?_)))))))))
  rintro e bg ⟨X34,c34,rfl,hX34,hd34,ad⟩
  refine⟨_,rfl,?_⟩
  have hE:=hE.trans ad
  have c:=c.trans ad
  have g:=eb ad g
  have hX34r:=hX34.refs
  have hX34w:=hX34.wants
  have hX34h:=hX34.haves
  have hX34b:=hX34.bytes
  rw[show Cv _=_ from hD]at hd34
  obtain⟨bh,hm34⟩:=hd34
  subst bh
  refine oM rfl (oS rfl (Yk.extract (vs:= [.agg (msgC X34).toArray,NI 6]) (vr (.tuple #[.agg (msgC X34).toArray,NI 6]) rfl) (show _=some (.agg (msgC X34).toArray:Value)from rfl) (oS rfl (Yk.extract (vs:= [.agg (msgC X34).toArray,NI 6]) (vr (.tuple #[.agg (msgC X34).toArray,NI 6]) rfl) (show _=some (NI 6:Value)from rfl) (oS rfl (Yk.alloc (cs:=(msgC ((⟨0,0,[],[],[],0,0,zid,[],[],zid,zid,false,0⟩,⟨.slice none 0 0, .slice none 0 0, .slice none 0 0, .slice none 0 0⟩):Ah)).toArray) MN fun p bi bj ap q co=> ?_))))))
  have h:=Ext.refl bg
  have bk:=hE.size
  have bm:=c.size
  have cp:=Bo (bl g) bj
  have hE:=hE.trans q
  have c:=c.trans q
  have g:=eb q g
  have h:=h.trans q
  have l:=ap;clear ap
  have cq:p<bi.heap.size:=by omega
  refine oS rfl (Yk.storeAll (vr (PQ p 0) rfl) (vr (.agg (msgC X34).toArray) rfl) l (by simp only[List.size_toArray,msg_len]) (Au (msg_len _) Mr) (BK (x:=X34) (RG.one (hX34r.keep h)).2 (RG.one (hX34w.keep h)).2 (RG.one (hX34h.keep h)).2 (RB.one (hX34b.keep h)).2) fun bn aq r cr=> ?_)
  have hE:=Ae hE r (Nat.le_trans bk (by omega))
  have c:=Ae c r (Nat.le_trans bm (by omega))
  have g:=kb r g (by omega)
  have h:=Ae h r (Nat.le_trans (Nat.le_refl _) (by omega))
  clear l
  have l:bn.heap[p]? =some (.cells (msgC X34).toArray 29 (0,0)):=aq;clear aq
  have ct:=bl l
  refine oA rfl (oZ (tN (bf _ _ (sk fun cu bo=>(wt (oS rfl (Yk.loadAll (vr (PQ o 0) rfl) g (Nr).choose_spec rfl (Au (msg_len X14) Mr) (oS rfl (Yk.loadAll (vr (PQ p 0) rfl) l (Nr).choose_spec rfl (Au (msg_len X34) Mr) (oS rfl (Yk.callA2 M5 (vr (.agg (msgC X14).toArray) rfl) (vr (.agg (msgC X34).toArray) rfl) ((I8 _ X14 X34 (MsgAt.mk (hX14r.keep c) (hX14w.keep c) (hX14h.keep c) (hX14b.keep c)) (MsgAt.mk (hX34r.keep h) (hX34w.keep h) (hX34h.keep h) (hX34b.keep h)) (by rw[hm14];exact OO 0 0) (hm14.trans hm34.symm)).mono ?_))))))))))))
  rintro e cv ⟨rfl,bp⟩
  refine⟨_,rfl,?_⟩
  have hE:=hE.trans bp
  refine oM rfl (oY (d:=25) rfl rfl (vr (.bool (true)) rfl) (Yk.move (vr (NI 6) rfl) (oY (d:=25) rfl rfl (vr (.bool (true)) rfl) (Yk.move (vr (NI 6) rfl) (oY (d:=25) rfl rfl (vr (.bool (true)) rfl) (Yk.eqI (a:=(6:Nat)) (b:=(6:Nat)) rfl rfl (k_eql _ _ _ _) (oS rfl (Yk.pickT (vr (.bool (true)) rfl) (vr (.bool (true)) (congrArg Value.bool (decide_eq_true (rfl)))) (oM rfl (oY (d:=30) rfl rfl (vr (.bool (true)) rfl) (Yk.callA0 Jd ((GT _).mono ?_))))))))))))
  rintro e cw ⟨rfl,bq⟩
  refine⟨_,rfl,?_⟩
  have hE:=hE.trans bq
  refine oS rfl (Yk.pickT (vr (.bool (true)) rfl) (vr (.bool (true)) rfl) (oA rfl (oZ (tN (bo _ _ (Ao (An (fn:=Tryd.f4) _ rfl [.bool (true)] (.bool (true)) rfl ⟨rfl,trivial⟩ ?_)))))))
  exact⟨rfl,hE⟩
 refine Ak (tN (aj _ _ (sk fun cx br=>(wt (oS rfl (Yk.lit0 L5 fun ar bs ae=> ?_))))))
 have hE:=hE.trans ae.ext
 have af:=ae.own;clear ae
 refine oM rfl (oS rfl (Yk.appendRB _ _ w.heap.size (.int .u8 0) El Hz rfl El (([]:List UInt8)) (b) (own_of af (vr ar rfl)) (RB.of (hr.keep hE) k) (by simp only[List.length_nil];omega) hE.size fun ag bt bu ah=> ?_))
 have ah:Grew bs bt ar ag:=ah
 have hE:=AF hE ah af (Nat.le_refl _)
 clear af
 refine oS rfl (Yk.callA1 MY (vr ag rfl) ((F2 _ ag (([]:List UInt8)++b) (RB.ofOwn bu) (by rw[List.nil_append];omega)).mono ?_))
 rintro e bv ⟨X70,c70,rfl,hX70,hd70,bw⟩
 refine⟨_,rfl,?_⟩
 have hE:=hE.trans bw
 have hX70r:=hX70.refs
 have hX70w:=hX70.wants
 have hX70h:=hX70.haves
 have hX70b:=hX70.bytes
 rw[show Cv _=_ from(show Cv (([]:List UInt8)++b)=some m from hD)]at hd70
 obtain⟨bx,hm70⟩:=hd70
 subst bx
 refine oM rfl (oS rfl (Yk.extract (vs:= [.agg (msgC X70).toArray,NI 0]) (vr (.tuple #[.agg (msgC X70).toArray,NI 0]) rfl) (show _=some (.agg (msgC X70).toArray:Value)from rfl) (oS rfl (Yk.extract (vs:= [.agg (msgC X70).toArray,NI 0]) (vr (.tuple #[.agg (msgC X70).toArray,NI 0]) rfl) (show _=some (NI 0:Value)from rfl) (oS rfl (Yk.alloc (cs:=(msgC ((⟨0,0,[],[],[],0,0,zid,[],[],zid,zid,false,0⟩,⟨.slice none 0 0, .slice none 0 0, .slice none 0 0, .slice none 0 0⟩):Ah)).toArray) MN fun s bz cy au av cz=> ?_))))))
 have f:=Ext.refl bv
 have b0:=hE.size
 have hE:=hE.trans av
 have f:=f.trans av
 have i:=au;clear au
 have c0:s<bz.heap.size:=by omega
 refine oS rfl (Yk.storeAll (vr (PQ s 0) rfl) (vr (.agg (msgC X70).toArray) rfl) i (by simp only[List.size_toArray,msg_len]) (Au (msg_len _) Mr) (BK (x:=X70) (RG.one (hX70r.keep f)).2 (RG.one (hX70w.keep f)).2 (RG.one (hX70h.keep f)).2 (RB.one (hX70b.keep f)).2) fun b1 aw ax c1=> ?_)
 have hE:=Ae hE ax (Nat.le_trans b0 (by omega))
 have f:=Ae f ax (Nat.le_trans (Nat.le_refl _) (by omega))
 clear i
 have i:b1.heap[s]? =some (.cells (msgC X70).toArray 29 (0,0)):=aw;clear aw
 have c2:=bl i
 refine oA rfl (oZ (tN (br _ _ (sk fun c3 b2=>(wt (oM rfl (oS rfl (Yk.callA1 Jh k ((Gf _ v (b) (hr.keep hE) (by omega)).mono ?_)))))))))
 rintro e b3 ⟨X90,c90,rfl,hX90,hd90,ai⟩
 refine⟨_,rfl,?_⟩
 have hE:=hE.trans ai
 have f:=f.trans ai
 have i:=eb ai i
 have hX90r:=hX90.refs
 have hX90w:=hX90.wants
 have hX90h:=hX90.haves
 have hX90b:=hX90.bytes
 rw[show Cv _=_ from hD]at hd90
 obtain⟨b4,hm90⟩:=hd90
 subst b4
 refine oM rfl (oS rfl (Yk.extract (vs:= [.agg (msgC X90).toArray,NI 0]) (vr (.tuple #[.agg (msgC X90).toArray,NI 0]) rfl) (show _=some (.agg (msgC X90).toArray:Value)from rfl) (oS rfl (Yk.extract (vs:= [.agg (msgC X90).toArray,NI 0]) (vr (.tuple #[.agg (msgC X90).toArray,NI 0]) rfl) (show _=some (NI 0:Value)from rfl) (oS rfl (Yk.alloc (cs:=(msgC ((⟨0,0,[],[],[],0,0,zid,[],[],zid,zid,false,0⟩,⟨.slice none 0 0, .slice none 0 0, .slice none 0 0, .slice none 0 0⟩):Ah)).toArray) MN fun t b5 b6 ay u c4=> ?_))))))
 have j:=Ext.refl b3
 have b7:=hE.size
 have b8:=f.size
 have c5:=Bo (bl i) b6
 have hE:=hE.trans u
 have f:=f.trans u
 have i:=eb u i
 have j:=j.trans u
 have n:=ay;clear ay
 have c6:t<b5.heap.size:=by omega
 refine oS rfl (Yk.storeAll (vr (PQ t 0) rfl) (vr (.agg (msgC X90).toArray) rfl) n (by simp only[List.size_toArray,msg_len]) (Au (msg_len _) Mr) (BK (x:=X90) (RG.one (hX90r.keep j)).2 (RG.one (hX90w.keep j)).2 (RG.one (hX90h.keep j)).2 (RB.one (hX90b.keep j)).2) fun b9 az y c7=> ?_)
 have hE:=Ae hE y (Nat.le_trans b7 (by omega))
 have f:=Ae f y (Nat.le_trans b8 (by omega))
 have i:=kb y i (by omega)
 have j:=Ae j y (Nat.le_trans (Nat.le_refl _) (by omega))
 clear n
 have n:b9.heap[t]? =some (.cells (msgC X90).toArray 29 (0,0)):=az;clear az
 have c8:=bl n
 refine oA rfl (oZ (tN (b2 _ _ (sk fun c9 ca=>(wt (oS rfl (Yk.loadAll (vr (PQ s 0) rfl) i (Nr).choose_spec rfl (Au (msg_len X70) Mr) (oS rfl (Yk.loadAll (vr (PQ t 0) rfl) n (Nr).choose_spec rfl (Au (msg_len X90) Mr) (oS rfl (Yk.callA2 M5 (vr (.agg (msgC X70).toArray) rfl) (vr (.agg (msgC X90).toArray) rfl) ((I8 _ X70 X90 (MsgAt.mk (hX70r.keep f) (hX70w.keep f) (hX70h.keep f) (hX70b.keep f)) (MsgAt.mk (hX90r.keep j) (hX90w.keep j) (hX90h.keep j) (hX90b.keep j)) (by rw[hm70];exact I3 (GD hD).1) (hm70.trans hm90.symm)).mono ?_))))))))))))
 rintro e da ⟨rfl,cb⟩
 refine⟨_,rfl,?_⟩
 have hE:=hE.trans cb
 refine oM rfl (oY (d:=25) rfl rfl (vr (.bool (true)) rfl) (Yk.move (vr (NI 0) rfl) (oY (d:=25) rfl rfl (vr (.bool (true)) rfl) (Yk.move (vr (NI 0) rfl) (oY (d:=25) rfl rfl (vr (.bool (true)) rfl) (Yk.eqI (a:=(0:Nat)) (b:=(0:Nat)) rfl rfl (k_eql _ _ _ _) (oS rfl (Yk.pickT (vr (.bool (true)) rfl) (vr (.bool (true)) (congrArg Value.bool (decide_eq_true (rfl)))) (oM rfl (oY (d:=30) rfl rfl (vr (.bool (true)) rfl) (Yk.callA0 Jd ((GT _).mono ?_))))))))))))
 rintro e db ⟨rfl,cc⟩
 refine⟨_,rfl,?_⟩
 have hE:=hE.trans cc
 refine oS rfl (Yk.pickT (vr (.bool (true)) rfl) (vr (.bool (true)) rfl) (oA rfl (oZ (tN (ca _ _ (Ao (An (fn:=Tryd.f4) _ rfl [.bool (true)] (.bool (true)) rfl ⟨rfl,trivial⟩ ?_)))))))
 exact⟨rfl,hE⟩
end Go.Proofs.YtmonlobfofkbdaaDoor
