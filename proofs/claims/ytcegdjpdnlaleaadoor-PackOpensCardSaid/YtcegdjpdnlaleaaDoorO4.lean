/- Part 4 of what stands behind these statements: laws and walks of the functions that are reached. Conditions: those that each theorem names. -/
import Derived.Test.YtcegdjpdnlaleaaDoorO3
set_option linter.unusedVariables false
set_option linter.unusedSimpArgs false
namespace Go.Proofs.YtcegdjpdnlaleaaDoor
open Go.RowKit
set_option maxRecDepth 100000
open Go.WideMaps (KeyLaw)
theorem RP:KeyLaw Tryd.prog 38:=deep_law_laid (by kernel_rfl) (m:=3) (by decide) (of_decide_eq_true (by kernel_rfl)) (by kernel_rfl) (by kernel_rfl)
theorem B4:KL Tryd.prog 38 (fun v=>∃l,keyOf Tryd.prog 38 v=some l):=KL.ofDeep RP
theorem B5:∀id:List UInt8,id.length=32→∃l,keyOf Tryd.prog 38 (rk id)=some l:=fun _ h=>
 JL (n:=32) (e:=5) Tryd.underlying38 Tryd.underlying5 (by kernel_rfl) (by kernel_rfl) (by kernel_rfl) (of_decide_eq_true (by kernel_rfl)) h
theorem Gm:∀u:World,(zeroValue 3).run Tryd.prog u = .ok (NI 0) u:=fun _=>by kernel_rfl
theorem EM(w:World)(hG:Laid w)(v:Value)(l:Bs)(h:RBs w v [l])(hl:l.length≤1099511627776):
  Calls Tryd.prog 17 #[v] w fun e w' =>e = .returned (AB (Sha.sum l))∧Ext w w' :=by
 have:=Q2 w hG v [l] h (by simp;omega) (by simp)
 simpa using this
theorem Lk(w:World)(v:Value)(l:Bs)(hr:RB w v l)(s:Bs)(hl:l.length+s.length+16≤140737488355328):
  Calls Tryd.prog 24 #[v,St s] w fun e w' =>∃v',e = .returned v' ∧NewB 5 w w' v' (l++Bb s):=by
 have:=LY w v l hr ⟨s.toArray⟩ (by simpa [ByteArray.size] using hl)
 simpa [Bb,ByteArray.size,List.append_assoc] using this
theorem D2{ps:List Pt}{i e:Nat}(hi:i<ps.length)(h:DD ps (i+1) = .error e):BB ps=([],e):=by
 have:=H3 h (ps.length-(i+1))
 rw[show i+1+(ps.length-(i+1))=ps.length by omega]at this
 unfold BB
 rw[this]
theorem OQ{ps:List Pt}{s:BS}(h:DD ps ps.length = .ok s):BB ps=(s.b++Cb s s.b.length++Sha.sum (s.b++Cb s s.b.length),0):=by
 unfold BB
 rw[h]
theorem I0{α:Type}(l:List α)(i:Nat)(d:α)(h:i<l.length):l.take (i+1)=l.take i++ [l.getD i d]:=by rw[List.take_succ_eq_append_getElem h,List.getD_eq_getElem?_getD,List.getElem?_eq_getElem h];rfl
theorem JV:(Tryd.prog.info? 55).map (·.size)=some 2:=by kernel_rfl
theorem Fz:Tryd.prog.underlying 28=some (.slice 55):=by kernel_rfl
theorem P3:AA Tryd.prog 23:=fun _ _=>by kernel_rfl
theorem JW:∀w' :World,(sizeOf 55).run Tryd.prog w' = .ok 2 w' :=fun _=>by kernel_rfl
theorem P4:∃fs,Tryd.prog.underlying 55=some (.struct fs):=DF (by kernel_rfl)
theorem P5{d:Option Tmp}{ty:TypeId}{pos:String}{af:Array Edge}{gd:Option (Nat × Bool)}(σ:Operand→Value)(w:World):(execOp σ ⟨d, .alloc 55,ty,pos,af,gd⟩).run Tryd.prog w = .ok (.value (PQ w.heap.size 0)) (w.alloc (.cells ([(Value.slice none 0 0),NI 0]).toArray 55)):=by kernel_rfl
theorem Ch:A6 Tryd.prog 55 0 0:=fun b o w=>by simp[go_sem]
theorem BG:A6 Tryd.prog 55 1 1:=fun b o w=>by simp[go_sem]
theorem FA(ao:Option Addr)(n c:Nat)(w:World):(Instr.buildSlice 75 1 #[(0, .slice ao n c)]).run Tryd.prog w = .ok (.slice (some ⟨w.heap.size,0,none⟩) 1 1) (w.alloc (.cells #[.slice ao n c] 24)):=by kernel_rfl
theorem Iy:AA Tryd.prog 17:=fun _ _=>by kernel_rfl
theorem Et:Tryd.prog.underlying 53=some (.map 38 3):=by kernel_rfl
theorem Ll:∀(cs:Array Value),cs.size=32→∀w:World,(Instr.buildSlice 47 1 #[(0, .agg cs)]).run Tryd.prog w = .ok (.slice (some ⟨w.heap.size,0,none⟩) 1 1) (w.alloc (.cells cs 38))
 | ⟨[c0,c1,c2,c3,c4,c5,c6,c7,c8,c9,c10,c11,c12,c13,c14,c15,c16,c17,c18,c19,c20,c21,c22,c23,c24,c25,c26,c27,c28,c29,c30,c31]⟩,_,w=>PT c0 c1 c2 c3 c4 c5 c6 c7 c8 c9 c10 c11 c12 c13 c14 c15 c16 c17 c18 c19 c20 c21 c22 c23 c24 c25 c26 c27 c28 c29 c30 c31 w
theorem MH:Tryd.prog.underlying 9=some (.string):=by kernel_rfl
theorem Lm:AA Tryd.prog 24:=fun _ _=>by kernel_rfl
theorem P6:AA Tryd.prog 25:=fun _ _=>by kernel_rfl
theorem P7:AA Tryd.prog 26:=fun _ _=>by kernel_rfl
theorem Iz:AA Tryd.prog 27:=fun _ _=>by kernel_rfl
theorem P8:AA Tryd.prog 28:=fun _ _=>by kernel_rfl
set_option maxHeartbeats 1600000
theorem JX(w:World)(hG:Laid w)(v:Value)(ps:List Pt)(hr:RG 2 partC w v ps)(hps:Q3 w ps)(hL:Ds ps):
  Calls Tryd.prog 11 #[v] w fun e w' =>∃v',e = .returned (.tuple #[v',NI (BB ps).2])∧RB w' v' (BB ps).1∧Ext w w' :=by
 have hw2:=hG.two
 have hL1:=hL.1
 refine gG (args:= [v]) Tryd.func11 rfl 165 rfl rfl ?_
 have hE:=Ext.refl w
 refine gS (Yk.lenRG Fz (RG.of hr rfl) (gS (Yk.callA1 P3 rfl ((Oe _ (ps.length) (by omega)).mono ?_))))
 rintro e w6 ⟨v3,rfl,bf,fj⟩
 refine⟨_,rfl,?_⟩
 refine gS (Yk.mkMap rk NI (fun id:List UInt8=>id.length=32) fun n8 w9 i7 b4 da i8=> ?_)
 have hE:=hE.trans fj
 have db:=hE.size
 have fk:OB v3 n8:=AQ bf (by omega)
 have i9:n8<w9.heap.size:=by omega
 have hids0:OG w.heap.size 38 32 Lib.byteCells w9 (Value.slice none 0 0) ([]:List Bs):=OG.nil _ _ _ _ _
 have fl:Value.ownBlock (Value.slice none 0 0)≠some n8:=fun h=>by cases h
 have fm:Am (Value.slice none 0 0) v3:=fun k h=>by cases h
 have fn:Am v3 (Value.slice none 0 0):=fun k _ h=>by cases h
 have hE:=hE.trans da
 refine gS (Yk.lenRG Fz (RG.of (hr.keep hE) rfl) (gS (Yk.makeN 8 JM RO rfl rfl (by omega) (by omega) fun ab fo fp dc ch ja=> ?_)))
 have dd:=hE.size
 have jb:=Aw b4.lt fp
 have bf:=Stab.own _ _ _ _ _ _ _ _ bf da
 have fq:OB v3 ab:=AQ bf (by omega)
 have fr:Value.ownBlock (Value.slice none 0 0)≠some ab:=AQ hids0.2 (by omega)
 have de:=dc;clear dc
 have jc:ab<fo.heap.size:=by omega
 have hE:=hE.trans ch
 have bf:=Stab.own _ _ _ _ _ _ _ _ bf ch
 have b4:=b4.keep ch
 have hids0:=hids0.keep ch
 refine gS (Yk.lenRG Fz (RG.of (hr.keep hE) rfl) (gL (fun(ρ:Ae) (wz:World)=>∃i:Nat,∃s:BS,∃vb:Value,∃vi:Value,ρ 0=(v:Value)∧ρ 5=(.map (some n8):Value)∧ρ 7=(.slice (some ⟨ab,0,none⟩) ps.length ps.length:Value)∧ρ 28=(v:Value)∧ρ 29=(NI ps.length:Value)∧ρ 30=(NI i:Value)∧ρ 8=(NI s.total:Value)∧ρ 4=(vb:Value)∧ρ 6=(vi:Value)∧Ext w wz∧wz.ownsRow w.heap.size 5 1 vb (s.b:List UInt8).length (Lib.byteCells (s.b))∧OG w.heap.size 38 32 (Lib.byteCells) wz vi (s.ids)∧MapF rk NI (fun id:List UInt8=>id.length=32) wz n8 (Bd s)∧wz.heap[ab]? =some (.cells ((s.depths++List.replicate (ps.length-i) 0).map fun x=>NI x).toArray 3 (0,0))∧(DD ps i = .ok s)∧(i≤ps.length)∧(OB vb n8)∧(Am vb vi)∧(OB vb ab)∧(OB vi n8)∧(Am vi vb)∧(OB vi ab)∧True) (fun ρ _=>ps.length-(intOf (ρ 30)).toNat) ⟨0,⟨80 :: Lib.uvarint ps.length,[],[],[],0⟩,v3,(Value.slice none 0 0),rfl,rfl,rfl,rfl,rfl,rfl,rfl,rfl,rfl,hE,Bn bf (rfl),Bo hids0 (rfl),CU b4 (rfl),AE de (rfl),rfl,Nat.zero_le _,fk,fn,fq,fl,fm,fr,trivial⟩ ?_))
 clear bf
 clear b4
 clear hids0
 clear de
 clear hE
 rintro df dg ⟨i,s,vb,vi,T0,T5,T7,aq,ar,ad,T8,T4,T6,hE,hr_vb,hr_vi,hb11l,hb38l,hs,hi,hap_vb_n8,hap_vb_vi,hap_vb_n24,hap_vi_n8,hap_vi_vb,hap_vi_n24,-⟩
 have q30:=ad
 have hB:=Hv hL i s hi hs
 have hBi:=hB.ids
 have hBp:=hB.places
 have hBd:=hB.depths
 have hBb:=hB.b
 have hBt:=hB.total
 obtain⟨dl,hdl⟩:∃dl,dl=s.depths++List.replicate (ps.length-i) 0:=⟨_,rfl⟩
 have hb38l:dg.heap[ab]? =some (.cells (dl.map fun x=>NI x).toArray 3 (0,0)):=AE hb38l (by rw[hdl])
 have hdll:dl.length=ps.length:=by rw[hdl,List.length_append,List.length_replicate];omega
 have hdg:∀m,m<i→dl.getD m 0=s.depths.getD m 0:=fun m hm=>by rw[hdl,List.getD_eq_getElem?_getD,List.getElem?_append_left (by omega),←List.getD_eq_getElem?_getD]
 refine gS (Yk.eqI (a:=(i:Nat)) (b:=(ps.length:Nat)) ad ar (Ah _ _ _ _) ?_)
 refine cD rfl (fun cu=> ?_) fun cu=> ?_
 ·have hil:i<ps.length:=cu
  obtain⟨p,hp⟩:∃p,p=ps.getD i AH:=⟨_,rfl⟩
  have hpm:p∈ps:=by rw[hp];exact getD_mem AH hil
  have hpl:=hL.2 p hpm
  have hpb:=(hps p hpm).2
  have hpr:=(hps p hpm).1
  have hst:=Fy hs
  unfold FS at hst
  rw[←hp]at hst
  have fs:(partC (ps.getD (i) AH)).length=2:=(RG.elem (hr.keep hE) AH (by omega))
  refine gS (Yk.atRG Fz JW (by decide) AH (RG.of (hr.keep hE) aq) ad (by omega) fun jd dh=>(gS (Yk.loadPR (PR.of dh rfl) (P4).choose_spec rfl (by rw[fs];exact JV) (gS (Yk.alloc P5 fun am ft di dj b5 je=> ?_)))))
  have o:=Ext.refl dg
  have jf:=hE.size
  have jg:=Aw hb11l.lt di
  have jh:=Aw (bl hb38l) di
  have ci:OB vb am:=AQ hr_vb (by omega)
  have dk:OB vi am:=AQ hr_vi.2 (by omega)
  have f:=dj;clear dj
  have ji:am<ft.heap.size:=by omega
  refine gS (Yk.storeAll (vr (PQ am 0) rfl) (vr (.agg (partC (ps.getD (i) AH)).toArray) rfl) f (by rfl) (by exact JV) ((OP (RB.one (hps _ (getD_mem AH cu)).1))) fun dm dn b6 jj=> ?_)
  have hb11l:=hb11l.keep b5
  have hb11l:=MapF.other hb11l b6 (Ao (by omega))
  clear f
  have f:=dn;clear dn
  have jk:=bl f
  clear dh
  have f:dm.heap[am]? =some (.cells ([p.v, .int .i64 (p.base:Int)]).toArray 55 (0,0)):=AE f (show partC (ps.getD i AH)= [p.v, .int .i64 (p.base:Int)] by rw[←hp];rfl)
  by_cases hA:p.base < -1
  ·have o:=o.trans b5
   have o:=Aa o b6 (Nat.le_trans (Nat.le_refl _) (by omega))
   have hE:=hE.trans o
   refine gS (Yk.fieldAt Ch rfl (gS (Yk.cell1 EX rfl rfl (cellAt f rfl) (gS (Yk.lenRB EX (RB.of (hpr.keep hE) rfl) (gS (Yk.eqI (a:=((p.bytes:List UInt8).length:Nat)) (b:=(262144:Nat)) rfl rfl (Av _ _ _ _) ?_)))))))
   refine cD rfl (fun az=> ?_) fun az=> ?_
   ·exact absurd az (by omega)
   refine gS (Yk.fieldAt BG rfl (gS (Yk.cell1 PJ rfl rfl (cellAt f rfl) (gS (Yk.eqI rfl rfl (Fa _ .i64 (p.base:Int) (-1:Int)) (kT (by omega) (gS (Yk.pickT rfl rfl (cT rfl (BO rfl (vr (Value.slice none 0 0) rfl) (vr (NI 1) rfl) ?_))))))))))
   rw[if_pos (by omega)]at hst
   rw[D2 (by omega) hst]
   exact⟨_,rfl,RB.nil _,hE⟩
  by_cases hBq:(i:Int)≤p.base
  ·have o:=o.trans b5
   have o:=Aa o b6 (Nat.le_trans (Nat.le_refl _) (by omega))
   have hE:=hE.trans o
   refine gS (Yk.fieldAt Ch rfl (gS (Yk.cell1 EX rfl rfl (cellAt f rfl) (gS (Yk.lenRB EX (RB.of (hpr.keep hE) rfl) (gS (Yk.eqI (a:=((p.bytes:List UInt8).length:Nat)) (b:=(262144:Nat)) rfl rfl (Av _ _ _ _) ?_)))))))
   refine cD rfl (fun az=> ?_) fun az=> ?_
   ·exact absurd az (by omega)
   refine gS (Yk.fieldAt BG rfl (gS (Yk.cell1 PJ rfl rfl (cellAt f rfl) (gS (Yk.eqI rfl rfl (Fa _ .i64 (p.base:Int) (-1:Int)) (kF (by omega) (gS (Yk.fieldAt BG rfl (gS (Yk.cell1 PJ rfl rfl (cellAt f rfl) (gS (Yk.eqI rfl ad (Gy _ .i64 (p.base:Int) ((i:Nat):Int)) (kT (by omega) (gS (Yk.pickF rfl rfl (cT rfl (BO rfl (vr (Value.slice none 0 0) rfl) (vr (NI 1) rfl) ?_)))))))))))))))))
   rw[if_pos (by omega)]at hst
   rw[D2 (by omega) hst]
   exact⟨_,rfl,RB.nil _,hE⟩
  by_cases hC0:p.base<0
  ·have o:=o.trans b5
   have o:=Aa o b6 (Nat.le_trans (Nat.le_refl _) (by omega))
   have hE:=hE.trans o
   refine gS (Yk.fieldAt Ch rfl (gS (Yk.cell1 EX rfl rfl (cellAt f rfl) (gS (Yk.lenRB EX (RB.of (hpr.keep hE) rfl) (gS (Yk.eqI (a:=((p.bytes:List UInt8).length:Nat)) (b:=(262144:Nat)) rfl rfl (Av _ _ _ _) ?_)))))))
   refine cD rfl (fun az=> ?_) fun az=> ?_
   ·exact absurd az (by omega)
   refine gS (Yk.fieldAt BG rfl (gS (Yk.cell1 PJ rfl rfl (cellAt f rfl) (gS (Yk.eqI rfl rfl (Fa _ .i64 (p.base:Int) (-1:Int)) (kF (by omega) (gS (Yk.fieldAt BG rfl (gS (Yk.cell1 PJ rfl rfl (cellAt f rfl) (gS (Yk.eqI rfl ad (Gy _ .i64 (p.base:Int) ((i:Nat):Int)) (kF (by omega) (gS (Yk.pickF rfl rfl (cF rfl (gS (Yk.fieldAt Ch rfl (gS (Yk.cell1 EX rfl rfl (cellAt f rfl) (gS (Yk.rows1 FA (RB.of (hpr.keep hE) (vr p.v rfl)) fun fu jl fv dq=> ?_))))))))))))))))))))))
   have hE:=hE.trans dq
   refine gS (Yk.callA1 Iy rfl ((EM _ (hG.keep hE) fu (p.bytes) fv (by omega)).mono ?_))
   rintro e jm ⟨rfl,dr⟩
   refine⟨_,rfl,?_⟩
   refine gS (Yk.alloc PP fun b7 fw cv ds bg jn=> ?_)
   have hE:=hE.trans dr
   have hZ1:=dq.trans dr
   have o:=o.trans hZ1
   have cw:=hE.size
   have hb11l:=hb11l.keep hZ1
   have jo:=Aw hb11l.lt cv
   have jp:=o.size
   have hb38l:=eb o hb38l
   have jq:=Aw (bl hb38l) cv
   have f:=eb hZ1 f
   have jr:=Aw (bl f) cv
   have hr_vb:=Stab.own _ _ _ _ _ _ _ _ hr_vb o
   have dt:OB vb b7:=AQ hr_vb (by omega)
   have hr_vi:=hr_vi.keep o
   have du:OB vi b7:=AQ hr_vi.2 (by omega)
   have an:=ds;clear ds
   have js:b7<fw.heap.size:=by omega
   refine gS (Yk.storeAll (vr (PQ b7 0) rfl) (vr (AB (Sha.sum (p.bytes))) rfl) an (by exact BQ (Sha.sum_length _) List.length_replicate) (by exact Ag (Sha.sum_length _)) (Ai _) fun fx dv bh jt=> ?_)
   have hb11l:=hb11l.keep bg
   have hb11l:=MapF.other hb11l bh (Ao (by omega))
   clear an
   have an:=dv;clear dv
   have ju:=bl an
   rw[if_neg (by omega)]at hst
   by_cases hin:Sha.sum p.bytes∈s.ids
   ·rw[if_pos hin]at hst
    obtain⟨q,hq,-⟩:=DE s.ids s.places (Sha.sum p.bytes) (by omega) hin
    refine gS (Yk.loadAll rfl an QJ rfl (by exact Ag (Sha.sum_length _)) (gS (Yk.lookOkS (ek:=rk) (ev:=NI) (D:=(fun id:List UInt8=>id.length=32)) B4 B5 (fun _ _=>BY) Et (z:=NI 0) Gm T5 rfl hb11l (Sha.sum_length _) (show Bd s _=some q from hq) (gS (Yk.extract (vs:= [NI q, .bool (true)]) rfl rfl (gS (Yk.extract (vs:= [NI q, .bool (true)]) rfl rfl (cT rfl (BO rfl (vr (Value.slice none 0 0) rfl) (vr (NI 11) rfl) ?_)))))))))
    rw[D2 (by omega) hst]
    have hE:=hE.trans bg
    have hE:=Aa hE bh (Nat.le_trans cw (by omega))
    exact⟨_,rfl,RB.nil _,hE⟩
   rw[if_neg hin]at hst
   have hq:=CA s.ids s.places (Sha.sum p.bytes) hin
   have f:=eb bg f
   have f:=kb bh f (by omega)
   refine gS (Yk.loadAll rfl an QJ rfl (by exact Ag (Sha.sum_length _)) (gS (Yk.lookOkN (ek:=rk) (ev:=NI) (D:=(fun id:List UInt8=>id.length=32)) B4 B5 (fun _ _=>BY) Et (z:=NI 0) Gm T5 rfl hb11l (Sha.sum_length _) (show Bd s _=none from hq) (gS (Yk.extract (vs:= [NI 0, .bool (false)]) rfl rfl (gS (Yk.extract (vs:= [NI 0, .bool (false)]) rfl rfl (cF rfl (gS (Yk.fieldAt BG rfl (gS (Yk.cell1 PJ rfl rfl (cellAt f rfl) (gS (Yk.eqI rfl rfl (Gy _ .i64 (p.base:Int) ((0:Nat):Int)) (kF (by omega) ?_)))))))))))))))
   obtain⟨d2,hd2⟩:∃d2,d2=s.depths++Ec p s :: List.replicate (ps.length-i-1) 0:=⟨_,rfl⟩
   have hb38l:=eb bg hb38l
   have hb38l:=kb bh hb38l (by omega)
   have hb38l:fx.heap[ab]? =some (.cells (d2.map fun x=>NI x).toArray 3 (0,0)):=AE hb38l (congrArg (List.map fun x=>NI x) (by rw[hd2,hdl,show ps.length-i=(ps.length-i-1)+1 by omega];unfold Ec;rw[if_pos hC0];rfl))
   have hdv:d2.getD i 0=Ec p s:=by rw[hd2,List.getD_eq_getElem?_getD,List.getElem?_append_right (by omega),hBd,Nat.sub_self];simp
   have hd2l:d2.length=ps.length:=by rw[hd2,List.length_append,List.length_cons,List.length_replicate];omega
   refine cF rfl (gS (Yk.atSl0 (i:=i) JM Gk T7 ad (by omega) (gS (Yk.cell1 PJ rfl rfl (cellAt hb38l (Fx (i:=i) (by omega))) (gS (Yk.eqI (a:=((d2).getD (i) 0:Nat)) (b:=(50:Nat)) rfl rfl (Av _ _ _ _) ?_))))))
   refine cD rfl (fun a0=> ?_) fun a0=> ?_
   ·refine BO rfl (vr (Value.slice none 0 0) rfl) (vr (NI 17) rfl) ?_
    rw[hdv]at a0
    rw[if_pos a0]at hst
    rw[D2 (by omega) hst]
    have hE:=hE.trans bg
    have hE:=Aa hE bh (Nat.le_trans cw (by omega))
    exact⟨_,rfl,RB.nil _,hE⟩
   rw[hdv]at a0
   rw[if_neg a0]at hst
   have hst3:=hst
   have hr_vb:=Stab.own _ _ _ _ _ _ _ _ hr_vb bg
   have hr_vb:=AY hr_vb bh dt
   refine gS (Yk.loadAll rfl an QJ rfl (by exact Ag (Sha.sum_length _)) (gS (Yk.lenRB EX (RB.of (RB.ofOwn hr_vb) T4) (gS (Yk.putM (ek:=rk) (ev:=NI) (D:=(fun id:List UInt8=>id.length=32)) (c:=(s.b:List UInt8).length) B4 B5 Et T5 (vr (AB (Sha.sum (p.bytes))) rfl) (vr (NI ((s.b:List UInt8).length)) rfl) hb11l (Sha.sum_length _) fun fy a4 bw jv=> ?_)))))
   clear hb11l
   have jw:n8<fy.heap.size:=a4.lt
   have an:=kb bw an (by omega)
   refine gS (Yk.loadAll rfl an QJ rfl (by exact Ag (Sha.sum_length _)) (gS (Yk.lit1G (a:=(Sha.sum (p.bytes))) (enc:=Lib.byteCells) (vr (AB (Sha.sum (p.bytes))) rfl) (by rw[Lib.byteCells_length];exact(Sha.sum_length _)) Ll fun fz f0 dw bo=> ?_)))
   have hE:=hE.trans bg
   have hE:=Aa hE bh (Nat.le_trans cw (by omega))
   have hE:=Aa hE bw (Nat.le_trans db (by omega))
   have hE:=hE.trans bo
   have hr_vi:=hr_vi.keep bg
   have hr_vi:=OG.kept hr_vi bh du
   have hr_vi:=OG.kept hr_vi bw hap_vi_n8
   have hr_vi:=hr_vi.keep bo
   refine gS (Yk.appendRG _ _ w.heap.size _ 32 Lc pk6_ig38.choose_spec.1 pk6_ig38.choose_spec.2 Lc (s.ids) ([(Sha.sum (p.bytes))]) (OG.of hr_vi T6) (RG.of dw (vr fz rfl)) (fun _ _=>Ai _) (by simp only[List.length_cons,List.length_nil];omega) (by simp only[List.length_cons,List.length_nil];omega) hE.size fun a8 u cj a1=> ?_)
   have a1:Grew f0 u vi a8:= .eqv T6 a1
   have a4:=a4.keep bo
   have f1:OB a8 n8:=An a1 hap_vi_n8 a4.lt
   have hr_vb:=AY hr_vb bw hap_vb_n8
   have hr_vb:=Stab.own _ _ _ _ _ _ _ _ hr_vb bo
   have f2:Am a8 vb:=AJ a1 hap_vi_vb hr_vb
   have dx:Am vb a8:=fun k h1 h2=>f2 k h2 h1
   have hb38l:=kb bw hb38l (by omega)
   have hb38l:=eb bo hb38l
   have f3:OB a8 ab:=An a1 hap_vi_n24 (bl hb38l)
   have f:=kb bw f (by omega)
   have f:=eb bo f
   have an:=eb bo an
   have hE:=Af hE a1 hr_vi.2 (Nat.le_refl _)
   have hr_vb:=B7 hr_vb a1 hap_vi_vb
   have hb38l:=Ak hb38l a1 hap_vi_n24
   have f:=Ak f a1 dk
   have an:=Ak an a1 du
   have a4:=MapF.grew a4 a1 hap_vi_n8
   clear dw
   clear hr_vi
   refine gS (Yk.fieldAt Ch rfl (gS (Yk.cell1 EX rfl rfl (cellAt f rfl) (gS (Yk.lenRB EX (RB.of (hpr.keep hE) rfl) (gS (Yk.bin (xv:=NI s.total) (yv:=NI ((p.bytes:List UInt8).length)) T8 rfl rfl (Ac _ _ _ (by omega)) (gS (Yk.fieldAt BG rfl (gS (Yk.cell1 PJ rfl rfl (cellAt f rfl) (gS (Yk.eqI rfl rfl (Fa _ .i64 (p.base:Int) ((0:Nat):Int)) (kT (by omega) (cT rfl (gR ?_))))))))))))))))
   have f4:∀k,Value.ownBlock vb=some k→w.heap.size≤k:=fun k hk=>(hr_vb.lt k hk).1
   have hsz_:w.heap.size≤u.heap.size:=hE.size
   refine DZ (Value.ownBlock vb) [2] [0] (fun m=>if m=2 then [0,1]else []) (fun m=>if m=2 then [0,1,2,6,7]else []) [fun x w' =>ED w.heap.size u.heap.size 5 (Value.ownBlock vb) (s.b) x w',fun x w' =>RB w' x (([0]:List UInt8)),fun x w' =>ED w.heap.size u.heap.size 5 (Value.ownBlock vb) ((s.b:List UInt8)++(([0]:List UInt8):List UInt8)) x w',Is (PQ am 0),Is (p.v),Is (St (p.bytes)),fun x w' =>ED w.heap.size u.heap.size 5 (Value.ownBlock vb) (((s.b:List UInt8)++(([0]:List UInt8):List UInt8):List UInt8)++Bb (p.bytes:List UInt8)) x w',fun x w' =>ED w.heap.size u.heap.size 5 (Value.ownBlock vb) (((s.b:List UInt8)++(([0]:List UInt8):List UInt8):List UInt8)++Bb (p.bytes:List UInt8)) x w'] (by kernel_rfl) [92,93,94,95,96,97,98,4] (by kernel_rfl) (by kernel_rfl) (by kernel_rfl) (by kernel_rfl) (by kernel_rfl) rfl ⟨(fun _ _ _ h k=>⟨Stab.own _ _ _ _ _ _ _ _ h.1 k,h.2⟩),(fun _ _ _ h k=>RB.keep h k),(fun _ _ _ h k=>⟨Stab.own _ _ _ _ _ _ _ _ h.1 k,h.2⟩),Stab.is _,Stab.is _,Stab.is _,(fun _ _ _ h k=>⟨Stab.own _ _ _ _ _ _ _ _ h.1 k,h.2⟩),(fun _ _ _ h k=>⟨Stab.own _ _ _ _ _ _ _ _ h.1 k,h.2⟩),trivial⟩ ⟨⟨.inl rfl, .inl rfl, .inl rfl, .inr (Stab.is _), .inr (Stab.is _), .inr (Stab.is _), .inl rfl, .inl rfl,trivial⟩,trivial⟩ ?f5 ?hQ4025
   case f5=>
    refine⟨?_,?_,?_,?_,?_,?_,?_,?_,trivial⟩
    ·refine Aj rfl fun σ w1 hC h=> ?_
     have hX:Ext u w1:=hC
     have hC:BX u.heap.size (Value.ownBlock vb) u w1:=BX.ofExt hX (Nat.le_refl _)
     have e4:=(AI (h 4 (by decide))).trans T4
     exact Yk.move e4 ⟨Ext.refl _,Stab.own _ _ _ _ _ _ _ _ hr_vb hX,fun k hk=> .inl hk⟩
    ·refine Aj rfl fun σ w1 hC h=> ?_
     have hC:BX u.heap.size (Value.ownBlock vb) u w1:=hC
     exact Yk.litN (e:=5) ([0]:List UInt8) (by decide) (fun _ _=>by kernel_rfl) fun v w2 hN=>⟨hN.ext,hN.rb⟩
    ·refine Aj rfl fun σ w1 hC h=> ?_
     have hC:BX u.heap.size (Value.ownBlock vb) u w1:=hC
     have cy:(fun x w' =>ED w.heap.size u.heap.size 5 (Value.ownBlock vb) (s.b) x w') (σ 92) w1:=h 92 (by decide)
     have f6:(fun x w' =>RB w' x (([0]:List UInt8))) (σ 93) w1:=h 93 (by decide)
     exact Yk.appendRB _ _ w.heap.size (.int .u8 0) EX IP rfl EX (s.b) (([0]:List UInt8)) cy.1 f6 (by simp only[List.length_cons,List.length_nil];omega) (Nat.le_trans hsz_ hC.size) fun v w2 ho hg=>⟨BX.ofGrown hg.by_ hC.size cy.2,ho,fun k hk=>(hg.fresh k hk).elim (cy.2 k) (fun x=> .inr (Nat.le_trans hC.size x))⟩
    ·refine Aj rfl fun σ w1 hC h=> ?_
     have hC:BX u.heap.size (Value.ownBlock vb) u w1:=hC
     have b8:σ 10=PQ am 0:=(AI (h 10 (by decide))).trans rfl
     exact Yk.fieldAt Ch b8 ⟨Ext.refl _,rfl⟩
    ·refine Aj rfl fun σ w1 hC h=> ?_
     have hC:BX u.heap.size (Value.ownBlock vb) u w1:=hC
     have f7:=AI (h 95 (by decide))
     exact Yk.cell1 EX rfl f7 (cellAt (BX.blk hC f ci) (show _=some (p.v:Value)from rfl)) ⟨Ext.refl _,rfl⟩
    ·refine Aj rfl fun σ w1 hC h=> ?_
     have hC:BX u.heap.size (Value.ownBlock vb) u w1:=hC
     have f8:=AI (h 96 (by decide))
     exact Yk.convRB EX u5 MH (RB.of (hpr.keep (Db hE hC (by omega) (fun k hk=>by have:=f4 k hk;omega))) f8) ⟨Ext.refl _,rfl⟩
    ·refine Aj rfl fun σ w1 hC h=> ?_
     have hC:BX u.heap.size (Value.ownBlock vb) u w1:=hC
     have f9:(fun x w' =>ED w.heap.size u.heap.size 5 (Value.ownBlock vb) ((s.b:List UInt8)++(([0]:List UInt8):List UInt8)) x w') (σ 94) w1:=h 94 (by decide)
     have ga:=AI (h 97 (by decide))
     refine Yk.callA2 Lm rfl ga ((Lk _ (σ 94) ((s.b:List UInt8)++(([0]:List UInt8):List UInt8)) (RB.ofOwn f9.1) (p.bytes) (by simp only[List.length_append,List.length_cons,List.length_nil];omega)).mono ?_)
     rintro e w2 ⟨v,rfl,hN⟩
     exact⟨_,rfl,hN.ext,CS hN.own (Nat.le_trans hsz_ hC.size),fun k hk=> .inr (Nat.le_trans hC.size (hN.own.lt k hk).1)⟩
    ·refine Aj rfl fun σ w1 hC h=> ?_
     have hC:BX u.heap.size (Value.ownBlock vb) u w1:=hC
     have gb:(fun x w' =>ED w.heap.size u.heap.size 5 (Value.ownBlock vb) (((s.b:List UInt8)++(([0]:List UInt8):List UInt8):List UInt8)++Bb (p.bytes:List UInt8)) x w') (σ 98) w1:=h 98 (by decide)
     exact Yk.assign rfl ⟨Ext.refl _,gb⟩
   intro dy dz gc he hf
   obtain⟨-,-,-,-,-,-,-,k4,-⟩:=hf
   obtain⟨T0,T5,T6,T7,T8,T9,ge,gf,gg,aq,ar,ad,gh,gi,gj,gk,-⟩:=he.hold [(0,_),(5,_),(6,a8),(7,_),(8,NI ((s.total)+((p.bytes:List UInt8).length))),(9,_),(10,PQ am 0),(11,PQ b7 0),(13, .bool (false)),(28,_),(29,_),(30,_),(47, .bool (false)),(58, .bool (false)),(61, .bool (false)),(91, .bool (true))] ⟨T0,T5,rfl,T7,rfl,ad,rfl,rfl,rfl,aq,ar,ad,rfl,rfl,rfl,rfl,trivial⟩ rfl
   clear he
   have k4:(fun x w' =>ED w.heap.size u.heap.size 5 (Value.ownBlock vb) (((s.b:List UInt8)++(([0]:List UInt8):List UInt8):List UInt8)++Bb (p.bytes:List UInt8)) x w') (dy 4) dz:=k4
   obtain⟨bx,T4⟩:∃v,dy 4=v:=⟨_,rfl⟩
   rw[T4]at k4
   have a9:Grew u dz vb bx:=⟨gc.grown,k4.2⟩
   have gl:=k4.1;clear k4
   have gm:OB bx n8:=An a9 hap_vb_n8 a4.lt
   have gn:OB bx ab:=An a9 hap_vb_n24 (bl hb38l)
   have d0:Am bx a8:=AJ a9 dx cj.2
   have go:Am a8 bx:=fun k h1 h2=>d0 k h2 h1
   have hE:=Af hE a9 hr_vb (Nat.le_refl _)
   have hb38l:=Ak hb38l a9 hap_vb_n24
   have f:=Ak f a9 ci
   have an:=Ak an a9 dt
   have a4:=MapF.grew a4 a9 hap_vb_n8
   have cj:=A4 cj a9 dx
   clear hr_vb
   refine gX ?_
   have hbn:(bnext ps p s).b=s.b++ [0]++Bb p.bytes:=by unfold bnext;simp only;rw[if_pos hC0]
   refine gS (Yk.bin (xv:=NI i) (yv:=NI 1) ad rfl rfl (Ac _ _ _ (by omega)) ?_)
   have hdep:d2=(bnext ps p s).depths++List.replicate (ps.length-(i+1)) 0:=by rw[hd2];simp only[bnext,List.append_assoc,List.singleton_append,Nat.sub_sub]
   refine gK (And.intro ⟨i+1,bnext ps p s,bx,a8,T0,T5,T7,aq,ar,rfl,T8,T4,T6,hE,Bn gl (by rw[hbn]),Bo cj (rfl),CU a4 ((Hu hB hin).symm),AE hb38l (congrArg (List.map fun x=>NI x) hdep),hst3,by omega,gm,d0,gn,f1,go,f3,trivial⟩ ?_)
   show ps.length-(intOf (NI ((i)+(1)))).toNat<ps.length-(intOf (df 30)).toNat
   rw[q30]
   simp only[intOf,Int.toNat_natCast];omega
  have o:=o.trans b5
  have o:=Aa o b6 (Nat.le_trans (Nat.le_refl _) (by omega))
  have hE:=hE.trans o
  obtain⟨m,hm⟩:∃m:Nat,p.base=(m:Int):=⟨p.base.toNat,by omega⟩
  have hmi:m<i:=by omega
  have f:dm.heap[am]? =some (.cells ([p.v,NI m]).toArray 55 (0,0)):=AE f (by rw[hm])
  refine gS (Yk.fieldAt Ch rfl (gS (Yk.cell1 EX rfl rfl (cellAt f rfl) (gS (Yk.lenRB EX (RB.of (hpr.keep hE) rfl) (gS (Yk.eqI (a:=((p.bytes:List UInt8).length:Nat)) (b:=(262144:Nat)) rfl rfl (Av _ _ _ _) ?_)))))))
  refine cD rfl (fun az=> ?_) fun az=> ?_
  ·exact absurd az (by omega)
  refine gS (Yk.fieldAt BG rfl (gS (Yk.cell1 PJ rfl rfl (cellAt f rfl) (gS (Yk.eqI rfl rfl (Fa _ .i64 ((m:Nat):Int) (-1:Int)) (kF (by omega) (gS (Yk.fieldAt BG rfl (gS (Yk.cell1 PJ rfl rfl (cellAt f rfl) (gS (Yk.eqI (a:=(m:Nat)) (b:=(i:Nat)) rfl ad (DB _ _ _ _) (kF (by omega) (gS (Yk.pickF rfl rfl (cF rfl (gS (Yk.fieldAt Ch rfl (gS (Yk.cell1 EX rfl rfl (cellAt f rfl) (gS (Yk.rows1 FA (RB.of (hpr.keep hE) (vr p.v rfl)) fun gp jx gq d1=> ?_))))))))))))))))))))))
  have hE:=hE.trans d1
  refine gS (Yk.callA1 Iy rfl ((EM _ (hG.keep hE) gp (p.bytes) gq (by omega)).mono ?_))
  rintro e jy ⟨rfl,d3⟩
  refine⟨_,rfl,?_⟩
  refine gS (Yk.alloc PP fun bp gr cz d4 bi jz=> ?_)
  have hE:=hE.trans d3
  have hZ2:=d1.trans d3
  have o:=o.trans hZ2
  have c0:=hE.size
  have hb11l:=hb11l.keep hZ2
  have j0:=Aw hb11l.lt cz
  have j1:=o.size
  have hb38l:=eb o hb38l
  have j2:=Aw (bl hb38l) cz
  have f:=eb hZ2 f
  have j3:=Aw (bl f) cz
  have hr_vb:=Stab.own _ _ _ _ _ _ _ _ hr_vb o
  have c1:OB vb bp:=AQ hr_vb (by omega)
  have hr_vi:=hr_vi.keep o
  have d5:OB vi bp:=AQ hr_vi.2 (by omega)
  have t:=d4;clear d4
  have j4:bp<gr.heap.size:=by omega
  refine gS (Yk.storeAll (vr (PQ bp 0) rfl) (vr (AB (Sha.sum (p.bytes))) rfl) t (by exact BQ (Sha.sum_length _) List.length_replicate) (by exact Ag (Sha.sum_length _)) (Ai _) fun j5 d6 bj j6=> ?_)
  have hb11l:=hb11l.keep bi
  have hb11l:=MapF.other hb11l bj (Ao (by omega))
  clear t
  have t:=d6;clear d6
  have j7:=bl t
  rw[if_neg (by omega)]at hst
  by_cases hin:Sha.sum p.bytes∈s.ids
  ·rw[if_pos hin]at hst
   obtain⟨q,hq,-⟩:=DE s.ids s.places (Sha.sum p.bytes) (by omega) hin
   refine gS (Yk.loadAll rfl t QJ rfl (by exact Ag (Sha.sum_length _)) (gS (Yk.lookOkS (ek:=rk) (ev:=NI) (D:=(fun id:List UInt8=>id.length=32)) B4 B5 (fun _ _=>BY) Et (z:=NI 0) Gm T5 rfl hb11l (Sha.sum_length _) (show Bd s _=some q from hq) (gS (Yk.extract (vs:= [NI q, .bool (true)]) rfl rfl (gS (Yk.extract (vs:= [NI q, .bool (true)]) rfl rfl (cT rfl (BO rfl (vr (Value.slice none 0 0) rfl) (vr (NI 11) rfl) ?_)))))))))
   rw[D2 (by omega) hst]
   have hE:=hE.trans bi
   have hE:=Aa hE bj (Nat.le_trans c0 (by omega))
   exact⟨_,rfl,RB.nil _,hE⟩
  rw[if_neg hin]at hst
  have hq:=CA s.ids s.places (Sha.sum p.bytes) hin
  have hb38l:=eb bi hb38l
  have hb38l:=kb bj hb38l (by omega)
  have f:=eb bi f
  have f:=kb bj f (by omega)
  refine gS (Yk.loadAll rfl t QJ rfl (by exact Ag (Sha.sum_length _)) (gS (Yk.lookOkN (ek:=rk) (ev:=NI) (D:=(fun id:List UInt8=>id.length=32)) B4 B5 (fun _ _=>BY) Et (z:=NI 0) Gm T5 rfl hb11l (Sha.sum_length _) (show Bd s _=none from hq) (gS (Yk.extract (vs:= [NI 0, .bool (false)]) rfl rfl (gS (Yk.extract (vs:= [NI 0, .bool (false)]) rfl rfl (cF rfl (gS (Yk.fieldAt BG rfl (gS (Yk.cell1 PJ rfl rfl (cellAt f rfl) (gS (Yk.eqI (a:=(m:Nat)) (b:=(0:Nat)) rfl rfl (DB _ _ _ _) (kT (Nat.zero_le _) (cT rfl (gS (Yk.fieldAt BG rfl (gS (Yk.cell1 PJ rfl rfl (cellAt f rfl) (gS (Yk.atSl0 (i:=m) JM Gk T7 rfl (by omega) (gS (Yk.cell1 PJ rfl rfl (cellAt hb38l (Fx (i:=m) (by omega))) (gS (Yk.bin (xv:=NI ((dl).getD (m) 0)) (yv:=NI 1) rfl rfl rfl (Ac _ _ _ (by have:=hB.dp _ (getD_mem 0 (l:=s.depths) (i:=m) (by omega));rw[hdg m hmi];omega)) (gS (Yk.atSl0 (i:=i) JM Gk T7 ad (by omega) (gS (Yk.storeN (i:=i) (v:=((dl).getD (m) 0)+(1)) rfl rfl hb38l (by omega) Ld fun gs d7 bq j8=> ?_))))))))))))))))))))))))))))))
  have hb11l:=MapF.other hb11l bq (Ao (by omega))
  clear hb38l
  have hb38l:=d7;clear d7
  have j9:=bl hb38l
  obtain⟨d2,hd2⟩:∃d2,d2=s.depths++Ec p s :: List.replicate (ps.length-i-1) 0:=⟨_,rfl⟩
  have hb38l:gs.heap[ab]? =some (.cells (d2.map fun x=>NI x).toArray 3 (0,0)):=AE hb38l (congrArg (List.map fun x=>NI x) (by rw[hd2,hdg m hmi,hdl,List.set_append_right _ _ (by omega),hBd,Nat.sub_self,show ps.length-i=(ps.length-i-1)+1 by omega];unfold Ec;rw[if_neg hC0,hm,Int.toNat_natCast];rfl))
  have hdv:d2.getD i 0=Ec p s:=by rw[hd2,List.getD_eq_getElem?_getD,List.getElem?_append_right (by omega),hBd,Nat.sub_self];simp
  have hd2l:d2.length=ps.length:=by rw[hd2,List.length_append,List.length_cons,List.length_replicate];omega
  refine gS (Yk.atSl0 (i:=i) JM Gk T7 ad (by omega) (gS (Yk.cell1 PJ rfl rfl (cellAt hb38l (Fx (i:=i) (by omega))) (gS (Yk.eqI (a:=((d2).getD (i) 0:Nat)) (b:=(50:Nat)) rfl rfl (Av _ _ _ _) ?_)))))
  refine cD rfl (fun a0=> ?_) fun a0=> ?_
  ·refine BO rfl (vr (Value.slice none 0 0) rfl) (vr (NI 17) rfl) ?_
   rw[hdv]at a0
   rw[if_pos a0]at hst
   rw[D2 (by omega) hst]
   have hE:=hE.trans bi
   have hE:=Aa hE bj (Nat.le_trans c0 (by omega))
   have hE:=Aa hE bq (Nat.le_trans dd (by omega))
   exact⟨_,rfl,RB.nil _,hE⟩
  rw[hdv]at a0
  rw[if_neg a0]at hst
  have hst3:=hst
  have hr_vb:=Stab.own _ _ _ _ _ _ _ _ hr_vb bi
  have hr_vb:=AY hr_vb bj c1
  have hr_vb:=AY hr_vb bq hap_vb_n24
  have t:=kb bq t (by omega)
  refine gS (Yk.loadAll rfl t QJ rfl (by exact Ag (Sha.sum_length _)) (gS (Yk.lenRB EX (RB.of (RB.ofOwn hr_vb) T4) (gS (Yk.putM (ek:=rk) (ev:=NI) (D:=(fun id:List UInt8=>id.length=32)) (c:=(s.b:List UInt8).length) B4 B5 Et T5 (vr (AB (Sha.sum (p.bytes))) rfl) (vr (NI ((s.b:List UInt8).length)) rfl) hb11l (Sha.sum_length _) fun gt ac bz ka=> ?_)))))
  clear hb11l
  have kc:n8<gt.heap.size:=ac.lt
  have t:=kb bz t (by omega)
  refine gS (Yk.loadAll rfl t QJ rfl (by exact Ag (Sha.sum_length _)) (gS (Yk.lit1G (a:=(Sha.sum (p.bytes))) (enc:=Lib.byteCells) (vr (AB (Sha.sum (p.bytes))) rfl) (by rw[Lib.byteCells_length];exact(Sha.sum_length _)) Ll fun gu gv d8 br=> ?_)))
  have hE:=hE.trans bi
  have hE:=Aa hE bj (Nat.le_trans c0 (by omega))
  have hE:=Aa hE bq (Nat.le_trans dd (by omega))
  have hE:=Aa hE bz (Nat.le_trans db (by omega))
  have hE:=hE.trans br
  have hr_vi:=hr_vi.keep bi
  have hr_vi:=OG.kept hr_vi bj d5
  have hr_vi:=OG.kept hr_vi bq hap_vi_n24
  have hr_vi:=OG.kept hr_vi bz hap_vi_n8
  have hr_vi:=hr_vi.keep br
  refine gS (Yk.appendRG _ _ w.heap.size _ 32 Lc pk6_ig38.choose_spec.1 pk6_ig38.choose_spec.2 Lc (s.ids) ([(Sha.sum (p.bytes))]) (OG.of hr_vi T6) (RG.of d8 (vr gu rfl)) (fun _ _=>Ai _) (by simp only[List.length_cons,List.length_nil];omega) (by simp only[List.length_cons,List.length_nil];omega) hE.size fun ax d9 ae a2=> ?_)
  have a2:Grew gv d9 vi ax:= .eqv T6 a2
  have ac:=ac.keep br
  have gw:OB ax n8:=An a2 hap_vi_n8 ac.lt
  have hr_vb:=AY hr_vb bz hap_vb_n8
  have hr_vb:=Stab.own _ _ _ _ _ _ _ _ hr_vb br
  have gx:Am ax vb:=AJ a2 hap_vi_vb hr_vb
  have ea:Am vb ax:=fun k h1 h2=>gx k h2 h1
  have hb38l:=kb bz hb38l (by omega)
  have hb38l:=eb br hb38l
  have gy:OB ax ab:=An a2 hap_vi_n24 (bl hb38l)
  have f:=kb bq f (by omega)
  have f:=kb bz f (by omega)
  have f:=eb br f
  have t:=eb br t
  have hE:=Af hE a2 hr_vi.2 (Nat.le_refl _)
  have hr_vb:=B7 hr_vb a2 hap_vi_vb
  have f:=Ak f a2 dk
  have t:=Ak t a2 d5
  have hb38l:=Ak hb38l a2 hap_vi_n24
  have ac:=MapF.grew ac a2 hap_vi_n8
  clear d8
  clear hr_vi
  refine gS (Yk.fieldAt Ch rfl (gS (Yk.cell1 EX rfl rfl (cellAt f rfl) (gS (Yk.lenRB EX (RB.of (hpr.keep hE) rfl) (gS (Yk.bin (xv:=NI s.total) (yv:=NI ((p.bytes:List UInt8).length)) T8 rfl rfl (Ac _ _ _ (by omega)) (gS (Yk.fieldAt BG rfl (gS (Yk.cell1 PJ rfl rfl (cellAt f rfl) (gS (Yk.eqI (a:=(m:Nat)) (b:=(0:Nat)) rfl rfl (Ah _ _ _ _) (kF (by omega) ?_))))))))))))))
  have hm32:(s.ids.getD m []).length=32:=hB.len _ (getD_mem [] (by omega))
  have hpq:=(hps _ (getD_mem AH (l:=ps) (i:=m) (by omega))).1
  have hql:=hL.2 _ (getD_mem AH (l:=ps) (i:=m) (by omega))
  have hmk:=Hp (ps.getD m AH).bytes p.bytes (by omega) (by omega)
  refine cF rfl (gS (Yk.fieldAt BG rfl (gS (Yk.cell1 PJ rfl rfl (cellAt f rfl) ?_))))
  have c2:(Lib.byteCells (((s.ids)++ [(Sha.sum (p.bytes))]).getD (m) ([]:List UInt8))).length=32:=(RG.elem (RG.ofOwn ae) ([]:List UInt8) (by rw[List.length_append];omega))
  refine gS (Yk.atRG Lc Og (by decide) ([]:List UInt8) (RG.of (RG.ofOwn ae) rfl) rfl (by rw[List.length_append];omega) fun kd ec=>(gS (Yk.loadPR (PR.of ec rfl) QJ rfl (by rw[c2];exact N2) (gS (Yk.alloc PP fun ba gz cl ed c3 ke=> ?_)))))
  have ay:=Ext.refl d9
  have kf:=hE.size
  have kg:=Aw (bl f) cl
  have kh:=Aw (bl t) cl
  have ki:=Aw (bl hb38l) cl
  have kj:=Aw ac.lt cl
  have ee:OB vb ba:=AQ hr_vb (by omega)
  have g0:OB ax ba:=AQ ae.2 (by omega)
  have ah:=ed;clear ed
  have kk:ba<gz.heap.size:=by omega
  refine gS (Yk.storeAll (vr (PQ ba 0) rfl) (vr (AB (((s.ids)++ [(Sha.sum (p.bytes))]).getD (m) ([]:List UInt8))) rfl) ah (by exact BQ (As (c2)) List.length_replicate) (by exact Ag (As (c2))) (Ai _) fun g1 ef c4 kl=> ?_)
  have ac:=ac.keep c3
  have ac:=MapF.other ac c4 (Ao (by omega))
  clear ah
  have ah:=ef;clear ef
  have km:=bl ah
  clear ec
  have ah:g1.heap[ba]? =some (.cells (Lib.byteCells (s.ids.getD m [])).toArray 38 (0,0)):=AE ah (congrArg Lib.byteCells (by rw[List.getD_eq_getElem?_getD,List.getElem?_append_left (by omega),←List.getD_eq_getElem?_getD]))
  refine Bw [0,3,1,2,4,5] [1,2,4,5] [3] fun kn cm=>(yp (Yk.sliceArr QJ M4 rfl zz) (yC (Yk.lit1 (b:=1) Od (vr (B8 (1)) rfl) fun cn g2 a5=> ?_)))
  have ay:=ay.trans c3
  have ay:=Aa ay c4 (Nat.le_trans (Nat.le_refl _) (by omega))
  have ay:=ay.trans cm
  have hE:=hE.trans ay
  have ko:=hE.size
  have kp:=ay.size
  have f:=eb ay f
  have t:=eb ay t
  have hb38l:=eb ay hb38l
  have ac:=ac.keep cm
  have ah:=eb cm ah
  have hr_vb:=Stab.own _ _ _ _ _ _ _ _ hr_vb ay
  have eg:Am vb cn:=B3 hr_vb a5.own
  have ae:=ae.keep c3
  have ae:=OG.kept ae c4 g0
  have ae:=ae.keep cm
  have bb:=a5.own
  have hE:=hE.trans a5.ext
  have hr_vb:=Stab.own _ _ _ _ _ _ _ _ hr_vb a5.ext
  refine yC (Yk.appendRB _ _ w.heap.size (.int .u8 0) EX IP rfl EX (s.b) ([(1:UInt8)]) (BA hr_vb T4) (RB.of (RB.ofOwn bb) (vr cn rfl)) (by simp only[List.length_cons,List.length_nil];omega) hE.size fun a6 eh c5 ai=> ?_)
  have ai:Grew g2 eh vb a6:= .eqv T4 ai
  have ac:=ac.keep a5.ext
  have ei:OB a6 n8:=An ai hap_vb_n8 ac.lt
  have hb38l:=eb a5.ext hb38l
  have ej:OB a6 ab:=An ai hap_vb_n24 (bl hb38l)
  have f:=eb a5.ext f
  have el:OB a6 am:=An ai ci (bl f)
  have t:=eb a5.ext t
  have em:OB a6 bp:=An ai c1 (bl t)
  have ae:=ae.keep a5.ext
  have en:Am a6 ax:=AJ ai ea ae.2
  have ah:=eb a5.ext ah
  have eo:OB a6 ba:=An ai ee (bl ah)
  have ep:Am a6 cn:=AJ ai eg bb
  have hE:=Af hE ai hr_vb (Nat.le_refl _)
  have f:=Ak f ai ci
  have t:=Ak t ai c1
  have hb38l:=Ak hb38l ai hap_vb_n24
  have ac:=MapF.grew ac ai hap_vb_n8
  have ae:=A4 ae ai ea
  have ah:=Ak ah ai ee
  have bb:=B7 bb ai eg
  clear hr_vb
  refine yC (Yk.appendRB _ _ w.heap.size (.int .u8 0) EX IP rfl EX (s.b++ [(1:UInt8)]) (s.ids.getD m []) (BA c5 (vr a6 rfl)) (RB.of (RB.ofBlkN ah hm32 (by decide)) (vr (.slice (some ⟨ba,0,none⟩) 32 32) rfl)) (by simp only[List.length_append,List.length_cons,List.length_nil,hm32];omega) hE.size fun r g co aj=> ?_)
  have aj:Grew eh g a6 r:=aj
  have eq:OB r n8:=An aj ei ac.lt
  have er:OB r ab:=An aj ej (bl hb38l)
  have c6:OB r am:=An aj el (bl f)
  have g3:OB r bp:=An aj em (bl t)
  have es:Am r ax:=AJ aj en ae.2
  have g4:OB r ba:=An aj eo (bl ah)
  have g5:Am r cn:=AJ aj ep bb
  have hE:=Af hE aj c5 (Nat.le_refl _)
  have f:=Ak f aj el
  have t:=Ak t aj em
  have hb38l:=Ak hb38l aj ej
  have ac:=MapF.grew ac aj ei
  have ae:=A4 ae aj en
  have ah:=Ak ah aj eo
  have bb:=B7 bb aj ep
  clear c5
  refine yC (Yk.assign rfl (gR ?_))
  have c7:∀k,Value.ownBlock r=some k→w.heap.size≤k:=fun k hk=>(co.lt k hk).1
  have hsz_:w.heap.size≤g.heap.size:=hE.size
  refine DZ (Value.ownBlock r) [] [0] (fun m=> []) (fun m=> []) [fun x w' =>ED w.heap.size g.heap.size 5 (Value.ownBlock r) (s.b++ [(1:UInt8)]++s.ids.getD m []) x w',Is (v),Is (PQ am 1),Is (NI m),fun x w' =>PR (partC (ps.getD (m) AH)) x w',fun x w' =>PR (((partC (ps.getD (m) AH)).drop 0).take 1) x w',Is ((ps.getD (m) AH).v),Is (PQ am 0),Is (p.v),fun x w' =>RB w' x (BK ((ps.getD m AH).bytes) (p.bytes)),Is (St (BK ((ps.getD m AH).bytes) (p.bytes))),fun x w' =>ED w.heap.size g.heap.size 5 (Value.ownBlock r) ((s.b++ [(1:UInt8)]++s.ids.getD m []:List UInt8)++Bb (BK ((ps.getD m AH).bytes) (p.bytes):List UInt8)) x w',fun x w' =>ED w.heap.size g.heap.size 5 (Value.ownBlock r) ((s.b++ [(1:UInt8)]++s.ids.getD m []:List UInt8)++Bb (BK ((ps.getD m AH).bytes) (p.bytes):List UInt8)) x w'] (by kernel_rfl) [109,110,111,112,113,114,115,116,117,118,119,120,4] (by kernel_rfl) (by kernel_rfl) (by kernel_rfl) (by kernel_rfl) (by kernel_rfl) rfl ⟨(fun _ _ _ h k=>⟨Stab.own _ _ _ _ _ _ _ _ h.1 k,h.2⟩),Stab.is _,Stab.is _,Stab.is _,(fun _ _ _ h k=>PR.keep h k),(fun _ _ _ h k=>PR.keep h k),Stab.is _,Stab.is _,Stab.is _,(fun _ _ _ h k=>RB.keep h k),Stab.is _,(fun _ _ _ h k=>⟨Stab.own _ _ _ _ _ _ _ _ h.1 k,h.2⟩),(fun _ _ _ h k=>⟨Stab.own _ _ _ _ _ _ _ _ h.1 k,h.2⟩),trivial⟩ trivial ?g6 ?hQ5028
  case g6=>
   refine⟨?_,?_,?_,?_,?_,?_,?_,?_,?_,?_,?_,?_,?_,trivial⟩
   ·refine Aj rfl fun σ w1 hC h=> ?_
    have hX:Ext g w1:=hC
    have hC:BX g.heap.size (Value.ownBlock r) g w1:=BX.ofExt hX (Nat.le_refl _)
    have e4:σ 4=r:=(AI (h 4 (by decide))).trans rfl
    exact Yk.move e4 ⟨Ext.refl _,Stab.own _ _ _ _ _ _ _ _ co hX,fun k hk=> .inl hk⟩
   ·refine Aj rfl fun σ w1 hC h=> ?_
    have hC:BX g.heap.size (Value.ownBlock r) g w1:=hC
    have e0:=(AI (h 0 (by decide))).trans T0
    exact Yk.move e0 ⟨Ext.refl _,rfl⟩
   ·refine Aj rfl fun σ w1 hC h=> ?_
    have hC:BX g.heap.size (Value.ownBlock r) g w1:=hC
    have b8:σ 10=PQ am 0:=(AI (h 10 (by decide))).trans rfl
    exact Yk.fieldAt BG b8 ⟨Ext.refl _,rfl⟩
   ·refine Aj rfl fun σ w1 hC h=> ?_
    have hC:BX g.heap.size (Value.ownBlock r) g w1:=hC
    have g8:=AI (h 111 (by decide))
    exact Yk.cell1 PJ rfl g8 (cellAt (BX.blk hC f c6) (show _=some (NI m:Value)from rfl)) ⟨Ext.refl _,rfl⟩
   ·refine Aj rfl fun σ w1 hC h=> ?_
    have hC:BX g.heap.size (Value.ownBlock r) g w1:=hC
    have g9:=AI (h 110 (by decide))
    have ha:=AI (h 112 (by decide))
    exact Yk.atRG Fz JW (by decide) AH (RG.of (hr.keep (Db hE hC (by omega) (fun k hk=>by have:=c7 k hk;omega))) g9) ha (by omega) fun v h=>⟨Ext.refl _,h⟩
   ·refine Aj rfl fun σ w1 hC h=> ?_
    have hC:BX g.heap.size (Value.ownBlock r) g w1:=hC
    have hb:(fun x w' =>PR (partC (ps.getD (m) AH)) x w') (σ 113) w1:=h 113 (by decide)
    exact Yk.fieldPR (n:=1) Ch hb fun v h=>⟨Ext.refl _,h⟩
   ·refine Aj rfl fun σ w1 hC h=> ?_
    have hC:BX g.heap.size (Value.ownBlock r) g w1:=hC
    have hc:(fun x w' =>PR (((partC (ps.getD (m) AH)).drop 0).take 1) x w') (σ 114) w1:=h 114 (by decide)
    exact Yk.loadC EX rfl (PR.cell hc (show _=some ((ps.getD (m) AH).v:Value)from rfl)) ⟨Ext.refl _,rfl⟩
   ·refine Aj rfl fun σ w1 hC h=> ?_
    have hC:BX g.heap.size (Value.ownBlock r) g w1:=hC
    have b8:σ 10=PQ am 0:=(AI (h 10 (by decide))).trans rfl
    exact Yk.fieldAt Ch b8 ⟨Ext.refl _,rfl⟩
   ·refine Aj rfl fun σ w1 hC h=> ?_
    have hC:BX g.heap.size (Value.ownBlock r) g w1:=hC
    have hd:=AI (h 116 (by decide))
    exact Yk.cell1 EX rfl hd (cellAt (BX.blk hC f c6) (show _=some (p.v:Value)from rfl)) ⟨Ext.refl _,rfl⟩
   ·refine Aj rfl fun σ w1 hC h=> ?_
    have hC:BX g.heap.size (Value.ownBlock r) g w1:=hC
    have hh:=AI (h 115 (by decide))
    have hj:=AI (h 117 (by decide))
    refine Yk.callA2 P6 hh hj ((P0 _ ((ps.getD (m) AH).v) (p.v) ((ps.getD m AH).bytes) (p.bytes) (hpq.keep (Db hE hC (by omega) (fun k hk=>by have:=c7 k hk;omega))) (hpr.keep (Db hE hC (by omega) (fun k hk=>by have:=c7 k hk;omega))) (by omega) (by omega)).mono ?_)
    rintro e w2 ⟨_,rfl,hx,ho⟩
    exact⟨_,rfl,hx,RB.ofOwn ho⟩
   ·refine Aj rfl fun σ w1 hC h=> ?_
    have hC:BX g.heap.size (Value.ownBlock r) g w1:=hC
    have hl:(fun x w' =>RB w' x (BK ((ps.getD m AH).bytes) (p.bytes))) (σ 118) w1:=h 118 (by decide)
    exact Yk.convRB EX u5 MH hl ⟨Ext.refl _,rfl⟩
   ·refine Aj rfl fun σ w1 hC h=> ?_
    have hC:BX g.heap.size (Value.ownBlock r) g w1:=hC
    have hn:(fun x w' =>ED w.heap.size g.heap.size 5 (Value.ownBlock r) (s.b++ [(1:UInt8)]++s.ids.getD m []) x w') (σ 109) w1:=h 109 (by decide)
    have ht:=AI (h 119 (by decide))
    refine Yk.callA2 Lm rfl ht ((Lk _ (σ 109) (s.b++ [(1:UInt8)]++s.ids.getD m []) (RB.ofOwn hn.1) (BK ((ps.getD m AH).bytes) (p.bytes)) (by simp only[List.length_append,List.length_cons,List.length_nil,hm32];omega)).mono ?_)
    rintro e w2 ⟨v,rfl,hN⟩
    exact⟨_,rfl,hN.ext,CS hN.own (Nat.le_trans hsz_ hC.size),fun k hk=> .inr (Nat.le_trans hC.size (hN.own.lt k hk).1)⟩
   ·refine Aj rfl fun σ w1 hC h=> ?_
    have hC:BX g.heap.size (Value.ownBlock r) g w1:=hC
    have hu:(fun x w' =>ED w.heap.size g.heap.size 5 (Value.ownBlock r) ((s.b++ [(1:UInt8)]++s.ids.getD m []:List UInt8)++Bb (BK ((ps.getD m AH).bytes) (p.bytes):List UInt8)) x w') (σ 120) w1:=h 120 (by decide)
    exact Yk.assign rfl ⟨Ext.refl _,hu⟩
  intro et eu hv he hf
  obtain⟨-,-,-,-,-,-,-,-,-,-,-,-,k4,-⟩:=hf
  obtain⟨T0,T5,T6,T7,T8,T9,ge,gf,gg,kq,aq,ar,ad,gh,gi,gj,gk,-⟩:=he.hold [(0,_),(5,_),(6,ax),(7,_),(8,NI ((s.total)+((p.bytes:List UInt8).length))),(9,_),(10,PQ am 0),(11,PQ bp 0),(13, .bool (false)),(14,PQ ba 0),(28,_),(29,_),(30,_),(47, .bool (false)),(58, .bool (false)),(61, .bool (true)),(91, .bool (false))] ⟨T0,T5,rfl,T7,rfl,ad,rfl,rfl,rfl,rfl,aq,ar,ad,rfl,rfl,rfl,rfl,trivial⟩ rfl
  clear he
  have k4:(fun x w' =>ED w.heap.size g.heap.size 5 (Value.ownBlock r) ((s.b++ [(1:UInt8)]++s.ids.getD m []:List UInt8)++Bb (BK ((ps.getD m AH).bytes) (p.bytes):List UInt8)) x w') (et 4) eu:=k4
  obtain⟨b0,T4⟩:∃v,et 4=v:=⟨_,rfl⟩
  rw[T4]at k4
  have a3:Grew g eu r b0:=⟨hv.grown,k4.2⟩
  have hw:=k4.1;clear k4
  have hy:OB b0 n8:=An a3 eq ac.lt
  have hz:OB b0 ab:=An a3 er (bl hb38l)
  have ew:Am b0 ax:=AJ a3 es ae.2
  have h0:Am ax b0:=fun k h1 h2=>ew k h2 h1
  have hE:=Af hE a3 co (Nat.le_refl _)
  have f:=Ak f a3 c6
  have t:=Ak t a3 g3
  have hb38l:=Ak hb38l a3 er
  have ac:=MapF.grew ac a3 eq
  have ae:=A4 ae a3 es
  have ah:=Ak ah a3 g4
  have bb:=B7 bb a3 g5
  clear co
  refine gX ?_
  have hbn:(bnext ps p s).b=s.b++ [1]++s.ids.getD m []++Bb (BK (ps.getD m AH).bytes p.bytes):=by unfold bnext;simp only;rw[if_neg hC0,hm,Int.toNat_natCast]
  refine gS (Yk.bin (xv:=NI i) (yv:=NI 1) ad rfl rfl (Ac _ _ _ (by omega)) ?_)
  have hdep:d2=(bnext ps p s).depths++List.replicate (ps.length-(i+1)) 0:=by rw[hd2];simp only[bnext,List.append_assoc,List.singleton_append,Nat.sub_sub]
  refine gK (And.intro ⟨i+1,bnext ps p s,b0,ax,T0,T5,T7,aq,ar,rfl,T8,T4,T6,hE,Bn hw (by rw[hbn]),Bo ae (rfl),CU ac ((Hu hB hin).symm),AE hb38l (congrArg (List.map fun x=>NI x) hdep),hst3,by omega,hy,ew,hz,gw,h0,gy,trivial⟩ ?_)
  show ps.length-(intOf (NI ((i)+(1)))).toNat<ps.length-(intOf (df 30)).toNat
  rw[q30]
  simp only[intOf,Int.toNat_natCast];omega
 have hie:i=ps.length:=by omega
 have hfl:=Bi s.ids
 have hsl:=BL s.ids
 refine gS (Yk.lenRB EX (RB.of (RB.ofOwn hr_vb) T4) (gS (Yk.callA1 P7 T6 ((MB _ vi (s.ids) (RG.ofOwn hr_vi)).mono ?_))))
 rintro e kr ⟨rfl,b9⟩
 refine⟨_,rfl,?_⟩
 have hE:=hE.trans b9
 have hr_vb:=Stab.own _ _ _ _ _ _ _ _ hr_vb b9
 have hr_vi:=hr_vi.keep b9
 have hb11l:=hb11l.keep b9
 have hb38l:=eb b9 hb38l
 refine gL (fun(ρ:Ae) (wz:World)=>∃c:Nat,∃vc:Value,ρ 0=(v:Value)∧ρ 5=(.map (some n8):Value)∧ρ 6=(vi:Value)∧ρ 7=(.slice (some ⟨ab,0,none⟩) ps.length ps.length:Value)∧ρ 8=(NI s.total:Value)∧ρ 15=(NI ((s.b:List UInt8).length):Value)∧ρ 28=(v:Value)∧ρ 29=(NI ps.length:Value)∧ρ 30=(NI i:Value)∧ρ 125=(.agg ((AK (s.ids)).map fun x=>NI x).toArray:Value)∧ρ 126=(NI c:Value)∧ρ 4=(vc:Value)∧Ext w wz∧OG w.heap.size 38 32 (Lib.byteCells) wz vi (s.ids)∧MapF rk NI (fun id:List UInt8=>id.length=32) wz n8 (Bd s)∧wz.heap[ab]? =some (.cells (dl.map fun x=>NI x).toArray 3 (0,0))∧wz.ownsRow w.heap.size 5 1 vc (s.b++((AK s.ids).take c).flatMap Az:List UInt8).length (Lib.byteCells (s.b++((AK s.ids).take c).flatMap Az))∧(c≤256)∧(OB vc n8)∧(Am vc vi)∧(OB vc ab)∧True) (fun ρ _=>256-(intOf (ρ 126)).toNat) ⟨0,vb,T0,T5,T6,T7,T8,rfl,aq,ar,ad,rfl,rfl,T4,hE,hr_vi,hb11l,hb38l,Bn hr_vb (by simp),by omega,hap_vb_n8,hap_vb_vi,hap_vb_n24,trivial⟩ ?_
 clear hr_vb
 clear hE hr_vi hb11l hb38l
 rintro h3 h4 ⟨c,vc,T0,T5,T6,T7,T8,ca,aq,ar,ad,cb,bs,T4,hE,hr_vi,hb11l,hb38l,hr_vc,hcl,hap_vc_n8,hap_vc_vi,hap_vc_n24,-⟩
 have q126:=bs
 have hbl:(s.b++((AK s.ids).take c).flatMap Az).length≤40000:=by rw[List.length_append,FU,List.length_take];omega
 have hfc:=H0 s.ids c
 refine gS (Yk.eqI (a:=(c:Nat)) (b:=(256:Nat)) bs rfl (Ah _ _ _ _) ?_)
 refine cD rfl (fun h5=> ?_) fun h5=> ?_
 ·refine gS (Yk.idxN (l:=AK (s.ids)) (i:=c) Es PJ rfl Gk cb bs (by omega) (by rw[hfl]) (gS (Yk.callA2 Iz T4 rfl ((It w _ hE vc (s.b++((AK s.ids).take c).flatMap Az) ((AK (s.ids)).getD (c) 0) (by have:=H0 s.ids c;omega) (by omega) hr_vc).mono ?_))))
  rintro e ks ⟨cp,rfl,h6,bt⟩
  refine⟨_,rfl,?_⟩
  have h7:OB cp n8:=An bt hap_vc_n8 hb11l.lt
  have h8:Am cp vi:=AJ bt hap_vc_vi hr_vi.2
  have h9:OB cp ab:=An bt hap_vc_n24 (bl hb38l)
  have hE:=Af hE bt hr_vc (Nat.le_refl _)
  have hr_vi:=A4 hr_vi bt hap_vc_vi
  have hb11l:=MapF.grew hb11l bt hap_vc_n8
  have hb38l:=Ak hb38l bt hap_vc_n24
  clear hr_vc
  refine gS (Yk.bin (xv:=NI c) (yv:=NI 1) bs rfl rfl (Ac _ _ _ (by omega)) (gK (And.intro ⟨c+1,cp,T0,T5,T6,T7,T8,ca,aq,ar,ad,cb,rfl,rfl,hE,hr_vi,hb11l,hb38l,Bn h6 (by rw[I0 (AK s.ids) c 0 (by rw[hfl];omega),List.flatMap_append,List.flatMap_cons,List.flatMap_nil,List.append_nil,List.append_assoc]),by omega,h7,h8,h9,trivial⟩ ?_)))
  show 256-(intOf (NI ((c)+(1)))).toNat<256-(intOf (h3 126)).toNat
  rw[q126]
  simp only[intOf,Int.toNat_natCast];omega
 refine gS (Yk.callA1 P8 T6 ((PU _ vi (s.ids) (by omega) (RG.ofOwn hr_vi)).mono ?_))
 rintro e kt ⟨bk,rfl,y,cc⟩
 refine⟨_,rfl,?_⟩
 have ku:=hE.size
 have ia:Am vc bk:=B3 hr_vc y.2
 have hE:=hE.trans cc
 have hr_vi:=hr_vi.keep cc
 have hb11l:=hb11l.keep cc
 have hb38l:=eb cc hb38l
 have hr_vc:=Stab.own _ _ _ _ _ _ _ _ hr_vc cc
 refine gS (Yk.lenRG Lc (RG.of (RG.ofOwn y) rfl) (gL (fun(ρ:Ae) (wz:World)=>∃j:Nat,∃ve:Value,ρ 0=(v:Value)∧ρ 5=(.map (some n8):Value)∧ρ 6=(vi:Value)∧ρ 7=(.slice (some ⟨ab,0,none⟩) ps.length ps.length:Value)∧ρ 8=(NI s.total:Value)∧ρ 15=(NI ((s.b:List UInt8).length):Value)∧ρ 28=(v:Value)∧ρ 29=(NI ps.length:Value)∧ρ 30=(NI i:Value)∧ρ 125=(.agg ((AK (s.ids)).map fun x=>NI x).toArray:Value)∧ρ 126=(NI c:Value)∧ρ 134=(bk:Value)∧ρ 135=(NI (((Ar (s.ids))).length):Value)∧ρ 136=(NI j:Value)∧ρ 4=(ve:Value)∧Ext w wz∧OG w.heap.size 38 32 (Lib.byteCells) wz vi (s.ids)∧MapF rk NI (fun id:List UInt8=>id.length=32) wz n8 (Bd s)∧wz.heap[ab]? =some (.cells (dl.map fun x=>NI x).toArray 3 (0,0))∧OG h4.heap.size 38 32 Lib.byteCells wz bk (Ar (s.ids))∧wz.ownsRow w.heap.size 5 1 ve (s.b++(AK s.ids).flatMap Az++((Ar s.ids).take j).flatMap (fun id=>id++Az ((Bd s id).getD 0)):List UInt8).length (Lib.byteCells (s.b++(AK s.ids).flatMap Az++((Ar s.ids).take j).flatMap (fun id=>id++Az ((Bd s id).getD 0))))∧(j≤s.ids.length)∧(OB ve n8)∧(Am ve vi)∧(OB ve ab)∧(Am ve bk)∧True) (fun ρ _=>s.ids.length-(intOf (ρ 136)).toNat) ⟨0,vc,T0,T5,T6,T7,T8,ca,aq,ar,ad,cb,bs,rfl,rfl,rfl,T4,hE,hr_vi,hb11l,hb38l,y,Bn hr_vc (by rw[show c=256 by omega,List.take_of_length_le (by rw[hfl];omega)];simp),by omega,hap_vc_n8,hap_vc_vi,hap_vc_n24,ia,trivial⟩ ?_))
 clear hr_vc
 clear hE hr_vi hb11l hb38l y
 rintro ib ic ⟨j,ve,T0,T5,T6,T7,T8,ca,aq,ar,ad,cb,bs,ex,ey,cq,T4,hE,hr_vi,hb11l,hb38l,y,hr_ve,hjl,hap_ve_n8,hap_ve_vi,hap_ve_n24,hap_ve_v351,-⟩
 have q136:=cq
 have hbl2:(s.b++(AK s.ids).flatMap Az++((Ar s.ids).take j).flatMap (fun id=>id++Az ((Bd s id).getD 0))).length≤60000:=by rw[List.length_append,List.length_append,FU,hfl,Lj (fun id=>(Bd s id).getD 0) _ (fun x hx=>hB.len x ((sortB_perm _).subset (List.mem_of_mem_take hx))),List.length_take];omega
 refine gS (Yk.eqI (a:=(j:Nat)) (b:=(((Ar (s.ids))).length:Nat)) cq ey (Ah _ _ _ _) ?_)
 refine cD rfl (fun ie=> ?_) fun ie=> ?_
 ·have ez:((Ar s.ids).getD j []).length=32:=hB.len _ ((sortB_perm _).subset (getD_mem [] (by omega)))
  obtain⟨q2,hq2,hqm⟩:∃q,Bd s ((Ar s.ids).getD j [])=some q∧q∈s.places:=DE s.ids s.places _ (by omega) ((sortB_perm _).subset (getD_mem [] (by omega)))
  have hq2l:=hB.pl q2 hqm
  have b1:(Lib.byteCells (((Ar (s.ids))).getD (j) ([]:List UInt8))).length=32:=(RG.elem (RG.ofOwn y) ([]:List UInt8) (by omega))
  refine gS (Yk.atRG Lc Og (by decide) ([]:List UInt8) (RG.of (RG.ofOwn y) ex) cq (by omega) fun kv e1=>(gS (Yk.loadPR (PR.of e1 rfl) QJ rfl (by rw[b1];exact N2) (gS (Yk.alloc PP fun bm ig e2 e3 cr kw=> ?_)))))
  have bc:=Ext.refl ic
  have kx:=hE.size
  have ky:=Aw hb11l.lt e2
  have kz:=Aw (bl hb38l) e2
  have e5:OB ve bm:=AQ hr_ve (by omega)
  have ih:OB vi bm:=AQ hr_vi.2 (by omega)
  have ii:OB bk bm:=AQ y.2 (by omega)
  have ao:=e3;clear e3
  have k0:bm<ig.heap.size:=by omega
  refine gS (Yk.storeAll (vr (PQ bm 0) rfl) (vr (AB (((Ar (s.ids))).getD (j) ([]:List UInt8))) rfl) ao (by exact BQ (As (b1)) List.length_replicate) (by exact Ag (As (b1))) (Ai _) fun k1 e6 cs k2=> ?_)
  have hb11l:=hb11l.keep cr
  have hb11l:=MapF.other hb11l cs (Ao (by omega))
  clear ao
  have ao:=e6;clear e6
  have k3:=bl ao
  clear e1
  refine DC [0,1,3,4,5,2,6,7] [2,6,7] [] [4,5] fun ij cd=> ?_
  have bc:=bc.trans cr
  have bc:=Aa bc cs (Nat.le_trans (Nat.le_refl _) (by omega))
  have bc:=bc.trans cd
  have hE:=hE.trans bc
  have hr_ve:=Stab.own _ _ _ _ _ _ _ _ hr_ve bc
  have hb11l:=hb11l.keep cd
  have ao:=eb cd ao
  refine m2 (A:=fun wz=>wz.heap[bm]? =some (.cells (Lib.byteCells (((Ar (s.ids))).getD (j) ([]:List UInt8))).toArray 38 (0,0))) ao (B:=fun wz=>MapF rk NI (fun id:List UInt8=>id.length=32) wz n8 (Bd s)) hb11l ?_
  refine ys (Yk.sliceArr QJ M4 rfl zz) (yf (fun _ ⟨ao,_,_⟩=>Yk.loadAll rfl ao QJ rfl (by exact Ag (As (b1))) zz) (yf (fun _ ⟨_,hb11l,_⟩=>Yk.lookMS (ek:=rk) (ev:=NI) (D:=(fun id:List UInt8=>id.length=32)) B4 B5 (fun _ _=>BY) Et (z:=NI 0) Gm T5 rfl hb11l (As (b1)) hq2 zz) (yI (Yk.appendRB _ _ w.heap.size (.int .u8 0) EX IP rfl EX (s.b++(AK s.ids).flatMap Az++((Ar s.ids).take j).flatMap (fun id=>id++Az ((Bd s id).getD 0))) (((Ar (s.ids))).getD (j) ([]:List UInt8)) (BA hr_ve T4) (RB.of (RB.ofBlkN ao (As (b1)) (by decide)) (vr (.slice (some ⟨bm,0,none⟩) 32 32) rfl)) (by rw[ez];omega) hE.size fun bu ik c8 av=> ?_))))
  have av:Grew ij ik ve bu:= .eqv T4 av
  have e7:OB bu n8:=An av hap_ve_n8 hb11l.lt
  have hr_vi:=hr_vi.keep cr
  have hr_vi:=OG.kept hr_vi cs ih
  have hr_vi:=hr_vi.keep cd
  have e8:Am bu vi:=AJ av hap_ve_vi hr_vi.2
  have hb38l:=eb bc hb38l
  have e9:OB bu ab:=An av hap_ve_n24 (bl hb38l)
  have y:=y.keep cr
  have y:=OG.kept y cs ii
  have y:=y.keep cd
  have fa:Am bu bk:=AJ av hap_ve_v351 y.2
  have il:OB bu bm:=An av e5 (bl ao)
  have hE:=Af hE av hr_ve (Nat.le_refl _)
  have hr_vi:=A4 hr_vi av hap_ve_vi
  have hb11l:=MapF.grew hb11l av hap_ve_n8
  have hb38l:=Ak hb38l av hap_ve_n24
  have y:=A4 y av hap_ve_v351
  have ao:=Ak ao av e5
  clear hr_ve
  refine⟨⟨ao,hb11l,trivial⟩,?_⟩
  refine yD rfl (Yk.callA2 Iz rfl rfl ((It w _ hE bu (s.b++(AK s.ids).flatMap Az++((Ar s.ids).take j).flatMap (fun id=>id++Az ((Bd s id).getD 0))++((Ar (s.ids))).getD (j) ([]:List UInt8)) (q2) (by omega) (by rw[List.length_append,ez];omega) c8).mono ?_))
  rintro e k5 ⟨ce,rfl,im,a7⟩
  refine⟨_,rfl,?_⟩
  have io:OB ce n8:=An a7 e7 hb11l.lt
  have ip:Am ce vi:=AJ a7 e8 hr_vi.2
  have iq:OB ce ab:=An a7 e9 (bl hb38l)
  have ir:Am ce bk:=AJ a7 fa y.2
  have hE:=Af hE a7 c8 (Nat.le_refl _)
  have hr_vi:=A4 hr_vi a7 e8
  have hb11l:=MapF.grew hb11l a7 e7
  have hb38l:=Ak hb38l a7 e9
  have y:=A4 y a7 fa
  have ao:=Ak ao a7 il
  clear c8
  refine yD rfl (Yk.assign rfl (gS (Yk.bin (xv:=NI j) (yv:=NI 1) cq rfl rfl (Ac _ _ _ (by omega)) (gK (And.intro ⟨j+1,ce,T0,T5,T6,T7,T8,ca,aq,ar,ad,cb,bs,ex,ey,rfl,rfl,hE,hr_vi,hb11l,hb38l,y,Bn im (by rw[I0 (Ar s.ids) j [] (by rw[hsl];omega),List.flatMap_append,List.flatMap_cons,List.flatMap_nil,List.append_nil];simp only[hq2,Option.getD_some,List.append_assoc]),by omega,io,ip,iq,ir,trivial⟩ ?_)))))
  show s.ids.length-(intOf (NI ((j)+(1)))).toNat<s.ids.length-(intOf (ib 136)).toNat
  rw[q136]
  simp only[intOf,Int.toNat_natCast];omega
 refine gS (Yk.callA2 Iz T4 ca ((It w _ hE ve (s.b++(AK s.ids).flatMap Az++((Ar s.ids).take j).flatMap (fun id=>id++Az ((Bd s id).getD 0))) ((s.b:List UInt8).length) (by omega) (by omega) hr_ve).mono ?_))
 rintro e iu ⟨bd,rfl,aw,be⟩
 refine⟨_,rfl,?_⟩
 have iv:OB bd n8:=An be hap_ve_n8 hb11l.lt
 have iw:Am bd vi:=AJ be hap_ve_vi hr_vi.2
 have ix:OB bd ab:=An be hap_ve_n24 (bl hb38l)
 have iy:Am bd bk:=AJ be hap_ve_v351 y.2
 have hE:=Af hE be hr_ve (Nat.le_refl _)
 have hr_vi:=A4 hr_vi be hap_ve_vi
 have hb11l:=MapF.grew hb11l be hap_ve_n8
 have hb38l:=Ak hb38l be hap_ve_n24
 have y:=A4 y be hap_ve_v351
 clear hr_ve
 obtain⟨C,hCd⟩:∃C,C=s.b++Cb s s.b.length:=⟨_,rfl⟩
 have aw:iu.ownsRow w.heap.size 5 1 bd (C:List UInt8).length (Lib.byteCells (C)):=(by rw[hCd,List.take_of_length_le (by rw[hsl];omega)];unfold Cb;simp only[List.append_assoc]:(s.b++(AK s.ids).flatMap Az++((Ar s.ids).take j).flatMap (fun id=>id++Az ((Bd s id).getD 0)):List UInt8)++Az ((s.b:List UInt8).length)=C)▸aw
 have hCl:C.length≤60000:=by rw[hCd,List.length_append,F7 hB];omega
 refine gS (Yk.rows1 FA (RB.of (RB.ofOwn aw) (vr bd rfl)) fun iz k6 i0 fb=> ?_)
 have hE:=hE.trans fb
 refine gS (Yk.callA1 Iy rfl ((EM _ (hG.keep hE) iz (C) i0 (by omega)).mono ?_))
 rintro e i1 ⟨rfl,fc⟩
 refine⟨_,rfl,?_⟩
 refine gS (Yk.alloc PP fun ct i2 fd fe cf k7=> ?_)
 have b2:=Ext.refl i1
 have hE:=hE.trans fc
 have i3:=hE.size
 have hZ3:=fb.trans fc
 have hb11l:=hb11l.keep hZ3
 have k8:=Aw hb11l.lt fd
 have hb38l:=eb hZ3 hb38l
 have k9:=Aw (bl hb38l) fd
 have aw:=Stab.own _ _ _ _ _ _ _ _ aw hZ3
 have ff:OB bd ct:=AQ aw (by omega)
 have bv:=fe;clear fe
 have la:ct<i2.heap.size:=by omega
 refine gS (Yk.storeAll (vr (PQ ct 0) rfl) (vr (AB (Sha.sum (C))) rfl) bv (by exact BQ (Sha.sum_length _) List.length_replicate) (by exact Ag (Sha.sum_length _)) (Ai _) fun i4 fg cg lb=> ?_)
 have hb11l:=hb11l.keep cf
 have hb11l:=MapF.other hb11l cg (Ao (by omega))
 clear bv
 have bv:=fg;clear fg
 have lc:=bl bv
 have hE:=hE.trans cf
 have hE:=Aa hE cg (Nat.le_trans i3 (by omega))
 have aw:=Stab.own _ _ _ _ _ _ _ _ aw cf
 have aw:=AY aw cg ff
 refine gS (Yk.sliceArr QJ M4 rfl (gS (Yk.appendRB _ _ w.heap.size (.int .u8 0) EX IP rfl EX (C) (Sha.sum (C)) (BA aw (vr bd rfl)) (RB.of (RB.ofBlkN bv (Sha.sum_length _) (by decide)) (vr (.slice (some ⟨ct,0,none⟩) 32 32) rfl)) (by rw[Sha.sum_length];omega) hE.size fun fh i5 fi bn=> ?_)))
 have bn:Grew i4 i5 bd fh:=bn
 have b2:=b2.trans cf
 have b2:=Aa b2 cg (Nat.le_trans (Nat.le_refl _) (by omega))
 have hr_vi:=hr_vi.keep (hZ3.trans b2)
 have hb38l:=eb cf hb38l
 have hb38l:=kb cg hb38l (by omega)
 have y:=y.keep (hZ3.trans b2)
 have hE:=Af hE bn aw (Nat.le_refl _)
 have hr_vi:=A4 hr_vi bn iw
 have hb11l:=MapF.grew hb11l bn iv
 have hb38l:=Ak hb38l bn ix
 have y:=A4 y bn iy
 have bv:=Ak bv bn ff
 clear aw
 refine gS (Yk.lenRB EX (RB.of (RB.ofOwn fi) rfl) (gS (Yk.eqI (a:=((C++Sha.sum (C):List UInt8).length:Nat)) (b:=(1048576:Nat)) rfl rfl (Av _ _ _ _) (kF (by simp only[List.length_append,Sha.sum_length];omega) (gS (Yk.eqI (a:=(s.total:Nat)) (b:=(4194304:Nat)) T8 rfl (Av _ _ _ _) (kF (by omega) (gS (Yk.pickF rfl rfl (cF rfl (BO rfl (vr fh rfl) (vr (NI 0) rfl) ?_)))))))))))
 rw[OQ (show DD ps ps.length = .ok s from by rw[←hie];exact hs)]
 refine⟨_,rfl,?_,hE⟩
 have hfin:=RB.ofOwn fi
 rw[hCd]at hfin
 exact hfin
open Go.RowKit
def By(b:Bs)(a fin:Nat):Option (Bs × Nat):=
  match Ax 0 ((b.take fin).drop a)with
  | none=>none
  | some x=>if 1048576<x.1 then none else if(b.take fin).length<a+x.2+x.1 then none else some (((b.take fin).drop (a+x.2)).take x.1,a+x.2+x.1)
structure Ent where
  pos:Nat
  based:Bool
  base:Bs
  bytes:Bs
abbrev Ad:=Ent × Value
def dEnt:Ad:=(⟨0,false,List.replicate 32 0,[]⟩, .slice none 0 0)
def entC(x:Ad):List Value:=NI x.1.pos :: .bool x.1.based :: (Lib.byteCells x.1.base++ [x.2])
def EntsOk(w:World)(xs:List Ad):Prop:=∀x∈xs,RB w x.2 x.1.bytes∧x.1.base.length=32
theorem EntsOk.keep{w w' :World}{xs:List Ad}(h:EntsOk w xs)(k:Ext w w'):EntsOk w' xs:=fun x hx=>⟨(h x hx).1.keep k,(h x hx).2⟩
theorem C6{x:Ad}(h:x.1.base.length=32):(entC x).length=35:=by simp[entC,Lib.byteCells,h]
theorem FB{x:Ad}(h:x.1.base.length=32):(entC x)[34]? =some x.2:=by
  unfold entC
  rw[List.getElem?_cons_succ,List.getElem?_cons_succ,List.getElem?_append_right (by rw[Lib.byteCells_length,h];omega),Lib.byteCells_length,h]
  rfl
theorem Dk{w:World}{g:Nat}{x:Ad}{t:TypeId}{fr:Nat × Nat}(hb:w.heap[g]? =some (.cells (entC x).toArray t fr)):w.rangeAt g 2 (Lib.byteCells x.1.base):=fun j u hu=>by
  refine cellAt hb ?_
  unfold entC
  rw[show 2+j=j+1+1 by omega,List.getElem?_cons_succ,List.getElem?_cons_succ,List.getElem?_append_left (List.getElem?_eq_some_iff.1 hu).1]
  exact hu
theorem AS{x:Ad}(h:x.2.oneCell' =true):∀u∈entC x,u.oneCell' =true:=by
  intro u hu
  simp only[entC,List.mem_cons,List.mem_append,List.not_mem_nil,or_false]at hu
  rcases hu with rfl | rfl | hu | rfl
  · rfl
  · rfl
  · exact Ai _ u hu
  · exact h
def entOne(b:Bs)(fin pos:Nat):Option (Ent × Nat):=
  if pos<fin∧(b.getD pos 0).toNat≤1 then
    if b.getD pos 0=1 then
      if fin-(pos+1)<32 then none
      else(By b (pos+33) fin).map fun x=>(⟨pos,true,((b.take fin).drop (pos+1)).take 32,x.1⟩,x.2)
    else(By b (pos+1) fin).map fun x=>(⟨pos,false,List.replicate 32 0,x.1⟩,x.2)
  else none
def Cd(b:Bs)(fin first:Nat):Nat→Option (List Ent × Nat)
  | 0=>some ([],first)
  | i+1=>(Cd b fin first i).bind fun x=>(entOne b fin x.2).map fun y=>(x.1++ [y.1],y.2)
theorem B6{b:Bs}{fin first i:Nat}(h:Cd b fin first i=none):∀k,Cd b fin first (i+k)=none
  | 0=>h
  | k+1=>by
    show(Cd b fin first (i+k)).bind _=none
    rw[B6 h k]
    rfl
theorem Fg{b:Bs}{fin first i:Nat}{es:List Ent}{p:Nat}(h:Cd b fin first i=some (es,p)):Cd b fin first (i+1)=(entOne b fin p).map fun y=>(es++ [y.1],y.2):=by
  show(Cd b fin first i).bind _=_
  rw[h]
  rfl
def A9(b:Bs)(n first fin:Nat):Option (List Ent):=(Cd b fin first n).bind fun x=>if x.2=fin then some x.1 else none
theorem Ln{b:Bs}{a fin:Nat}{s:Bs}{n:Nat}(h:By b a fin=some (s,n))(ha:a≤fin)(hf:fin≤b.length):n≤fin∧a≤n:=by
  unfold By at h
  split at h
  · cases h
  · split at h
    · cases h
    · split at h
      · cases h
      · rename_i h1
        cases h
        rw[List.length_take]at h1
        omega
open Go.RowKit
set_option maxRecDepth 100000
theorem FV:AA Tryd.prog 87:=fun _ _=>by kernel_rfl
theorem FW:AA Tryd.prog 64:=fun _ _=>by kernel_rfl
theorem Lo(w:World)(v:Value)(b:Bs)(hr:RB w v b)(a fin:Nat)(ha:a≤fin)(hf:fin≤b.length):
  Calls Tryd.prog 76 #[v,NI a,NI fin] w fun r w' =>(∃x,r = .returned x∧∃s n,By b a fin=some (s,n)∧x = .tuple #[St s,NI n]∧Ext w w')∨∃ch,r = .panicked ch∧By b a fin=none∧ch= [Cz 6]∧Ext w w' :=by
 refine gG (args:= [v,NI a,NI fin]) Tryd.func76 rfl 25 rfl rfl ?_
 have hE:=Ext.refl w
 have htk:(b.take fin).length=fin:=by rw[List.length_take];omega
 rcases hd:Ax 0 ((b.take fin).drop a)with _ | ⟨xn,xk⟩
 ·have hP:By b a fin=none:=by unfold By;rw[hd]
  refine gS (Yk.sliceHi (xs:=b) (n:=fin) EX M4 rfl (hr.keep hE) rfl (by omega) fun f g ha5=>(gS (Yk.callA3 FV rfl rfl rfl ?_)))
  refine((show Calls _ _ _ _ (fun e c=>e = .returned (.tuple #[St (([]:List UInt8)),NI 0,NI 6])∧Ext _ c)from(Fd _ f (b.take (fin)) g a (by omega) 1048576).mono fun e c ⟨h1,h2⟩=>by subst h2;subst h1;refine⟨?_,Ext.refl _⟩;unfold BP;rw[hd];simp only;rfl)).mono ?_
  rintro e w7 ⟨rfl,h⟩
  refine⟨_,rfl,?_⟩
  refine gS (Yk.extract (vs:= [St (([]:List UInt8)),NI 0,NI 6]) rfl rfl (gS (Yk.extract (vs:= [St (([]:List UInt8)),NI 0,NI 6]) rfl rfl (gS (Yk.extract (vs:= [St (([]:List UInt8)),NI 0,NI 6]) rfl rfl (gS (Yk.eqI (a:=(6:Nat)) (b:=(0:Nat)) rfl rfl (AO _ _ _ _) (gP (Yp.callA2 FW rfl rfl ?_)))))))))
  refine Ap (AR _ (decide ((6:Nat)=(0))) 6) ?_ ?_
  rotate_left
  ·rintro ch ad ⟨rfl,hb,hx⟩
   refine Aq ?_
   have hno:=of_decide_eq_false hb
   have hE:=hE.trans h
   exact .inr ⟨_,rfl,hP,rfl,hE.trans hx⟩
  rintro v_ ae ⟨rfl,i,af⟩
  have ag:=of_decide_eq_true i
  refine BO rfl (vr (St (([]:List UInt8))) rfl) (vr (NI 0) rfl) ?_
  omega
 by_cases hm:1048576<xn
 ·have hP:By b a fin=none:=by unfold By;rw[hd];simp only;rw[if_pos hm]
  refine gS (Yk.sliceHi (xs:=b) (n:=fin) EX M4 rfl (hr.keep hE) rfl (by omega) fun j k ha19=>(gS (Yk.callA3 FV rfl rfl rfl ?_)))
  refine((show Calls _ _ _ _ (fun e c=>e = .returned (.tuple #[St (([]:List UInt8)),NI 0,NI 2])∧Ext _ c)from(Fd _ j (b.take (fin)) k a (by omega) 1048576).mono fun e c ⟨h1,h2⟩=>by subst h2;subst h1;refine⟨?_,Ext.refl _⟩;unfold BP;rw[hd];simp only;rw[if_pos (by omega)];rfl)).mono ?_
  rintro e ah ⟨rfl,l⟩
  refine⟨_,rfl,?_⟩
  refine gS (Yk.extract (vs:= [St (([]:List UInt8)),NI 0,NI 2]) rfl rfl (gS (Yk.extract (vs:= [St (([]:List UInt8)),NI 0,NI 2]) rfl rfl (gS (Yk.extract (vs:= [St (([]:List UInt8)),NI 0,NI 2]) rfl rfl (gS (Yk.eqI (a:=(2:Nat)) (b:=(0:Nat)) rfl rfl (AO _ _ _ _) (gP (Yp.callA2 FW rfl rfl ?_)))))))))
  refine Ap (AR _ (decide ((2:Nat)=(0))) 6) ?_ ?_
  rotate_left
  ·rintro ch ai ⟨rfl,hb,hx⟩
   refine Aq ?_
   have hno:=of_decide_eq_false hb
   have hE:=hE.trans l
   exact .inr ⟨_,rfl,hP,rfl,hE.trans hx⟩
  rintro v_ aj ⟨rfl,m,ak⟩
  have al:=of_decide_eq_true m
  refine BO rfl (vr (St (([]:List UInt8))) rfl) (vr (NI 0) rfl) ?_
  omega
 by_cases hl:(b.take fin).length<a+xk+xn
 ·have hP:By b a fin=none:=by unfold By;rw[hd];simp only;rw[if_neg hm,if_pos hl]
  refine gS (Yk.sliceHi (xs:=b) (n:=fin) EX M4 rfl (hr.keep hE) rfl (by omega) fun o p ha33=>(gS (Yk.callA3 FV rfl rfl rfl ?_)))
  refine((show Calls _ _ _ _ (fun e c=>e = .returned (.tuple #[St (([]:List UInt8)),NI 0,NI 6])∧Ext _ c)from(Fd _ o (b.take (fin)) p a (by omega) 1048576).mono fun e c ⟨h1,h2⟩=>by subst h2;subst h1;refine⟨?_,Ext.refl _⟩;unfold BP;rw[hd];simp only;rw[if_neg (by omega),if_pos hl];rfl)).mono ?_
  rintro e am ⟨rfl,q⟩
  refine⟨_,rfl,?_⟩
  refine gS (Yk.extract (vs:= [St (([]:List UInt8)),NI 0,NI 6]) rfl rfl (gS (Yk.extract (vs:= [St (([]:List UInt8)),NI 0,NI 6]) rfl rfl (gS (Yk.extract (vs:= [St (([]:List UInt8)),NI 0,NI 6]) rfl rfl (gS (Yk.eqI (a:=(6:Nat)) (b:=(0:Nat)) rfl rfl (AO _ _ _ _) (gP (Yp.callA2 FW rfl rfl ?_)))))))))
  refine Ap (AR _ (decide ((6:Nat)=(0))) 6) ?_ ?_
  rotate_left
  ·rintro ch an ⟨rfl,hb,hx⟩
   refine Aq ?_
   have hno:=of_decide_eq_false hb
   have hE:=hE.trans q
   exact .inr ⟨_,rfl,hP,rfl,hE.trans hx⟩
  rintro v_ ao ⟨rfl,t,ap⟩
  have aq:=of_decide_eq_true t
  refine BO rfl (vr (St (([]:List UInt8))) rfl) (vr (NI 0) rfl) ?_
  omega
 have hP:By b a fin=some (((b.take fin).drop (a+xk)).take xn,a+xk+xn):=by unfold By;rw[hd];simp only;rw[if_neg hm,if_neg hl]
 refine gS (Yk.sliceHi (xs:=b) (n:=fin) EX M4 rfl (hr.keep hE) rfl (by omega) fun u y ha47=>(gS (Yk.callA3 FV rfl rfl rfl ?_)))
 refine((show Calls _ _ _ _ (fun e c=>e = .returned (.tuple #[St (((b.take fin).drop (a+xk)).take xn),NI (a+xk+xn),NI 0])∧Ext _ c)from(Fd _ u (b.take (fin)) y a (by omega) 1048576).mono fun e c ⟨h1,h2⟩=>by subst h2;subst h1;refine⟨?_,Ext.refl _⟩;unfold BP;rw[hd];simp only;rw[if_neg (by omega),if_neg hl];rfl)).mono ?_
 rintro e ar ⟨rfl,z⟩
 refine⟨_,rfl,?_⟩
 refine gS (Yk.extract (vs:= [St (((b.take fin).drop (a+xk)).take xn),NI (a+xk+xn),NI 0]) rfl rfl (gS (Yk.extract (vs:= [St (((b.take fin).drop (a+xk)).take xn),NI (a+xk+xn),NI 0]) rfl rfl (gS (Yk.extract (vs:= [St (((b.take fin).drop (a+xk)).take xn),NI (a+xk+xn),NI 0]) rfl rfl (gS (Yk.eqI (a:=(0:Nat)) (b:=(0:Nat)) rfl rfl (AO _ _ _ _) (gP (Yp.callA2 FW rfl rfl ?_)))))))))
 refine Ap (AR _ (decide ((0:Nat)=(0))) 6) ?_ ?_
 rotate_left
 ·rintro ch au ⟨rfl,hb,hx⟩
  refine Aq ?_
  have hno:=of_decide_eq_false hb
  exact absurd rfl hno
 rintro v_ av ⟨rfl,aa,ab⟩
 have aw:=of_decide_eq_true aa
 refine BO rfl (vr (St (((b.take fin).drop (a+xk)).take xn)) rfl) (vr (NI (a+xk+xn)) rfl) ?_
 have hZ1:=z.trans ab
 have hE:=hE.trans hZ1
 exact .inl ⟨_,rfl,_,_,hP,rfl,hE⟩
open Go.RowKit
def EntsIn(w:World)(va:Value)(xs:List Ad):Prop:=∀x∈xs,RB w x.2 x.1.bytes∧x.1.base.length=32∧∀k,x.2.ownBlock=some k→k<w.heap.size∧va.ownBlock≠some k
theorem EntsIn.keep{w w' :World}{va:Value}{xs:List Ad}(h:EntsIn w va xs)(k:Ext w w'):EntsIn w' va xs:=fun x hx=>
  ⟨(h x hx).1.keep k,(h x hx).2.1,fun j hj=>⟨Nat.lt_of_lt_of_le ((h x hx).2.2 j hj).1 k.size,((h x hx).2.2 j hj).2⟩⟩
theorem EntsIn.nil(w:World)(va:Value):EntsIn w va []:=fun x hx=>by cases hx
theorem EntsIn.snoc{w:World}{va:Value}{xs:List Ad}(h:EntsIn w va xs){x:Ad}(h1:RB w x.2 x.1.bytes)(h2:x.1.base.length=32)(h3:∀k,x.2.ownBlock=some k→k<w.heap.size∧va.ownBlock≠some k):EntsIn w va (xs++ [x]):=fun y hy=>by
  rcases List.mem_append.1 hy with hy | hy
  · exact h y hy
  · rw[List.mem_singleton.1 hy];exact⟨h1,h2,h3⟩
theorem Lp{w w' :World}{v v' x:Value}{m:List UInt8}(h:RB w x m)(hx:∀k,x.ownBlock=some k→v.ownBlock≠some k)(gr:Grew w w' v v'):RB w' x m:=by
  refine h.kept gr.by_ ?_
  cases hv:x.ownBlock with
  | none=>exact .inl rfl
  | some g=>exact .inr (fun e=>hx g hv (by rw[←e]))
theorem EntsIn.grew{w w' :World}{va va' :Value}{xs:List Ad}(h:EntsIn w va xs)(g:Grew w w' va va'):EntsIn w' va' xs:=fun x hx=>
  ⟨Lp (h x hx).1 (fun k hk=>((h x hx).2.2 k hk).2) g,(h x hx).2.1,fun j hj=>⟨Nat.lt_of_lt_of_le ((h x hx).2.2 j hj).1 g.by_.size,fun e=>(g.fresh j e).elim (fun q=>((h x hx).2.2 j hj).2 q) (fun q=>by have:=((h x hx).2.2 j hj).1;omega)⟩⟩
theorem EntsIn.ok{w:World}{va:Value}{xs:List Ad}(h:EntsIn w va xs):EntsOk w xs:=fun x hx=>⟨(h x hx).1,(h x hx).2.1⟩
section
variable {P : Program} {K : Value → World → Prop} {ρ : Ae} {w : World} {d : Option Tmp} {ty : TypeId} {pos : String} {af : Array Edge} {gd : Option (Nat × Bool)}
theorem Yk.convStr{t e s:TypeId}{u:TypeDesc}(hs:P.underlying s=some u)(ht:P.underlying t=some (.slice e))(he:P.underlying e=some (.int .u8)){x:Operand}{l:List UInt8}(hx:Ab ρ x=St l)(hl:l.length≤9223372036854775807) 
    (hk:∀v w',RB w' v l→Ext w w' →(∀k,v.ownBlock=some k→w.heap.size≤k∧k<w'.heap.size)→K v w'):Yk P K ((execOp (Ab ρ) ⟨d, .convert s t x,ty,pos,af,gd⟩).run P w):=by
  have hr:=Lib.run_convert_string_bytes (P:=P) w s t e ⟨l.toArray⟩ hs ht he
  have hsz:(⟨l.toArray⟩:ByteArray).size=l.length:=by simp[ByteArray.size]
  rw[hsz]at hr
  refine Yk.value (v:= .slice (some ⟨w.heap.size,0,none⟩) l.length (grownCap w l.length 0 e)) (w' :=Lib.bytesWorld w e ⟨l.toArray⟩) ?_ (hk _ _ ?_ (Lib.bytesWorld_below w e _) ?_)
  · unfold execOp
    simp only[hx,hr,Sem.run_bind,Sem.run_pure,Result.andThen_ok]
  · refine⟨by rw[Lib.byteCells_length,Nat.mul_one],_,_,rfl,grownCap_ge w _ _ _,grownCap_le_maxLen w _ _ _ (by simpa [maxLen] using hl),(fun h=>by cases h),fun a ha j u hu=> ?_⟩
    cases ha
    have hj:j<l.length:=by have:=(List.getElem?_eq_some_iff.1 hu).1;rwa [Lib.byteCells_length]at this
    have hc:=Lib.bytesWorld_cell w e ⟨l.toArray⟩ j (by rw[hsz];exact hj)
    rw[show(⟨w.heap.size,0,none⟩:Addr).add j=⟨w.heap.size,j,none⟩ by simp[Addr.add];exact fun h=>h.symm]
    rw[hc,←hu,Cx hj]
  · intro k hk
    cases hk
    rw[Lib.bytesWorld_size]
    exact⟨Nat.le_refl _,Nat.lt_succ_self _⟩
theorem IA(p:Nat)(q:Bool)(B s:Bs)(v:Value):entC (⟨p,q,B,s⟩,v)= [NI p, .bool q]++Lib.byteCells B++ [v]:=rfl
theorem Yk.entBase{t' :TypeId}{x y:Operand}{g p:Nat}{q:Bool}{B B' s:Bs}{v:Value}{t:TypeId}(hx:Ab ρ x = .pointer (some ⟨g,2,none⟩))(hy:Ab ρ y = .agg (Lib.byteCells B').toArray)(hg:w.heap[g]? =some (.cells (entC (⟨p,q,B,s⟩,v)).toArray t (0,0)))(hB:B.length=32)(hB' :B'.length=32)(hi:(P.info? t').map (·.size)=some 32) 
    (hk:∀w',w'.heap[g]? =some (.cells (entC (⟨p,q,B',s⟩,v)).toArray t (0,0))→w.grownBy w' (some g)→w'.heap.size=w.heap.size→K undef w'):Yk P K ((execOp (Ab ρ) ⟨d, .store t' x y,ty,pos,af,gd⟩).run P w):=
  Yk.storeMid (a:= [NI p, .bool q]) (m:=Lib.byteCells B) (z:= [v]) hx hy (by rw[←IA];exact hg) rfl (by rw[Lib.byteCells_length,Lib.byteCells_length,hB,hB']) (by rw[Lib.byteCells_length,hB'];exact hi) (Ai _) hk
theorem OR(p:Nat)(q:Bool)(B s:Bs)(v v' :Value)(hB:B.length=32):(entC (⟨p,q,B,s⟩,v)).set 34 v' =entC (⟨p,q,B,s⟩,v'):=by
  rw[IA,IA,List.set_append_right _ _ (by simp[Lib.byteCells,hB])]
  congr 1
  simp[Lib.byteCells,hB]
theorem Yk.entVal{t' :TypeId}{x y:Operand}{g p:Nat}{q:Bool}{B s s' :Bs}{v v' :Value}{t:TypeId}(hx:Ab ρ x = .pointer (some ⟨g,34,none⟩))(hy:Ab ρ y=v')(hg:w.heap[g]? =some (.cells (entC (⟨p,q,B,s⟩,v)).toArray t (0,0)))(hB:B.length=32)(hi:(P.info? t').map (·.size)=some 1)(hr:RB w v' s') 
    (hk:∀w',w'.heap[g]? =some (.cells (entC (⟨p,q,B,s'⟩,v')).toArray t (0,0))→w.grownBy w' (some g)→w'.heap.size=w.heap.size→K undef w'):Yk P K ((execOp (Ab ρ) ⟨d, .store t' x y,ty,pos,af,gd⟩).run P w):=
  Yk.storeC (i:=34) hx hy hg (by rw[C6 (x:=(⟨p,q,B,s⟩,v)) hB];decide) hi hr.one.1 hr.one.2 fun w' h1 h2 h3=>hk w' (by rw[OR p q B s v v' hB]at h1;exact h1) h2 h3
end
theorem AP{P:Program}{t:TypeId}{x:Ad}(hi:(P.info? t).map (·.size)=some 35)(h:x.1.base.length=32):(P.info? t).map (·.size)=some (entC x).toArray.size:=by rw[List.size_toArray,C6 h];exact hi
theorem AW{x y:Ad}(h:x.1.base.length=32)(h' :y.1.base.length=32):(entC x).toArray.size=(entC y).toArray.size:=by rw[List.size_toArray,List.size_toArray,C6 h,C6 h']
theorem JY{b:Bs}{fin pos:Nat}(h:pos<fin∧(b.getD pos 0).toNat≤1):entOne b fin pos =
    if b.getD pos 0=1 then
      if fin-(pos+1)<32 then none
      else(By b (pos+33) fin).map fun x=>(⟨pos,true,((b.take fin).drop (pos+1)).take 32,x.1⟩,x.2)
    else(By b (pos+1) fin).map fun x=>(⟨pos,false,List.replicate 32 0,x.1⟩,x.2):=if_pos h
theorem Ex{b:Bs}{a fin:Nat}{s:Bs}{n:Nat}(h:By b a fin=some (s,n))(hf:fin≤b.length):s.length≤b.length:=by
  unfold By at h
  split at h
  · cases h
  · split at h
    · cases h
    · split at h
      · cases h
      · cases h
        rw[List.length_take,List.length_drop,List.length_take]
        omega
theorem Fh{b:Bs}{fin pos:Nat}{e:Ent}{n:Nat}(h:entOne b fin pos=some (e,n))(hf:fin≤b.length):n≤fin∧pos<n:=by
  unfold entOne at h
  split at h
  · rename_i hc
    split at h
    · split at h
      · cases h
      · cases ht:By b (pos+33) fin with
        | none=>rw[ht]at h;cases h
        | some x=>rw[ht]at h;cases h;have:=Ln ht (by omega) hf;omega
    · cases ht:By b (pos+1) fin with
      | none=>rw[ht]at h;cases h
      | some x=>rw[ht]at h;cases h;have:=Ln ht (by omega) hf;omega
  · cases h
open Go.RowKit
set_option maxRecDepth 100000
theorem GI(z0:Int)(z1:Bool)(w:World):(Instr.build 116 #[(0, .int .i64 z0),(1, .bool z1)]).run Tryd.prog w = .ok (.agg (Value.int .i64 z0 :: Value.bool z1 :: (Lib.byteCells (List.replicate 32 0)++ [Value.slice none 0 0])).toArray) w:=by kernel_rfl
theorem GJ{d:Option Tmp}{ty:TypeId}{pos:String}{af:Array Edge}{gd:Option (Nat × Bool)}(σ:Operand→Value)(w:World):(execOp σ ⟨d, .alloc 116,ty,pos,af,gd⟩).run Tryd.prog w = .ok (.value (PQ w.heap.size 0)) (w.alloc (.cells (entC dEnt).toArray 116)):=by kernel_rfl
theorem Ed:(Tryd.prog.info? 116).map (·.size)=some 35:=by kernel_rfl
theorem FC:A6 Tryd.prog 116 1 1:=fun b o w=>by simp[go_sem]
theorem IB:Tryd.prog.underlying 4=some (.bool):=by kernel_rfl
theorem JZ:AA Tryd.prog 75:=fun _ _=>by kernel_rfl
theorem Lq:A6 Tryd.prog 116 2 2:=fun b o w=>by simp[go_sem]
theorem J0:AA Tryd.prog 76:=fun _ _=>by kernel_rfl
theorem Hw:A6 Tryd.prog 116 3 34:=fun b o w=>by simp[go_sem]
theorem I1:∃fs,Tryd.prog.underlying 116=some (.struct fs):=DF (by kernel_rfl)
theorem Nn(c0 c1 c2 c3 c4 c5 c6 c7 c8 c9 c10 c11 c12 c13 c14 c15 c16 c17 c18 c19 c20 c21 c22 c23 c24 c25 c26 c27 c28 c29 c30 c31 c32 c33 c34:Value)(w:World):(Instr.buildSlice 110 1 #[(0, .agg #[c0,c1,c2,c3,c4,c5,c6,c7,c8,c9,c10,c11,c12,c13,c14,c15,c16,c17,c18,c19,c20,c21,c22,c23,c24,c25,c26,c27,c28,c29,c30,c31,c32,c33,c34])]).run Tryd.prog w = .ok (.slice (some ⟨w.heap.size,0,none⟩) 1 1) (w.alloc (.cells #[c0,c1,c2,c3,c4,c5,c6,c7,c8,c9,c10,c11,c12,c13,c14,c15,c16,c17,c18,c19,c20,c21,c22,c23,c24,c25,c26,c27,c28,c29,c30,c31,c32,c33,c34] 116)):=by kernel_rfl
theorem I2:∀(cs:Array Value),cs.size=35→∀w:World,(Instr.buildSlice 110 1 #[(0, .agg cs)]).run Tryd.prog w = .ok (.slice (some ⟨w.heap.size,0,none⟩) 1 1) (w.alloc (.cells cs 116))
 | ⟨c0 :: c1 :: c2 :: c3 :: c4 :: c5 :: c6 :: c7 :: c8 :: c9 :: c10 :: c11 :: c12 :: c13 :: c14 :: c15 :: c16 :: c17 :: c18 :: c19 :: c20 :: c21 :: c22 :: c23 :: c24 :: c25 :: c26 :: c27 :: c28 :: c29 :: c30 :: c31 :: c32 :: c33 :: c34 :: []⟩,_,w=>Nn c0 c1 c2 c3 c4 c5 c6 c7 c8 c9 c10 c11 c12 c13 c14 c15 c16 c17 c18 c19 c20 c21 c22 c23 c24 c25 c26 c27 c28 c29 c30 c31 c32 c33 c34 w
theorem pk12_ig116:∃z,(Tryd.prog.info? 116).map (fun i=>(i.zero,i.size,i.bytes))=some (some z,35,72)∧z.cells.size=35:=Gl (by kernel_rfl)
theorem Fi:Tryd.prog.underlying 110=some (.slice 116):=by kernel_rfl
theorem L6(w:World)(v:Value)(b:Bs)(hr:RB w v b)(n first fin:Nat)(hff:first≤fin)(hf:fin≤b.length)(hn:n≤1048576)(hb:b.length≤1048576):
  Calls Tryd.prog 65 #[v,NI n,NI first,NI fin] w fun r w' =>(∃x,r = .returned x∧∃es:List Ad,A9 b n first fin=some (es.map Prod.fst)∧RG 35 entC w' x es∧EntsOk w' es∧Ext w w')∨∃ch,r = .panicked ch∧A9 b n first fin=none∧ch= [Cz 6]∧Ext w w' :=by
 refine gG (args:= [v,NI n,NI first,NI fin]) Tryd.func65 rfl 77 rfl rfl ?_
 have hE:=Ext.refl w
 have hen0:OG w.heap.size 116 35 entC w (Value.slice none 0 0) ([]:List Ad):=OG.nil _ _ _ _ _
 refine gL (fun(ρ:Ae) (wz:World)=>∃i:Nat,∃es:List Ad,∃p:Nat,∃va:Value,ρ 0=(v:Value)∧ρ 1=(NI n:Value)∧ρ 3=(NI fin:Value)∧ρ 8=((Value.slice none 0 0):Value)∧ρ 16=(NI n:Value)∧ρ 17=(NI i:Value)∧ρ 2=(NI p:Value)∧ρ 9=(va:Value)∧Ext w wz∧EntsIn wz va es∧OG w.heap.size 116 35 (entC) wz va (es)∧(Cd b fin first i=some (es.map Prod.fst,p))∧(i≤n)∧(p≤fin)∧(es.length=i)∧True) (fun ρ _=>n-(intOf (ρ 17)).toNat) ⟨0,[],first,(Value.slice none 0 0),rfl,rfl,rfl,rfl,rfl,rfl,rfl,rfl,hE,EntsIn.nil _ _,Bo hen0 (rfl),rfl,Nat.zero_le _,by omega,rfl,trivial⟩ ?_
 clear hen0
 clear hE
 rintro bf w6 ⟨i,es,p,va,q,T1,z,T8,a2,an,g,T9,hE,hEn,hr_va,hs,hi,hp,hil,-⟩
 have q17:=an
 refine gS (Yk.eqI (a:=(i:Nat)) (b:=(n:Nat)) an a2 (Ah _ _ _ _) ?_)
 refine cD rfl (fun bi=> ?_) fun bi=> ?_
 ·have hil0:i<n:=bi
  have hst:=Fg hs
  have hlen:(b.take fin).length=fin:=by rw[List.length_take];omega
  by_cases hlt:p<fin
  ·by_cases hle:(b.getD p 0).toNat≤1
   ·have hO1:=JY ⟨hlt,hle⟩
    by_cases h1:b.getD p 0=1
    ·rw[if_pos h1]at hO1
     have h1n:(b.getD p 0).toNat=1:=by rw[h1];rfl
     by_cases hg:fin-(p+1)<32
     ·rw[if_pos hg]at hO1
      refine gS (Yk.eqI (a:=(p:Nat)) (b:=(fin:Nat)) g z (Ah _ _ _ _) (kT (hlt) (gS (Yk.atRB (l:=b) (i:=p) EX M4 (RB.of (hr.keep hE) q) g (by omega) fun dr bj=>(gS (Yk.loadC u5 rfl (PCell.of bj rfl) (gS (Yk.eqI (a:=((b.getD (p) 0).toNat:Nat)) (b:=(1:Nat)) rfl rfl (BU _ _ _ _) (kT (hle) (gS (Yk.pickT rfl rfl (gP (Yp.callA2 FW rfl rfl ?_)))))))))))))
      refine Ap (AR _ (true) 6) ?_ ?_
      rotate_left
      ·rintro ch ds ⟨rfl,hb,hx⟩
       refine Aq ?_
       cases hb
      rintro v_ bk ⟨rfl,dt,bm⟩
      have hEn:EntsIn bk va es:=(hEn.keep bm)
      clear bj
      have hE:=hE.trans bm
      refine gS (Yk.atRB (l:=b) (i:=p) EX M4 (RB.of (hr.keep hE) q) g (by omega) fun du bn=>(gS (Yk.loadC u5 rfl (PCell.of bn rfl) (gS (Yk.eqI (a:=((b.getD (p) 0).toNat:Nat)) (b:=(1:Nat)) rfl rfl (AO _ _ _ _) (kT (h1n) (gS (Yk.build2 g (vr (.bool (true)) rfl) (fun w=>GI (p:Int) true w) (gS (Yk.alloc GJ fun bo cp dv bp cq dw=> ?_))))))))))
      have ad:=Ext.refl bk
      have dx:=hE.size
      have ab:=bp;clear bp
      have dy:bo<cp.heap.size:=by omega
      refine gS (Yk.storeAll (vr (PQ bo 0) rfl) (vr (.agg (entC ((⟨p,true,List.replicate 32 0,[]⟩, .slice none 0 0))).toArray) rfl) ab (AW (x:=((⟨p,true,List.replicate 32 0,[]⟩, .slice none 0 0):Ad)) (y:=dEnt) (by simp) (by simp[dEnt])) (AP (x:=((⟨p,true,List.replicate 32 0,[]⟩, .slice none 0 0):Ad)) Ed (by simp)) (AS (x:=((⟨p,true,List.replicate 32 0,[]⟩, .slice none 0 0):Ad)) rfl) fun dz bq cr d0=> ?_)
      clear ab
      have ab:=bq;clear bq
      have d1:=bl ab
      clear bn
      have ad:=ad.trans cq
      have ad:=Aa ad cr (Nat.le_trans (Nat.le_refl _) (by omega))
      have hE:=hE.trans ad
      refine gS (Yk.bin (xv:=NI p) (yv:=NI 1) g rfl rfl (Ac _ _ _ (by omega)) (gS (Yk.fieldAt FC rfl (gS (Yk.cell1 IB rfl rfl (cellAt ab (show(entC ((⟨p,true,List.replicate 32 0,[]⟩, .slice none 0 0)))[1]? =some (.bool (true):Value)from rfl)) (cT rfl (gS (Yk.sliceHi (xs:=b) (n:=fin) EX M4 q (hr.keep hE) z (by omega) fun cs ct ha44=>(gS (Yk.callA2 JZ rfl rfl ?_))))))))))
      refine((show Calls _ _ _ _ (fun e w2=>e = .returned (.tuple #[AB zero32,NI 0,NI 6])∧Ext _ w2)from(Ip _ cs (b.take fin) ct (p+1) (by omega)).mono fun e w2 ⟨h1,h2⟩=>by subst h1;refine⟨?_,h2⟩;unfold DI;rw[hlen];rw[if_pos (by omega)];rfl)).mono ?_
      rintro e d2 ⟨rfl,a3⟩
      refine⟨_,rfl,?_⟩
      refine gS (Yk.extract (vs:= [AB zero32,NI 0,NI 6]) rfl rfl (gS (Yk.extract (vs:= [AB zero32,NI 0,NI 6]) rfl rfl (gS (Yk.extract (vs:= [AB zero32,NI 0,NI 6]) rfl rfl (gS (Yk.alloc PP fun br cu cv bs cw d3=> ?_)))))))
      have hE:=hE.trans a3
      have ad:=ad.trans a3
      have cx:=hE.size
      have ab:=eb a3 ab
      have d4:=Aw (bl ab) cv
      have ao:=bs;clear bs
      have d5:br<cu.heap.size:=by omega
      refine gS (Yk.storeAll (vr (PQ br 0) rfl) (vr (AB zero32) rfl) ao (by exact BQ (by decide) List.length_replicate) (by exact Ag (by decide)) (Ai _) fun d6 bt cy d7=> ?_)
      clear ao
      have ao:=bt;clear bt
      have d8:=bl ao
      refine gS (Yk.eqI (a:=(6:Nat)) (b:=(0:Nat)) rfl rfl (AO _ _ _ _) (kF (by decide) (gP (Yp.callA2 FW rfl rfl ?_))))
      refine Ap (AR _ (false) 6) ?_ ?_
      rotate_left
      ·rintro ch d9 ⟨rfl,hb,hx⟩
       refine Aq ?_
       have o:=B6 (show Cd b fin first (i+1)=none by rw[hst,hO1];rfl) (n-(i+1))
       rw[show i+1+(n-(i+1))=n by omega]at o
       have hE:=hE.trans cw
       have hE:=Aa hE cy (Nat.le_trans cx (by omega))
       exact .inr ⟨_,rfl,by unfold A9;rw[o];rfl,rfl,hE.trans hx⟩
      rintro v_ ea ⟨rfl,cz,ec⟩
      cases cz
     rw[if_neg hg]at hO1
     have ac:(((b.take fin).drop (p+1)).take 32).length=32:=by rw[List.length_take,List.length_drop,hlen];omega
     refine gS (Yk.eqI (a:=(p:Nat)) (b:=(fin:Nat)) g z (Ah _ _ _ _) (kT (hlt) (gS (Yk.atRB (l:=b) (i:=p) EX M4 (RB.of (hr.keep hE) q) g (by omega) fun ed bu=>(gS (Yk.loadC u5 rfl (PCell.of bu rfl) (gS (Yk.eqI (a:=((b.getD (p) 0).toNat:Nat)) (b:=(1:Nat)) rfl rfl (BU _ _ _ _) (kT (hle) (gS (Yk.pickT rfl rfl (gP (Yp.callA2 FW rfl rfl ?_)))))))))))))
     refine Ap (AR _ (true) 6) ?_ ?_
     rotate_left
     ·rintro ch ee ⟨rfl,hb,hx⟩
      refine Aq ?_
      cases hb
     rintro v_ bv ⟨rfl,ef,a4⟩
     have hEn:EntsIn bv va es:=(hEn.keep a4)
     clear bu
     have hE:=hE.trans a4
     refine gS (Yk.atRB (l:=b) (i:=p) EX M4 (RB.of (hr.keep hE) q) g (by omega) fun eg bw=>(gS (Yk.loadC u5 rfl (PCell.of bw rfl) (gS (Yk.eqI (a:=((b.getD (p) 0).toNat:Nat)) (b:=(1:Nat)) rfl rfl (AO _ _ _ _) (kT (h1n) (gS (Yk.build2 g (vr (.bool (true)) rfl) (fun w=>GI (p:Int) true w) (gS (Yk.alloc GJ fun ap c0 eh bx bz ei=> ?_))))))))))
     have f:=Ext.refl bv
     have b0:=hE.size
     have hr_va:=hr_va.keep a4
     have aq:OB va ap:=AQ hr_va.2 (by omega)
     have c:=bx;clear bx
     have ej:ap<c0.heap.size:=by omega
     refine gS (Yk.storeAll (vr (PQ ap 0) rfl) (vr (.agg (entC ((⟨p,true,List.replicate 32 0,[]⟩, .slice none 0 0))).toArray) rfl) c (AW (x:=((⟨p,true,List.replicate 32 0,[]⟩, .slice none 0 0):Ad)) (y:=dEnt) (by simp) (by simp[dEnt])) (AP (x:=((⟨p,true,List.replicate 32 0,[]⟩, .slice none 0 0):Ad)) Ed (by simp)) (AS (x:=((⟨p,true,List.replicate 32 0,[]⟩, .slice none 0 0):Ad)) rfl) fun el b1 b2 em=> ?_)
     clear c
     have c:=b1;clear b1
     have en:=bl c
     clear bw
     have f:=f.trans bz
     have f:=Aa f b2 (Nat.le_trans (Nat.le_refl _) (by omega))
     have hE:=hE.trans f
     refine gS (Yk.bin (xv:=NI p) (yv:=NI 1) g rfl rfl (Ac _ _ _ (by omega)) (gS (Yk.fieldAt FC rfl (gS (Yk.cell1 IB rfl rfl (cellAt c (show(entC ((⟨p,true,List.replicate 32 0,[]⟩, .slice none 0 0)))[1]? =some (.bool (true):Value)from rfl)) (cT rfl (gS (Yk.sliceHi (xs:=b) (n:=fin) EX M4 q (hr.keep hE) z (by omega) fun c1 c2 ha108=>(gS (Yk.callA2 JZ rfl rfl ?_))))))))))
     refine((show Calls _ _ _ _ (fun e w2=>e = .returned (.tuple #[AB (((b.take fin).drop (p+1)).take 32),NI (p+1+32),NI 0])∧Ext _ w2)from(Ip _ c1 (b.take fin) c2 (p+1) (by omega)).mono fun e w2 ⟨h1,h2⟩=>by subst h1;refine⟨?_,h2⟩;unfold DI;rw[hlen];rw[if_neg (by omega)];rfl)).mono ?_
     rintro e eo ⟨rfl,ar⟩
     refine⟨_,rfl,?_⟩
     refine gS (Yk.extract (vs:= [AB (((b.take fin).drop (p+1)).take 32),NI (p+1+32),NI 0]) rfl rfl (gS (Yk.extract (vs:= [AB (((b.take fin).drop (p+1)).take 32),NI (p+1+32),NI 0]) rfl rfl (gS (Yk.extract (vs:= [AB (((b.take fin).drop (p+1)).take 32),NI (p+1+32),NI 0]) rfl rfl (gS (Yk.alloc PP fun a5 c3 c4 b3 au ep=> ?_)))))))
     have hE:=hE.trans ar
     have f:=f.trans ar
     have c5:=hE.size
     have c6:=f.size
     have c:=eb ar c
     have eq:=Aw (bl c) c4
     have hr_va:=hr_va.keep bz
     have hr_va:=OG.kept hr_va b2 aq
     have hr_va:=hr_va.keep ar
     have b4:OB va a5:=AQ hr_va.2 (by omega)
     have j:=b3;clear b3
     have er:a5<c3.heap.size:=by omega
     refine gS (Yk.storeAll (vr (PQ a5 0) rfl) (vr (AB (((b.take fin).drop (p+1)).take 32)) rfl) j (by exact BQ ac List.length_replicate) (by exact Ag ac) (Ai _) fun et b5 av eu=> ?_)
     clear j
     have j:=b5;clear b5
     have ew:=bl j
     refine gS (Yk.eqI (a:=(0:Nat)) (b:=(0:Nat)) rfl rfl (AO _ _ _ _) (kT (rfl) (gP (Yp.callA2 FW rfl rfl ?_))))
     refine Ap (AR _ (true) 6) ?_ ?_
     rotate_left
     ·rintro ch ex ⟨rfl,hb,hx⟩
      refine Aq ?_
      cases hb
     rintro v_ ey ⟨rfl,ez,aj⟩
     have c:=eb au c
     have c:=kb av c (by omega)
     have c:=eb aj c
     have j:=eb aj j
     refine gS (Yk.loadAll rfl j QJ rfl (by exact Ag ac) (gS (Yk.fieldAt Lq rfl (gS (Yk.entBase (B:=List.replicate 32 0) (B' :=((b.take fin).drop (p+1)).take 32) rfl rfl c (by simp) ac N2 fun e0 b6 aw e1=> ?_)))))
     clear c
     have c:=b6;clear b6
     have e2:=bl c
     have hE:=hE.trans au
     have hE:=Aa hE av (Nat.le_trans c5 (by omega))
     have hE:=hE.trans aj
     have hE:=Aa hE aw (Nat.le_trans b0 (by omega))
     refine gP (Yp.callA3 J0 q rfl z ?_)
     refine Ap (Lo _ v b (hr.keep hE) (p+33) fin (by omega) hf) ?_ ?_
     rotate_left
     ·rintro ch e3 ⟨hT,rfl,hx⟩
      refine Aq ?_
      have hO1:entOne b fin p=none:=by rw[hO1,show By b (p+33) fin=none from hT];rfl
      have o:=B6 (show Cd b fin first (i+1)=none by rw[hst,hO1];rfl) (n-(i+1))
      rw[show i+1+(n-(i+1))=n by omega]at o
      exact .inr ⟨_,rfl,by unfold A9;rw[o];rfl,rfl,hE.trans hx⟩
     rintro v_ c7 ⟨ts,tn,hT,rfl,ax⟩
     have hO:entOne b fin p=some (⟨p,true,((b.take fin).drop (p+1)).take 32,ts⟩,tn):=by rw[hO1,show By b (p+33) fin=some (ts,tn)from hT];rfl
     refine gS (Yk.extract (vs:= [St (ts),NI tn]) rfl rfl (gS (Yk.extract (vs:= [St (ts),NI tn]) rfl rfl (gS (Yk.convStr MH EX u5 rfl (by have:=Ex hT hf;omega) fun t c8 ae ay a6=> ?_)))))
     have j:=kb aw j (by omega)
     have j:=eb ax j
     have c:=eb ax c
     have c9:OB t ap:=fun e=>by have h1:=(a6 _ e).1;have h2:=(bl c);omega
     have hr_va:=hr_va.keep au
     have hr_va:=OG.kept hr_va av b4
     have hr_va:=hr_va.keep aj
     have hr_va:=OG.kept hr_va aw aq
     have hr_va:=hr_va.keep ax
     have hva:∀k,Value.ownBlock va=some k→k<c7.heap.size:=fun k hk=>((hr_va).2.lt k hk).2
     have hkv:∀k,Value.ownBlock t=some k→k<c8.heap.size∧OB va k:=fun k hk=>⟨(a6 k hk).2,fun e=>by have h1:=hva k e;have h2:=(a6 k hk).1;omega⟩
     have c:=eb ay c
     refine gS (Yk.fieldAt Hw rfl (gS (Yk.entVal (s:= []) (s' :=ts) rfl rfl c ac IT ae fun b7 b8 ak e4=> ?_)))
     clear c
     have c:=b8;clear b8
     have e5:=bl c
     have hkv2:∀k,Value.ownBlock t=some k→k<b7.heap.size∧OB va k:=fun k hk=>⟨by have:=(hkv k hk).1;omega,(hkv k hk).2⟩
     have f:=f.trans au
     have f:=Aa f av (Nat.le_trans c6 (by omega))
     have f:=f.trans aj
     have f:=Aa f aw (Nat.le_trans (Nat.le_refl _) (by omega))
     have hZ1:=ax.trans ay
     have f:=f.trans hZ1
     have f:=Aa f ak (Nat.le_trans (Nat.le_refl _) (by omega))
     have ae:=RB.kept ae ak (.inr c9)
     have hEn:EntsIn b7 va (es++ [((⟨p,true,((b.take fin).drop (p+1)).take 32,ts⟩,t):Ad)]):=EntsIn.snoc (hEn.keep f) ae ac hkv2
     have hone_:=AS (x:=((⟨p,true,((b.take fin).drop (p+1)).take 32,ts⟩,t):Ad)) (RB.one ae).2
     refine gS (Yk.loadAll rfl c (I1).choose_spec rfl (AP (x:=((⟨p,true,((b.take fin).drop (p+1)).take 32,ts⟩,t):Ad)) Ed ac) (gS (Yk.lit1G (a:=((⟨p,true,((b.take fin).drop (p+1)).take 32,ts⟩,t))) (enc:=entC) (vr (.agg (entC ((⟨p,true,((b.take fin).drop (p+1)).take 32,ts⟩,t))).toArray) rfl) ((C6 (x:=((⟨p,true,((b.take fin).drop (p+1)).take 32,ts⟩,t):Ad)) ac)) I2 fun da b9 ca al=> ?_)))
     have hEn:EntsIn b9 va (es++ [((⟨p,true,((b.take fin).drop (p+1)).take 32,ts⟩,t):Ad)]):=(hEn.keep al)
     have hE:=hE.trans hZ1
     have hE:=Aa hE ak (Nat.le_trans b0 (by omega))
     have hE:=hE.trans al
     have hr_va:=hr_va.keep ay
     have hr_va:=OG.kept hr_va ak aq
     have hr_va:=hr_va.keep al
     refine gS (Yk.appendRG _ _ w.heap.size _ 72 Fi pk12_ig116.choose_spec.1 pk12_ig116.choose_spec.2 Fi (es) ([((⟨p,true,((b.take fin).drop (p+1)).take 32,ts⟩,t))]) (OG.of hr_va T9) (RG.of ca (vr da rfl)) (fun y hy=>by rw[List.mem_singleton.1 hy];exact hone_) (by simp only[List.length_cons,List.length_nil];omega) (by simp only[List.length_cons,List.length_nil];omega) hE.size fun a7 cb db af=> ?_)
     have hEn_:=hEn
     have af:Grew b9 cb va a7:= .eqv T9 af
     have c:=eb al c
     have j:=eb ay j
     have j:=kb ak j (by omega)
     have j:=eb al j
     have hE:=Af hE af hr_va.2 (Nat.le_refl _)
     have j:=Ak j af b4
     clear ae
     have c:=Ak c af aq
     clear ca
     clear hr_va
     have hEn:EntsIn cb a7 (es++ [((⟨p,true,((b.take fin).drop (p+1)).take 32,ts⟩,t):Ad)]):=EntsIn.grew hEn_ af;clear hEn_
     refine gS (Yk.bin (xv:=NI i) (yv:=NI 1) an rfl rfl (Ac _ _ _ (by omega)) (gK (And.intro ⟨i+1,es++ [(⟨p,true,((b.take fin).drop (p+1)).take 32,ts⟩,t)],tn,a7,q,T1,z,T8,a2,rfl,rfl,rfl,hE,hEn,Bo db (rfl),by rw[hst,hO,List.map_append];rfl,by omega,(Fh hO hf).1,by rw[List.length_append,hil];rfl,trivial⟩ ?_)))
     show n-(intOf (NI ((i)+(1)))).toNat<n-(intOf (bf 17)).toNat
     rw[q17]
     simp only[intOf,Int.toNat_natCast];omega
    rw[if_neg h1]at hO1
    have h1n:¬(b.getD p 0).toNat=1:=fun h=>h1 (UInt8.toNat_inj.1 (by rw[h];rfl))
    refine gS (Yk.eqI (a:=(p:Nat)) (b:=(fin:Nat)) g z (Ah _ _ _ _) (kT (hlt) (gS (Yk.atRB (l:=b) (i:=p) EX M4 (RB.of (hr.keep hE) q) g (by omega) fun e6 cc=>(gS (Yk.loadC u5 rfl (PCell.of cc rfl) (gS (Yk.eqI (a:=((b.getD (p) 0).toNat:Nat)) (b:=(1:Nat)) rfl rfl (BU _ _ _ _) (kT (hle) (gS (Yk.pickT rfl rfl (gP (Yp.callA2 FW rfl rfl ?_)))))))))))))
    refine Ap (AR _ (true) 6) ?_ ?_
    rotate_left
    ·rintro ch e7 ⟨rfl,hb,hx⟩
     refine Aq ?_
     cases hb
    rintro v_ cd ⟨rfl,e8,a8⟩
    have hEn:EntsIn cd va es:=(hEn.keep a8)
    clear cc
    have hE:=hE.trans a8
    refine gS (Yk.atRB (l:=b) (i:=p) EX M4 (RB.of (hr.keep hE) q) g (by omega) fun e9 ce=>(gS (Yk.loadC u5 rfl (PCell.of ce rfl) (gS (Yk.eqI (a:=((b.getD (p) 0).toNat:Nat)) (b:=(1:Nat)) rfl rfl (AO _ _ _ _) (kF (h1n) (gS (Yk.build2 g (vr (.bool (false)) rfl) (fun w=>GI (p:Int) false w) (gS (Yk.alloc GJ fun az dc fa cf cg fb=> ?_))))))))))
    have aa:=Ext.refl cd
    have dd:=hE.size
    have hr_va:=hr_va.keep a8
    have a9:OB va az:=AQ hr_va.2 (by omega)
    have m:=cf;clear cf
    have fc:az<dc.heap.size:=by omega
    refine gS (Yk.storeAll (vr (PQ az 0) rfl) (vr (.agg (entC ((⟨p,false,List.replicate 32 0,[]⟩, .slice none 0 0))).toArray) rfl) m (AW (x:=((⟨p,false,List.replicate 32 0,[]⟩, .slice none 0 0):Ad)) (y:=dEnt) (by simp) (by simp[dEnt])) (AP (x:=((⟨p,false,List.replicate 32 0,[]⟩, .slice none 0 0):Ad)) Ed (by simp)) (AS (x:=((⟨p,false,List.replicate 32 0,[]⟩, .slice none 0 0):Ad)) rfl) fun fd ci cj fe=> ?_)
    clear m
    have m:=ci;clear ci
    have ff:=bl m
    clear ce
    have aa:=aa.trans cg
    have aa:=Aa aa cj (Nat.le_trans (Nat.le_refl _) (by omega))
    have hE:=hE.trans aa
    refine gS (Yk.bin (xv:=NI p) (yv:=NI 1) g rfl rfl (Ac _ _ _ (by omega)) (gS (Yk.fieldAt FC rfl (gS (Yk.cell1 IB rfl rfl (cellAt m (show(entC ((⟨p,false,List.replicate 32 0,[]⟩, .slice none 0 0)))[1]? =some (.bool (false):Value)from rfl)) (cF rfl (gP (Yp.callA3 J0 q rfl z ?_))))))))
    refine Ap (Lo _ v b (hr.keep hE) (p+1) fin (by omega) hf) ?_ ?_
    rotate_left
    ·rintro ch fg ⟨hT,rfl,hx⟩
     refine Aq ?_
     have hO1:entOne b fin p=none:=by rw[hO1,show By b (p+1) fin=none from hT];rfl
     have o:=B6 (show Cd b fin first (i+1)=none by rw[hst,hO1];rfl) (n-(i+1))
     rw[show i+1+(n-(i+1))=n by omega]at o
     exact .inr ⟨_,rfl,by unfold A9;rw[o];rfl,rfl,hE.trans hx⟩
    rintro v_ de ⟨ts,tn,hT,rfl,ba⟩
    have hO:entOne b fin p=some (⟨p,false,List.replicate 32 0,ts⟩,tn):=by rw[hO1,show By b (p+1) fin=some (ts,tn)from hT];rfl
    refine gS (Yk.extract (vs:= [St (ts),NI tn]) rfl rfl (gS (Yk.extract (vs:= [St (ts),NI tn]) rfl rfl (gS (Yk.convStr MH EX u5 rfl (by have:=Ex hT hf;omega) fun u df ag bb bc=> ?_)))))
    have m:=eb ba m
    have dg:OB u az:=fun e=>by have h1:=(bc _ e).1;have h2:=(bl m);omega
    have hr_va:=hr_va.keep cg
    have hr_va:=OG.kept hr_va cj a9
    have hr_va:=hr_va.keep ba
    have hva:∀k,Value.ownBlock va=some k→k<de.heap.size:=fun k hk=>((hr_va).2.lt k hk).2
    have hkv:∀k,Value.ownBlock u=some k→k<df.heap.size∧OB va k:=fun k hk=>⟨(bc k hk).2,fun e=>by have h1:=hva k e;have h2:=(bc k hk).1;omega⟩
    have m:=eb bb m
    refine gS (Yk.fieldAt Hw rfl (gS (Yk.entVal (s:= []) (s' :=ts) rfl rfl m (by simp) IT ag fun ck cl a0 fh=> ?_)))
    clear m
    have m:=cl;clear cl
    have fi:=bl m
    have hkv2:∀k,Value.ownBlock u=some k→k<ck.heap.size∧OB va k:=fun k hk=>⟨by have:=(hkv k hk).1;omega,(hkv k hk).2⟩
    have hZ2:=ba.trans bb
    have aa:=aa.trans hZ2
    have aa:=Aa aa a0 (Nat.le_trans (Nat.le_refl _) (by omega))
    have ag:=RB.kept ag a0 (.inr dg)
    have hEn:EntsIn ck va (es++ [((⟨p,false,List.replicate 32 0,ts⟩,u):Ad)]):=EntsIn.snoc (hEn.keep aa) ag (by simp) hkv2
    have hone_:=AS (x:=((⟨p,false,List.replicate 32 0,ts⟩,u):Ad)) (RB.one ag).2
    refine gS (Yk.loadAll rfl m (I1).choose_spec rfl (AP (x:=((⟨p,false,List.replicate 32 0,ts⟩,u):Ad)) Ed (by simp)) (gS (Yk.lit1G (a:=((⟨p,false,List.replicate 32 0,ts⟩,u))) (enc:=entC) (vr (.agg (entC ((⟨p,false,List.replicate 32 0,ts⟩,u))).toArray) rfl) ((C6 (x:=((⟨p,false,List.replicate 32 0,ts⟩,u):Ad)) (by simp))) I2 fun dh cm cn a1=> ?_)))
    have hEn:EntsIn cm va (es++ [((⟨p,false,List.replicate 32 0,ts⟩,u):Ad)]):=(hEn.keep a1)
    have hE:=hE.trans hZ2
    have hE:=Aa hE a0 (Nat.le_trans dd (by omega))
    have hE:=hE.trans a1
    have hr_va:=hr_va.keep bb
    have hr_va:=OG.kept hr_va a0 a9
    have hr_va:=hr_va.keep a1
    refine gS (Yk.appendRG _ _ w.heap.size _ 72 Fi pk12_ig116.choose_spec.1 pk12_ig116.choose_spec.2 Fi (es) ([((⟨p,false,List.replicate 32 0,ts⟩,u))]) (OG.of hr_va T9) (RG.of cn (vr dh rfl)) (fun y hy=>by rw[List.mem_singleton.1 hy];exact hone_) (by simp only[List.length_cons,List.length_nil];omega) (by simp only[List.length_cons,List.length_nil];omega) hE.size fun bd co di am=> ?_)
    have hEn_:=hEn
    have am:Grew cm co va bd:= .eqv T9 am
    have m:=eb a1 m
    have hE:=Af hE am hr_va.2 (Nat.le_refl _)
    clear ag
    have m:=Ak m am a9
    clear cn
    clear hr_va
    have hEn:EntsIn co bd (es++ [((⟨p,false,List.replicate 32 0,ts⟩,u):Ad)]):=EntsIn.grew hEn_ am;clear hEn_
    refine gS (Yk.bin (xv:=NI i) (yv:=NI 1) an rfl rfl (Ac _ _ _ (by omega)) (gK (And.intro ⟨i+1,es++ [(⟨p,false,List.replicate 32 0,ts⟩,u)],tn,bd,q,T1,z,T8,a2,rfl,rfl,rfl,hE,hEn,Bo di (rfl),by rw[hst,hO,List.map_append];rfl,by omega,(Fh hO hf).1,by rw[List.length_append,hil];rfl,trivial⟩ ?_)))
    show n-(intOf (NI ((i)+(1)))).toNat<n-(intOf (bf 17)).toNat
    rw[q17]
    simp only[intOf,Int.toNat_natCast];omega
   have hO1:entOne b fin p=none:=by unfold entOne;rw[if_neg (fun h=>hle h.2)]
   refine gS (Yk.eqI (a:=(p:Nat)) (b:=(fin:Nat)) g z (Ah _ _ _ _) (kT (hlt) (gS (Yk.atRB (l:=b) (i:=p) EX M4 (RB.of (hr.keep hE) q) g (by omega) fun fj dj=>(gS (Yk.loadC u5 rfl (PCell.of dj rfl) (gS (Yk.eqI (a:=((b.getD (p) 0).toNat:Nat)) (b:=(1:Nat)) rfl rfl (BU _ _ _ _) (kF (hle) (gS (Yk.pickT rfl rfl (gP (Yp.callA2 FW rfl rfl ?_)))))))))))))
   refine Ap (AR _ (false) 6) ?_ ?_
   rotate_left
   ·rintro ch fk ⟨rfl,hb,hx⟩
    refine Aq ?_
    have o:=B6 (show Cd b fin first (i+1)=none by rw[hst,hO1];rfl) (n-(i+1))
    rw[show i+1+(n-(i+1))=n by omega]at o
    exact .inr ⟨_,rfl,by unfold A9;rw[o];rfl,rfl,hE.trans hx⟩
   rintro v_ fl ⟨rfl,dk,fm⟩
   cases dk
  have hO1:entOne b fin p=none:=by unfold entOne;rw[if_neg (fun h=>hlt h.1)]
  refine gS (Yk.eqI (a:=(p:Nat)) (b:=(fin:Nat)) g z (Ah _ _ _ _) (kF (hlt) (gS (Yk.pickF rfl rfl (gP (Yp.callA2 FW rfl rfl ?_))))))
  refine Ap (AR _ (false) 6) ?_ ?_
  rotate_left
  ·rintro ch fn ⟨rfl,hb,hx⟩
   refine Aq ?_
   have o:=B6 (show Cd b fin first (i+1)=none by rw[hst,hO1];rfl) (n-(i+1))
   rw[show i+1+(n-(i+1))=n by omega]at o
   exact .inr ⟨_,rfl,by unfold A9;rw[o];rfl,rfl,hE.trans hx⟩
  rintro v_ fo ⟨rfl,dl,fp⟩
  cases dl
 have hin:i=n:=by omega
 refine gS (Yk.eqI (a:=(p:Nat)) (b:=(fin:Nat)) g z (AO _ _ _ _) (gP (Yp.callA2 FW rfl rfl ?_)))
 refine Ap (AR _ (decide ((p:Nat)=(fin))) 6) ?_ ?_
 rotate_left
 ·rintro ch fq ⟨rfl,hb,hx⟩
  refine Aq ?_
  have hno:=of_decide_eq_false hb
  exact .inr ⟨_,rfl,by unfold A9;rw[←hin,hs];exact if_neg hno,rfl,hE.trans hx⟩
 rintro v_ dm ⟨rfl,dn,be⟩
 have hEn:EntsIn dm va es:=(hEn.keep be)
 have dp:=of_decide_eq_true dn
 refine Bx rfl T9 ?_
 have hE:=hE.trans be
 have hr_va:=hr_va.keep be
 exact .inl ⟨_,rfl,es,by unfold A9;rw[←hin,hs];exact if_pos dp,RG.ofOwn hr_va,hEn.ok,hE⟩
open Go.RowKit
abbrev Bm(x:Ad):Value:= .agg (entC x).toArray
theorem FD:KL Tryd.prog 3 (MapKept.IsKey (.int .i64)):=KL.ofKey (by kernel_rfl)
theorem FE:∀n:Nat,True→MapKept.IsKey (.int .i64) (NI n):=fun n _=>by first | exact⟨_,rfl⟩ | simp[MapKept.IsKey]
theorem Gn{a b:Nat}(h:NI a=NI b):a=b:=by injection h with _ h;exact Int.ofNat.inj h
theorem CY:∀u:World,(zeroValue 116).run Tryd.prog u = .ok (Bm dEnt) u:=fun _=>by kernel_rfl
structure IxS (α : Type) where
  ids:List Bs
  G:Nat→Option α
  M:Bs→Option α
section
variable {α : Type} (at_ : α → Nat) (d : α) (t : Bs) (es : List α)
def CB:Nat→Nat→Option α
  | 0=>fun _=>none
  | i+1=>updM (CB i) (at_ (es.getD i d)) (some (es.getD i d))
def AX(i:Nat):Bs:=(t.drop (36*i)).take 32
def Bh(i:Nat):Nat:=BI ((t.drop (36*i)).drop 32)
def Dc(i:Nat)(s:IxS α)(c:α):IxS α:=⟨s.ids++ [AX t i],updM s.G (at_ c) none,updM s.M (AX t i) (some c)⟩
def Cc(i:Nat)(s:IxS α):Option (IxS α):=
  match s.G (Bh t i)with
  | none=>none
  | some c=>if i=0∨Lib.compareBytes (s.ids.getD (i-1) []) (AX t i)<0 then some (Dc at_ t i s c)else none
def CX:Nat→Option (IxS α)
  | 0=>some ⟨[],CB at_ d es es.length,fun _=>none⟩
  | i+1=>(CX i).bind (Cc at_ t i)
variable {at_ d t es}
theorem DM{i:Nat}(h:CX at_ d t es i=none):∀k,CX at_ d t es (i+k)=none
  | 0=>h
  | k+1=>by
    show(CX at_ d t es (i+k)).bind _=none
    rw[DM h k]
    rfl
theorem Ey{i:Nat}{s:IxS α}(h:CX at_ d t es i=some s):CX at_ d t es (i+1)=Cc at_ t i s:=by
  show(CX at_ d t es i).bind _=_
  rw[h]
  rfl
theorem Ic:∀i,i≤es.length→∀k c,CB at_ d es i k=some c→c∈es∧at_ c=k
  | 0,_,_,_,h=>by cases h
  | i+1,hi,k,c,h=>by
    unfold CB updM at h
    split at h
    · rename_i hk
      cases h
      refine⟨?_,hk.symm⟩
      rw[List.getD_eq_getElem?_getD,List.getElem?_eq_getElem (by omega)]
      exact List.getElem_mem _
    · exact Ic i (by omega) k c h
structure Rz (t : Bs) (es : List α) (i : Nat) (s : IxS α) : Prop where
  len:s.ids.length=i
  ids:∀x∈s.ids,∃j,j<i∧x=AX t j
  G:∀k c,s.G k=some c→c∈es
  M:∀k c,s.M k=some c→c∈es
  all:∀x∈s.ids,(s.M x).isSome=true
theorem H4:∀i s,CX at_ d t es i=some s→Rz t es i s
  | 0,s,h=>by
    cases h
    exact⟨rfl,(fun x hx=>by cases hx),(fun k c hk=>(Ic _ (Nat.le_refl _) k c hk).1),(fun k c hk=>by cases hk),(fun x hx=>by cases hx)⟩
  | i+1,s,h=>by
    cases h1:CX at_ d t es i with
    | none=>rw[DM h1 1]at h;cases h
    | some s0=>
      have ih:=H4 i s0 h1
      rw[Ey h1]at h
      unfold Cc at h
      split at h
      · cases h
      · rename_i c hc
        split at h
        · cases h
          have hcm:=ih.G _ c hc
          refine⟨?_,fun x hx=> ?_,fun k c' hk=> ?_,fun k c' hk=> ?_,fun x hx=> ?_⟩
          · show(s0.ids++ [AX t i]).length=i+1
            rw[List.length_append,ih.len]
            rfl
          · rcases List.mem_append.1 hx with hx | hx
            · obtain⟨j,hj,e⟩:=ih.ids x hx
              exact⟨j,by omega,e⟩
            · exact⟨i,by omega,List.mem_singleton.1 hx⟩
          · unfold Dc updM at hk
            dsimp only at hk
            split at hk
            · cases hk
            · exact ih.G k c' hk
          · unfold Dc updM at hk
            dsimp only at hk
            split at hk
            · cases hk;exact hcm
            · exact ih.M k c' hk
          · unfold Dc updM
            dsimp only
            split
            · rfl
            · rename_i hne
              rcases List.mem_append.1 hx with hx | hx
              · exact ih.all x hx
              · exact absurd (List.mem_singleton.1 hx) hne
        · cases h
end
theorem rowId_len{t:Bs}{i n:Nat}(h:t.length=36*n)(hi:i<n):(AX t i).length=32:=by
  unfold AX
  rw[List.length_take,List.length_drop]
  omega
open Go.RowKit
set_option maxRecDepth 100000
theorem L7:∀w' :World,(sizeOf 116).run Tryd.prog w' = .ok 35 w' :=fun _=>by kernel_rfl
theorem FF:A6 Tryd.prog 116 0 0:=fun b o w=>by simp[go_sem]
theorem Dl:Tryd.prog.underlying 140=some (.map 3 116):=by kernel_rfl
theorem FX:AA Tryd.prog 62:=fun _ _=>by kernel_rfl
theorem J1:∀(cs:Array Value),cs.size=32→∀w:World,(Instr.buildSlice 47 1 #[(0, .agg cs)]).run Tryd.prog w = .ok (.slice (some ⟨w.heap.size,0,none⟩) 1 1) (w.alloc (.cells cs 38))
 | ⟨[c0,c1,c2,c3,c4,c5,c6,c7,c8,c9,c10,c11,c12,c13,c14,c15,c16,c17,c18,c19,c20,c21,c22,c23,c24,c25,c26,c27,c28,c29,c30,c31]⟩,_,w=>PT c0 c1 c2 c3 c4 c5 c6 c7 c8 c9 c10 c11 c12 c13 c14 c15 c16 c17 c18 c19 c20 c21 c22 c23 c24 c25 c26 c27 c28 c29 c30 c31 w
theorem I3:Tryd.prog.underlying 112=some (.map 38 116):=by kernel_rfl
theorem No(w:World)(v:Value)(t:Bs)(hr:RB w v t)(ve:Value)(es:List Ad)(hg:RG 35 entC w ve es)(hok:EntsOk w es)(htl:t.length=36*es.length)(hn:es.length≤1048576):
  Calls Tryd.prog 66 #[v,ve] w fun r w' =>(∃x,r = .returned x∧∃s vi b,CX (fun x:Ad=>x.1.pos) dEnt t es es.length=some s∧x = .tuple #[vi, .map (some b)]∧RG 32 Lib.byteCells w' vi s.ids∧MapF rk Bm (fun id:List UInt8=>id.length=32) w' b s.M∧Ext w w')∨∃ch,r = .panicked ch∧CX (fun x:Ad=>x.1.pos) dEnt t es es.length=none∧ch= [Cz 6]∧Ext w w' :=by
 refine gG (args:= [v,ve]) Tryd.func66 rfl 83 rfl rfl ?_
 have hE:=Ext.refl w
 refine gS (Yk.mkMap NI Bm (fun _:Nat=>True) fun q w4 eu b5 dc ew=> ?_)
 have ex:q<w4.heap.size:=by omega
 have hE:=hE.trans dc
 refine gS (Yk.lenRG Fi (RG.of (hg.keep hE) rfl) (gL (fun(ρ:Ae) (wz:World)=>∃m:Nat,ρ 0=(v:Value)∧ρ 1=(ve:Value)∧ρ 4=((Value.slice none 0 0):Value)∧ρ 5=((Value.map none):Value)∧ρ 6=(.map (some q):Value)∧ρ 19=(ve:Value)∧ρ 20=(NI es.length:Value)∧ρ 21=(NI m:Value)∧Ext w wz∧MapF NI Bm (fun _:Nat=>True) wz q (CB (fun x:Ad=>x.1.pos) dEnt es m)∧(m≤es.length)∧True) (fun ρ _=>es.length-(intOf (ρ 21)).toNat) ⟨0,rfl,rfl,rfl,rfl,rfl,rfl,rfl,rfl,hE,CU b5 (rfl),Nat.zero_le _,trivial⟩ ?_))
 clear b5
 clear hE
 rintro dd b6 ⟨m,T0,T1,T4,T5,u,aq,ar,aj,hE,hb6l,hm,-⟩
 have q21:=aj
 refine gS (Yk.eqI (a:=(m:Nat)) (b:=(es.length:Nat)) aj ar (Ah _ _ _ _) ?_)
 refine cD rfl (fun b7=> ?_) fun b7=> ?_
 ·have hmi:=getD_mem dEnt (l:=es) (i:=m) b7
  have hel:=hok _ hmi
  have de:(entC (es.getD (m) dEnt)).length=35:=(RG.elem (hg.keep hE) dEnt (by omega))
  refine gS (Yk.atRG Fi L7 (by decide) dEnt (RG.of (hg.keep hE) aq) aj (by omega) fun ey b8=>(gS (Yk.loadPR (PR.of b8 rfl) (I1).choose_spec rfl (by rw[de];exact Ed) (gS (Yk.alloc GJ fun b9 df dg ca cb ez=> ?_)))))
  have a3:=Ext.refl b6
  have e0:=hE.size
  have e1:=Aw hb6l.lt dg
  have au:=ca;clear ca
  have e2:b9<df.heap.size:=by omega
  refine gS (Yk.storeAll (vr (PQ b9 0) rfl) (vr (.agg (entC (es.getD (m) dEnt)).toArray) rfl) au (AW (x:=((es.getD (m) dEnt):Ad)) (y:=(dEnt:Ad)) hel.2 (by simp[dEnt])) (AP (x:=((es.getD (m) dEnt):Ad)) Ed hel.2) (AS (x:=((es.getD (m) dEnt):Ad)) (RB.one hel.1).2) fun e3 cc cd e4=> ?_)
  have hb6l:=hb6l.keep cb
  have hb6l:=MapF.other hb6l cd (Ao (by omega))
  clear au
  have au:=cc;clear cc
  have e5:=bl au
  clear b8
  refine gS (Yk.fieldAt FF rfl (gS (Yk.cell1 PJ rfl rfl (cellAt au ((show(entC ((es.getD (m) dEnt)))[0]? =some (NI (((es.getD (m) dEnt)).1.pos):Value)from rfl))) (gS (Yk.loadAll rfl au (I1).choose_spec rfl (AP (x:=((es.getD (m) dEnt):Ad)) Ed hel.2) ?_)))))
  have a3:=a3.trans cb
  have a3:=Aa a3 cd (Nat.le_trans (Nat.le_refl _) (by omega))
  have hE:=hE.trans a3
  refine gS (Yk.putM (ek:=NI) (ev:=Bm) (D:=(fun _:Nat=>True)) (c:=((es.getD (m) dEnt))) FD FE Dl u (vr (NI (((es.getD (m) dEnt)).1.pos)) rfl) (vr (.agg (entC ((es.getD (m) dEnt))).toArray) rfl) hb6l trivial fun dh ce di e6=> ?_)
  clear hb6l
  have e7:q<dh.heap.size:=ce.lt
  have hE:=Aa hE di (Nat.le_trans (Nat.le_refl _) (by omega))
  refine gS (Yk.bin (xv:=NI m) (yv:=NI 1) aj rfl rfl (Ac _ _ _ (by omega)) (gK (And.intro ⟨m+1,T0,T1,T4,T5,u,aq,ar,rfl,hE,CU ce (rfl),by omega,trivial⟩ ?_)))
  show es.length-(intOf (NI ((m)+(1)))).toNat<es.length-(intOf (dd 21)).toNat
  rw[q21]
  simp only[intOf,Int.toNat_natCast];omega
 have hie:m=es.length:=by omega
 have hids0:OG w.heap.size 38 32 Lib.byteCells b6 (Value.slice none 0 0) ([]:List Bs):=OG.nil _ _ _ _ _
 have dj:Value.ownBlock (Value.slice none 0 0)≠some q:=fun h=>by cases h
 refine gS (Yk.mkMap rk Bm (fun id:List UInt8=>id.length=32) fun ae dk dl cf bh e8=> ?_)
 have cg:=hE.size
 have e9:=Aw hb6l.lt dl
 have dm:Value.ownBlock (Value.slice none 0 0)≠some ae:=AQ hids0.2 (by omega)
 have fa:ae<dk.heap.size:=by omega
 have hE:=hE.trans bh
 have hb6l:=hb6l.keep bh
 have hids0:=hids0.keep bh
 refine gS (Yk.lenRG Fi (RG.of (hg.keep hE) T1) (gL (fun(ρ:Ae) (wz:World)=>∃i:Nat,∃s:IxS Ad,∃vi:Value,ρ 0=(v:Value)∧ρ 1=(ve:Value)∧ρ 4=((Value.slice none 0 0):Value)∧ρ 5=((Value.map none):Value)∧ρ 6=(.map (some q):Value)∧ρ 10=(.map (some ae):Value)∧ρ 19=(ve:Value)∧ρ 20=(NI es.length:Value)∧ρ 21=(NI m:Value)∧ρ 32=(NI es.length:Value)∧ρ 33=(NI i:Value)∧ρ 9=(vi:Value)∧Ext w wz∧OG w.heap.size 38 32 (Lib.byteCells) wz vi (s.ids)∧MapF NI Bm (fun _:Nat=>True) wz q (s.G)∧MapF rk Bm (fun id:List UInt8=>id.length=32) wz ae (s.M)∧(CX (fun x:Ad=>x.1.pos) dEnt t es i=some s)∧(i≤es.length)∧(OB vi q)∧(OB vi ae)∧True) (fun ρ _=>es.length-(intOf (ρ 33)).toNat) ⟨0,⟨[],CB (fun x:Ad=>x.1.pos) dEnt es es.length,fun _=>none⟩,(Value.slice none 0 0),T0,T1,T4,T5,u,rfl,aq,ar,aj,rfl,rfl,rfl,hE,Bo hids0 (rfl),CU hb6l (by rw[hie]),CU cf (rfl),rfl,Nat.zero_le _,dj,dm,trivial⟩ ?_))
 clear hb6l
 clear hids0
 clear cf
 clear hE
 rintro ci fb ⟨i,s,vi,T0,T1,T4,T5,u,a4,aq,ar,aj,bi,ab,T9,hE,hr_vi,hb6ll,hb49l,hs,hi,hap_vi_n3,hap_vi_n46,-⟩
 have q33:=ab
 refine gS (Yk.eqI (a:=(i:Nat)) (b:=(es.length:Nat)) ab bi (Ah _ _ _ _) ?_)
 refine cD rfl (fun cj=> ?_) fun cj=> ?_
 ·have hil:i<es.length:=cj
  have hI:=H4 i s hs
  have hIl:=hI.len
  have hst:=Ey hs
  have h32:=rowId_len htl hil
  refine gS (Yk.bin (xv:=NI 36) (yv:=NI i) rfl ab rfl (A0 _ _ _ (by omega)) (gS (Yk.sliceLo (xs:=t) (l:=(36)*(i)) EX M4 T0 (hr.keep hE) rfl (by omega) fun dn n ha69=>(gS (Yk.callA2 JZ rfl rfl ?_)))))
  refine((show Calls _ _ _ _ (fun e w2=>e = .returned (.tuple #[AB (AX t i),NI 32,NI 0])∧Ext _ w2)from(Ip _ dn (t.drop ((36)*(i))) n 0 (Nat.zero_le _)).mono fun e w2 ⟨h1,h2⟩=>by subst h1;refine⟨?_,h2⟩;unfold DI AX;rw[if_neg (by simp only[List.length_drop];omega),List.drop_zero];rfl)).mono ?_
  rintro e dp ⟨rfl,ak⟩
  refine⟨_,rfl,?_⟩
  refine gS (Yk.extract (vs:= [AB (AX t i),NI 32,NI 0]) rfl rfl (gS (Yk.extract (vs:= [AB (AX t i),NI 32,NI 0]) rfl rfl (gS (Yk.extract (vs:= [AB (AX t i),NI 32,NI 0]) rfl rfl (gS (Yk.alloc PP fun bj dq ck cl o fc=> ?_)))))))
  have g:=Ext.refl dp
  have hE:=hE.trans ak
  have bb:=hE.size
  have hb6ll:=hb6ll.keep ak
  have fd:=Aw hb6ll.lt ck
  have hb49l:=hb49l.keep ak
  have fe:=Aw hb49l.lt ck
  have hr_vi:=hr_vi.keep ak
  have a5:OB vi bj:=AQ hr_vi.2 (by omega)
  have f:=cl;clear cl
  have ff:bj<dq.heap.size:=by omega
  refine gS (Yk.storeAll (vr (PQ bj 0) rfl) (vr (AB (AX t i)) rfl) f (by exact BQ h32 List.length_replicate) (by exact Ag h32) (Ai _) fun fg cm p fh=> ?_)
  have hb6ll:=hb6ll.keep o
  have hb6ll:=MapF.other hb6ll p (Ao (by omega))
  have hb49l:=hb49l.keep o
  have hb49l:=MapF.other hb49l p (Ao (by omega))
  clear f
  have f:=cm;clear cm
  have fi:=bl f
  rcases hG:s.G (Bh t i)with _ | c
  ·have hO:Cc (fun x:Ad=>x.1.pos) t i s=none:=by unfold Cc;rw[hG]
   have n:=n.keep ak
   have g:=g.trans o
   have g:=Aa g p (Nat.le_trans (Nat.le_refl _) (by omega))
   refine gS (Yk.sliceLo (xs:=t.drop ((36)*(i))) (l:=32) EX M4 rfl (n.keep g) rfl (by simp only[List.length_drop];omega) fun dr ds ha95=>(gS (Yk.callA1 FX rfl (((show Calls _ _ _ _ (fun e w2=>e = .returned (NI (Bh t i))∧Ext _ w2)from Dv _ dr ((t.drop ((36)*(i)):List UInt8).drop (32)) ds (by simp only[List.length_drop];omega))).mono ?_))))
   rintro e dt ⟨rfl,bc⟩
   refine⟨_,rfl,?_⟩
   have hE:=hE.trans o
   have hE:=Aa hE p (Nat.le_trans bb (by omega))
   have hE:=hE.trans bc
   have hb6ll:=hb6ll.keep bc
   refine gS (Yk.lookOkN (ek:=NI) (ev:=Bm) (D:=(fun _:Nat=>True)) FD FE (fun _ _=>Gn) Dl (z:=Bm dEnt) CY u rfl hb6ll trivial hG (gS (Yk.extract (vs:= [.agg (entC (dEnt)).toArray, .bool (false)]) rfl rfl (gS (Yk.extract (vs:= [.agg (entC (dEnt)).toArray, .bool (false)]) rfl rfl (gS (Yk.alloc GJ fun cn du co cp bk fj=> ?_)))))))
   have am:=Ext.refl dt
   have g:=g.trans bc
   have fk:=hE.size
   have fl:=g.size
   have fm:=Aw hb6ll.lt co
   have hb49l:=hb49l.keep bc
   have fn:=Aw hb49l.lt co
   have bd:=cp;clear cp
   have fo:cn<du.heap.size:=by omega
   refine gS (Yk.storeAll (vr (PQ cn 0) rfl) (vr (.agg (entC (dEnt)).toArray) rfl) bd (AW (x:=((dEnt):Ad)) (y:=(dEnt:Ad)) (by simp[dEnt]) (by simp[dEnt])) (AP (x:=((dEnt):Ad)) Ed (by simp[dEnt])) (AS (x:=((dEnt):Ad)) rfl) fun fp cq bm fq=> ?_)
   have hb6ll:=hb6ll.keep bk
   have hb6ll:=MapF.other hb6ll bm (Ao (by omega))
   have hb49l:=hb49l.keep bk
   have hb49l:=MapF.other hb49l bm (Ao (by omega))
   clear bd
   have bd:=cq;clear cq
   have fr:=bl bd
   refine Bw [0,1,2,3,4,5,6,7,8,9,10,11,12,13,14,15] [11,15] [] fun fs dv=>(ys (Yk.pickF rfl rfl zz) (QH (Yp.callA2 FW rfl rfl ?_)))
   refine Ap (AR _ (false) 6) ?_ ?_
   rotate_left
   ·rintro ch ft ⟨rfl,hb,hx⟩
    refine Aq ?_
    rw[hO]at hst
    have a6:=DM hst (es.length-(i+1))
    rw[show i+1+(es.length-(i+1))=es.length by omega]at a6
    have am:=am.trans bk
    have am:=Aa am bm (Nat.le_trans (Nat.le_refl _) (by omega))
    have am:=am.trans dv
    have hE:=hE.trans am
    exact .inr ⟨_,rfl,a6,rfl,hE.trans hx⟩
   rintro v_ fu ⟨rfl,dw,fv⟩
   cases dw
  have hcm:=hI.G _ c hG
  have hcl:=hok _ hcm
  by_cases h0:i=0
  ·have hO:Cc (fun x:Ad=>x.1.pos) t i s=some (Dc (fun x:Ad=>x.1.pos) t i s c):=by unfold Cc;rw[hG];exact if_pos (.inl h0)
   rw[hO]at hst
   have n:=n.keep ak
   have g:=g.trans o
   have g:=Aa g p (Nat.le_trans (Nat.le_refl _) (by omega))
   refine gS (Yk.sliceLo (xs:=t.drop ((36)*(i))) (l:=32) EX M4 rfl (n.keep g) rfl (by simp only[List.length_drop];omega) fun dx dy ha131=>(gS (Yk.callA1 FX rfl (((show Calls _ _ _ _ (fun e w2=>e = .returned (NI (Bh t i))∧Ext _ w2)from Dv _ dx ((t.drop ((36)*(i)):List UInt8).drop (32)) dy (by simp only[List.length_drop];omega))).mono ?_))))
   rintro e dz ⟨rfl,av⟩
   refine⟨_,rfl,?_⟩
   have hE:=hE.trans o
   have hE:=Aa hE p (Nat.le_trans bb (by omega))
   have hE:=hE.trans av
   have hb6ll:=hb6ll.keep av
   refine gS (Yk.lookOkS (ek:=NI) (ev:=Bm) (D:=(fun _:Nat=>True)) FD FE (fun _ _=>Gn) Dl (z:=Bm dEnt) CY u rfl hb6ll trivial hG (gS (Yk.extract (vs:= [.agg (entC (c)).toArray, .bool (true)]) rfl rfl (gS (Yk.extract (vs:= [.agg (entC (c)).toArray, .bool (true)]) rfl rfl (gS (Yk.alloc GJ fun bn d0 bo cr aw fw=> ?_)))))))
   have an:=Ext.refl dz
   have g:=g.trans av
   have fx:=hE.size
   have d1:=g.size
   have fy:=Aw hb6ll.lt bo
   have hb49l:=hb49l.keep av
   have fz:=Aw hb49l.lt bo
   have hr_vi:=hr_vi.keep o
   have hr_vi:=OG.kept hr_vi p a5
   have hr_vi:=hr_vi.keep av
   have cs:OB vi bn:=AQ hr_vi.2 (by omega)
   have j:=cr;clear cr
   have f0:bn<d0.heap.size:=by omega
   refine gS (Yk.storeAll (vr (PQ bn 0) rfl) (vr (.agg (entC (c)).toArray) rfl) j (AW (x:=((c):Ad)) (y:=(dEnt:Ad)) hcl.2 (by simp[dEnt])) (AP (x:=((c):Ad)) Ed hcl.2) (AS (x:=((c):Ad)) (RB.one hcl.1).2) fun f1 ct ax f2=> ?_)
   have hb6ll:=hb6ll.keep aw
   have hb6ll:=MapF.other hb6ll ax (Ao (by omega))
   have hb49l:=hb49l.keep aw
   have hb49l:=MapF.other hb49l ax (Ao (by omega))
   clear j
   have j:=ct;clear ct
   have f3:=bl j
   refine Bw [0,1,2,3,4,5,6,7,8,9,10,11,12,13,14,15] [11,15] [] fun f4 d2=>(ys (Yk.eqI (a:=(i:Nat)) (b:=(0:Nat)) ab rfl (AO _ _ _ _) zz) (kT (h0) (ys (Yk.pickT rfl rfl zz) (ys (Yk.pickT rfl rfl zz) (QH (Yp.callA2 FW rfl rfl ?_))))))
   refine Ap (AR _ (true) 6) ?_ ?_
   rotate_left
   ·rintro ch f5 ⟨rfl,hb,hx⟩
    refine Aq ?_
    cases hb
   rintro v_ f6 ⟨rfl,f7,d3⟩
   have hZ1:=d2.trans d3
   have hb6ll:=hb6ll.keep hZ1
   have j:=eb hZ1 j
   refine gS (Yk.fieldAt FF rfl (gS (Yk.cell1 PJ rfl rfl (cellAt j ((show(entC ((c)))[0]? =some (NI (((c)).1.pos):Value)from rfl))) ?_)))
   have an:=an.trans aw
   have an:=Aa an ax (Nat.le_trans (Nat.le_refl _) (by omega))
   have an:=an.trans hZ1
   have hE:=hE.trans an
   have g:=g.trans aw
   have g:=Aa g ax (Nat.le_trans d1 (by omega))
   have g:=g.trans hZ1
   refine gS (Yk.delM (ek:=NI) (ev:=Bm) (D:=(fun _:Nat=>True)) FD FE (fun _ _=>Gn) Dl u rfl hb6ll trivial fun d4 af a7 f8=> ?_)
   have hb49l:=hb49l.keep hZ1
   have hb49l:=MapF.other hb49l a7 (Ao (by omega))
   clear hb6ll
   have f9:q<d4.heap.size:=af.lt
   refine DC [0,1,2,3,6,4,5,7,8] [4,5,7,8] [] [1,6] fun ga bp=> ?_
   have f:=eb av f
   have gb:=Aw (bl f) bo
   have f:=eb aw f
   have f:=kb ax f (by omega)
   have f:=eb hZ1 f
   have f:=kb a7 f (by omega)
   have f:=eb bp f
   have j:=kb a7 j (by omega)
   have j:=eb bp j
   refine RW f j ?_
   refine yf (fun _ ⟨f,_,_⟩=>Yk.loadAll rfl f QJ rfl (by exact Ag h32) zz) (ys (Yk.loadAll rfl f QJ rfl (by exact Ag h32) zz) (yf (fun _ ⟨_,j,_⟩=>Yk.loadAll rfl j (I1).choose_spec rfl (AP (x:=((c):Ad)) Ed hcl.2) zz) (yI (Yk.lit1G (a:=(AX t i)) (enc:=Lib.byteCells) (vr (AB (AX t i)) rfl) (by rw[Lib.byteCells_length];exact h32) J1 fun d5 d6 cu bq=> ?_))))
   have hr_vi:=hr_vi.keep aw
   have hr_vi:=OG.kept hr_vi ax cs
   have hr_vi:=hr_vi.keep hZ1
   have hr_vi:=OG.kept hr_vi a7 hap_vi_n3
   have hZ2:=bp.trans bq
   have hr_vi:=hr_vi.keep hZ2
   have hE:=Aa hE a7 (Nat.le_trans (Nat.le_refl _) (by omega))
   have hE:=hE.trans hZ2
   have f:=eb bq f
   have j:=eb bq j
   refine⟨⟨f,j,trivial⟩,?_⟩
   refine yI (Yk.appendRG _ _ w.heap.size _ 32 Lc pk6_ig38.choose_spec.1 pk6_ig38.choose_spec.2 Lc (s.ids) ([(AX t i)]) (OG.of hr_vi T9) (RG.of cu (vr d5 rfl)) (fun _ _=>Ai _) (by simp only[List.length_cons,List.length_nil];omega) (by simp only[List.length_cons,List.length_nil];omega) hE.size fun be d7 br ag=> ?_)
   have ag:Grew d6 d7 vi be:= .eqv T9 ag
   have af:=af.keep hZ2
   have d8:OB be q:=An ag hap_vi_n3 af.lt
   have hb49l:=hb49l.keep hZ2
   have cv:OB be ae:=An ag hap_vi_n46 hb49l.lt
   have hE:=Af hE ag hr_vi.2 (Nat.le_refl _)
   have hb49l:=MapF.grew hb49l ag hap_vi_n46
   have f:=Ak f ag a5
   have j:=Ak j ag cs
   have af:=MapF.grew af ag hap_vi_n3
   clear cu
   clear hr_vi
   refine⟨⟨f,j,trivial⟩,?_⟩
   refine yI (Yk.assign rfl ?_)
   refine⟨⟨f,j,trivial⟩,?_⟩
   refine yD rfl (Yk.putM (ek:=rk) (ev:=Bm) (D:=(fun id:List UInt8=>id.length=32)) (c:=((c))) B4 B5 I3 a4 (vr (AB (AX t i)) rfl) (vr (.agg (entC ((c))).toArray) rfl) hb49l h32 fun d9 cw bs gc=> ?_)
   have af:=MapF.other af bs (Ao (by omega))
   clear hb49l
   have gd:ae<d9.heap.size:=cw.lt
   have hE:=Aa hE bs (Nat.le_trans cg (by omega))
   have br:=OG.kept br bs cv
   refine gS (Yk.bin (xv:=NI i) (yv:=NI 1) ab rfl rfl (Ac _ _ _ (by omega)) (gK (And.intro ⟨i+1,Dc (fun x:Ad=>x.1.pos) t i s c,be,T0,T1,T4,T5,u,a4,aq,ar,aj,bi,rfl,rfl,hE,Bo br (rfl),CU af (rfl),CU cw (rfl),hst,by omega,d8,cv,trivial⟩ ?_)))
   show es.length-(intOf (NI ((i)+(1)))).toNat<es.length-(intOf (ci 33)).toNat
   rw[q33]
   simp only[intOf,Int.toNat_natCast];omega
  by_cases hlt:Lib.compareBytes (s.ids.getD (i-1) []) (AX t i)<0
  ·have hO:Cc (fun x:Ad=>x.1.pos) t i s=some (Dc (fun x:Ad=>x.1.pos) t i s c):=by unfold Cc;rw[hG];exact if_pos (.inr hlt)
   rw[hO]at hst
   have n:=n.keep ak
   have g:=g.trans o
   have g:=Aa g p (Nat.le_trans (Nat.le_refl _) (by omega))
   refine gS (Yk.sliceLo (xs:=t.drop ((36)*(i))) (l:=32) EX M4 rfl (n.keep g) rfl (by simp only[List.length_drop];omega) fun ea ec ha192=>(gS (Yk.callA1 FX rfl (((show Calls _ _ _ _ (fun e w2=>e = .returned (NI (Bh t i))∧Ext _ w2)from Dv _ ea ((t.drop ((36)*(i)):List UInt8).drop (32)) ec (by simp only[List.length_drop];omega))).mono ?_))))
   rintro e ed ⟨rfl,ay⟩
   refine⟨_,rfl,?_⟩
   have hE:=hE.trans o
   have hE:=Aa hE p (Nat.le_trans bb (by omega))
   have hE:=hE.trans ay
   have hb6ll:=hb6ll.keep ay
   refine gS (Yk.lookOkS (ek:=NI) (ev:=Bm) (D:=(fun _:Nat=>True)) FD FE (fun _ _=>Gn) Dl (z:=Bm dEnt) CY u rfl hb6ll trivial hG (gS (Yk.extract (vs:= [.agg (entC (c)).toArray, .bool (true)]) rfl rfl (gS (Yk.extract (vs:= [.agg (entC (c)).toArray, .bool (true)]) rfl rfl (gS (Yk.alloc GJ fun bt ee cx cy a8 ge=> ?_)))))))
   have ad:=Ext.refl ed
   have g:=g.trans ay
   have gf:=hE.size
   have ef:=g.size
   have gg:=Aw hb6ll.lt cx
   have hb49l:=hb49l.keep ay
   have gh:=Aw hb49l.lt cx
   have hr_vi:=hr_vi.keep o
   have hr_vi:=OG.kept hr_vi p a5
   have hr_vi:=hr_vi.keep ay
   have cz:OB vi bt:=AQ hr_vi.2 (by omega)
   have k:=cy;clear cy
   have gi:bt<ee.heap.size:=by omega
   refine gS (Yk.storeAll (vr (PQ bt 0) rfl) (vr (.agg (entC (c)).toArray) rfl) k (AW (x:=((c):Ad)) (y:=(dEnt:Ad)) hcl.2 (by simp[dEnt])) (AP (x:=((c):Ad)) Ed hcl.2) (AS (x:=((c):Ad)) (RB.one hcl.1).2) fun gj c0 a9 gk=> ?_)
   have hb6ll:=hb6ll.keep a8
   have hb6ll:=MapF.other hb6ll a9 (Ao (by omega))
   have hb49l:=hb49l.keep a8
   have hb49l:=MapF.other hb49l a9 (Ao (by omega))
   clear k
   have k:=c0;clear c0
   have gl:=bl k
   refine Bw [0,1,2,3,4,5,6,7,8,9,10,11,12,13,14,15] [11,15] [] fun gm bu=>(ys (Yk.eqI (a:=(i:Nat)) (b:=(0:Nat)) ab rfl (AO _ _ _ _) zz) (kF (h0) (ys (Yk.bin (xv:=NI i) (yv:=NI 1) ab rfl rfl (Ay _ _ _ (by omega) (by omega)) zz) ?_)))
   have hr_vi:=hr_vi.keep a8
   have hr_vi:=OG.kept hr_vi a9 cz
   have hr_vi:=hr_vi.keep bu
   have c1:(Lib.byteCells ((s.ids).getD ((i)-(1)) ([]:List UInt8))).length=32:=(RG.elem (RG.ofOwn hr_vi) ([]:List UInt8) (by omega))
   have ad:=ad.trans a8
   have ad:=Aa ad a9 (Nat.le_trans (Nat.le_refl _) (by omega))
   have ad:=ad.trans bu
   have f:=eb (ay.trans ad) f
   refine yA (Yk.atRG Lc Og (by decide) ([]:List UInt8) (RG.of (RG.ofOwn hr_vi) T9) rfl (by omega) fun gn az=>(ys (Yk.loadPR (PR.of az rfl) QJ rfl (by rw[c1];exact N2) zz) (ys (Yk.loadAll rfl f QJ rfl (by exact Ag h32) zz) (yC (Yk.callA2 PS rfl rfl ((F5 _ ((s.ids).getD ((i)-(1)) ([]:List UInt8)) (AX t i) ((As (c1))) (h32)).mono ?_))))))
   rintro e go ⟨rfl,bv⟩
   refine⟨_,rfl,?_⟩
   have az:=PR.keep az bv
   refine ys (Yk.eqI rfl rfl (Fa _ .i64 (Lib.compareBytes ((s.ids).getD ((i)-(1)) ([]:List UInt8)) (AX t i):Int) ((0:Nat):Int)) zz) (kT (hlt) (ys (Yk.pickF rfl rfl zz) (ys (Yk.pickT rfl rfl zz) (QH (Yp.callA2 FW rfl rfl ?_)))))
   refine Ap (AR _ (true) 6) ?_ ?_
   rotate_left
   ·rintro ch gp ⟨rfl,hb,hx⟩
    refine Aq ?_
    cases hb
   rintro v_ gq ⟨rfl,gr,bw⟩
   have az:=PR.keep az bw
   clear az
   have hZ3:=(bu.trans bv).trans bw
   have hb6ll:=hb6ll.keep hZ3
   have k:=eb hZ3 k
   refine gS (Yk.fieldAt FF rfl (gS (Yk.cell1 PJ rfl rfl (cellAt k ((show(entC ((c)))[0]? =some (NI (((c)).1.pos):Value)from rfl))) ?_)))
   have hZ4:=bv.trans bw
   have ad:=ad.trans hZ4
   have hE:=hE.trans ad
   have g:=g.trans a8
   have g:=Aa g a9 (Nat.le_trans ef (by omega))
   have g:=g.trans hZ3
   refine gS (Yk.delM (ek:=NI) (ev:=Bm) (D:=(fun _:Nat=>True)) FD FE (fun _ _=>Gn) Dl u rfl hb6ll trivial fun eg ah ba gs=> ?_)
   have hb49l:=hb49l.keep hZ3
   have hb49l:=MapF.other hb49l ba (Ao (by omega))
   clear hb6ll
   have gt:q<eg.heap.size:=ah.lt
   refine DC [0,1,2,3,6,4,5,7,8] [4,5,7,8] [] [1,6] fun gu bx=> ?_
   have f:=eb hZ4 f
   have f:=kb ba f (by omega)
   have f:=eb bx f
   have k:=kb ba k (by omega)
   have k:=eb bx k
   refine RW f k ?_
   refine yf (fun _ ⟨f,_,_⟩=>Yk.loadAll rfl f QJ rfl (by exact Ag h32) zz) (ys (Yk.loadAll rfl f QJ rfl (by exact Ag h32) zz) (yf (fun _ ⟨_,k,_⟩=>Yk.loadAll rfl k (I1).choose_spec rfl (AP (x:=((c):Ad)) Ed hcl.2) zz) (yI (Yk.lit1G (a:=(AX t i)) (enc:=Lib.byteCells) (vr (AB (AX t i)) rfl) (by rw[Lib.byteCells_length];exact h32) J1 fun eh ei c2 bz=> ?_))))
   have hr_vi:=hr_vi.keep hZ4
   have hr_vi:=OG.kept hr_vi ba hap_vi_n3
   have hZ5:=bx.trans bz
   have hr_vi:=hr_vi.keep hZ5
   have hE:=Aa hE ba (Nat.le_trans (Nat.le_refl _) (by omega))
   have hE:=hE.trans hZ5
   have f:=eb bz f
   have k:=eb bz k
   refine⟨⟨f,k,trivial⟩,?_⟩
   refine yI (Yk.appendRG _ _ w.heap.size _ 32 Lc pk6_ig38.choose_spec.1 pk6_ig38.choose_spec.2 Lc (s.ids) ([(AX t i)]) (OG.of hr_vi T9) (RG.of c2 (vr eh rfl)) (fun _ _=>Ai _) (by simp only[List.length_cons,List.length_nil];omega) (by simp only[List.length_cons,List.length_nil];omega) hE.size fun bf ej b0 ai=> ?_)
   have ai:Grew ei ej vi bf:= .eqv T9 ai
   have ah:=ah.keep hZ5
   have el:OB bf q:=An ai hap_vi_n3 ah.lt
   have hb49l:=hb49l.keep hZ5
   have c3:OB bf ae:=An ai hap_vi_n46 hb49l.lt
   have hE:=Af hE ai hr_vi.2 (Nat.le_refl _)
   have hb49l:=MapF.grew hb49l ai hap_vi_n46
   have f:=Ak f ai a5
   have k:=Ak k ai cz
   have ah:=MapF.grew ah ai hap_vi_n3
   clear c2
   clear hr_vi
   refine⟨⟨f,k,trivial⟩,?_⟩
   refine yI (Yk.assign rfl ?_)
   refine⟨⟨f,k,trivial⟩,?_⟩
   refine yD rfl (Yk.putM (ek:=rk) (ev:=Bm) (D:=(fun id:List UInt8=>id.length=32)) (c:=((c))) B4 B5 I3 a4 (vr (AB (AX t i)) rfl) (vr (.agg (entC ((c))).toArray) rfl) hb49l h32 fun em c4 b1 gv=> ?_)
   have ah:=MapF.other ah b1 (Ao (by omega))
   clear hb49l
   have gw:ae<em.heap.size:=c4.lt
   have hE:=Aa hE b1 (Nat.le_trans cg (by omega))
   have b0:=OG.kept b0 b1 c3
   refine gS (Yk.bin (xv:=NI i) (yv:=NI 1) ab rfl rfl (Ac _ _ _ (by omega)) (gK (And.intro ⟨i+1,Dc (fun x:Ad=>x.1.pos) t i s c,bf,T0,T1,T4,T5,u,a4,aq,ar,aj,bi,rfl,rfl,hE,Bo b0 (rfl),CU ah (rfl),CU c4 (rfl),hst,by omega,el,c3,trivial⟩ ?_)))
   show es.length-(intOf (NI ((i)+(1)))).toNat<es.length-(intOf (ci 33)).toNat
   rw[q33]
   simp only[intOf,Int.toNat_natCast];omega
  have hO:Cc (fun x:Ad=>x.1.pos) t i s=none:=by unfold Cc;rw[hG];exact if_neg (fun h=>h.elim h0 hlt)
  have n:=n.keep ak
  have g:=g.trans o
  have g:=Aa g p (Nat.le_trans (Nat.le_refl _) (by omega))
  refine gS (Yk.sliceLo (xs:=t.drop ((36)*(i))) (l:=32) EX M4 rfl (n.keep g) rfl (by simp only[List.length_drop];omega) fun en eo ha258=>(gS (Yk.callA1 FX rfl (((show Calls _ _ _ _ (fun e w2=>e = .returned (NI (Bh t i))∧Ext _ w2)from Dv _ en ((t.drop ((36)*(i)):List UInt8).drop (32)) eo (by simp only[List.length_drop];omega))).mono ?_))))
  rintro e ep ⟨rfl,a0⟩
  refine⟨_,rfl,?_⟩
  have hE:=hE.trans o
  have hE:=Aa hE p (Nat.le_trans bb (by omega))
  have hE:=hE.trans a0
  have hb6ll:=hb6ll.keep a0
  refine gS (Yk.lookOkS (ek:=NI) (ev:=Bm) (D:=(fun _:Nat=>True)) FD FE (fun _ _=>Gn) Dl (z:=Bm dEnt) CY u rfl hb6ll trivial hG (gS (Yk.extract (vs:= [.agg (entC (c)).toArray, .bool (true)]) rfl rfl (gS (Yk.extract (vs:= [.agg (entC (c)).toArray, .bool (true)]) rfl rfl (gS (Yk.alloc GJ fun c5 eq c6 c7 b2 gx=> ?_)))))))
  have aa:=Ext.refl ep
  have g:=g.trans a0
  have gy:=hE.size
  have gz:=g.size
  have g0:=Aw hb6ll.lt c6
  have hb49l:=hb49l.keep a0
  have g1:=Aw hb49l.lt c6
  have bg:=c7;clear c7
  have g2:c5<eq.heap.size:=by omega
  refine gS (Yk.storeAll (vr (PQ c5 0) rfl) (vr (.agg (entC (c)).toArray) rfl) bg (AW (x:=((c):Ad)) (y:=(dEnt:Ad)) hcl.2 (by simp[dEnt])) (AP (x:=((c):Ad)) Ed hcl.2) (AS (x:=((c):Ad)) (RB.one hcl.1).2) fun g3 c8 b3 g4=> ?_)
  have hb6ll:=hb6ll.keep b2
  have hb6ll:=MapF.other hb6ll b3 (Ao (by omega))
  have hb49l:=hb49l.keep b2
  have hb49l:=MapF.other hb49l b3 (Ao (by omega))
  clear bg
  have bg:=c8;clear c8
  have g5:=bl bg
  refine Bw [0,1,2,3,4,5,6,7,8,9,10,11,12,13,14,15] [11,15] [] fun g6 er=>(ys (Yk.eqI (a:=(i:Nat)) (b:=(0:Nat)) ab rfl (AO _ _ _ _) zz) (kF (h0) (ys (Yk.bin (xv:=NI i) (yv:=NI 1) ab rfl rfl (Ay _ _ _ (by omega) (by omega)) zz) ?_)))
  have hr_vi:=hr_vi.keep o
  have hr_vi:=OG.kept hr_vi p a5
  have aa:=aa.trans b2
  have aa:=Aa aa b3 (Nat.le_trans (Nat.le_refl _) (by omega))
  have aa:=aa.trans er
  have hr_vi:=hr_vi.keep (a0.trans aa)
  have c9:(Lib.byteCells ((s.ids).getD ((i)-(1)) ([]:List UInt8))).length=32:=(RG.elem (RG.ofOwn hr_vi) ([]:List UInt8) (by omega))
  have f:=eb (a0.trans aa) f
  refine yA (Yk.atRG Lc Og (by decide) ([]:List UInt8) (RG.of (RG.ofOwn hr_vi) T9) rfl (by omega) fun g7 b4=>(ys (Yk.loadPR (PR.of b4 rfl) QJ rfl (by rw[c9];exact N2) zz) (ys (Yk.loadAll rfl f QJ rfl (by exact Ag h32) zz) (yC (Yk.callA2 PS rfl rfl ((F5 _ ((s.ids).getD ((i)-(1)) ([]:List UInt8)) (AX t i) ((As (c9))) (h32)).mono ?_))))))
  rintro e g8 ⟨rfl,da⟩
  refine⟨_,rfl,?_⟩
  have b4:=PR.keep b4 da
  refine ys (Yk.eqI rfl rfl (Fa _ .i64 (Lib.compareBytes ((s.ids).getD ((i)-(1)) ([]:List UInt8)) (AX t i):Int) ((0:Nat):Int)) zz) (kF (hlt) (ys (Yk.pickF rfl rfl zz) (ys (Yk.pickT rfl rfl zz) (QH (Yp.callA2 FW rfl rfl ?_)))))
  refine Ap (AR _ (false) 6) ?_ ?_
  rotate_left
  ·rintro ch g9 ⟨rfl,hb,hx⟩
   refine Aq ?_
   rw[hO]at hst
   have a6:=DM hst (es.length-(i+1))
   rw[show i+1+(es.length-(i+1))=es.length by omega]at a6
   have aa:=aa.trans da
   have hE:=hE.trans aa
   exact .inr ⟨_,rfl,a6,rfl,hE.trans hx⟩
  rintro v_ ha ⟨rfl,et,hc⟩
  cases et
 have hie1:i=es.length:=by omega
 refine BO rfl T9 a4 ?_
 exact .inl ⟨_,rfl,s,_,_,by rw[←hie1];exact hs,rfl,RG.ofOwn hr_vi,hb49l,hE⟩
open Go.RowKit
theorem Yk.lookD{P:Program}{K:Value→World→Prop}{ρ:Ae}{w:World}{d:Option Tmp}{ty:TypeId}{pos:String}{af:Array Edge}{gd:Option (Nat × Bool)}{α β:Type}{ek:α→Value}{ev:β→Value}{D:α→Prop}{b:Nat}{G:α→Option β}{t Kt E:TypeId}{OK:Value→Prop} 
    (L:KL P Kt OK) (hD:∀a,D a→OK (ek a)) (hi:∀a c,ek a=ek c→a=c) (ht:P.underlying t=some (.map Kt E)) {df:β} (hz:∀u:World,(zeroValue E).run P u = .ok (ev df) u) {x y:Operand} {a:α}
    (hm:Ab ρ x = .map (some b)) (hy:Ab ρ y=ek a) (h:MapF ek ev D w b G) (ha:D a) (hk:K (ev ((G a).getD df)) w):Yk P K ((execOp (Ab ρ) ⟨d, .lookup t x y false,ty,pos,af,gd⟩).run P w):=
  Yk.lookM L hD hi ht hz hm hy h ha (by cases e:G a <;> rw[e]at hk <;> exact hk)
def Lr(w:World)(x:Ad):Prop:=RB w x.2 x.1.bytes∧x.1.base.length=32∧x.1.bytes.length≤1048576
def MOk(w:World)(M:Bs→Option Ad):Prop:=∀k c,M k=some c→Lr w c
theorem MOk.keep{w w' :World}{M:Bs→Option Ad}(h:MOk w M)(k:Ext w w'):MOk w' M:=fun a c hc=>⟨(h a c hc).1.keep k,(h a c hc).2⟩
theorem MOk.get{w:World}{M:Bs→Option Ad}(h:MOk w M)(k:Bs):Lr w ((M k).getD dEnt):=by
  cases e:M k with
  | none=>exact⟨RB.nil w,by simp[dEnt],by simp[dEnt]⟩
  | some c=>exact h k c e
def AG(M:Bs→Option Ad)(k:Bs):Ent:=((M k).getD dEnt).1
section
variable (E : Bs → Ent)
def AC:Nat→Ent→Option Nat
  | 0,e=>if e.based then none else some 0
  | n+1,e=>if e.based then(AC n (E e.base)).map (· + 1)else some 0
def AZ:Nat→Bs→Option (Bs × Nat)
  | 0,_=>none
  | n+1,id=>
    if(E id).based then(AZ n (E id).base).bind fun x=>if(Au x.1 (E id).bytes).2=0 then(if(Au x.1 (E id).bytes).1.length≤262144 then some ((Au x.1 (E id).bytes).1,x.2+1)else none)else none
    else if(E id).bytes.length≤262144 then some ((E id).bytes,0)else none
variable {E}
theorem Dd{n:Nat}{e:Ent}(h:e.based=false):AC E n e=some 0:=by
  cases n <;> (unfold AC;rw[h];rfl)
theorem DN{e:Ent}(h:e.based=true):AC E 0 e=none:=by unfold AC;rw[h];rfl
theorem De{n:Nat}{e:Ent}(h:e.based=true):AC E (n+1) e=(AC E n (E e.base)).map (· + 1):=by
  show(if e.based=true then _ else _)=_
  rw[if_pos h]
theorem I4{n c:Nat}{e:Ent}(h:e.based=true):(AC E (n+1) e).map (· + c)=(AC E n (E e.base)).map (· + (c+1)):=by
  rw[De h]
  cases AC E n (E e.base)with
  | none=>rfl
  | some d=>show some (d+1+c)=some (d+(c+1));rw[Nat.add_assoc,Nat.add_comm 1 c]
theorem EE:∀(n m:Nat) (e:Ent) (d:Nat),AC E n e=some d→d≤m→AC E m e=some d
  | n,m,e,d,h,hm=>by
    cases hb:e.based with
    | false=>rw[Dd hb]at h ⊢;exact h
    | true=>
      cases n with
      | zero=>rw[DN hb]at h;cases h
      | succ n=>
        rw[De hb]at h
        cases h1:AC E n (E e.base)with
        | none=>rw[h1]at h;cases h
        | some d1=>
          rw[h1]at h
          cases h
          cases m with
          | zero=>simp at hm
          | succ m=>rw[De hb,EE n m _ d1 h1 (by simpa using hm)];rfl
end
open Go.RowKit
set_option maxRecDepth 100000
theorem Hx:A6 Tryd.prog 120 0 0:=fun b o w=>by simp[go_sem]
theorem Np(w:World)(gm be bm:Nat)(M:Bs→Option Ad)(hmk:w.heap[gm]? =some (.cells ([.map (some be), .map (some bm)]).toArray 120 (0,0)))(hme:MapF rk Bm (fun id:List UInt8=>id.length=32) w be M)(hMO:MOk w M)(id:Bs)(hid:id.length=32):
  Calls Tryd.prog 67 #[PQ gm 0,AB id] w fun r w' =>(∃x,r = .returned x∧∃d,AC (AG M) 50 (AG M id)=some d∧x=NI d∧Ext w w')∨∃ch,r = .panicked ch∧AC (AG M) 50 (AG M id)=none∧ch= [Cz 17]∧Ext w w' :=by
 refine gG (args:= [PQ gm 0,AB id]) Tryd.func67 rfl 29 rfl rfl ?_
 have hE:=Ext.refl w
 refine gS (Yk.box (vr (AB id) rfl) fun s w3 ab ac an a3=> ?_)
 have a4:=Aw hme.lt ab
 have e:=ac;clear ac
 have a5:s<w3.heap.size:=by omega
 refine DC [0,1,2,3,4,5,6,7] [6,7] [1,2] [3,4,5] fun ao ad=> ?_
 have hZ1:=an.trans ad
 have hE:=hE.trans hZ1
 have ap:=hE.size
 have k:=Ext.refl ao
 have a6:=Aw (bl hmk) ab
 have hmk:=eb hZ1 hmk
 have hme:=hme.keep hZ1
 have e:=eb ad e
 refine C3 k ?_
 refine yp (Yk.nilCheck rfl zz) (yp (Yk.fieldAt Hx rfl zz) (yf (fun _ ⟨hZ,_⟩=>Yk.cell1 I3 rfl rfl (cellAt (eb hZ hmk) rfl) zz) (yf (fun _ ⟨hZ,_⟩=>Yk.loadAll rfl (eb hZ e) QJ rfl (by exact Ag hid) zz) (yf (fun _ ⟨hZ,_⟩=>Yk.lookD (ek:=rk) (ev:=Bm) (D:=(fun id:List UInt8=>id.length=32)) (df:=dEnt) B4 B5 (fun _ _=>BY) I3 CY rfl rfl (hme.keep hZ) hid zz) (yE (Yk.alloc GJ fun t aq u ae i a7=> ?_))))))
 have a8:=Aw hme.lt u
 have h:=ae;clear ae
 have a9:t<aq.heap.size:=by omega
 have k:=k.trans i
 refine⟨k,?_⟩
 refine yD rfl (Yk.storeAll (vr (PQ t 0) rfl) (vr (.agg (entC ((M (id)).getD dEnt)).toArray) rfl) h (AW (x:=(((M (id)).getD dEnt):Ad)) (y:=(dEnt:Ad)) (hMO.get (id)).2.1 (by simp[dEnt])) (AP (x:=(((M (id)).getD dEnt):Ad)) Ed (hMO.get (id)).2.1) (AS (x:=(((M (id)).getD dEnt):Ad)) (RB.one (hMO.get (id)).1).2) fun ba af l bb=> ?_)
 have hme:=hme.keep i
 have hme:=MapF.other hme l (Ao (by omega))
 clear h
 have h:=af;clear af
 have bc:=bl h
 have bd:=Aw (bl hmk) u
 have hmk:=eb i hmk
 have hmk:=kb l hmk (by omega)
 have bf:=Aw (bl e) u
 have e:=eb i e
 have e:=kb l e (by omega)
 have hE:=hE.trans i
 have hE:=Aa hE l (Nat.le_trans ap (by omega))
 refine gL (fun(ρ:Ae) (wz:World)=>∃c:Nat,∃x:Ad,∃q:Nat,ρ 0=(PQ gm 0:Value)∧ρ 1=(AB id:Value)∧ρ 3=(PQ s 0:Value)∧ρ 4=(NI 0:Value)∧ρ 5=(NI c:Value)∧ρ 6=(PQ q 0:Value)∧wz.heap[gm]? =some (.cells ([.map (some be), .map (some bm)]).toArray 120 (0,0))∧MapF rk Bm (fun id:List UInt8=>id.length=32) wz be M∧Ext w wz∧wz.heap[s]? =some (.cells (Lib.byteCells id).toArray 38 (0,0))∧wz.heap[q]? =some (.cells (entC (x)).toArray 116 (0,0))∧(c≤50)∧(AC (AG M) 50 (AG M id)=(AC (AG M) (50-c) x.1).map (· + c))∧(Lr w x)∧(w.heap.size≤q)∧True) (fun ρ _=>51-(intOf (ρ 5)).toNat) ⟨0,(M id).getD dEnt,t,rfl,rfl,rfl,rfl,rfl,rfl,hmk,hme,hE,e,h,Nat.zero_le _,by simp[AG],hMO.get id,by omega,trivial⟩ ?_
 clear h
 clear hmk hme hE e
 rintro ar bg ⟨c,x,q,T0,T1,T3,T4,v,T6,hmk,hme,hE,e,hbq,hc,hd,hxo,hqw,-⟩
 have q5:=v
 refine gS (Yk.fieldAt FC T6 (gS (Yk.cell1 IB rfl rfl (cellAt hbq ((show(entC (x))[1]? =some (.bool ((x).1.based):Value)from rfl))) ?_)))
 refine cB ((x).1.based) rfl (fun m=> ?_) fun m=> ?_
 ·have ax:x.1.based=true:=m
  refine gS (Yk.bin (xv:=NI c) (yv:=NI 1) v rfl rfl (Ac _ _ _ (by omega)) (gS (Yk.eqI (a:=((c)+(1):Nat)) (b:=(50:Nat)) rfl rfl (BU _ _ _ _) (gP (Yp.callA2 FW rfl rfl ?_)))))
  refine Ap (AR _ (decide (((c)+(1))≤(50))) 17) ?_ ?_
  rotate_left
  ·rintro ch bh ⟨rfl,hb,hx⟩
   refine Aq ?_
   have hno:=of_decide_eq_false hb
   refine .inr ⟨_,rfl,?_,rfl,hE.trans hx⟩
   rw[hd,show 50-c=0 by omega,DN m];rfl
  rintro v_ ay ⟨rfl,az,j⟩
  have bi:=of_decide_eq_true az
  have hbq:=eb j hbq
  refine gS (Yk.loadAll T6 hbq (I1).choose_spec rfl (AP (x:=(x:Ad)) Ed hxo.2.1) (gS (Yk.alloc GJ fun n a0 a1 ai z bj=> ?_)))
  have g:=Ext.refl ay
  have hE:=hE.trans j
  have aj:=hE.size
  have hme:=hme.keep j
  have bk:=Aw hme.lt a1
  have f:=ai;clear ai
  have bn:n<a0.heap.size:=by omega
  refine gS (Yk.storeAll (vr (PQ n 0) rfl) (vr (.agg (entC (x)).toArray) rfl) f (AW (x:=((x):Ad)) (y:=(dEnt:Ad)) hxo.2.1 (by simp[dEnt])) (AP (x:=((x):Ad)) Ed hxo.2.1) (AS (x:=((x):Ad)) (RB.one hxo.1).2) fun bo ak aa bp=> ?_)
  have hme:=hme.keep z
  have hme:=MapF.other hme aa (Ao (by omega))
  clear f
  have f:=ak;clear ak
  have bq:=bl f
  refine Bw [0,1,2,3,4,5,6,7] [7] [] fun br o=> ?_
  have g:=g.trans z
  have g:=Aa g aa (Nat.le_trans (Nat.le_refl _) (by omega))
  have g:=g.trans o
  have hmk:=eb (j.trans g) hmk
  have hme:=hme.keep o
  have f:=eb o f
  refine ys (Yk.nilCheck T0 zz) (ys (Yk.fieldAt Hx rfl zz) (ys (Yk.cell1 I3 rfl rfl (cellAt hmk rfl) zz) (ys (Yk.fieldAt Lq rfl zz) (ys (Yk.loadPart rfl (Dk (x:=((x):Ad)) f) QJ rfl (by rw[Lib.byteCells_length,hxo.2.1];exact N2) zz) (ys (Yk.lookD (ek:=rk) (ev:=Bm) (D:=(fun id:List UInt8=>id.length=32)) (df:=dEnt) B4 B5 (fun _ _=>BY) I3 CY rfl rfl hme hxo.2.1 zz) (yC (Yk.storeAll (vr (PQ n 0) rfl) (vr (.agg (entC ((M (((x)).1.base)).getD dEnt)).toArray) rfl) f (AW (x:=(((M (((x)).1.base)).getD dEnt):Ad)) (y:=((x):Ad)) (hMO.get (((x)).1.base)).2.1 hxo.2.1) (AP (x:=(((M (((x)).1.base)).getD dEnt):Ad)) Ed (hMO.get (((x)).1.base)).2.1) (AS (x:=(((M (((x)).1.base)).getD dEnt):Ad)) (RB.one (hMO.get (((x)).1.base)).1).2) fun bs al p bt=> ?_)))))))
  have hme:=MapF.other hme p (Ao (by omega))
  clear f
  have f:=al;clear al
  have bu:=bl f
  have g:=Aa g p (Nat.le_trans (Nat.le_refl _) (by omega))
  have e:=eb (j.trans g) e
  have hE:=hE.trans z
  have hE:=Aa hE aa (Nat.le_trans aj (by omega))
  have hE:=hE.trans o
  have hE:=Aa hE p (Nat.le_trans aj (by omega))
  have hmk:=kb p hmk (by omega)
  refine gK (And.intro ⟨c+1,(M x.1.base).getD dEnt,n,T0,T1,T3,T4,rfl,rfl,hmk,hme,hE,e,f,by omega,hd.trans (by rw[show 50-c=(50-(c+1))+1 by omega];exact I4 ax),hMO.get _,by omega,trivial⟩ ?_)
  show 51-(intOf (NI ((c)+(1)))).toNat<51-(intOf (ar 5)).toNat
  rw[q5]
  simp only[intOf,Int.toNat_natCast];omega
 have a2:x.1.based=false:=by simpa using m
 refine Bx rfl v ?_
 exact .inl ⟨_,rfl,c,by rw[hd,Dd a2];exact congrArg some (Nat.zero_add c),rfl,hE⟩
open Go.RowKit
abbrev B0:=(Bs × Nat)× Value
abbrev B9(x:B0):Value:= .agg ([x.2,NI x.1.2]).toArray
def Jq:B0:=(([],0), .slice none 0 0)
theorem Gp:∀u:World,(zeroValue 81).run Tryd.prog u = .ok (B9 Jq) u:=fun _=>by kernel_rfl
theorem BW{v:Value}{n:Nat}(h:v.oneCell' =true):∀u∈([v,NI n]).toArray.toList,u.oneCell' =true:=by
  intro u hu
  simp only[List.mem_cons,List.not_mem_nil,or_false]at hu
  rcases hu with rfl | rfl
  · exact h
  · rfl
def IsMapB(w:World)(b:Nat):Prop:=∃es c,w.heap[b]? =some (.map es c)
theorem MapF.isMap{α β:Type}{ek:α→Value}{ev:β→Value}{D:α→Prop}{w:World}{b:Nat}{G:α→Option β}(h:MapF ek ev D w b G):IsMapB w b:=by
  obtain⟨es,c,h,-⟩:=h
  exact⟨_,c,h⟩
def Dm(w:World)(b:Nat):Prop:=∀j x,w.cell? ⟨b,j,none⟩≠some (B8 x)
theorem IsMapB.noB8{w:World}{b:Nat}(h:IsMapB w b):Dm w b:=fun j x hc=>by
  obtain⟨es,c,hm⟩:=h
  unfold World.cell? at hc
  rw[hm]at hc
  simp at hc
theorem IC{w:World}{g k:Nat}{v:Value}{T:TypeId}{fr:Nat × Nat}(hb:w.heap[g]? =some (.cells ([v,NI k]).toArray T fr))(hv:∃ao n c,v = .slice ao n c):Dm w g:=fun j x hc=>by
  obtain⟨ao,n,c,rfl⟩:=hv
  unfold World.cell? at hc
  rw[hb]at hc
  match j,hc with
  | 0,hc=>simp at hc
  | 1,hc=>simp at hc
  | j+2,hc=>simp at hc
theorem RB.keepN{w w' :World}{b:Nat}{v:Value}{l:List UInt8}(h:RB w v l)(hm:Dm w b)(hg:w.grownBy w' (some b)):RB w' v l:=by
  by_cases hv:v.ownBlock=some b
  · obtain⟨h1,ao,cap,rfl,h2,h3,h4,h5⟩:=h
    refine⟨h1,ao,cap,rfl,h2,h3,h4,fun a ha j u hu=> ?_⟩
    subst ha
    exfalso
    have hb:a.block=b:=by injection hv
    have hc:=h5 a rfl j u hu
    have hj:j<l.length:=by have:=(List.getElem?_eq_some_iff.1 hu).1;rwa [Lib.byteCells_length]at this
    rw[Cx hj]at hu
    cases hu
    have hsp:=World.cell?_spot hc
    obtain⟨ab,ao,asp⟩:=a
    have e:({ block:=ab,off:=ao,spot:=asp } :Addr).add j=⟨b,(({ block:=ab,off:=ao,spot:=asp } :Addr).add j).off,none⟩:=by
      have h1:(({ block:=ab,off:=ao,spot:=asp } :Addr).add j).block=b:=by rw[←hb];unfold Addr.add;split <;> rfl
      generalize ({ block:=ab,off:=ao,spot:=asp } :Addr).add j=q at h1 hsp ⊢
      obtain⟨q1,q2,q3⟩:=q
      simp only at h1 hsp
      rw[h1,hsp]
    rw[e]at hc
    exact hm _ _ hc
  · exact h.kept hg (.inr hv)
theorem MOk.keepN{w w' :World}{b:Nat}{M:Bs→Option Ad}(h:MOk w M)(hm:Dm w b)(hg:w.grownBy w' (some b)):MOk w' M:=fun a c hc=>⟨(h a c hc).1.keepN hm hg,(h a c hc).2⟩
theorem BX.keep{w0 w w' :World}{r:Option Nat}(h:BX w0.heap.size r w0 w)(k:Ext w w'):BX w0.heap.size r w0 w' :=h.trans (BX.ofExt k h.size)
theorem BX.set{w0 w w' :World}{r:Option Nat}{g:Nat}(h:BX w0.heap.size r w0 w)(hg:w.grownBy w' (some g))(hn:w0.heap.size≤g):BX w0.heap.size r w0 w' :=h.trans (BX.ofGrown hg h.size (fun k hk=>by cases hk;exact .inr hn))
theorem BX.put{w0 w w' :World}{b:Nat}(h:BX w0.heap.size (some b) w0 w)(hg:w.grownBy w' (some b)):BX w0.heap.size (some b) w0 w' :=h.trans (BX.ofGrown hg h.size (fun k hk=> .inl hk))
def HOk(w:World)(M:Bs→Option Ad)(H:Bs→Option B0):Prop:=∀id x,H id=some x→RB w x.2 x.1.1∧∃n d,AC (AG M) n (AG M id)=some d∧AZ (AG M) (d+1) id=some x.1
theorem HOk.keep{w w' :World}{M:Bs→Option Ad}{H:Bs→Option B0}(h:HOk w M H)(k:Ext w w'):HOk w' M H:=fun a c hc=>⟨(h a c hc).1.keep k,(h a c hc).2⟩
theorem HOk.keepN{w w' :World}{b:Nat}{M:Bs→Option Ad}{H:Bs→Option B0}(h:HOk w M H)(hm:Dm w b)(hg:w.grownBy w' (some b)):HOk w' M H:=fun a c hc=>⟨(h a c hc).1.keepN hm hg,(h a c hc).2⟩
theorem HOk.nil{w:World}{M:Bs→Option Ad}:HOk w M (fun _=>none):=fun _ _ h=>by cases h
theorem HOk.put{w:World}{M:Bs→Option Ad}{H:Bs→Option B0}(h:HOk w M H){id:Bs}{x:B0}(h1:RB w x.2 x.1.1){n d:Nat}(h2:AC (AG M) n (AG M id)=some d)(h3:AZ (AG M) (d+1) id=some x.1):HOk w M (updM H id (some x)):=fun a c hc=>by
  unfold updM at hc
  split at hc
  · rename_i e
    cases hc
    subst e
    exact⟨h1,n,d,h2,h3⟩
  · exact h a c hc
section
variable {E : Bs → Ent}
theorem Ls{n m:Nat}{e:Ent}{d d' :Nat}(h:AC E n e=some d)(h' :AC E m e=some d'):d=d' :=by
  have h1:=EE n (max d d') e d h (Nat.le_max_left _ _)
  have h2:=EE m (max d d') e d' h' (Nat.le_max_right _ _)
  rw[h1]at h2
  cases h2
  rfl
theorem Hy{n:Nat}{e:Ent}{d:Nat}(hb:e.based=true)(h:AC E n e=some d):∃n' d',d=d' +1∧AC E n' (E e.base)=some d' :=by
  cases n with
  | zero=>rw[DN hb]at h;cases h
  | succ n=>
    rw[De hb]at h
    cases h1:AC E n (E e.base)with
    | none=>rw[h1]at h;cases h
    | some d1=>rw[h1]at h;cases h;exact⟨n,d1,rfl,h1⟩
theorem Em{n:Nat}{id:Bs}(hb:(E id).based=true):AZ E (n+1) id=(AZ E n (E id).base).bind fun x=>if(Au x.1 (E id).bytes).2=0 then(if(Au x.1 (E id).bytes).1.length≤262144 then some ((Au x.1 (E id).bytes).1,x.2+1)else none)else none:=by
  show(if _=true then _ else _)=_
  rw[if_pos hb]
theorem EF{n:Nat}{id:Bs}(hb:(E id).based=false):AZ E (n+1) id=if(E id).bytes.length≤262144 then some ((E id).bytes,0)else none:=by
  show(if _=true then _ else _)=_
  rw[if_neg (by rw[hb];decide)]
theorem EG:∀ {n:Nat} {id:Bs} {b:Bs} {k:Nat},AZ E n id=some (b,k)→b.length≤262144∧k<n
  | 0,_,_,_,h=>by cases h
  | n+1,id,b,k,h=>by
    cases hb:(E id).based with
    | false=>
      rw[EF hb]at h
      split at h
      · cases h;exact⟨‹_›,Nat.succ_pos _⟩
      · cases h
    | true=>
      rw[Em hb]at h
      cases h1:AZ E n (E id).base with
      | none=>rw[h1]at h;cases h
      | some x=>
        rw[h1]at h
        have h2:(if(Au x.1 (E id).bytes).2=0 then(if(Au x.1 (E id).bytes).1.length≤262144 then some ((Au x.1 (E id).bytes).1,x.2+1)else none)else none)=some (b,k):=h
        split at h2
        · split at h2
          · cases h2
            have:=EG (b:=x.1) (k:=x.2) h1
            exact⟨‹_›,by omega⟩
          · cases h2
        · cases h2
end
open Go.RowKit
set_option maxRecDepth 100000
theorem Bk:(Tryd.prog.info? 81).map (·.size)=some 2:=by kernel_rfl
theorem DO{d:Option Tmp}{ty:TypeId}{pos:String}{af:Array Edge}{gd:Option (Nat × Bool)}(σ:Operand→Value)(w:World):(execOp σ ⟨d, .alloc 81,ty,pos,af,gd⟩).run Tryd.prog w = .ok (.value (PQ w.heap.size 0)) (w.alloc (.cells ([(Value.slice none 0 0),NI 0]).toArray 81)):=by kernel_rfl
theorem DP:A6 Tryd.prog 120 1 1:=fun b o w=>by simp[go_sem]
theorem CO:Tryd.prog.underlying 72=some (.map 38 81):=by kernel_rfl
theorem Hz{z0:Value}(h0:∃ao n c,z0 = .slice ao n c)(w:World):(Instr.build 81 #[(0,z0)]).run Tryd.prog w = .ok (.agg ([z0,NI 0]:List Value).toArray) w:=by obtain⟨_,_,_,rfl⟩:=h0;kernel_rfl
theorem F8:A6 Tryd.prog 81 0 0:=fun b o w=>by simp[go_sem]
theorem Dg:∃fs,Tryd.prog.underlying 81=some (.struct fs):=DF (by kernel_rfl)
theorem OS:AA Tryd.prog 68:=fun _ _=>by kernel_rfl
theorem OT:AA Tryd.prog 77:=fun _ _=>by kernel_rfl
theorem L8:A6 Tryd.prog 81 1 1:=fun b o w=>by simp[go_sem]
theorem Jr{z0:Value}(h0:∃ao n c,z0 = .slice ao n c)(z1:Int)(w:World):(Instr.build 81 #[(0,z0),(1, .int .i64 z1)]).run Tryd.prog w = .ok (.agg ([z0, .int .i64 z1]:List Value).toArray) w:=by obtain⟨_,_,_,rfl⟩:=h0;kernel_rfl
set_option maxHeartbeats 1600000
theorem Nq(gm be bm:Nat)(M:Bs→Option Ad)(d:Nat)(ih:∀d1,d1<d→∀(w:World) (H:Bs→Option B0) (id:Bs) (hmk:w.heap[gm]? =some (.cells ([.map (some be), .map (some bm)]).toArray 120 (0,0))) (hme:MapF rk Bm (fun id:List UInt8=>id.length=32) w be M) (hmm:MapF rk B9 (fun id:List UInt8=>id.length=32) w bm H) (hMO:MOk w M) (hHO:HOk w M H) (hne:be≠bm) (hid:id.length=32) (hd50:d1≤50) (n0:Nat) (hdp:AC (AG M) n0 (AG M id)=some d1),Calls Tryd.prog 68 #[PQ gm 0,AB id] w fun r w' =>(∃x,r = .returned x∧∃v b k H',x = .agg ([v,NI k]).toArray∧AZ (AG M) (d1+1) id=some (b,k)∧RB w' v b∧MapF rk B9 (fun id:List UInt8=>id.length=32) w' bm H' ∧HOk w' M H' ∧BX w.heap.size (some bm) w w')∨∃ch,r = .panicked ch∧AZ (AG M) (d1+1) id=none∧ch= [Cz 6]∧BX w.heap.size (some bm) w w')(w:World)(H:Bs→Option B0)(id:Bs)(hmk:w.heap[gm]? =some (.cells ([.map (some be), .map (some bm)]).toArray 120 (0,0)))(hme:MapF rk Bm (fun id:List UInt8=>id.length=32) w be M)(hmm:MapF rk B9 (fun id:List UInt8=>id.length=32) w bm H)(hMO:MOk w M)(hHO:HOk w M H)(hne:be≠bm)(hid:id.length=32)(hd50:d≤50)(n0:Nat)(hdp:AC (AG M) n0 (AG M id)=some d):
  Calls Tryd.prog 68 #[PQ gm 0,AB id] w fun r w' =>(∃x,r = .returned x∧∃v b k H',x = .agg ([v,NI k]).toArray∧AZ (AG M) (d+1) id=some (b,k)∧RB w' v b∧MapF rk B9 (fun id:List UInt8=>id.length=32) w' bm H' ∧HOk w' M H' ∧BX w.heap.size (some bm) w w')∨∃ch,r = .panicked ch∧AZ (AG M) (d+1) id=none∧ch= [Cz 6]∧BX w.heap.size (some bm) w w' :=by
 have hX:=BX.refl w.heap.size (some bm) w
 have hgb:gm≠bm:=fun e=>by obtain⟨es_,c_,h_⟩:=MapF.isMap hmm;rw[←e,hmk]at h_;cases h_
 have hbl:=hmm.lt
 have hgl:=(bl hmk)
 have hel:=hme.lt
 refine gG (args:= [PQ gm 0,AB id]) Tryd.func68 rfl 66 rfl rfl ?_
 have hE:=Ext.refl w
 refine gS (Yk.box (vr (AB id) rfl) fun n2 w3 bd cg a6 et=> ?_)
 have eu:=Aw hme.lt bd
 have ew:=Aw hmm.lt bd
 have f:=cg;clear cg
 have ex:n2<w3.heap.size:=by omega
 refine gS (Yk.alloc DO fun am ds aq ci b7 ey=> ?_)
 have hE:=hE.trans a6
 have dt:=hE.size
 have hme:=hme.keep a6
 have ez:=Aw hme.lt aq
 have hmm:=hmm.keep a6
 have e0:=Aw hmm.lt aq
 have g:=ci;clear ci
 have e1:am<ds.heap.size:=by omega
 rcases hH:H id with _ | x
 ·rcases hb:(AG M id).based with _ | _
  ·have hcg:=EF (n:=d) (E:=AG M) hb
   have hbx:((M (id)).getD dEnt).1.based=false:=hb
   refine DC [0,1,2,3,4,5,6,7,8,9,10,11] [9,10] [1,2,7,8] [3,4,5] fun cj ck=> ?_
   have l:=Ext.refl cj
   have hZ1:=b7.trans ck
   have hE:=hE.trans hZ1
   have du:=hE.size
   have bq:=Ext.refl cj
   have cl:=Aw (bl hmk) bd
   have hmk:=eb a6 hmk
   have cm:=Aw (bl hmk) aq
   have hmk:=eb hZ1 hmk
   have cn:=Aw (bl f) aq
   have f:=eb hZ1 f
   have hmm:=hmm.keep hZ1
   refine C3 bq ?_
   refine yp (Yk.nilCheck rfl zz) (yp (Yk.fieldAt DP rfl zz) (yf (fun _ ⟨hZ,_⟩=>Yk.cell1 CO rfl rfl (cellAt (eb hZ hmk) rfl) zz) (yf (fun _ ⟨hZ,_⟩=>Yk.loadAll rfl (eb hZ f) QJ rfl (by exact Ag hid) zz) (yf (fun _ ⟨hZ,_⟩=>Yk.lookOkN (ek:=rk) (ev:=B9) (D:=(fun id:List UInt8=>id.length=32)) B4 B5 (fun _ _=>BY) CO (z:=B9 Jq) Gp rfl rfl (hmm.keep hZ) hid hH zz) (yp (Yk.extract (vs:= [.agg ([(Value.slice none 0 0),NI 0]).toArray, .bool (false)]) rfl rfl zz) (yp (Yk.extract (vs:= [.agg ([(Value.slice none 0 0),NI 0]).toArray, .bool (false)]) rfl rfl zz) (yE (Yk.alloc DO fun b8 dv br co az e2=> ?_))))))))
   have hme:=hme.keep hZ1
   have e3:=Aw hme.lt br
   have e4:=Aw hmm.lt br
   have ar:=co;clear co
   have e5:b8<dv.heap.size:=by omega
   have bq:=bq.trans az
   refine⟨bq,?_⟩
   refine yD rfl (Yk.storeAll (vr (PQ b8 0) rfl) (vr (.agg ([(Value.slice none 0 0),NI 0]).toArray) rfl) ar rfl (show(Tryd.prog.info? 81).map (·.size)=some 2 from Bk) (BW rfl) fun e6 cp a7 e7=> ?_)
   have hme:=hme.keep az
   have hme:=MapF.other hme a7 (Ao (by omega))
   have hmm:=hmm.keep az
   have hmm:=MapF.other hmm a7 (Ao (by omega))
   clear ar
   have ar:=cp;clear cp
   have e8:=bl ar
   refine cF rfl (DC [0,1,2,3,4,5,6,7] [6,7] [1,2] [3,4,5] fun cq a0=> ?_)
   have ad:=Ext.refl cq
   have hE:=hE.trans az
   have hE:=Aa hE a7 (Nat.le_trans du (by omega))
   have hE:=hE.trans a0
   have l:=l.trans az
   have l:=Aa l a7 (Nat.le_trans (Nat.le_refl _) (by omega))
   have l:=l.trans a0
   have dw:=hE.size
   have bs:=Ext.refl cq
   have e9:=Aw (bl hmk) br
   have hmk:=eb az hmk
   have hmk:=kb a7 hmk (by omega)
   have hmk:=eb a0 hmk
   have fa:=Aw (bl f) br
   have f:=eb az f
   have f:=kb a7 f (by omega)
   have f:=eb a0 f
   have hme:=hme.keep a0
   refine C3 bs ?_
   refine yp (Yk.nilCheck rfl zz) (yp (Yk.fieldAt Hx rfl zz) (yf (fun _ ⟨hZ,_⟩=>Yk.cell1 I3 rfl rfl (cellAt (eb hZ hmk) rfl) zz) (yf (fun _ ⟨hZ,_⟩=>Yk.loadAll rfl (eb hZ f) QJ rfl (by exact Ag hid) zz) (yf (fun _ ⟨hZ,_⟩=>Yk.lookD (ek:=rk) (ev:=Bm) (D:=(fun id:List UInt8=>id.length=32)) (df:=dEnt) B4 B5 (fun _ _=>BY) I3 CY rfl rfl (hme.keep hZ) hid zz) (yE (Yk.alloc GJ fun b9 dx bt cr au fb=> ?_))))))
   have fc:=Aw hme.lt bt
   have hmm:=hmm.keep a0
   have fd:=Aw hmm.lt bt
   have ae:=cr;clear cr
   have fe:b9<dx.heap.size:=by omega
   have bs:=bs.trans au
   refine⟨bs,?_⟩
   refine yD rfl (Yk.storeAll (vr (PQ b9 0) rfl) (vr (.agg (entC ((M (id)).getD dEnt)).toArray) rfl) ae (AW (x:=(((M (id)).getD dEnt):Ad)) (y:=(dEnt:Ad)) (hMO.get (id)).2.1 (by simp[dEnt])) (AP (x:=(((M (id)).getD dEnt):Ad)) Ed (hMO.get (id)).2.1) (AS (x:=(((M (id)).getD dEnt):Ad)) (RB.one (hMO.get (id)).1).2) fun cs ct a1 ff=> ?_)
   have hme:=hme.keep au
   have hme:=MapF.other hme a1 (Ao (by omega))
   have hmm:=hmm.keep au
   have hmm:=MapF.other hmm a1 (Ao (by omega))
   clear ae
   have ae:=ct;clear ct
   have fg:=bl ae
   refine gS (Yk.fieldAt Hw rfl ?_)
   have hE:=hE.trans au
   have hE:=Aa hE a1 (Nat.le_trans dw (by omega))
   have hre91:RB cs (((M (id)).getD dEnt)).2 (AG M id).bytes:=(MOk.get (hMO.keep hE) id).1
   refine gS (Yk.cell1 EX rfl rfl (cellAt ae (FB (x:=(((M (id)).getD dEnt):Ad)) (hMO.get (id)).2.1)) (gS (Yk.build1 (vr ((((M (id)).getD dEnt)).2) rfl) (fun w=>Hz (RB.slice hre91) w) (gS (Yk.alloc DO fun ca dy cu cv bf fh=> ?_)))))
   have s:=Ext.refl cs
   have dz:=l.size
   have l:=l.trans au
   have l:=Aa l a1 (Nat.le_trans dz (by omega))
   have ad:=ad.trans au
   have ad:=Aa ad a1 (Nat.le_trans (Nat.le_refl _) (by omega))
   have fi:=hE.size
   have fj:=Aw hme.lt cu
   have fk:=Aw hmm.lt cu
   have ah:=cv;clear cv
   have fl:ca<dy.heap.size:=by omega
   have s:=s.trans bf
   refine gS (Yk.storeAll (vr (PQ ca 0) rfl) (vr (.agg ([(((M (id)).getD dEnt)).2,NI 0]).toArray) rfl) ah rfl (show(Tryd.prog.info? 81).map (·.size)=some 2 from Bk) (BW (RB.one (hre91.keep s)).2) fun fm cw bg fn=> ?_)
   have hme:=hme.keep bf
   have hme:=MapF.other hme bg (Ao (by omega))
   have hmm:=hmm.keep bf
   have hmm:=MapF.other hmm bg (Ao (by omega))
   clear ah
   have ah:=cw;clear cw
   have fo:=bl ah
   have s:=Aa s bg (Nat.le_trans (Nat.le_refl _) (by omega))
   have ae:=eb s ae
   refine gS (Yk.fieldAt FC rfl (gS (Yk.cell1 IB rfl rfl (cellAt ae ((show(entC (((M (id)).getD dEnt)))[1]? =some (.bool false:Value)from congrArg (fun b=>some (Value.bool b)) hbx))) (cF rfl (gS (Yk.fieldAt F8 rfl (gS (Yk.cell1 EX rfl rfl (cellAt ah rfl) (gS (Yk.lenRB EX (RB.of (hre91.keep s) rfl) (gS (Yk.eqI (a:=(((AG M id).bytes:List UInt8).length:Nat)) (b:=(262144:Nat)) rfl rfl (BU _ _ _ _) (gP (Yp.callA2 FW rfl rfl ?_))))))))))))))
   refine Ap (AR _ (decide ((((AG M id).bytes:List UInt8).length)≤(262144))) 6) ?_ ?_
   rotate_left
   ·rintro ch fp ⟨rfl,hb,hx⟩
    refine Aq ?_
    have hno:=of_decide_eq_false hb
    have hE:=hE.trans s
    refine .inr ⟨_,rfl,?_,rfl,(BX.keep (hX.keep hE) hx)⟩
    rw[hcg]
    exact if_neg hno
   rintro v_ fq ⟨rfl,d0,d3⟩
   have d4:=of_decide_eq_true d0
   have hcf:AZ (AG M) (d+1) id=some ((AG M id).bytes,0):=hcg.trans (if_pos d4)
   refine Bw [0,1,2,3,4,5,6] [6] [] fun d5 d6=> ?_
   have fr:=Aw (bl hmk) bt
   have hmk:=eb au hmk
   have hmk:=kb a1 hmk (by omega)
   have hZ2:=d3.trans d6
   have s:=s.trans hZ2
   have hmk:=eb s hmk
   have fs:=Aw (bl f) bt
   have f:=eb au f
   have f:=kb a1 f (by omega)
   have f:=eb s f
   have hmm:=hmm.keep hZ2
   have ah:=eb hZ2 ah
   refine ys (Yk.nilCheck rfl zz) (ys (Yk.fieldAt DP rfl zz) (ys (Yk.cell1 CO rfl rfl (cellAt hmk rfl) zz) (ys (Yk.loadAll rfl f QJ rfl (by exact Ag hid) zz) (ys (Yk.loadAll rfl ah (Dg).choose_spec rfl (show(Tryd.prog.info? 81).map (·.size)=some 2 from Bk) zz) (yC (Yk.putM (ek:=rk) (ev:=B9) (D:=(fun id:List UInt8=>id.length=32)) (c:=((((AG M id).bytes,0),(((M (id)).getD dEnt)).2):B0)) B4 B5 CO (vr (.map (some bm)) rfl) (vr (AB id) rfl) (vr (.agg ([(((M (id)).getD dEnt)).2,NI 0]).toArray) rfl) hmm hid fun ac cb ai ft=> ?_))))))
   have hE:=hE.trans s
   have hP:=HOk.put (hHO.keep hE) (id:=id) (x:=((((AG M id).bytes,0),(((M (id)).getD dEnt)).2):B0)) (hre91.keep s) hdp hcf
   have hm137:Dm d5 bm:=(MapF.isMap hmm).noB8
   have hX:BX w.heap.size (some bm) w ac:=BX.put (hX.keep hE) ai
   have hmk:ac.heap[gm]? =some (.cells ([.map (some be), .map (some bm)]).toArray 120 (0,0)):=kb ai hmk (by omega)
   have hme:=hme.keep hZ2
   have hme:MapF rk Bm (fun id:List UInt8=>id.length=32) ac be M:=MapF.other hme ai (Ao (by omega))
   clear hmm
   have hMO:MOk ac M:=(hMO.keep hE).keepN hm137 ai
   have f:ac.heap[n2]? =some (.cells (Lib.byteCells id).toArray 38 (0,0)):=kb ai f (by omega)
   have d7:=l.size
   have l:=l.trans bf
   have l:=Aa l bg (Nat.le_trans d7 (by omega))
   have l:=l.trans hZ2
   have g:=eb (ck.trans l) g
   have g:ac.heap[am]? =some (.cells ([(Value.slice none 0 0),NI 0]).toArray 81 (0,0)):=kb ai g (by omega)
   have d8:=ad.size
   have ad:=ad.trans bf
   have ad:=Aa ad bg (Nat.le_trans d8 (by omega))
   have ad:=ad.trans hZ2
   have ar:=eb (a0.trans ad) ar
   have ar:ac.heap[b8]? =some (.cells ([(Value.slice none 0 0),NI 0]).toArray 81 (0,0)):=kb ai ar (by omega)
   have ae:=eb hZ2 ae
   have ae:ac.heap[b9]? =some (.cells (entC (((M (id)).getD dEnt))).toArray 116 (0,0)):=kb ai ae (by omega)
   have hre91:RB ac (((M (id)).getD dEnt)).2 (AG M id).bytes:=(hre91.keep s).keepN hm137 ai
   have ah:ac.heap[ca]? =some (.cells ([(((M (id)).getD dEnt)).2,NI 0]).toArray 81 (0,0)):=kb ai ah (by omega)
   have hP:HOk ac M (updM H (id) (some (((((AG M id).bytes,0),(((M (id)).getD dEnt)).2):B0)))):=hP.keepN hm137 ai
   have fu:=Ext.refl ac
   have fv:=hX.size
   refine gS (Yk.loadAll rfl ah (Dg).choose_spec rfl (show(Tryd.prog.info? 81).map (·.size)=some 2 from Bk) (gS (Yk.storeAll (vr (PQ am 0) rfl) (vr (.agg ([(((M (id)).getD dEnt)).2,NI 0]).toArray) rfl) g rfl (show(Tryd.prog.info? 81).map (·.size)=some 2 from Bk) (BW (RB.one hre91).2) fun bh cx a8 fw=> ?_)))
   have hnb_:Dm ac am:=IC g ⟨_,_,_,rfl⟩
   have hX:BX w.heap.size (some bm) w bh:=BX.set hX a8 (by omega)
   have hme:=MapF.other hme a8 (Ao (by omega))
   have hMO:MOk bh M:=hMO.keepN hnb_ a8
   have hre91:RB bh (((M (id)).getD dEnt)).2 (AG M id).bytes:=hre91.keepN hnb_ a8
   have hP:HOk bh M (updM H (id) (some (((((AG M id).bytes,0),(((M (id)).getD dEnt)).2):B0)))):=hP.keepN hnb_ a8
   have cb:=MapF.other cb a8 (Ao (by omega))
   clear g
   have g:=cx;clear cx
   have fx:=bl g
   have fy:=Ext.refl bh
   have fz:=hX.size
   refine IO rfl (ResF.row rfl g (Dg).choose_spec rfl ((show(Tryd.prog.info? 81).map (·.size)=some 2 from Bk))) ?_
   exact .inl ⟨_,rfl,_,_,_,_,rfl,hcf,hre91,cb,hP,hX⟩
  have hcg:=Em (n:=d) (E:=AG M) hb
  have hbx:((M (id)).getD dEnt).1.based=true:=hb
  obtain⟨na_,d1,hd1,hdp1⟩:=Hy hb hdp
  refine DC [0,1,2,3,4,5,6,7,8,9,10,11] [9,10] [1,2,7,8] [3,4,5] fun cy cz=> ?_
  have o:=Ext.refl cy
  have hZ3:=b7.trans cz
  have hE:=hE.trans hZ3
  have d9:=hE.size
  have bu:=Ext.refl cy
  have cl:=Aw (bl hmk) bd
  have hmk:=eb a6 hmk
  have cm:=Aw (bl hmk) aq
  have hmk:=eb hZ3 hmk
  have cn:=Aw (bl f) aq
  have f:=eb hZ3 f
  have hmm:=hmm.keep hZ3
  refine C3 bu ?_
  refine yp (Yk.nilCheck rfl zz) (yp (Yk.fieldAt DP rfl zz) (yf (fun _ ⟨hZ,_⟩=>Yk.cell1 CO rfl rfl (cellAt (eb hZ hmk) rfl) zz) (yf (fun _ ⟨hZ,_⟩=>Yk.loadAll rfl (eb hZ f) QJ rfl (by exact Ag hid) zz) (yf (fun _ ⟨hZ,_⟩=>Yk.lookOkN (ek:=rk) (ev:=B9) (D:=(fun id:List UInt8=>id.length=32)) B4 B5 (fun _ _=>BY) CO (z:=B9 Jq) Gp rfl rfl (hmm.keep hZ) hid hH zz) (yp (Yk.extract (vs:= [.agg ([(Value.slice none 0 0),NI 0]).toArray, .bool (false)]) rfl rfl zz) (yp (Yk.extract (vs:= [.agg ([(Value.slice none 0 0),NI 0]).toArray, .bool (false)]) rfl rfl zz) (yE (Yk.alloc DO fun bv ea bw c0 a2 f0=> ?_))))))))
  have hme:=hme.keep hZ3
  have f1:=Aw hme.lt bw
  have f2:=Aw hmm.lt bw
  have j:=c0;clear c0
  have f3:bv<ea.heap.size:=by omega
  have bu:=bu.trans a2
  refine⟨bu,?_⟩
  refine yD rfl (Yk.storeAll (vr (PQ bv 0) rfl) (vr (.agg ([(Value.slice none 0 0),NI 0]).toArray) rfl) j rfl (show(Tryd.prog.info? 81).map (·.size)=some 2 from Bk) (BW rfl) fun f4 c1 a9 f5=> ?_)
  have hme:=hme.keep a2
  have hme:=MapF.other hme a9 (Ao (by omega))
  have hmm:=hmm.keep a2
  have hmm:=MapF.other hmm a9 (Ao (by omega))
  clear j
  have j:=c1;clear c1
  have f6:=bl j
  refine cF rfl (DC [0,1,2,3,4,5,6,7] [6,7] [1,2] [3,4,5] fun c2 a3=> ?_)
  have ak:=Ext.refl c2
  have hE:=hE.trans a2
  have hE:=Aa hE a9 (Nat.le_trans d9 (by omega))
  have hE:=hE.trans a3
  have o:=o.trans a2
  have o:=Aa o a9 (Nat.le_trans (Nat.le_refl _) (by omega))
  have o:=o.trans a3
  have ec:=hE.size
  have bx:=Ext.refl c2
  have f7:=Aw (bl hmk) bw
  have hmk:=eb a2 hmk
  have hmk:=kb a9 hmk (by omega)
  have hmk:=eb a3 hmk
  have f8:=Aw (bl f) bw
  have f:=eb a2 f
  have f:=kb a9 f (by omega)
  have f:=eb a3 f
  have hme:=hme.keep a3
  refine C3 bx ?_
  refine yp (Yk.nilCheck rfl zz) (yp (Yk.fieldAt Hx rfl zz) (yf (fun _ ⟨hZ,_⟩=>Yk.cell1 I3 rfl rfl (cellAt (eb hZ hmk) rfl) zz) (yf (fun _ ⟨hZ,_⟩=>Yk.loadAll rfl (eb hZ f) QJ rfl (by exact Ag hid) zz) (yf (fun _ ⟨hZ,_⟩=>Yk.lookD (ek:=rk) (ev:=Bm) (D:=(fun id:List UInt8=>id.length=32)) (df:=dEnt) B4 B5 (fun _ _=>BY) I3 CY rfl rfl (hme.keep hZ) hid zz) (yE (Yk.alloc GJ fun bz ed b0 c3 av f9=> ?_))))))
  have ga:=Aw hme.lt b0
  have hmm:=hmm.keep a3
  have gb:=Aw hmm.lt b0
  have h:=c3;clear c3
  have gc:bz<ed.heap.size:=by omega
  have bx:=bx.trans av
  refine⟨bx,?_⟩
  refine yD rfl (Yk.storeAll (vr (PQ bz 0) rfl) (vr (.agg (entC ((M (id)).getD dEnt)).toArray) rfl) h (AW (x:=(((M (id)).getD dEnt):Ad)) (y:=(dEnt:Ad)) (hMO.get (id)).2.1 (by simp[dEnt])) (AP (x:=(((M (id)).getD dEnt):Ad)) Ed (hMO.get (id)).2.1) (AS (x:=(((M (id)).getD dEnt):Ad)) (RB.one (hMO.get (id)).1).2) fun c4 c5 a4 gd=> ?_)
  have hme:=hme.keep av
  have hme:=MapF.other hme a4 (Ao (by omega))
  have hmm:=hmm.keep av
  have hmm:=MapF.other hmm a4 (Ao (by omega))
  clear h
  have h:=c5;clear c5
  have ge:=bl h
  refine gS (Yk.fieldAt Hw rfl ?_)
  have hE:=hE.trans av
  have hE:=Aa hE a4 (Nat.le_trans ec (by omega))
  have hre211:RB c4 (((M (id)).getD dEnt)).2 (AG M id).bytes:=(MOk.get (hMO.keep hE) id).1
  refine gS (Yk.cell1 EX rfl rfl (cellAt h (FB (x:=(((M (id)).getD dEnt):Ad)) (hMO.get (id)).2.1)) (gS (Yk.build1 (vr ((((M (id)).getD dEnt)).2) rfl) (fun w=>Hz (RB.slice hre211) w) (gS (Yk.alloc DO fun ba ee c6 c7 bi gf=> ?_)))))
  have al:=Ext.refl c4
  have ef:=o.size
  have o:=o.trans av
  have o:=Aa o a4 (Nat.le_trans ef (by omega))
  have ak:=ak.trans av
  have ak:=Aa ak a4 (Nat.le_trans (Nat.le_refl _) (by omega))
  have gg:=hE.size
  have gh:=Aw hme.lt c6
  have gi:=Aw hmm.lt c6
  have i:=c7;clear c7
  have gj:ba<ee.heap.size:=by omega
  have al:=al.trans bi
  refine gS (Yk.storeAll (vr (PQ ba 0) rfl) (vr (.agg ([(((M (id)).getD dEnt)).2,NI 0]).toArray) rfl) i rfl (show(Tryd.prog.info? 81).map (·.size)=some 2 from Bk) (BW (RB.one (hre211.keep al)).2) fun c8 c9 bj gk=> ?_)
  have hme:=hme.keep bi
  have hme:=MapF.other hme bj (Ao (by omega))
  have hmm:=hmm.keep bi
  have hmm:=MapF.other hmm bj (Ao (by omega))
  clear i
  have i:=c9;clear c9
  have gl:=bl i
  have gn:=Aw (bl hmk) b0
  have hmk:=eb av hmk
  have hmk:=kb a4 hmk (by omega)
  have al:=Aa al bj (Nat.le_trans (Nat.le_refl _) (by omega))
  have hmk:=eb al hmk
  have h:=eb al h
  have hE:=hE.trans al
  refine gS (Yk.fieldAt FC rfl (gS (Yk.cell1 IB rfl rfl (cellAt h ((show(entC (((M (id)).getD dEnt)))[1]? =some (.bool true:Value)from congrArg (fun b=>some (Value.bool b)) hbx))) (cT rfl (gS (Yk.fieldAt Lq rfl (gS (Yk.loadPart rfl (Dk (x:=(((M (id)).getD dEnt):Ad)) h) QJ rfl (by rw[Lib.byteCells_length,(hMO.get (id)).2.1];exact N2) (gP (Yp.callA2 OS rfl rfl ?_))))))))))
  refine Ap (ih d1 (by omega) c8 H ((M (id)).getD dEnt).1.base hmk hme hmm (hMO.keep hE) (hHO.keep hE) hne (MOk.get (hMO.keep hE) id).2.1 (by omega) na_ hdp1) ?_ ?_
  rotate_left
  ·rintro ch go ⟨hno,rfl,hx⟩
   refine Aq ?_
   refine .inr ⟨_,rfl,?_,rfl,BX.put (hX.keep hE) hx.grown⟩
   rw[hcg,show AZ (AG M) d (AG M id).base=none from by rw[hd1];exact hno];rfl
  rintro v_ af ⟨a5,bb,kk,H1,rfl,da,ag,hm250,hHO251,eg⟩
  have aj:=eg.grown
  have hm257:Dm c8 bm:=(MapF.isMap hmm).noB8
  have hX:BX w.heap.size (some bm) w af:=BX.put (hX.keep hE) aj
  have hmk:af.heap[gm]? =some (.cells ([.map (some be), .map (some bm)]).toArray 120 (0,0)):=kb aj hmk (by omega)
  have hme:MapF rk Bm (fun id:List UInt8=>id.length=32) af be M:=MapF.other hme aj (Ao (by omega))
  clear hmm
  have hMO:MOk af M:=(hMO.keep hE).keepN hm257 aj
  have hHO:HOk af M H:=(hHO.keep hE).keepN hm257 aj
  have gp:=Aw (bl f) b0
  have f:=eb av f
  have f:=kb a4 f (by omega)
  have f:=eb al f
  have f:af.heap[n2]? =some (.cells (Lib.byteCells id).toArray 38 (0,0)):=kb aj f (by omega)
  have eh:=o.size
  have o:=o.trans bi
  have o:=Aa o bj (Nat.le_trans eh (by omega))
  have g:=eb (cz.trans o) g
  have g:af.heap[am]? =some (.cells ([(Value.slice none 0 0),NI 0]).toArray 81 (0,0)):=kb aj g (by omega)
  have ei:=ak.size
  have ak:=ak.trans bi
  have ak:=Aa ak bj (Nat.le_trans ei (by omega))
  have j:=eb (a3.trans ak) j
  have j:af.heap[bv]? =some (.cells ([(Value.slice none 0 0),NI 0]).toArray 81 (0,0)):=kb aj j (by omega)
  have h:af.heap[bz]? =some (.cells (entC (((M (id)).getD dEnt))).toArray 116 (0,0)):=kb aj h (by omega)
  have hre211:RB af (((M (id)).getD dEnt)).2 (AG M id).bytes:=(hre211.keep al).keepN hm257 aj
  have i:af.heap[ba]? =some (.cells ([(((M (id)).getD dEnt)).2,NI 0]).toArray 81 (0,0)):=kb aj i (by omega)
  have m:=Ext.refl af
  have gq:=hX.size
  have hcl:=EG da
  rw[show AZ (AG M) d (AG M id).base=some (bb,kk)from by rw[hd1];exact da]at hcg
  refine gS (Yk.alloc DO fun cc ej aw db an gr=> ?_)
  have gs:=Aw hme.lt aw
  have gt:=Aw hm250.lt aw
  have aa:=db;clear db
  have gu:cc<ej.heap.size:=by omega
  have m:=m.trans an
  refine gS (Yk.storeAll (vr (PQ cc 0) rfl) (vr (.agg ([a5,NI kk]).toArray) rfl) aa rfl (show(Tryd.prog.info? 81).map (·.size)=some 2 from Bk) (BW (RB.one (ag.keep m)).2) fun el dc ao gv=> ?_)
  have hme:=hme.keep an
  have hme:=MapF.other hme ao (Ao (by omega))
  have hm250:=hm250.keep an
  have hm250:=MapF.other hm250 ao (Ao (by omega))
  clear aa
  have aa:=dc;clear dc
  have gw:=bl aa
  refine gS (Yk.fieldAt F8 rfl (gS (Yk.cell1 EX rfl rfl (cellAt aa rfl) (gS (Yk.fieldAt Hw rfl ?_)))))
  have m:=Aa m ao (Nat.le_trans (Nat.le_refl _) (by omega))
  have hre282:RB el (((M (id)).getD dEnt)).2 (AG M id).bytes:=(MOk.get (hMO.keep m) id).1
  have gx:=Aw (bl h) aw
  have h:=eb an h
  have h:=kb ao h (by omega)
  refine gS (Yk.cell1 EX rfl rfl (cellAt h (FB (x:=(((M (id)).getD dEnt):Ad)) (hMO.get (id)).2.1)) (gS (Yk.callA2 OT rfl rfl ((Oy _ a5 (((M (id)).getD dEnt)).2 bb (AG M id).bytes (ag.keep m) hre282 (by omega) (by have:(AG M id).bytes.length≤1048576:=(MOk.get (hMO.keep m) id).2.2;omega)).mono ?_))))
  rintro e gy ⟨ab,rfl,q,dd⟩
  refine⟨_,rfl,?_⟩
  refine gS (Yk.extract (vs:= [ab,NI ((Au bb (AG M id).bytes).2)]) rfl rfl (gS (Yk.extract (vs:= [ab,NI ((Au bb (AG M id).bytes).2)]) rfl rfl (gS (Yk.eqI (a:=((Au bb (AG M id).bytes).2:Nat)) (b:=(0:Nat)) rfl rfl (AO _ _ _ _) (gP (Yp.callA2 FW rfl rfl ?_)))))))
  refine Ap (AR _ (decide (((Au bb (AG M id).bytes).2:Nat)=(0))) 6) ?_ ?_
  rotate_left
  ·rintro ch gz ⟨rfl,hb,hx⟩
   refine Aq ?_
   have hno:=of_decide_eq_false hb
   have m:=m.trans dd
   refine .inr ⟨_,rfl,?_,rfl,(BX.keep (hX.keep m) hx)⟩
   rw[hcg]
   exact if_neg hno
  rintro v_ bc ⟨rfl,em,de⟩
  have en:=of_decide_eq_true em
  have hap:=en
  have g0:=Aw (bl i) aw
  have i:=eb an i
  have i:=kb ao i (by omega)
  have hZ4:=dd.trans de
  have i:=eb hZ4 i
  have aa:=eb hZ4 aa
  have q:=q.keep de
  refine gS (Yk.fieldAt L8 rfl (gS (Yk.cell1 PJ rfl rfl (cellAt aa rfl) (gS (Yk.bin (xv:=NI kk) (yv:=NI 1) rfl rfl rfl (Ac _ _ _ (by omega)) (gS (Yk.build2 (vr ab rfl) (vr (NI ((kk)+(1))) rfl) (fun w=>Jr (RB.slice q) ((((kk)+(1):Nat):Int)) w) (gS (Yk.storeAll (vr (PQ ba 0) rfl) (vr (.agg ([ab,NI ((kk)+(1))]).toArray) rfl) i rfl (show(Tryd.prog.info? 81).map (·.size)=some 2 from Bk) (BW (RB.one q).2) fun ax dg t g1=> ?_)))))))))
  have m:=m.trans hZ4
  have hnb_:Dm bc ba:=IC i (RB.slice (hre211.keep m))
  have hX:BX w.heap.size (some bm) w bc:=(hX.keep m)
  have hMO:MOk bc M:=(hMO.keep m)
  have hre211:RB bc (((M (id)).getD dEnt)).2 (AG M id).bytes:=(hre211.keep m)
  have ag:RB bc a5 bb:=(ag.keep m)
  have hHO251:HOk bc M H1:=(hHO251.keep m)
  have hX:BX w.heap.size (some bm) w ax:=BX.set hX t (by omega)
  have hme:=hme.keep hZ4
  have hme:=MapF.other hme t (Ao (by omega))
  have hMO:MOk ax M:=hMO.keepN hnb_ t
  have hre211:RB ax (((M (id)).getD dEnt)).2 (AG M id).bytes:=hre211.keepN hnb_ t
  have ag:RB ax a5 bb:=ag.keepN hnb_ t
  have hm250:=hm250.keep hZ4
  have hm250:=MapF.other hm250 t (Ao (by omega))
  have hHO251:HOk ax M H1:=hHO251.keepN hnb_ t
  have hre282:=hre282.keep hZ4
  have hre282:RB ax (((M (id)).getD dEnt)).2 (AG M id).bytes:=hre282.keepN hnb_ t
  have q:RB ax ab (Au bb (AG M id).bytes).1:=q.keepN hnb_ t
  clear i
  have i:=dg;clear dg
  have g2:=bl i
  have g3:=Ext.refl ax
  have g4:=hX.size
  refine gS (Yk.fieldAt F8 rfl (gS (Yk.cell1 EX rfl rfl (cellAt i rfl) (gS (Yk.lenRB EX (RB.of q rfl) (gS (Yk.eqI (a:=(((Au bb (AG M id).bytes).1:List UInt8).length:Nat)) (b:=(262144:Nat)) rfl rfl (BU _ _ _ _) (gP (Yp.callA2 FW rfl rfl ?_)))))))))
  refine Ap (AR _ (decide ((((Au bb (AG M id).bytes).1:List UInt8).length)≤(262144))) 6) ?_ ?_
  rotate_left
  ·rintro ch g5 ⟨rfl,hb,hx⟩
   refine Aq ?_
   have hno:=of_decide_eq_false hb
   refine .inr ⟨_,rfl,?_,rfl,(BX.keep hX hx)⟩
   rw[hcg]
   exact(if_pos hap).trans (if_neg hno)
  rintro v_ cd ⟨rfl,eo,b1⟩
  have hX:BX w.heap.size (some bm) w cd:=(hX.keep b1)
  have hMO:MOk cd M:=(hMO.keep b1)
  have hHO251:HOk cd M H1:=(hHO251.keep b1)
  have ep:=of_decide_eq_true eo
  have hcf:AZ (AG M) (d+1) id=some ((Au bb (AG M id).bytes).1,kk+1):=hcg.trans ((if_pos hap).trans (if_pos ep))
  refine Bw [0,1,2,3,4,5,6] [6] [] fun b2 b3=> ?_
  have hX:BX w.heap.size (some bm) w b2:=(hX.keep b3)
  have hMO:MOk b2 M:=(hMO.keep b3)
  have hHO251:HOk b2 M H1:=(hHO251.keep b3)
  have g6:=Aw (bl hmk) aw
  have hmk:=eb an hmk
  have hmk:=kb ao hmk (by omega)
  have hmk:=eb hZ4 hmk
  have hmk:=kb t hmk (by omega)
  have hZ5:=b1.trans b3
  have hmk:=eb hZ5 hmk
  have g7:=Aw (bl f) aw
  have f:=eb an f
  have f:=kb ao f (by omega)
  have f:=eb hZ4 f
  have f:=kb t f (by omega)
  have f:=eb hZ5 f
  have hm250:=hm250.keep hZ5
  have i:=eb hZ5 i
  refine ys (Yk.nilCheck rfl zz) (ys (Yk.fieldAt DP rfl zz) (ys (Yk.cell1 CO rfl rfl (cellAt hmk rfl) zz) (ys (Yk.loadAll rfl f QJ rfl (by exact Ag hid) zz) (ys (Yk.loadAll rfl i (Dg).choose_spec rfl (show(Tryd.prog.info? 81).map (·.size)=some 2 from Bk) zz) (yC (Yk.putM (ek:=rk) (ev:=B9) (D:=(fun id:List UInt8=>id.length=32)) (c:=((((Au bb (AG M id).bytes).1,(kk)+(1)),ab):B0)) B4 B5 CO (vr (.map (some bm)) rfl) (vr (AB id) rfl) (vr (.agg ([ab,NI ((kk)+(1))]).toArray) rfl) hm250 hid fun p ce u g8=> ?_))))))
  have q:=q.keep hZ5
  have hP:=HOk.put hHO251 (id:=id) (x:=((((Au bb (AG M id).bytes).1,(kk)+(1)),ab):B0)) q hdp hcf
  have hm315:Dm b2 bm:=(MapF.isMap hm250).noB8
  have hX:BX w.heap.size (some bm) w p:=BX.put hX u
  have hmk:p.heap[gm]? =some (.cells ([.map (some be), .map (some bm)]).toArray 120 (0,0)):=kb u hmk (by omega)
  have hme:=hme.keep hZ5
  have hme:MapF rk Bm (fun id:List UInt8=>id.length=32) p be M:=MapF.other hme u (Ao (by omega))
  have hMO:MOk p M:=hMO.keepN hm315 u
  have f:p.heap[n2]? =some (.cells (Lib.byteCells id).toArray 38 (0,0)):=kb u f (by omega)
  have g9:=Aw (bl g) aw
  have g:=eb an g
  have g:=kb ao g (by omega)
  have g:=eb hZ4 g
  have g:=kb t g (by omega)
  have g:=eb hZ5 g
  have g:p.heap[am]? =some (.cells ([(Value.slice none 0 0),NI 0]).toArray 81 (0,0)):=kb u g (by omega)
  have ha:=Aw (bl j) aw
  have j:=eb an j
  have j:=kb ao j (by omega)
  have j:=eb hZ4 j
  have j:=kb t j (by omega)
  have j:=eb hZ5 j
  have j:p.heap[bv]? =some (.cells ([(Value.slice none 0 0),NI 0]).toArray 81 (0,0)):=kb u j (by omega)
  have h:=eb hZ4 h
  have h:=kb t h (by omega)
  have h:=eb hZ5 h
  have h:p.heap[bz]? =some (.cells (entC (((M (id)).getD dEnt))).toArray 116 (0,0)):=kb u h (by omega)
  have hre211:=hre211.keep hZ5
  have hre211:RB p (((M (id)).getD dEnt)).2 (AG M id).bytes:=hre211.keepN hm315 u
  have ag:=ag.keep hZ5
  have ag:RB p a5 bb:=ag.keepN hm315 u
  clear hm250
  have aa:=kb t aa (by omega)
  have aa:=eb hZ5 aa
  have aa:p.heap[cc]? =some (.cells ([a5,NI kk]).toArray 81 (0,0)):=kb u aa (by omega)
  have hre282:=hre282.keep hZ5
  have hre282:RB p (((M (id)).getD dEnt)).2 (AG M id).bytes:=hre282.keepN hm315 u
  have q:RB p ab (Au bb (AG M id).bytes).1:=q.keepN hm315 u
  have i:p.heap[ba]? =some (.cells ([ab,NI ((kk)+(1))]).toArray 81 (0,0)):=kb u i (by omega)
  have hP:HOk p M (updM H1 (id) (some (((((Au bb (AG M id).bytes).1,(kk)+(1)),ab):B0)))):=hP.keepN hm315 u
  have hc:=Ext.refl p
  have hd:=hX.size
  refine gS (Yk.loadAll rfl i (Dg).choose_spec rfl (show(Tryd.prog.info? 81).map (·.size)=some 2 from Bk) (gS (Yk.storeAll (vr (PQ am 0) rfl) (vr (.agg ([ab,NI ((kk)+(1))]).toArray) rfl) g rfl (show(Tryd.prog.info? 81).map (·.size)=some 2 from Bk) (BW (RB.one q).2) fun ay dh ap he=> ?_)))
  have hnb_:Dm p am:=IC g ⟨_,_,_,rfl⟩
  have hX:BX w.heap.size (some bm) w ay:=BX.set hX ap (by omega)
  have hme:=MapF.other hme ap (Ao (by omega))
  have hMO:MOk ay M:=hMO.keepN hnb_ ap
  have hre211:RB ay (((M (id)).getD dEnt)).2 (AG M id).bytes:=hre211.keepN hnb_ ap
  have ag:RB ay a5 bb:=ag.keepN hnb_ ap
  have hre282:RB ay (((M (id)).getD dEnt)).2 (AG M id).bytes:=hre282.keepN hnb_ ap
  have q:RB ay ab (Au bb (AG M id).bytes).1:=q.keepN hnb_ ap
  have hP:HOk ay M (updM H1 (id) (some (((((Au bb (AG M id).bytes).1,(kk)+(1)),ab):B0)))):=hP.keepN hnb_ ap
  have ce:=MapF.other ce ap (Ao (by omega))
  clear g
  have g:=dh;clear dh
  have hf:=bl g
  have hg:=Ext.refl ay
  have hh:=hX.size
  refine IO rfl (ResF.row rfl g (Dg).choose_spec rfl ((show(Tryd.prog.info? 81).map (·.size)=some 2 from Bk))) ?_
  exact .inl ⟨_,rfl,_,_,_,_,rfl,hcf,q,ce,hP,hX⟩
 obtain⟨hxr,nb_,d2,eq,di⟩:=hHO id x hH
 have hdd:=Ls hdp eq
 rw[←hdd]at di
 refine DC [0,1,2,3,4,5,6,7,8,9,10,11] [9,10] [1,2,7,8] [3,4,5] fun dj dk=> ?_
 have bk:=Ext.refl dj
 have hZ6:=b7.trans dk
 have hE:=hE.trans hZ6
 have er:=hE.size
 have b4:=Ext.refl dj
 have cl:=Aw (bl hmk) bd
 have hmk:=eb a6 hmk
 have cm:=Aw (bl hmk) aq
 have hmk:=eb hZ6 hmk
 have cn:=Aw (bl f) aq
 have f:=eb hZ6 f
 have hmm:=hmm.keep hZ6
 refine C3 b4 ?_
 refine yp (Yk.nilCheck rfl zz) (yp (Yk.fieldAt DP rfl zz) (yf (fun _ ⟨hZ,_⟩=>Yk.cell1 CO rfl rfl (cellAt (eb hZ hmk) rfl) zz) (yf (fun _ ⟨hZ,_⟩=>Yk.loadAll rfl (eb hZ f) QJ rfl (by exact Ag hid) zz) (yf (fun _ ⟨hZ,_⟩=>Yk.lookOkS (ek:=rk) (ev:=B9) (D:=(fun id:List UInt8=>id.length=32)) B4 B5 (fun _ _=>BY) CO (z:=B9 Jq) Gp rfl rfl (hmm.keep hZ) hid hH zz) (yp (Yk.extract (vs:= [.agg ([x.2,NI x.1.2]).toArray, .bool (true)]) rfl rfl zz) (yp (Yk.extract (vs:= [.agg ([x.2,NI x.1.2]).toArray, .bool (true)]) rfl rfl zz) (yE (Yk.alloc DO fun dl es dm dn bn hi=> ?_))))))))
 have hme:=hme.keep hZ6
 have hj:=Aw hme.lt dm
 have hk:=Aw hmm.lt dm
 have bo:=dn;clear dn
 have hl:dl<es.heap.size:=by omega
 have b4:=b4.trans bn
 refine⟨b4,?_⟩
 have hE:=hE.trans bn
 refine yD rfl (Yk.storeAll (vr (PQ dl 0) rfl) (vr (.agg ([x.2,NI x.1.2]).toArray) rfl) bo rfl (show(Tryd.prog.info? 81).map (·.size)=some 2 from Bk) (BW (RB.one (hxr.keep hE)).2) fun hm dp b5 hn=> ?_)
 have hme:=hme.keep bn
 have hme:=MapF.other hme b5 (Ao (by omega))
 have hmm:=hmm.keep bn
 have hmm:=MapF.other hmm b5 (Ao (by omega))
 clear bo
 have bo:=dp;clear dp
 have ho:=bl bo
 have bk:=bk.trans bn
 have bk:=Aa bk b5 (Nat.le_trans (Nat.le_refl _) (by omega))
 have g:=eb (dk.trans bk) g
 have hE:=Aa hE b5 (Nat.le_trans er (by omega))
 refine cT rfl (gS (Yk.loadAll rfl bo (Dg).choose_spec rfl (show(Tryd.prog.info? 81).map (·.size)=some 2 from Bk) (gS (Yk.storeAll (vr (PQ am 0) rfl) (vr (.agg ([x.2,NI x.1.2]).toArray) rfl) g rfl (show(Tryd.prog.info? 81).map (·.size)=some 2 from Bk) (BW (RB.one (hxr.keep hE)).2) fun hp dq cf hq=> ?_))))
 have hme:=MapF.other hme cf (Ao (by omega))
 have hmm:=MapF.other hmm cf (Ao (by omega))
 clear g
 have g:=dq;clear dq
 have hr:=bl g
 refine IO rfl (ResF.row rfl g (Dg).choose_spec rfl ((show(Tryd.prog.info? 81).map (·.size)=some 2 from Bk))) ?_
 have hE:=Aa hE cf (Nat.le_trans dt (by omega))
 exact .inl ⟨_,rfl,_,_,_,H,rfl,di,(hxr.keep hE),hmm,(hHO.keep hE),(hX.keep hE)⟩

theorem OU(gm be bm:Nat)(M:Bs→Option Ad):∀(d:Nat) (w:World) (H:Bs→Option B0) (id:Bs) (hmk:w.heap[gm]? =some (.cells ([.map (some be), .map (some bm)]).toArray 120 (0,0))) (hme:MapF rk Bm (fun id:List UInt8=>id.length=32) w be M) (hmm:MapF rk B9 (fun id:List UInt8=>id.length=32) w bm H) (hMO:MOk w M) (hHO:HOk w M H) (hne:be≠bm) (hid:id.length=32) (hd50:d≤50) (a:Nat) (hdp:AC (AG M) a (AG M id)=some d),Calls Tryd.prog 68 #[PQ gm 0,AB id] w fun r w' =>(∃x,r = .returned x∧∃v b k H',x = .agg ([v,NI k]).toArray∧AZ (AG M) (d+1) id=some (b,k)∧RB w' v b∧MapF rk B9 (fun id:List UInt8=>id.length=32) w' bm H' ∧HOk w' M H' ∧BX w.heap.size (some bm) w w')∨∃ch,r = .panicked ch∧AZ (AG M) (d+1) id=none∧ch= [Cz 6]∧BX w.heap.size (some bm) w w' :=by
 intro d
 induction d using Nat.strongRecOn with
 | _ d ih=>exact Nq gm be bm M d ih
open Go.RowKit
def OOk(w:World)(O:Bs→Option B0):Prop:=∀id x,O id=some x→RB w x.2 x.1.1
theorem OOk.keep{w w' :World}{O:Bs→Option B0}(h:OOk w O)(k:Ext w w'):OOk w' O:=fun a c hc=>(h a c hc).keep k
theorem OOk.keepN{w w' :World}{b:Nat}{O:Bs→Option B0}(h:OOk w O)(hm:Dm w b)(hg:w.grownBy w' (some b)):OOk w' O:=fun a c hc=>(h a c hc).keepN hm hg
theorem OOk.nil(w:World):OOk w (fun _=>none):=fun _ _ h=>by cases h
theorem OOk.put{w:World}{O:Bs→Option B0}(h:OOk w O){id:Bs}{x:B0}(h1:RB w x.2 x.1.1):OOk w (updM O id (some x)):=fun a c hc=>by
  unfold updM at hc
  split at hc
  · cases hc;exact h1
  · exact h a c hc
theorem entOne_len{b:Bs}{fin pos:Nat}{e:Ent}{n:Nat}(h:entOne b fin pos=some (e,n))(hf:fin≤b.length):e.bytes.length≤b.length:=by
  unfold entOne at h
  split at h
  · split at h
    · split at h
      · cases h
      · cases ht:By b (pos+33) fin with
        | none=>rw[ht]at h;cases h
        | some x=>rw[ht]at h;cases h;exact Ex (s:=x.1) (n:=x.2) ht hf
    · cases ht:By b (pos+1) fin with
      | none=>rw[ht]at h;cases h
      | some x=>rw[ht]at h;cases h;exact Ex (s:=x.1) (n:=x.2) ht hf
  · cases h
theorem J2{b:Bs}{fin first:Nat}(hf:fin≤b.length):∀(n:Nat) (es:List Ent) (p:Nat),Cd b fin first n=some (es,p)→es.length=n∧∀x∈es,x.bytes.length≤b.length
  | 0,es,p,h=>by cases h;exact⟨rfl,fun x hx=>by cases hx⟩
  | n+1,es,p,h=>by
    cases h1:Cd b fin first n with
    | none=>rw[B6 h1 1]at h;cases h
    | some x=>
      rw[Fg (es:=x.1) (p:=x.2) h1]at h
      have ih:=J2 hf n x.1 x.2 h1
      cases h2:entOne b fin x.2 with
      | none=>rw[h2]at h;cases h
      | some y=>
        rw[h2]at h
        cases h
        refine⟨by rw[List.length_append,ih.1];rfl,fun z hz=> ?_⟩
        rcases List.mem_append.1 hz with hz | hz
        · exact ih.2 z hz
        · rw[List.mem_singleton.1 hz];exact entOne_len (e:=y.1) (n:=y.2) h2 hf
theorem DQ{b:Bs}{n first fin:Nat}{es:List Ent}(h:A9 b n first fin=some es)(hf:fin≤b.length):es.length=n∧∀x∈es,x.bytes.length≤b.length:=by
  unfold A9 at h
  cases h1:Cd b fin first n with
  | none=>rw[h1]at h;cases h
  | some x=>
    rw[h1]at h
    have h2:(if x.2=fin then some x.1 else none)=some es:=h
    split at h2
    · cases h2;exact J2 hf n x.1 x.2 h1
    · cases h2
def IxS.plain(s:IxS Ad):IxS Ent:=⟨s.ids,fun k=>(s.G k).map Prod.fst,fun k=>(s.M k).map Prod.fst⟩
theorem GK{α β γ:Type}[DecidableEq α](G:α→Option β)(a:α)(y:Option β)(f:β→γ):(fun k=>(updM G a y k).map f)=updM (fun k=>(G k).map f) a (y.map f):=by
  funext k
  unfold updM
  split <;> rfl
theorem placeGo_map(es:List Ad):∀i,(fun k=>(CB (fun x:Ad=>x.1.pos) dEnt es i k).map Prod.fst)=CB Ent.pos dEnt.1 (es.map Prod.fst) i
  | 0=>rfl
  | i+1=>by
    unfold CB
    rw[GK,placeGo_map es i]
    have e:(es.map Prod.fst).getD i dEnt.1=(es.getD i dEnt).1:=by
      rw[List.getD_eq_getElem?_getD,List.getD_eq_getElem?_getD,List.getElem?_map]
      cases es[i]? <;> rfl
    rw[e]
    rfl
theorem Fj(t:Bs)(es:List Ad):∀i,CX Ent.pos dEnt.1 t (es.map Prod.fst) i=(CX (fun x:Ad=>x.1.pos) dEnt t es i).map IxS.plain
  | 0=>by
    unfold CX
    rw[List.length_map,←placeGo_map]
    rfl
  | i+1=>by
    cases h:CX (fun x:Ad=>x.1.pos) dEnt t es i with
    | none=>
      have h' :CX Ent.pos dEnt.1 t (es.map Prod.fst) i=none:=by rw[Fj t es i,h];rfl
      rw[DM h 1,DM h' 1]
      rfl
    | some s=>
      have h' :CX Ent.pos dEnt.1 t (es.map Prod.fst) i=some s.plain:=by rw[Fj t es i,h];rfl
      rw[Ey h,Ey h']
      cases hG:s.G (Bh t i)with
      | none=>
        have hG' :s.plain.G (Bh t i)=none:=by show(s.G (Bh t i)).map Prod.fst=none;rw[hG];rfl
        unfold Cc
        rw[hG,hG']
        rfl
      | some c=>
        have hG' :s.plain.G (Bh t i)=some c.1:=by show(s.G (Bh t i)).map Prod.fst=some c.1;rw[hG];rfl
        unfold Cc
        rw[hG,hG']
        by_cases hc:i=0∨Lib.compareBytes (s.ids.getD (i-1) []) (AX t i)<0
        · simp only[if_pos hc,if_pos (show i=0∨Lib.compareBytes (s.plain.ids.getD (i-1) []) (AX t i)<0 from hc)]
          show some (Dc Ent.pos t i s.plain c.1)=some (Dc _ t i s c).plain
          unfold Dc IxS.plain
          dsimp only
          rw[GK,GK]
          rfl
        · simp only[if_neg hc,if_neg (show ¬(i=0∨Lib.compareBytes (s.plain.ids.getD (i-1) []) (AX t i)<0)from hc)]
          rfl
def entOf(M:Bs→Option Ent)(k:Bs):Ent:=(M k).getD dEnt.1
theorem Id(s:IxS Ad):AG s.M=entOf s.plain.M:=by
  funext k
  show((s.M k).getD dEnt).1=((s.M k).map Prod.fst).getD dEnt.1
  cases s.M k <;> rfl
structure G3 where
  total:Nat
  O:Bs→Option (Bs × Nat)
def Df(E:Bs→Ent)(id:Bs)(s:G3):Except Nat G3:=
  match AC E 50 (E id)with
  | none=> .error 17
  | some d=>match AZ E (d+1) id with
    | none=> .error 6
    | some x=>if Sha.sum x.1=id then(if s.total+x.1.length≤4194304 then .ok ⟨s.total+x.1.length,updM s.O id (some (x.1,d))⟩else .error 2)else .error 18
def C9(E:Bs→Ent)(ids:List Bs):Nat→Except Nat G3
  | 0=> .ok ⟨0,fun _=>none⟩
  | i+1=>match C9 E ids i with
    | .error e=> .error e
    | .ok s=>Df E (ids.getD i []) s
theorem I5{E:Bs→Ent}{id:Bs}{s:G3}(h:AC E 50 (E id)=none):Df E id s = .error 17:=by unfold Df;rw[h]
theorem J3{E:Bs→Ent}{id:Bs}{s:G3}{d:Nat}(h:AC E 50 (E id)=some d)(h2:AZ E (d+1) id=none):Df E id s = .error 6:=by
  unfold Df
  rw[h]
  dsimp only
  rw[h2]
theorem EH{E:Bs→Ent}{id:Bs}{s:G3}{d:Nat}{b:Bs}{k:Nat}(h:AC E 50 (E id)=some d)(h2:AZ E (d+1) id=some (b,k)):Df E id s=if Sha.sum b=id then(if s.total+b.length≤4194304 then .ok ⟨s.total+b.length,updM s.O id (some (b,d))⟩else .error 2)else .error 18:=by
  unfold Df
  rw[h]
  dsimp only
  rw[h2]
theorem EI{E:Bs→Ent}{ids:List Bs}{i:Nat}{s:G3}(h:C9 E ids i = .ok s):C9 E ids (i+1)=Df E (ids.getD i []) s:=by
  show(match C9 E ids i with | .error e=>_ | .ok s=>_)=_
  rw[h]
theorem FY{E:Bs→Ent}{ids:List Bs}{i:Nat}{e:Nat}(h:C9 E ids i = .error e):∀k,C9 E ids (i+k) = .error e
  | 0=>h
  | k+1=>by
    show(match C9 E ids (i+k)with | .error e=>_ | .ok s=>_)=_
    rw[FY h k]
abbrev Bu:=List Bs ×(Bs→Option (Bs × Nat))
def En(E:Bs→Ent)(ids:List Bs):Except Nat Bu:=
  match C9 E ids ids.length with
  | .error e=> .error e
  | .ok o=> .ok (ids,o.O)
theorem Lt{E:Bs→Ent}{ids:List Bs}{o:G3}(h:C9 E ids ids.length = .ok o):En E ids = .ok (ids,o.O):=by unfold En;rw[h]
def FG(es:List Ent)(M:Bs→Option Ent):Bool:=es.all fun e=> !e.based||(M e.base).isSome
def Js(b:Bs)(f:Nat)(ids:List Bs):Bool:=(List.range 256).all fun i=>BI (b.drop (f+4*i))==(AK ids).getD i 0
def GL(b:Bs)(f:Nat)(es:List Ent)(s:IxS Ent):Except Nat Bu:=if Js b f s.ids=true then(if FG es s.M=true then En (entOf s.M) s.ids else .error 6)else .error 6
def Fk(b:Bs)(f:Nat)(es:List Ent):Except Nat Bu:=
  match CX Ent.pos dEnt.1 ((b.drop (f+1024)).take (b.length-36-(f+1024))) es es.length with
  | none=> .error 6
  | some s=>GL b f es s
def GM(b:Bs)(n first f:Nat):Except Nat Bu:=
  match A9 b n first f with
  | none=> .error 6
  | some es=>Fk b f es
def GN(b:Bs)(f n first:Nat):Except Nat Bu:=
  if b.getD 0 0=80∧first≤f∧f≤b.length-36∧n≤b.length-36 then(if b.length-36-f=1024+36*n then GM b n first f else .error 6)else .error 6
def Ci(b:Bs):Except Nat Bu:=
  match Ax 0 (b.drop 1)with
  | none=> .error 6
  | some x=>GN b (BI (b.drop (b.length-36))) x.1 (1+x.2)
theorem MJ{b:Bs}{f:Nat}{ids:List Bs}(h:Js b f ids=true){i:Nat}(hi:i<256):BI (b.drop (f+4*i))=(AK ids).getD i 0:=by
  have:=List.all_eq_true.1 h i (by simpa using hi)
  exact beq_iff_eq.1 this
theorem fanB_of{b:Bs}{f:Nat}{ids:List Bs}(h:∀i,i<256→BI (b.drop (f+4*i))=(AK ids).getD i 0):Js b f ids=true:=
  List.all_eq_true.2 fun i hi=>by rw[beq_iff_eq];exact h i (by simpa using hi)
theorem OV{es:List Ad}{M:Bs→Option Ad}(h:FG (es.map Prod.fst) (fun k=>(M k).map Prod.fst)=true){q:Nat}(hq:q<es.length):(es.getD q dEnt).1.based=true→M (es.getD q dEnt).1.base≠none:=fun hb hn=>by
  have h1:=List.all_eq_true.1 h (es.getD q dEnt).1 (List.mem_map.2 ⟨_,getD_mem dEnt hq,rfl⟩)
  dsimp only at h1
  rw[hb,hn]at h1
  cases h1
theorem OW{es:List Ad}{M:Bs→Option Ad}(h:∀q,q<es.length→(es.getD q dEnt).1.based=true→M (es.getD q dEnt).1.base≠none):FG (es.map Prod.fst) (fun k=>(M k).map Prod.fst)=true:=
  List.all_eq_true.2 fun e he=>by
    obtain⟨x,hx,rfl⟩:=List.mem_map.1 he
    obtain⟨q,hq,rfl⟩:=List.getElem_of_mem hx
    have h1:=h q hq
    rw[show es.getD q dEnt=es[q] by rw[List.getD_eq_getElem?_getD,List.getElem?_eq_getElem hq];rfl]at h1
    cases hb:(es[q]).1.based with
    | false=>rfl
    | true=>
      cases hm:M (es[q]).1.base with
      | none=>exact absurd hm (h1 hb)
      | some c=>dsimp only;rw[hm];rfl
theorem GO{E:Bs→Ent}:∀ {n:Nat} {e:Ent} {d:Nat},AC E n e=some d→d≤n
  | 0,e,d,h=>by
    cases hb:e.based with
    | false=>rw[Dd hb]at h;cases h;exact Nat.le_refl _
    | true=>rw[DN hb]at h;cases h
  | n+1,e,d,h=>by
    cases hb:e.based with
    | false=>rw[Dd hb]at h;cases h;exact Nat.zero_le _
    | true=>
      rw[De hb]at h
      cases h1:AC E n (E e.base)with
      | none=>rw[h1]at h;cases h
      | some d1=>rw[h1]at h;cases h;exact Nat.succ_le_succ (GO h1)
theorem MOk.of{w:World}{t:Bs}{es:List Ad}{s:IxS Ad}{i n:Nat}(h:EntsOk w es)(hI:Rz t es i s)(hb:∀x∈es.map Prod.fst,x.bytes.length≤n)(hn:n≤1048576):MOk w s.M:=fun k c hc=>
  have hm:=hI.M k c hc
  ⟨(h c hm).1,(h c hm).2,Nat.le_trans (hb c.1 (List.mem_map.2 ⟨c,hm,rfl⟩)) hn⟩
end Go.Proofs.YtcegdjpdnlaleaaDoor
