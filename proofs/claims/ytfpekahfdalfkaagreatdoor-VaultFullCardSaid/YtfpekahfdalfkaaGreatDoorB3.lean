/- Part 3 of what stands behind these statements: laws and walks of the functions that are reached. Conditions: those that each theorem names. -/
import Derived.Test.YtfpekahfdalfkaaGreatDoorB2
set_option linter.unusedVariables false
set_option linter.unusedSimpArgs false
namespace Go.Proofs.YtfpekahfdalfkaaGreatDoor
open _root_.Go.Proofs.Tryz renaming prog → AcM, underlying5 → Agi
open _root_.Go renaming Value → AcJ, World → AcK, TypeId → AcR, Program → Adg, Edge → AdL, Operand → AcW, IntKind → AdU
open _root_.Go.Instr renaming buildSlice → Adt, entryStore → AhT
open _root_.Go.Lib renaming byteCells → AcL, compareBytes → Adj, byteCells_length → AcZ, uvarint → Ac4, uvarint_small → Af4, uvarint_big → Ah0
open _root_.List renaming length_nil → Adp, nil_append → AdS, length_take_le → AiH, length_take → Ac8, length_drop → Ac5, length_append → AcQ, map_toArray → Ads, map_cons → Ado, map_nil → AdA, append_toArray → AeP, cons_append → AdP, toArray → Aec, length_cons → Adh, getElem?_eq_some_iff → Adc, getD → AgX, range → AdN, filter_append → AfX, length_filter_le → AeE, replicate → AcX, size_toArray → Ac6, mem_singleton → AcY, map_append → Aei, take_succ_eq_append_getElem → Adi, getD_eq_getElem?_getD → AcO, getElem?_eq_getElem → AcS, getElem_mem → Ad9, mem_filter → Aes, mem_range → AgG, length_map → Ada, take_of_length_le → AdD, append_assoc → Adn, drop_zero → Afg, drop_left → AeM, foldl_cons → AfP, take_succ_cons → AfJ, take_left → Ae8, take_length → Ad6, append_nil → AeA, drop_of_length_le → AdR, drop_drop → Ahh, flatMap_cons → AdJ, length_replicate → Ac7, length_set → Aer, flatten_append → AiI, take_append_drop → Afb, eq_nil_of_length_eq_zero → Adw, length → AgQ, mem_cons → Adz, not_mem_nil → Aeu, zip_cons_cons → AeU, lookup_cons → Ael, mem_append → Adf, getElem?_append_left → AdF, map → Afs, getElem?_append_right → AdB, singleton_append → Af6, set_append_right → Aeg, flatMap_append → AfG, mem_of_mem_take → Ait
open _root_.List.Perm renaming refl → Ahi
open _root_.Go.Value renaming slice → AcU, ownBlock → AcT, int → AeJ, bool → Adl
open _root_.Nat renaming le_refl → AcP, le_trans → AcN, strongRecOn → Ae0, zero_le → Adm, le_of_lt → AiT, zero_add → Ad4, lt_of_lt_of_le → AdE, le_of_ble_eq_true → Ac2, add_sub_cancel_left → AeX, add_assoc → Ae2, min → AfN, min_comm → AiO, min_le_left → Ags, mul_comm → Agz, sub_self → Aez
open _root_.And renaming intro → Adr
open _root_.Int renaming toNat_natCast → Ac0
open _root_.UInt8 renaming toNat_inj → Agr, ofNat → AdQ
open _root_.Go.RowKit.Below renaming refl → AdC, grown → Ago, trans → Aic
open _root_.Option renaming map_none → AeG, getD_some → AdI
open _root_.Go.Sem renaming run_bind → Ac1, run_pure → Ac3
open _root_.Go.Result renaming andThen_ok → AcV
open _root_.Go.Src renaming ofSlice → Ahl
open _root_.Go.Addr renaming add_lit → Aek
open _root_.Option.some renaming injEq → Aey
open _root_.Array renaming getElem?_eq_some_iff → Ade
open _root_.Go.World renaming ownsRow_nil → AdK
open _root_.Prod.mk renaming injEq → Aht
open _root_.Go.World.grownBy renaming refl → Aef
open _root_.ByteArray renaming size → Aij
open Go.RowKit
set_option maxRecDepth 100000
set_option maxHeartbeats 1600000
theorem pk6_ig33:∃z,(Tryz.prog.info? 33).map (fun i=>(i.zero,i.size,i.bytes))=some (some z,32,32)∧z.cells.size=32:=Fl (by kernel_rfl)
theorem J5:Plain AcM 99:=fun _ _=>by kernel_rfl
theorem Sl:Plain AcM 100:=fun _ _=>by kernel_rfl
theorem Us(c0 c1 c2 c3 c4 c5 c6 c7 c8 c9 c10 c11 c12 c13 c14 c15 c16 c17 c18 c19 c20 c21 c22 c23 c24 c25 c26 c27 c28 c29 c30 c31:AcJ)(w:AcK):(Adt 42 1 #[(0, .agg #[c0,c1,c2,c3,c4,c5,c6,c7,c8,c9,c10,c11,c12,c13,c14,c15,c16,c17,c18,c19,c20,c21,c22,c23,c24,c25,c26,c27,c28,c29,c30,c31])]).run AcM w = .ok (.slice (some ⟨w.heap.size,0,none⟩) 1 1) (w.alloc (.cells #[c0,c1,c2,c3,c4,c5,c6,c7,c8,c9,c10,c11,c12,c13,c14,c15,c16,c17,c18,c19,c20,c21,c22,c23,c24,c25,c26,c27,c28,c29,c30,c31] 33)):=by kernel_rfl
theorem ND:∀(cs:Array AcJ),cs.size=32→∀w:AcK,(Adt 42 1 #[(0, .agg cs)]).run AcM w = .ok (.slice (some ⟨w.heap.size,0,none⟩) 1 1) (w.alloc (.cells cs 33))
 | ⟨[c0,c1,c2,c3,c4,c5,c6,c7,c8,c9,c10,c11,c12,c13,c14,c15,c16,c17,c18,c19,c20,c21,c22,c23,c24,c25,c26,c27,c28,c29,c30,c31]⟩,_,w=>Us c0 c1 c2 c3 c4 c5 c6 c7 c8 c9 c10 c11 c12 c13 c14 c15 c16 c17 c18 c19 c20 c21 c22 c23 c24 c25 c26 c27 c28 c29 c30 c31 w
theorem Qz(n:Nat)(ih:∀l:List Bs,l.length<n→∀(w:AcK) (v:AcJ),RG 32 AcL w v l→Calls AcM 99 #[v, .func (.func 100) #[] #[]] w fun e w' =>∃v' m,e = .returned v' ∧OG w.heap.size 33 32 AcL w' v' m∧m.Perm l∧C8 m∧Ext w w')(l:List Bs)(hn:l.length=n)(hlim:l.length≤1048576)(w:AcK)(v:AcJ)(hr:RG 32 AcL w v l):
  Calls AcM 99 #[v, .func (.func 100) #[] #[]] w fun e w' =>∃v' m,e = .returned v' ∧OG w.heap.size 33 32 AcL w' v' m∧m.Perm l∧C8 m∧Ext w w' :=by
 refine gG (args:= [v, .func (.func 100) #[] #[]]) Tryz.func99 rfl 68 rfl rfl ?_;have hE:=Ext.refl w;refine gS (ZI NB (ZC hr rfl) (gS (Zv (a:=(l.length:Nat)) (b:=(2:Nat)) rfl rfl (AI _ _ _ _) ?_)));refine cD rfl (fun a1=> ?_) fun a1=> ?_
 ·refine gS (ZM _ _ w.heap.size _ 32 NB pk6_ig33.choose_spec.1 pk6_ig33.choose_spec.2 NB ([]) (l) (Ab6 _ _ _) (ZC hr (vr v rfl)) (fun _ _=>Af _) (by simp only[Adp];omega) (by simp only[Adp];omega) hE.size fun v5 w6 bk ak=> ?_);have ak:Grew w w6 (.slice none 0 0) v5:=ak;have hx_:Ext w w6:=AaQ (by have:=ak.by_;exact this);refine Bb rfl (vr v5 rfl) ?_;have hE:=hE.trans hx_;exact⟨_,l,rfl,OG.base (Bc bk (AdS l)) (by omega),Ahi _,Sk a1,hE⟩
 refine gR ?_;refine Hu [Is (v),Is (v),Is (NI l.length),Is (NI ((l.length)/(2))),fun x _=>RG 32 (AcL) w x (l.take ((l.length)/(2))),Is (.func (.func 100) #[] #[]),fun x w' =>∃m,RG 32 AcL w' x m∧m.Perm (l.take ((l.length)/(2)))∧C8 m,Is (v),Is (v),Is (NI l.length),Is (NI ((l.length)/(2))),fun x _=>RG 32 (AcL) w x (l.drop ((l.length)/(2))),Is (.func (.func 100) #[] #[]),fun x w' =>∃m,RG 32 AcL w' x m∧m.Perm (l.drop ((l.length)/(2)))∧C8 m,fun x w' =>∃m,RG 32 AcL w' x m∧m.Perm (l.take ((l.length)/(2)))∧C8 m,fun x w' =>∃m,RG 32 AcL w' x m∧m.Perm (l.drop ((l.length)/(2)))∧C8 m] (by kernel_rfl) [13,14,15,16,17,18,19,20,21,22,23,24,25,26,5,6] (by kernel_rfl) (by kernel_rfl) (X0 ⟨(fun _ _ _ h _=>h),ZD _,(fun _ _ _ ⟨m,h1,h2⟩ k=>⟨m,h1.keep k,h2⟩),(X0 ⟨(fun _ _ _ h _=>h),ZD _,(fun _ _ _ ⟨m,h1,h2⟩ k=>⟨m,h1.keep k,h2⟩),(fun _ _ _ ⟨m,h1,h2⟩ k=>⟨m,h1.keep k,h2⟩),(fun _ _ _ ⟨m,h1,h2⟩ k=>⟨m,h1.keep k,h2⟩),trivial⟩)⟩) ?bm ?hQ1003
 case bm=>
  refine⟨?_,?_,?_,?_,?_,?_,?_,?_,?_,?_,?_,?_,?_,?_,?_,?_,trivial⟩
  ·refine Ah rfl fun σ w1 hC h=> ?_;have s:σ 0=v:=(Az (h 0 (by decide))).trans rfl;exact Yk.move s ⟨Ext.refl _,rfl⟩
  ·refine Ah rfl fun σ w1 hC h=> ?_;have s:σ 0=v:=(Az (h 0 (by decide))).trans rfl;exact Yk.move s ⟨Ext.refl _,rfl⟩
  ·refine Ah rfl fun σ w1 hC h=> ?_;have bn:=Az (h 14 (by decide));exact ZI NB (ZC (hr.keep hC) bn) ⟨Ext.refl _,rfl⟩
  ·refine Ah rfl fun σ w1 hC h=> ?_;have bo:=Az (h 15 (by decide));exact Zw (xv:=NI l.length) (yv:=NI 2) bo rfl rfl (Ly _ _ _ (by omega) (by omega)) ⟨Ext.refl _,rfl⟩
  ·refine Ah rfl fun σ w1 hC h=> ?_;have bp:=Az (h 13 (by decide));have bq:=Az (h 16 (by decide));exact Aby NB Sj bp hr bq (by omega) fun v h _=>⟨Ext.refl _,h⟩
  ·refine Ah rfl fun σ w1 hC h=> ?_;have e1:σ 1 = .func (.func 100) #[] #[]:=(Az (h 1 (by decide))).trans rfl;exact Yk.move e1 ⟨Ext.refl _,rfl⟩
  ·refine Ah rfl fun σ w1 hC h=> ?_;have br:(fun x _=>RG 32 (AcL) w x (l.take ((l.length)/(2)))) (σ 17) w1:=h 17 (by decide);have bs:=Az (h 18 (by decide));refine Zx J5 rfl bs ((ih (l.take ((l.length)/(2))) (by have hlen_:=AiH (l.length/2) l;first | (simp only[Ac8];omega) | (simp only[Ac5];omega)) _ _ (RG.keep br hC)).mono ?_);rintro e w2 ⟨_,m,rfl,h1,h2,h3,h4⟩;exact⟨_,rfl,h4,m,ZG h1,h2,h3⟩
  ·refine Ah rfl fun σ w1 hC h=> ?_;have s:σ 0=v:=(Az (h 0 (by decide))).trans rfl;exact Yk.move s ⟨Ext.refl _,rfl⟩
  ·refine Ah rfl fun σ w1 hC h=> ?_;have s:σ 0=v:=(Az (h 0 (by decide))).trans rfl;exact Yk.move s ⟨Ext.refl _,rfl⟩
  ·refine Ah rfl fun σ w1 hC h=> ?_;have bt:=Az (h 21 (by decide));exact ZI NB (ZC (hr.keep hC) bt) ⟨Ext.refl _,rfl⟩
  ·refine Ah rfl fun σ w1 hC h=> ?_;have bu:=Az (h 22 (by decide));exact Zw (xv:=NI l.length) (yv:=NI 2) bu rfl rfl (Ly _ _ _ (by omega) (by omega)) ⟨Ext.refl _,rfl⟩
  ·refine Ah rfl fun σ w1 hC h=> ?_;have bv:=Az (h 20 (by decide));have bw:=Az (h 23 (by decide));exact AaJ NB Sj bv hr bw (by omega) fun v h _=>⟨Ext.refl _,h⟩
  ·refine Ah rfl fun σ w1 hC h=> ?_;have e1:σ 1 = .func (.func 100) #[] #[]:=(Az (h 1 (by decide))).trans rfl;exact Yk.move e1 ⟨Ext.refl _,rfl⟩
  ·refine Ah rfl fun σ w1 hC h=> ?_;have bx:(fun x _=>RG 32 (AcL) w x (l.drop ((l.length)/(2)))) (σ 24) w1:=h 24 (by decide);have bz:=Az (h 25 (by decide));refine Zx J5 rfl bz ((ih (l.drop ((l.length)/(2))) (by have hlen_:=AiH (l.length/2) l;first | (simp only[Ac8];omega) | (simp only[Ac5];omega)) _ _ (RG.keep bx hC)).mono ?_);rintro e w2 ⟨_,m,rfl,h1,h2,h3,h4⟩;exact⟨_,rfl,h4,m,ZG h1,h2,h3⟩
  ·refine Ah rfl fun σ w1 hC h=> ?_;have b0:(fun x w' =>∃m,RG 32 AcL w' x m∧m.Perm (l.take ((l.length)/(2)))∧C8 m) (σ 19) w1:=h 19 (by decide);exact Yk.assign rfl ⟨Ext.refl _,b0⟩
  ·refine Ah rfl fun σ w1 hC h=> ?_;have b1:(fun x w' =>∃m,RG 32 AcL w' x m∧m.Perm (l.drop ((l.length)/(2)))∧C8 m) (σ 26) w1:=h 26 (by decide);exact Yk.assign rfl ⟨Ext.refl _,b1⟩
 intro aa g a4 he hf;obtain⟨-,-,-,-,-,-,-,-,-,-,-,-,-,-,k5,k6,-⟩:=hf;obtain⟨p,q,r,-⟩:=he.hold [(0,v),(1, .func (.func 100) #[] #[]),(4,(AcU none 0 0))] ⟨rfl,rfl,rfl,trivial⟩ rfl;clear he;have k5:(fun x w' =>∃m,RG 32 AcL w' x m∧m.Perm (l.take ((l.length)/(2)))∧C8 m) (aa 5) g:=k5;obtain⟨b2,i⟩:∃v,aa 5=v:=⟨_,rfl⟩;rw[i]at k5;have b3:=k5;clear k5;obtain⟨A,b4,b5,ha17⟩:=b3;have k6:(fun x w' =>∃m,RG 32 AcL w' x m∧m.Perm (l.drop ((l.length)/(2)))∧C8 m) (aa 6) g:=k6;obtain⟨b6,j⟩:∃v,aa 6=v:=⟨_,rfl⟩;rw[j]at k6;have b7:=k6;clear k6;obtain⟨B,b8,b9,ha22⟩:=b7;have hr:=hr.keep a4;refine gX (gS (ZI NB (ZC hr p) ?_));have f:=Ext.refl g;have hE:=hE.trans a4;have t:=hE.size;refine gS (Aci (enc:=AcL) g.heap.size _ 32 NB pk6_ig33.choose_spec.1 rfl rfl (by omega) (by omega) (AcP _) fun ca c4 a5 a6=> ?_);have hE:=hE.trans a6;have f:=f.trans a6;refine gL (fun(ρ:Ad) (wz:AcK)=>∃va:AcJ,∃vb:AcJ,∃Al:List Bs,∃Bl:List Bs,∃Ol:List Bs,∃vo:AcJ,ρ 0=(v:AcJ)∧ρ 1=(.func (.func 100) #[] #[]:AcJ)∧ρ 4=((AcU none 0 0):AcJ)∧ρ 5=(va:AcJ)∧ρ 6=(vb:AcJ)∧ρ 7=(vo:AcJ)∧Ext w wz∧Ext g wz∧RG 32 AcL g va Al∧RG 32 AcL g vb Bl∧OG g.heap.size 33 32 (AcL) wz vo Ol∧(MI l Ol Al Bl)∧True) (fun ρ _=>BI (ρ 5)+BI (ρ 6)) ⟨b2,b6,A,B,[],ca,p,q,r,i,j,rfl,hE,f,b4,b8,a5,Ack b5 b9 ha17 ha22,trivial⟩ ?_;clear a5;clear hE;rintro ab a7 ⟨va,vb,Al,Bl,Ol,vo,p,q,r,i,j,o,hE,f,hfa,hfb,hfo,hMI,-⟩;have q5:=i;have q6:=j;have qa:=hfa.sliceLen;have qb:=hfb.sliceLen;have hla:=hMI.perm.length_eq;simp only[AcQ]at hla;by_cases hga:0<Al.length
 ·by_cases hgb:0<Bl.length
  ·refine gS (ZI NB (ZC (hfa.keep f) i) (gS (Zv (a:=(Al.length:Nat)) (b:=(0:Nat)) rfl rfl (Bh _ _ _ _) (kT (hga) (gS (ZI NB (ZC (hfb.keep f) j) (gS (Zv (a:=(Bl.length:Nat)) (b:=(0:Nat)) rfl rfl (Bh _ _ _ _) (kT (hgb) (gS (ZE rfl rfl (cT rfl (CD [0,1,2,3,4,5,6,7,8] [7] [] fun c5 am=> ?_)))))))))))));have f:=f.trans am;have a8:(AcL (Al.getD (0) ([]:List UInt8))).length=32:=(RG.elem (hfa.keep f) ([]:List UInt8) (by omega));refine yA (ZO NB Sj (by decide) ([]:List UInt8) (ZC (hfa.keep f) i) rfl (by omega) fun c6 ac=>(ys (ZS (ZT ac rfl) Wq rfl (by rw[a8];exact R4) zz) ?_));have a9:(AcL (Bl.getD (0) ([]:List UInt8))).length=32:=(RG.elem (hfb.keep f) ([]:List UInt8) (by omega));refine yA (ZO NB Sj (by decide) ([]:List UInt8) (ZC (hfb.keep f) j) rfl (by omega) fun c7 ad=>(ys (ZS (ZT ad rfl) Wq rfl (by rw[a9];exact R4) zz) (yC (Aav Sl (caps:= #[]) q #[AB (Al.getD (0) ([]:List UInt8)),AB (Bl.getD (0) ([]:List UInt8))] (by simp only[Ads,Ado,AdA,AeP,AdP,AdS];exact congrArg Aec (FA rfl rfl)) ((G3 _ (Al.getD (0) ([]:List UInt8)) (Bl.getD (0) ([]:List UInt8)) ((AD (a8))) ((AD (a9)))).mono ?_)))));rintro e c ⟨rfl,u⟩;refine⟨_,rfl,?_⟩;have ac:=PR.keep ac u;have ad:=PR.keep ad u;refine ys (Zv rfl rfl (YK _ .i64 (Adj (Al.getD (0) ([]:List UInt8)) (Bl.getD (0) ([]:List UInt8)):Int) ((0:Nat):Int)) zz) ?_;clear ac;clear ad;refine cD rfl (fun an=> ?_) fun an=> ?_
   ·refine gR ?_;have hZ1:=am.trans u;have hfo:=hfo.keep hZ1;have cb:∀k,AcT vo=some k→g.heap.size≤k:=fun k hk=>(hfo.2.lt k hk).1;have f:=f.trans u;have hsz_:g.heap.size≤c.heap.size:=f.size;refine Es (AcT vo) [5] [0] (fun m=>if m=5 then [0,2,4]else []) (fun m=>if m=5 then [0,2,4,5,8]else []) [fun x w' =>FM g.heap.size c.heap.size 33 32 (AcL) (AcT vo) (Ol) x w',Is (va),fun x w' =>PR (AcL (Al.getD (0) ([]:List UInt8))) x w',Is (AB (Al.getD (0) ([]:List UInt8))),fun x w' =>RG 32 (AcL) w' x ([(Al.getD (0) ([]:List UInt8))]),fun x w' =>FM g.heap.size c.heap.size 33 32 (AcL) (AcT vo) ((Ol)++ [(Al.getD (0) ([]:List UInt8))]) x w',Is (va),fun x _=>RG 32 (AcL) g x (Al.drop (1)),fun x w' =>FM g.heap.size c.heap.size 33 32 (AcL) (AcT vo) ((Ol)++ [(Al.getD (0) ([]:List UInt8))]) x w',fun x _=>RG 32 (AcL) g x (Al.drop (1))] (by kernel_rfl) [47,48,49,50,51,52,53,54,7,5] (by kernel_rfl) (by kernel_rfl) (by kernel_rfl) (by kernel_rfl) (by kernel_rfl) rfl ⟨(fun _ _ _ h k=>⟨OG.keep h.1 k,h.2⟩),ZD _,(fun _ _ _ h k=>PR.keep h k),ZD _,(fun _ _ _ h k=>RG.keep h k),(fun _ _ _ h k=>⟨OG.keep h.1 k,h.2⟩),ZD _,(fun _ _ _ h _=>h),(fun _ _ _ h k=>⟨OG.keep h.1 k,h.2⟩),(fun _ _ _ h _=>h),trivial⟩ ⟨⟨.inl rfl, .inr (ZD _), .inl rfl, .inr (ZD _), .inl rfl, .inl rfl, .inr (ZD _), .inr ((fun _ _ _ h _=>h)), .inl rfl, .inr ((fun _ _ _ h _=>h)),trivial⟩,trivial⟩ ?cc ?hQ2007
    case cc=>
     refine⟨?_,?_,?_,?_,?_,?_,?_,?_,?_,?_,trivial⟩
     ·refine Ah rfl fun σ w1 hC h=> ?_;have hX:Ext c w1:=hC;have hC:BX c.heap.size (AcT vo) c w1:=Z5 hX (AcP _);have e7:=(Az (h 7 (by decide))).trans o;exact Yk.move e7 ⟨Ext.refl _,OG.keep hfo hX,fun k hk=> .inl hk⟩
     ·refine Ah rfl fun σ w1 hC h=> ?_;have hC:BX c.heap.size (AcT vo) c w1:=hC;have e5:=(Az (h 5 (by decide))).trans i;exact Yk.move e5 ⟨Ext.refl _,rfl⟩
     ·refine Ah rfl fun σ w1 hC h=> ?_;have hC:BX c.heap.size (AcT vo) c w1:=hC;have cd:=Az (h 48 (by decide));exact ZO NB Sj (by decide) ([]:List UInt8) (ZC (hfa.keep (DH f hC (by omega) (fun k hk=>by have:=cb k hk;omega))) cd) (vr (NI 0) rfl) (by omega) fun v h=>⟨Ext.refl _,h⟩
     ·refine Ah rfl fun σ w1 hC h=> ?_;have hC:BX c.heap.size (AcT vo) c w1:=hC;have ce:(fun x w' =>PR (AcL (Al.getD (0) ([]:List UInt8))) x w') (σ 49) w1:=h 49 (by decide);exact ZS ce Wq rfl (by rw[RG.elem hfa ([]:List UInt8) (by omega)];exact R4) ⟨Ext.refl _,rfl⟩
     ·refine Ah rfl fun σ w1 hC h=> ?_;have hC:BX c.heap.size (AcT vo) c w1:=hC;have cf:=Az (h 50 (by decide));exact Z2 (a:=(Al.getD (0) ([]:List UInt8))) (enc:=AcL) cf (by rw[AcZ];exact(AD (RG.elem hfa ([]:List UInt8) (by omega)))) ND fun v w2 h hx=>⟨hx,h⟩
     ·refine Ah rfl fun σ w1 hC h=> ?_;have hC:BX c.heap.size (AcT vo) c w1:=hC;have aq:(fun x w' =>FM g.heap.size c.heap.size 33 32 (AcL) (AcT vo) (Ol) x w') (σ 47) w1:=h 47 (by decide);have cg:(fun x w' =>RG 32 (AcL) w' x ([(Al.getD (0) ([]:List UInt8))])) (σ 51) w1:=h 51 (by decide);exact ZM _ _ g.heap.size _ 32 NB pk6_ig33.choose_spec.1 pk6_ig33.choose_spec.2 NB (Ol) ([(Al.getD (0) ([]:List UInt8))]) aq.1 cg (fun _ _=>Af _) (by simp only[Adh,Adp];omega) (by simp only[Adh,Adp];omega) (AcN hsz_ hC.size) fun v w2 ho hg=>⟨Z6 hg.by_ hC.size aq.2,ho,fun k hk=>(hg.fresh k hk).elim (aq.2 k) (fun x=> .inr (AcN hC.size x))⟩
     ·refine Ah rfl fun σ w1 hC h=> ?_;have hC:BX c.heap.size (AcT vo) c w1:=hC;have e5:=(Az (h 5 (by decide))).trans i;exact Yk.move e5 ⟨Ext.refl _,rfl⟩
     ·refine Ah rfl fun σ w1 hC h=> ?_;have hC:BX c.heap.size (AcT vo) c w1:=hC;have ch:=Az (h 53 (by decide));exact AaJ NB Sj ch hfa (vr (NI 1) rfl) (by omega) fun v h _=>⟨Ext.refl _,h⟩
     ·refine Ah rfl fun σ w1 hC h=> ?_;have hC:BX c.heap.size (AcT vo) c w1:=hC;have ci:(fun x w' =>FM g.heap.size c.heap.size 33 32 (AcL) (AcT vo) ((Ol)++ [(Al.getD (0) ([]:List UInt8))]) x w') (σ 52) w1:=h 52 (by decide);exact Yk.assign rfl ⟨Ext.refl _,ci⟩
     ·refine Ah rfl fun σ w1 hC h=> ?_;have hC:BX c.heap.size (AcT vo) c w1:=hC;have cj:(fun x _=>RG 32 (AcL) g x (Al.drop (1))) (σ 54) w1:=h 54 (by decide);exact Yk.assign rfl ⟨Ext.refl _,cj⟩
    intro y ar ck he hf;obtain⟨-,-,-,-,-,-,-,-,k7,k5,-⟩:=hf;obtain⟨p,q,r,j,cl,-⟩:=he.hold [(0,_),(1,_),(4,_),(6,_),(37, .bool (true))] ⟨p,q,r,j,rfl,trivial⟩ rfl;clear he;have k7:(fun x w' =>FM g.heap.size c.heap.size 33 32 (AcL) (AcT vo) ((Ol)++ [(Al.getD (0) ([]:List UInt8))]) x w') (y 7) ar:=k7;obtain⟨ba,o⟩:∃v,y 7=v:=⟨_,rfl⟩;rw[o]at k7;have bb:Grew c ar vo ba:=⟨ck.grown,k7.2⟩;have cm:=k7.1;clear k7;have hE:=hE.trans hZ1;have hE:=Aq hE bb hfo.2 t;have f:=Aq f bb hfo.2 (AcP _);clear hfo;have k5:(fun x _=>RG 32 (AcL) g x (Al.drop (1))) (y 5) ar:=k5;obtain⟨cn,i⟩:∃v,y 5=v:=⟨_,rfl⟩;rw[i]at k5;have bc:=k5;clear k5;refine gX (gK (Adr ⟨cn,vb,Al.drop (1),Bl,(Ol)++ [(Al.getD (0) ([]:List UInt8))],ba,p,q,r,i,j,o,hE,f,bc,hfb,cm,hMI.left (by omega) (by omega) an,trivial⟩ ?_));show BI (y 5)+BI (y 6)<BI (ab 5)+BI (ab 6);rw[i,j,q5,q6];have n5:=bc.sliceLen;have n6:=hfb.sliceLen
    try rw[n5]
    try rw[n6]
    try rw[qa]
    try rw[qb]
    simp only[Ac5];omega
   refine gR ?_;have hZ2:=am.trans u;have hfo:=hfo.keep hZ2;have co:∀k,AcT vo=some k→g.heap.size≤k:=fun k hk=>(hfo.2.lt k hk).1;have f:=f.trans u;have hsz_:g.heap.size≤c.heap.size:=f.size;refine Es (AcT vo) [5] [0] (fun m=>if m=5 then [0,2,4]else []) (fun m=>if m=5 then [0,2,4,5,8]else []) [fun x w' =>FM g.heap.size c.heap.size 33 32 (AcL) (AcT vo) (Ol) x w',Is (vb),fun x w' =>PR (AcL (Bl.getD (0) ([]:List UInt8))) x w',Is (AB (Bl.getD (0) ([]:List UInt8))),fun x w' =>RG 32 (AcL) w' x ([(Bl.getD (0) ([]:List UInt8))]),fun x w' =>FM g.heap.size c.heap.size 33 32 (AcL) (AcT vo) ((Ol)++ [(Bl.getD (0) ([]:List UInt8))]) x w',Is (vb),fun x _=>RG 32 (AcL) g x (Bl.drop (1)),fun x w' =>FM g.heap.size c.heap.size 33 32 (AcL) (AcT vo) ((Ol)++ [(Bl.getD (0) ([]:List UInt8))]) x w',fun x _=>RG 32 (AcL) g x (Bl.drop (1))] (by kernel_rfl) [55,56,57,58,59,60,61,62,7,6] (by kernel_rfl) (by kernel_rfl) (by kernel_rfl) (by kernel_rfl) (by kernel_rfl) rfl ⟨(fun _ _ _ h k=>⟨OG.keep h.1 k,h.2⟩),ZD _,(fun _ _ _ h k=>PR.keep h k),ZD _,(fun _ _ _ h k=>RG.keep h k),(fun _ _ _ h k=>⟨OG.keep h.1 k,h.2⟩),ZD _,(fun _ _ _ h _=>h),(fun _ _ _ h k=>⟨OG.keep h.1 k,h.2⟩),(fun _ _ _ h _=>h),trivial⟩ ⟨⟨.inl rfl, .inr (ZD _), .inl rfl, .inr (ZD _), .inl rfl, .inl rfl, .inr (ZD _), .inr ((fun _ _ _ h _=>h)), .inl rfl, .inr ((fun _ _ _ h _=>h)),trivial⟩,trivial⟩ ?cp ?hQ3008
   case cp=>
    refine⟨?_,?_,?_,?_,?_,?_,?_,?_,?_,?_,trivial⟩
    ·refine Ah rfl fun σ w1 hC h=> ?_;have hX:Ext c w1:=hC;have hC:BX c.heap.size (AcT vo) c w1:=Z5 hX (AcP _);have e7:=(Az (h 7 (by decide))).trans o;exact Yk.move e7 ⟨Ext.refl _,OG.keep hfo hX,fun k hk=> .inl hk⟩
    ·refine Ah rfl fun σ w1 hC h=> ?_;have hC:BX c.heap.size (AcT vo) c w1:=hC;have e6:=(Az (h 6 (by decide))).trans j;exact Yk.move e6 ⟨Ext.refl _,rfl⟩
    ·refine Ah rfl fun σ w1 hC h=> ?_;have hC:BX c.heap.size (AcT vo) c w1:=hC;have cq:=Az (h 56 (by decide));exact ZO NB Sj (by decide) ([]:List UInt8) (ZC (hfb.keep (DH f hC (by omega) (fun k hk=>by have:=co k hk;omega))) cq) (vr (NI 0) rfl) (by omega) fun v h=>⟨Ext.refl _,h⟩
    ·refine Ah rfl fun σ w1 hC h=> ?_;have hC:BX c.heap.size (AcT vo) c w1:=hC;have cr:(fun x w' =>PR (AcL (Bl.getD (0) ([]:List UInt8))) x w') (σ 57) w1:=h 57 (by decide);exact ZS cr Wq rfl (by rw[RG.elem hfb ([]:List UInt8) (by omega)];exact R4) ⟨Ext.refl _,rfl⟩
    ·refine Ah rfl fun σ w1 hC h=> ?_;have hC:BX c.heap.size (AcT vo) c w1:=hC;have cs:=Az (h 58 (by decide));exact Z2 (a:=(Bl.getD (0) ([]:List UInt8))) (enc:=AcL) cs (by rw[AcZ];exact(AD (RG.elem hfb ([]:List UInt8) (by omega)))) ND fun v w2 h hx=>⟨hx,h⟩
    ·refine Ah rfl fun σ w1 hC h=> ?_;have hC:BX c.heap.size (AcT vo) c w1:=hC;have ax:(fun x w' =>FM g.heap.size c.heap.size 33 32 (AcL) (AcT vo) (Ol) x w') (σ 55) w1:=h 55 (by decide);have ct:(fun x w' =>RG 32 (AcL) w' x ([(Bl.getD (0) ([]:List UInt8))])) (σ 59) w1:=h 59 (by decide);exact ZM _ _ g.heap.size _ 32 NB pk6_ig33.choose_spec.1 pk6_ig33.choose_spec.2 NB (Ol) ([(Bl.getD (0) ([]:List UInt8))]) ax.1 ct (fun _ _=>Af _) (by simp only[Adh,Adp];omega) (by simp only[Adh,Adp];omega) (AcN hsz_ hC.size) fun v w2 ho hg=>⟨Z6 hg.by_ hC.size ax.2,ho,fun k hk=>(hg.fresh k hk).elim (ax.2 k) (fun x=> .inr (AcN hC.size x))⟩
    ·refine Ah rfl fun σ w1 hC h=> ?_;have hC:BX c.heap.size (AcT vo) c w1:=hC;have e6:=(Az (h 6 (by decide))).trans j;exact Yk.move e6 ⟨Ext.refl _,rfl⟩
    ·refine Ah rfl fun σ w1 hC h=> ?_;have hC:BX c.heap.size (AcT vo) c w1:=hC;have cu:=Az (h 61 (by decide));exact AaJ NB Sj cu hfb (vr (NI 1) rfl) (by omega) fun v h _=>⟨Ext.refl _,h⟩
    ·refine Ah rfl fun σ w1 hC h=> ?_;have hC:BX c.heap.size (AcT vo) c w1:=hC;have cv:(fun x w' =>FM g.heap.size c.heap.size 33 32 (AcL) (AcT vo) ((Ol)++ [(Bl.getD (0) ([]:List UInt8))]) x w') (σ 60) w1:=h 60 (by decide);exact Yk.assign rfl ⟨Ext.refl _,cv⟩
    ·refine Ah rfl fun σ w1 hC h=> ?_;have hC:BX c.heap.size (AcT vo) c w1:=hC;have cw:(fun x _=>RG 32 (AcL) g x (Bl.drop (1))) (σ 62) w1:=h 62 (by decide);exact Yk.assign rfl ⟨Ext.refl _,cw⟩
   intro z ay cx he hf;obtain⟨-,-,-,-,-,-,-,-,k7,k6,-⟩:=hf;obtain⟨p,q,r,i,cl,-⟩:=he.hold [(0,_),(1,_),(4,_),(5,_),(37, .bool (true))] ⟨p,q,r,i,rfl,trivial⟩ rfl;clear he;have k7:(fun x w' =>FM g.heap.size c.heap.size 33 32 (AcL) (AcT vo) ((Ol)++ [(Bl.getD (0) ([]:List UInt8))]) x w') (z 7) ay:=k7;obtain⟨bd,o⟩:∃v,z 7=v:=⟨_,rfl⟩;rw[o]at k7;have be:Grew c ay vo bd:=⟨cx.grown,k7.2⟩;have cy:=k7.1;clear k7;have hE:=hE.trans hZ2;have hE:=Aq hE be hfo.2 t;have f:=Aq f be hfo.2 (AcP _);clear hfo;have k6:(fun x _=>RG 32 (AcL) g x (Bl.drop (1))) (z 6) ay:=k6;obtain⟨cz,j⟩:∃v,z 6=v:=⟨_,rfl⟩;rw[j]at k6;have bf:=k6;clear k6;refine gX (gK (Adr ⟨va,cz,Al,Bl.drop (1),(Ol)++ [(Bl.getD (0) ([]:List UInt8))],bd,p,q,r,i,j,o,hE,f,hfa,bf,cy,hMI.right (by omega) (by omega) an,trivial⟩ ?_));show BI (z 5)+BI (z 6)<BI (ab 5)+BI (ab 6);rw[i,j,q5,q6];have n5:=hfa.sliceLen;have n6:=bf.sliceLen
   try rw[n5]
   try rw[n6]
   try rw[qa]
   try rw[qb]
   simp only[Ac5];omega
  refine gS (ZI NB (ZC (hfa.keep f) i) (gS (Zv (a:=(Al.length:Nat)) (b:=(0:Nat)) rfl rfl (Bh _ _ _ _) (kT (hga) (gS (ZI NB (ZC (hfb.keep f) j) (gS (Zv (a:=(Bl.length:Nat)) (b:=(0:Nat)) rfl rfl (Bh _ _ _ _) (kF (hgb) (gS (ZE rfl rfl (cF rfl (gS (ZM _ _ g.heap.size _ 32 NB pk6_ig33.choose_spec.1 pk6_ig33.choose_spec.2 NB (Ol) (Al) (OG.of hfo o) (ZC (hfa.keep f) i) (fun _ _=>Af _) (by omega) (by omega) f.size fun az bg ae af=> ?_))))))))))))));have af:Grew a7 bg vo az:= .eqv o af;have hE:=Aq hE af hfo.2 t;have f:=Aq f af hfo.2 (AcP _);clear hfo;refine gS (ZM _ _ g.heap.size _ 32 NB pk6_ig33.choose_spec.1 pk6_ig33.choose_spec.2 NB ((Ol)++Al) (Bl) (OG.of ae (vr az rfl)) (ZC (hfb.keep f) j) (fun _ _=>Af _) (by simp only[AcQ];omega) (by simp only[AcQ];omega) f.size fun bh c0 c1 ag=> ?_);have ag:Grew bg c0 az bh:=ag;have hE:=Aq hE ag ae.2 t;have f:=Aq f ag ae.2 (AcP _);clear ae;refine Bb rfl (vr bh rfl) ?_;obtain⟨hpm,hasc⟩:=hMI.done (by omega);exact⟨_,_,rfl,OG.base c1 (by omega),hpm,hasc,hE⟩
 refine gS (ZI NB (ZC (hfa.keep f) i) (gS (Zv (a:=(Al.length:Nat)) (b:=(0:Nat)) rfl rfl (Bh _ _ _ _) (kF (hga) (gS (ZH rfl rfl (cF rfl (gS (ZM _ _ g.heap.size _ 32 NB pk6_ig33.choose_spec.1 pk6_ig33.choose_spec.2 NB (Ol) (Al) (OG.of hfo o) (ZC (hfa.keep f) i) (fun _ _=>Af _) (by omega) (by omega) f.size fun a0 bi ah ai=> ?_)))))))));have ai:Grew a7 bi vo a0:= .eqv o ai;have hE:=Aq hE ai hfo.2 t;have f:=Aq f ai hfo.2 (AcP _);clear hfo;refine gS (ZM _ _ g.heap.size _ 32 NB pk6_ig33.choose_spec.1 pk6_ig33.choose_spec.2 NB ((Ol)++Al) (Bl) (OG.of ah (vr a0 rfl)) (ZC (hfb.keep f) j) (fun _ _=>Af _) (by simp only[AcQ];omega) (by simp only[AcQ];omega) f.size fun bj c2 c3 aj=> ?_);have aj:Grew bi c2 a0 bj:=aj;have hE:=Aq hE aj ah.2 t;have f:=Aq f aj ah.2 (AcP _);clear ah;refine Bb rfl (vr bj rfl) ?_;obtain⟨hpm,hasc⟩:=hMI.done (by omega);exact⟨_,_,rfl,OG.base c3 (by omega),hpm,hasc,hE⟩

theorem Sm:∀(n:Nat) (l:List Bs),l.length=n→l.length≤1048576→∀(w:AcK) (v:AcJ),RG 32 AcL w v l→Calls AcM 99 #[v, .func (.func 100) #[] #[]] w fun e w' =>∃v' m,e = .returned v' ∧OG w.heap.size 33 32 AcL w' v' m∧m.Perm l∧C8 m∧Ext w w' :=by
 intro n
 induction n using Ae0 with
 | _ n ih=>exact fun l hn hlim w v hr=>Qz n (fun l' hl w v hr=>ih l'.length hl l' rfl (by omega) w v hr) l hn hlim w v hr

theorem NE(w:AcK)(v:AcJ)(l:List Bs)(hlim:l.length≤1048576)(hr:RG 32 AcL w v l):
  Calls AcM 55 #[v] w fun e w' =>∃v',e = .returned v' ∧OG w.heap.size 33 32 AcL w' v' (AO l)∧Ext w w' :=by
 refine gG (args:= [v]) Tryz.func55 rfl 5 rfl rfl ?_;have hE:=Ext.refl w;refine gS (Zx J5 rfl rfl ((Sm _ l rfl hlim _ v hr).mono ?_));rintro e g ⟨a,m4,rfl,b,c,ha7,f⟩;refine⟨_,rfl,?_⟩;have hms:=R8 ha7 c;subst hms;refine Bb rfl (vr a rfl) ?_;have hE:=hE.trans f;exact⟨_,rfl,b,hE⟩
theorem QA(w:AcK)(va vb:AcJ)(a b:List UInt8)(hra:RB w va a)(hrb:RB w vb b)(hal:a.length≤4611686018427387904):
  Calls AcM 183 #[va,vb] w fun e w' =>e = .returned (NI (CR a b))∧Ext w w' :=by
 refine gG (args:= [va,vb]) Tryz.func183 rfl 30 rfl rfl ?_;have hE:=Ext.refl w;refine gL (fun(ρ:Ad) (wz:AcK)=>∃i:Nat,ρ 0=(va:AcJ)∧ρ 1=(vb:AcJ)∧ρ 4=(NI 0:AcJ)∧ρ 5=(NI i:AcJ)∧Ext w wz∧(i≤a.length)∧(i≤b.length)∧(CR a b=i+CR (a.drop i) (b.drop i))∧True) (fun ρ _=>a.length-(intOf (ρ 5)).toNat) ⟨0,rfl,rfl,rfl,rfl,hE,Adm _,Adm _,by simp,trivial⟩ ?_;clear hE;rintro p v ⟨i,f,g,q,c,hE,hia,hib,hlc,-⟩;have q5:=c;by_cases h1:i<a.length
 ·by_cases h2:i<b.length
  ·by_cases h3:a.getD i 0=b.getD i 0
   ·refine CD [0,1,2,3,4,5,6,7,8,9,10,11,12,13,14,15,16,17,18,19,20] [] [] fun x r=> ?_;have hE:=hE.trans r;refine ys (ZF Gj (ZB (hra.keep hE) f) zz) (ys (Zv (a:=(i:Nat)) (b:=(a.length:Nat)) c rfl (AI _ _ _ _) zz) (kT (h1) (ys (ZF Gj (ZB (hrb.keep hE) g) zz) (ys (Zv (a:=(i:Nat)) (b:=(b.length:Nat)) c rfl (AI _ _ _ _) zz) (kT (h2) (ys (ZE rfl rfl zz) (yA (ZU (l:=a) (i:=i) Gj Qq (ZB (hra.keep hE) f) c (h1) fun y k=>(ys (ZL u5 rfl (ZQ k rfl) zz) (yA (ZU (l:=b) (i:=i) Gj Qq (ZB (hrb.keep hE) g) c (h2) fun z m=>(ys (ZL u5 rfl (ZQ m rfl) zz) (ys (Zv (a:=((a.getD (i) 0).toNat:Nat)) (b:=((b.getD (i) 0).toNat:Nat)) rfl rfl (AF _ _ _ _) zz) (kT (congrArg UInt8.toNat h3) (ys (ZE rfl rfl zz) ?_)))))))))))))));clear k;clear m;refine cT rfl (gS (Zw (xv:=NI i) (yv:=NI 1) c rfl rfl (Ag _ _ _ (by omega)) (gK (Adr ⟨i+1,f,g,q,rfl,hE,by omega,by omega,by rw[hlc,Ul h1 h2 h3];omega,trivial⟩ ?_))));show a.length-(intOf (NI ((i)+(1)))).toNat<a.length-(intOf (p 5)).toNat;rw[q5];simp only[intOf,Ac0];omega
   have j:=X6 h1 h2 h3;refine CD [0,1,2,3,4,5,6,7,8,9,10,11,12,13,14,15,16,17,18,19,20] [] [] fun aa s=> ?_;have hE:=hE.trans s;refine ys (ZF Gj (ZB (hra.keep hE) f) zz) (ys (Zv (a:=(i:Nat)) (b:=(a.length:Nat)) c rfl (AI _ _ _ _) zz) (kT (h1) (ys (ZF Gj (ZB (hrb.keep hE) g) zz) (ys (Zv (a:=(i:Nat)) (b:=(b.length:Nat)) c rfl (AI _ _ _ _) zz) (kT (h2) (ys (ZE rfl rfl zz) (yA (ZU (l:=a) (i:=i) Gj Qq (ZB (hra.keep hE) f) c (h1) fun ab n=>(ys (ZL u5 rfl (ZQ n rfl) zz) (yA (ZU (l:=b) (i:=i) Gj Qq (ZB (hrb.keep hE) g) c (h2) fun ac o=>(ys (ZL u5 rfl (ZQ o rfl) zz) (ys (Zv (a:=((a.getD (i) 0).toNat:Nat)) (b:=((b.getD (i) 0).toNat:Nat)) rfl rfl (AF _ _ _ _) zz) (kF (fun h=>h3 (Agr.1 h)) (ys (ZE rfl rfl zz) ?_)))))))))))))));clear n;clear o;refine cF rfl (Bb rfl c ?_);rw[hlc,j];exact⟨rfl,hE⟩
  have j:=Un (a:=a) (i:=i) (b:=b) (by omega);refine CD [0,1,2,3,4,5,6,7,8,9,10,11,12,13,14,15,16,17,18,19,20] [] [] fun ad t=> ?_;have hE:=hE.trans t;refine ys (ZF Gj (ZB (hra.keep hE) f) zz) (ys (Zv (a:=(i:Nat)) (b:=(a.length:Nat)) c rfl (AI _ _ _ _) zz) (kT (h1) (ys (ZF Gj (ZB (hrb.keep hE) g) zz) (ys (Zv (a:=(i:Nat)) (b:=(b.length:Nat)) c rfl (AI _ _ _ _) zz) (kF (by omega) (ys (ZE rfl rfl zz) (ys (ZH rfl rfl zz) (cF rfl (Bb rfl c ?_)))))))));rw[hlc,j];exact⟨rfl,hE⟩
 have j:=Um (a:=a) (i:=i) (b:=b) (by omega);refine CD [0,1,2,3,4,5,6,7,8,9,10,11,12,13,14,15,16,17,18,19,20] [] [] fun ae u=> ?_;have hE:=hE.trans u;refine ys (ZF Gj (ZB (hra.keep hE) f) zz) (ys (Zv (a:=(i:Nat)) (b:=(a.length:Nat)) c rfl (AI _ _ _ _) zz) (kF (by omega) (ys (ZH rfl rfl zz) (ys (ZH rfl rfl zz) (cF rfl (Bb rfl c ?_))))));rw[hlc,j];exact⟨rfl,hE⟩
open Go.WideMaps (KeyLaw)
structure IX (w0 w : AcK) (b base : Nat) (I : AcR) (G : List UInt8 → List Nat) : Prop where
  ext:Ext w0 w
  lo:w0.heap.size≤b
  hb:base≤w.heap.size
  idx:IdxAt w b base I G
structure IXO (w0 w : AcK) (b base : Nat) (I : AcR) (G : List UInt8 → List Nat) (r : List UInt8) (v : AcJ) (zs : List Nat) (st : Nat) : Prop where
  ext:Ext w0 w
  lo:w0.heap.size≤b
  hb:base≤w.heap.size
  opn:IdxOpen w b base I G r v zs st
section
variable {P : Adg} {K : AcJ → AcK → Prop} {ρ : Ad} {w w' : AcK} {d : Option Tmp} {ty : AcR} {pos : String} {af : Array AdL} {gd : Option (Nat × Bool)}
variable {w0 : AcK} {b base : Nat} {I : AcR} {G : List UInt8 → List Nat} {r : List UInt8} {v : AcJ} {zs : List Nat} {st : Nat}
theorem IX.keep(h:IX w0 w b base I G)(k:Ext w w'):IX w0 w' b base I G:=⟨h.ext.trans k,h.lo,AcN h.hb k.size,h.idx.keep k⟩
theorem Yk.makeMap{t:AcR}(hk:∀b w',w.heap.size=b→IX w w' b (b+1) I (fun _=> [])→K (.map (some b)) w'):Yk P K ((execOp (Aa ρ) ⟨d, .makeMap t none,ty,pos,af,gd⟩).run P w):=by
  refine Yk.value (v:= .map (some w.heap.size)) (w' :=w.alloc (.map #[] 0)) ?_ (hk _ _ rfl ⟨(AdC _ _).alloc (AcP _) _,AcP _,by simp,AbM w⟩);unfold execOp;simp only[AeG,Ac1,run_makeMap,AcV,Ac3]
theorem Yk.entry{t Kt E:AcR}(L:KeyLaw P Kt)(hkr:∀r:List UInt8,r.length=8→∃l,keyOf P Kt (rk r)=some l)(ht:P.underlying t=some (.map Kt E))(hz:∀u:AcK,(zeroValue E).run P u = .ok (.slice none 0 0) u){x y:AcW} 
    (hm:Aa ρ x = .map (some b)) (hy:Aa ρ y=rk r) (h:IX w0 w b base I G) (hr:r.length=8) (hk:∀v st w1,IXO w0 w1 b base I G r v (G r) st→w.grownBy w1 (some b)→K (.tuple #[v,NI st]) w1):
    Yk P K ((execOp (Aa ρ) ⟨d, .mapEntry t x y,ty,pos,af,gd⟩).run P w):=by
  obtain⟨v,st,w1,hrun,hg,hs,ho⟩:=h.idx.entry L hkr ht hz hr;refine Yk.value (v:= .tuple #[v,NI st]) (w' :=w1) ?_ (hk v st w1 ⟨Ago h.ext hg h.ext.size (fun k hk=>by cases hk;exact h.lo),h.lo,by rw[hs];exact h.hb,ho⟩ hg);unfold execOp;simp only[hm,hy,Ac1,hrun,AcV,Ac3];rfl
theorem Yk.entryStore{t:AcR}{x s y:AcW}(hm:Aa ρ x = .map (some b))(hs:Aa ρ s=NI st)(hy:Aa ρ y=v)(h:IXO w0 w b base I G r v zs st)(hne:zs≠ [])(hk:∀w1,IX w0 w1 b base I (updG G r zs)→K undef w1):
    Yk P K ((execOp (Aa ρ) ⟨d, .entryStore t x s y,ty,pos,af,gd⟩).run P w):=by
  obtain⟨w1,hrun,hg,hsz,ho⟩:=h.opn.store (P:=P) (t:=t) hne;have hrun' :(AhT t (.map (some b)) (NI st) v).run P w = .ok () w1:=hrun;have hK:=hk w1 ⟨Ago h.ext hg h.ext.size (fun k hk=>by cases hk;exact h.lo),h.lo,by rw[hsz];exact h.hb,ho⟩;unfold execOp;simp only[hm,hs,hy,Ac1,hrun',AcV,Ac3];exact hK
theorem IXO.own(h:IXO w0 w b base I G r v zs st):w.ownsRow base I 1 v zs.length (zs.map NI):=h.opn.2.2.1
theorem IXO.grew{v' :AcJ}{zs' :List Nat}(h:IXO w0 w b base I G r v zs st)(gr:Grew w w' v v')(ho:w'.ownsRow base I 1 v' zs'.length (zs'.map NI)):IXO w0 w' b base I G r v' zs' st:=
  ⟨Ago h.ext gr.by_ h.ext.size (fun k hk=>AcN h.lo (AcN (AiT h.opn.1) (h.own.lt k hk).1)),h.lo,AcN h.hb gr.by_.size,h.opn.grew gr ho⟩
theorem Abp{t e:AcR}{n:Nat}(ht:P.underlying t=some (.array n e)){x:AcW}{l:List UInt8}(h:RB w (Aa ρ x) l)(hl:l.length=n)(hn:0<n)(hk:∀g o,w.rangeAt g o (AcL l)→K (.pointer (some ⟨g,o,none⟩)) w):
    Yk P K ((execOp (Aa ρ) ⟨d, .sliceToArrayPointer t x,ty,pos,af,gd⟩).run P w):=by
  obtain⟨g,o,cap,hv,h1,h2,h3,h4⟩:=h.open_ (by omega);refine Yk.value (v:= .pointer (some ⟨g,o,none⟩)) (w' :=w) ?_ (hk g o fun j v hj=> ?_)
  · unfold execOp;simp only[hv,Instr.arrayAt,Ac1,run_underlying ht,AcV];rw[if_neg (by omega)];rfl
  · have hj' :j<l.length:=by simpa [AcL] using (Adc.1 hj).1
    rw[h4 j hj',←hj];simp[AcL,hj',AgX]
theorem Yk.look{t Kt E:AcR}(L:KeyLaw P Kt)(hkr:∀r:List UInt8,r.length=8→∃l,keyOf P Kt (rk r)=some l)(ht:P.underlying t=some (.map Kt E))(hz:∀u:AcK,(zeroValue E).run P u = .ok (.slice none 0 0) u){x y:AcW} 
    (hm:Aa ρ x = .map (some b)) (hy:Aa ρ y=rk r) (h:IdxAt w b base I G) (hr:r.length=8) (hk:∀v,w.ownsRow base I 1 v (G r).length ((G r).map NI)→K v w):
    Yk P K ((execOp (Aa ρ) ⟨d, .lookup t x y false,ty,pos,af,gd⟩).run P w):=by
  obtain⟨v,hrun,ho⟩:=h.look L hkr ht hz hr;refine Yk.value (v:=v) (w' :=w) ?_ (hk v ho);unfold execOp;simp only[hm,hy,Ac1,hrun,AcV,Ac3]
end
def posOf(l:List UInt8)(k:Nat)(r:List UInt8):List Nat:=(AdN k).filter fun j=>(l.drop j).take 8==r
theorem Sn(l:List UInt8)(k:Nat):updG (posOf l k) ((l.drop k).take 8) (posOf l k ((l.drop k).take 8)++ [k])=posOf l (k+1):=by
  funext s
  unfold updG posOf;rw[List.range_succ,AfX];by_cases h:s=(l.drop k).take 8
  · subst h;rw[if_pos rfl];simp
  · rw[if_neg h];have:((l.drop k).take 8==s)=false:=by simpa using fun e=>h e.symm
    simp[this]
theorem QB(l:List UInt8):posOf l 0=fun _=> []:=by
  funext s
  rfl
theorem posOf_length(l:List UInt8)(k:Nat)(r:List UInt8):(posOf l k r).length≤k:=by
  have:=AeE (fun j=>(l.drop j).take 8==r) (AdN k);rw[List.length_range]at this;exact this
theorem So:KeyLaw AcM 273:=deep_law_laid (by kernel_rfl) (m:=3) (by decide) (of_decide_eq_true (by kernel_rfl)) (by kernel_rfl) (by kernel_rfl)
theorem Sp:∀r:List UInt8,r.length=8→∃l,keyOf AcM 273 (rk r)=some l:=fun _ h=>
  L7 (n:=8) (e:=5) Tryz.underlying273 Agi (by kernel_rfl) (by kernel_rfl) (by kernel_rfl) (of_decide_eq_true (by kernel_rfl)) h
theorem NF:∀u:AcK,(zeroValue 22).run AcM u = .ok (.slice none 0 0) u:=fun _=>by kernel_rfl
theorem YO:(Tryz.prog.info? 3).map (fun i=>(i.zero,i.size,i.bytes))=some (some (.int .i64 0),1,8):=by kernel_rfl
theorem G4:(Tryz.prog.info? 273).map (·.size)=some 8:=by kernel_rfl
theorem HJ:Tryz.prog.underlying 273=some (.array 8 5):=by kernel_rfl
theorem QC{d:Option Tmp}{ty:AcR}{pos:String}{af:Array AdL}{gd:Option (Nat × Bool)}(σ:AcW→AcJ)(w:AcK):(execOp σ ⟨d, .alloc 273,ty,pos,af,gd⟩).run AcM w = .ok (.value (PQ w.heap.size 0)) (w.alloc (.cells (AcL (AcX 8 0)).toArray 273)):=by kernel_rfl
theorem QD(z:Int)(w:AcK):(Adt 22 1 #[(0, .int .i64 z)]).run AcM w = .ok (.slice (some ⟨w.heap.size,0,none⟩) 1 1) (w.alloc (.cells #[.int .i64 z] 3)):=by kernel_rfl
theorem Acy{P:Adg}{K:AcJ→AcK→Prop}{ρ:Ad}{w:AcK}{d:Option Tmp}{ty:AcR}{pos:String}{af:Array AdL}{gd:Option (Nat × Bool)}{t e:AcR}{x:AcW}{z:Nat}(hx:Aa ρ x=NI z)(hr:∀w:AcK,(Adt t 1 #[(0, .int .i64 z)]).run P w = .ok (.slice (some ⟨w.heap.size,0,none⟩) 1 1) (w.alloc (.cells #[.int .i64 z] e)))(hk:∀b w',w.heap.size=b→w'.heap[b]? =some (.cells #[.int .i64 z] e (0,0))→Ext w w' →w'.heap.size=b+1→K (.slice (some ⟨b,0,none⟩) 1 1) w'):Yk P K ((execOp (Aa ρ) ⟨d, .buildSlice t 1 #[(0,x)],ty,pos,af,gd⟩).run P w):=Acu (cs:= #[.int .i64 z]) (fun w=>(by simp only[Ads,Ado,AdA,hx]:_=_).trans (hr w)) hk
theorem QE:Tryz.prog.underlying 270=some (.map 273 22):=by kernel_rfl
theorem L9:Tryz.prog.underlying 22=some (.slice 3):=by kernel_rfl
theorem Sq(w:AcK)(v:AcJ)(l:List UInt8)(hr:RB w v l)(hl:l.length≤1048576):
  Calls AcM 181 #[v] w fun e w' =>∃b base,e = .returned (.map (some b))∧IX w w' b base 3 (posOf l (l.length-7)):=by
 refine gG (args:= [v]) Tryz.func181 rfl 30 rfl rfl ?_;have hE:=Ext.refl w;refine gS (Yk.makeMap (I:=3) fun h w4 an hX6=> ?_);have hX6:=(QB l)▸hX6;have hE:=hX6.ext;refine gL (fun(ρ:Ad) (wz:AcK)=>∃i:Nat,ρ 0=(v:AcJ)∧ρ 2=((Value.map none):AcJ)∧ρ 3=(.map (some h):AcJ)∧ρ 4=(NI i:AcJ)∧Ext w wz∧IX w wz h (h+1) 3 (posOf l i)∧(i≤l.length-7)∧True) (fun ρ _=>l.length-(intOf (ρ 4)).toNat) ⟨0,rfl,rfl,rfl,rfl,hE,hX6,Adm _,trivial⟩ ?_;clear hX6;clear hE;rintro x y ⟨i,m,T2,k,g,hE,hXi,hil,-⟩;have q4:=g;refine gS (Zw (xv:=NI i) (yv:=NI 8) g rfl rfl (Ag _ _ _ (by omega)) (gS (ZF Gj (ZB (hr.keep hE) m) (gS (Zv (a:=((i)+(8):Nat)) (b:=(l.length:Nat)) rfl rfl (DD _ _ _ _) ?_)))));refine cD rfl (fun h8=> ?_) fun h8=> ?_
 ·have hrl:((l.drop i).take (i+8-i)).length=8:=by rw[Ac8,Ac5];omega
  have hrl8:((l.drop i).take 8).length=8:=by rw[Ac8,Ac5];omega
  refine gS (Zw (xv:=NI i) (yv:=NI 8) g rfl rfl (Ag _ _ _ (by omega)) (gS (Aas (xs:=l) (l:=i) (n:=(i)+(8)) Gj Qq m (hr.keep hE) g rfl (by omega) (by omega) fun ao ab ha17=>(gS (Abp HJ (ZB ab rfl) (l:=(l.drop (i)).take (((i)+(8))-(i))) (n:=8) (by rw[Ac8,Ac5];omega) (by decide) fun ap aq ac=>(gS (Z0 rfl ac HJ rfl (by rw[AcZ,hrl];exact G4) (gS (Yk.alloc QC fun o ad ar r ae au=> ?_)))))))));have c:=Ext.refl y;have av:=hE.size;have f:=r;clear r;have aw:o<ad.heap.size:=by omega
  refine gS (Zy (vr (PQ o 0) rfl) (vr (AB ((l.drop (i)).take (((i)+(8))-(i)))) rfl) f (by simp only[Ac6,AcZ,hrl];rfl) (by simp only[Ac6,AcZ,hrl];exact G4) (Af _) fun af s ag ax=> ?_);clear f;have f:=s;clear s;have ay:=bl f;have f:af.heap[o]? =some (.cells (AcL ((l.drop i).take 8)).toArray 273 (0,0)):=A1 f (by rw[show i+8-i=8 by omega]);refine gS (Zz rfl f HJ rfl (by simp only[Ac6,AcZ,hrl8];exact G4) (gS (Acy (z:=i) g (fun w=>QD _ w) fun p az a0 ah ai a1=> ?_)));have hb1i:=ah;have c:=c.trans ae;have c:=Ab c ag (AcN (AcP _) (by omega));have c:=c.trans ai;refine gS (Yk.entry So Sp QE NF k rfl (hXi.keep c) hrl8 fun q t a2 hX46 aj=> ?_);have hE:=hE.trans c;have hE:=hX46.ext;clear f;have hb1i:=(Eq.trans (aj.block p (bl hb1i) (by have h1:=hXi.idx.lt;simp;omega)) hb1i);refine gS (Yk.extract (vs:= [q,NI t]) rfl rfl (gS (Yk.append _ _ (h+1) 3 (.int .i64 0) 1 8 L9 YO rfl (posOf l i ((l.drop i).take 8)).length ((posOf l i ((l.drop i).take 8)).map NI) (C3 hX46.own (vr q rfl)) 1 [NI i] (show Src _ _ _ _ _ _ _ from by rw[(vr (.slice (some ⟨p,0,none⟩) 1 1) rfl)];exact(Ahl _ L9 ⟨p,0,none⟩ 1 1 [NI i] rfl (fun j u hu=>by rw[Aek,Ad4];exact cellAt (l:= [NI i]) hb1i hu) (fun u hu=>by rw[AcY.1 hu];rfl))) (by have:=posOf_length l i ((l.drop i).take 8);unfold maxLen;omega) (by have:=posOf_length l i ((l.drop i).take 8);omega) hX46.hb fun a3 a4 ak al=> ?_)));have hX52:=IXO.grew (zs' :=posOf l i ((l.drop i).take 8)++ [i]) hX46 al (by rw[AcQ,Aei];exact ak);have hE:=hX52.ext;clear hX46;refine gS (Yk.extract (vs:= [q,NI t]) rfl rfl (gS (Yk.entryStore k rfl rfl hX52 (by simp) fun a5 hX54=> ?_)));have hX54:=(Sn l i)▸hX54;have hE:=hX54.ext;clear hX52;refine gS (Zw (xv:=NI i) (yv:=NI 1) g rfl rfl (Ag _ _ _ (by omega)) (gK (Adr ⟨i+1,m,T2,k,rfl,hE,hX54,by omega,trivial⟩ ?_)));show l.length-(intOf (NI ((i)+(1)))).toNat<l.length-(intOf (x 4)).toNat;rw[q4];simp only[intOf,Ac0];omega
 have hik:i=l.length-7:=by omega
 refine Bb rfl k ?_;rw[hik]at hXi;exact⟨_,_,rfl,hXi⟩
structure MKD (w0 wI w : AcK) (lo g3 g5 g7 : Nat) (vt vc v : AcJ) (o : List UInt8) (fr : Nat) : Prop where
  ext:Ext w0 w
  b3:w.heap[g3]? =some (.cells #[vt] 27 (0,0))
  b5:w.heap[g5]? =some (.cells #[vc] 27 (0,0))
  b7:w.heap[g7]? =some (.cells #[NI fr] 3 (0,0))
  own:w.ownsRow w0.heap.size 5 1 v o.length (AcL o)
  fz:∀k,lo≤k→k<wI.heap.size→w.heap[k]? =wI.heap[k]?
  apz:∀k,v.ownBlock=some k→k<lo∨wI.heap.size≤k
  l3:w0.heap.size≤g3
  l5:w0.heap.size≤g5
  l7:w0.heap.size≤g7
  o3:g3<lo
  o5:g5<lo
  o35:g3≠g5
  o7:wI.heap.size≤g7
  oi:lo≤wI.heap.size
  os:wI.heap.size≤w.heap.size
theorem Fm{w:AcK}{b:Nat}{e t:AcR}{z n g:Nat}{v:AcJ}{xs:List AcJ}{cs:Array AcJ}{fr:Nat × Nat}(ho:w.ownsRow b e z v n xs)(hb:w.heap[g]? =some (.cells cs t fr))(hne:e≠t):v.ownBlock≠some g:=fun h=>by
  rcases ho.2 with ⟨rfl,_⟩ | ⟨g',cap,cur,rfl,_,hg,_⟩
  · cases h
  · have:g' =g:=by simpa [AcT] using h
    subst this;rw[hg]at hb;simp only[Aey,Obj.cells.injEq]at hb;exact hne hb.2.1
section
variable {w0 wI w w' : AcK} {lo g3 g5 g7 : Nat} {vt vc v : AcJ} {o : List UInt8} {fr : Nat}
theorem MKD.keep(h:MKD w0 wI w lo g3 g5 g7 vt vc v o fr)(k:Ext w w'):MKD w0 wI w' lo g3 g5 g7 vt vc v o fr:=
  ⟨h.ext.trans k,Ext.blk' k h.b3,Ext.blk' k h.b5,Ext.blk' k h.b7,Stab.own _ _ _ _ _ _ _ _ h.own k,fun i h1 h2=>(k.block i (AdE h2 h.os)).trans (h.fz i h1 h2),h.apz,h.l3,h.l5,h.l7,h.o3,h.o5,h.o35,h.o7,h.oi,AcN h.os k.size⟩
theorem MKD.grew{v' :AcJ}{o' :List UInt8}(h:MKD w0 wI w lo g3 g5 g7 vt vc v o fr)(gr:Grew w w' v v')(ho:w'.ownsRow w0.heap.size 5 1 v' o'.length (AcL o')):MKD w0 wI w' lo g3 g5 g7 vt vc v' o' fr:=
  ⟨Aq h.ext gr h.own (AcP _),Ao h.b3 gr (Fm h.own h.b3 (by decide)),Ao h.b5 gr (Fm h.own h.b5 (by decide)),Ao h.b7 gr (Fm h.own h.b7 (by decide)),ho,
    fun i h1 h2=>(gr.by_.block i (AdE h2 h.os) (fun e=>by rcases h.apz i e.symm with h3 | h3 <;> omega)).trans (h.fz i h1 h2),
    fun k hk=>(gr.fresh k hk).elim (h.apz k) (fun h3=> .inr (AcN h.os h3)),h.l3,h.l5,h.l7,h.o3,h.o5,h.o35,h.o7,h.oi,AcN h.os gr.by_.size⟩
theorem AaO(h:MKD w0 wI w lo g3 g5 g7 vt vc v o fr)(hb:w'.heap[g5]? =some (.cells #[v] 27 (0,0)))(hg:w.grownBy w' (some g5)):MKD w0 wI w' lo g3 g5 g7 vt v v o fr:=
  have lt:=fun {k:Nat} {x:Obj} (hx:w.heap[k]? =some x)=>(Ade.1 hx).1;have h57:g7≠g5:=by have:=h.o5;have:=h.o7;have:=h.oi;omega
  ⟨Ago h.ext hg h.ext.size (fun k hk=>by cases hk;exact h.l5),(hg.block g3 (lt h.b3) (by simp[h.o35])).trans h.b3,hb,(hg.block g7 (lt h.b7) (by simp[h57])).trans h.b7,
    BM h.own hg (Fm h.own h.b5 (by decide)),fun i h1 h2=>(hg.block i (AdE h2 h.os) (fun e=>by cases e;have:=h.o5;omega)).trans (h.fz i h1 h2),h.apz,h.l3,h.l5,h.l7,h.o3,h.o5,h.o35,h.o7,h.oi,AcN h.os hg.size⟩
theorem Abq{n:Nat}(h:MKD w0 wI w lo g3 g5 g7 vt vc v o fr)(hb:w'.heap[g7]? =some (.cells #[NI n] 3 (0,0)))(hg:w.grownBy w' (some g7)):MKD w0 wI w' lo g3 g5 g7 vt vc v o n:=
  have lt:=fun {k:Nat} {x:Obj} (hx:w.heap[k]? =some x)=>(Ade.1 hx).1;have h57:g5≠g7:=by have:=h.o5;have:=h.o7;have:=h.oi;omega
  have h37:g3≠g7:=by have:=h.o3;have:=h.o7;have:=h.oi;omega
  ⟨Ago h.ext hg h.ext.size (fun k hk=>by cases hk;exact h.l7),(hg.block g3 (lt h.b3) (by simp[h37])).trans h.b3,(hg.block g5 (lt h.b5) (by simp[h57])).trans h.b5,hb,
    BM h.own hg (Fm h.own h.b7 (by decide)),fun i h1 h2=>(hg.block i (AdE h2 h.os) (fun e=>by cases e;have:=h.o7;omega)).trans (h.fz i h1 h2),h.apz,h.l3,h.l5,h.l7,h.o3,h.o5,h.o35,h.o7,h.oi,AcN h.os hg.size⟩
theorem MKD.idx{b base:Nat}{I:AcR}{G:List UInt8→List Nat}(h:MKD w0 wI w lo g3 g5 g7 vt vc v o fr)(hI:IdxAt wI b base I G)(hb:lo≤b):IdxAt w b base I G:=by
  obtain⟨h1,es,c,h2,h3⟩:=hI;refine⟨h1,es,c,(h.fz b hb (Ade.1 h2).1).trans h2,h3.born,h3.nodup,h3.keys,fun e he=> ?_,h3.all,h3.apart⟩;obtain⟨q,k1,k2,k3,k4⟩:=h3.ent e he;refine⟨q,k1,k2,k3,k4.1,?_⟩;rcases k4.2 with h5 | ⟨g,cap,cur,a,hbg,hg,r⟩
  · exact .inl h5
  · exact .inr ⟨g,cap,cur,a,hbg,(h.fz g (by omega) (Ade.1 hg).1).trans hg,r⟩
end
def Cr(T:List UInt8)(fr to:Nat)(o:List UInt8):List UInt8:=if fr<to then o++Ac4 (2*(to-fr))++(T.drop fr).take (to-fr)else o
theorem KN:(Tryz.prog.info? 27).map (·.size)=some 1:=by kernel_rfl
theorem QG:Plain AcM 180:=fun _ _=>by kernel_rfl
theorem ID(w0 wI w:AcK)(lo g3 g5 g7:Nat)(vt v:AcJ)(o T:List UInt8)(fr to:Nat)(hM:MKD w0 wI w lo g3 g5 g7 vt v v o fr)(hT:RB w0 vt T)(hto:to≤T.length)(hfr:fr≤T.length)(hTl:T.length≤1048576)(hol:o.length≤1073741824):
  Calls AcM 182 #[NI to,PQ g7 0,PQ g5 0,PQ g3 0] w fun e w' =>e = .returned (.tuple #[])∧∃v',MKD w0 wI w' lo g3 g5 g7 vt v' v' (Cr T fr to o) fr:=by
 have av:w.heap[g3]? =some (.cells ([vt]:List AcJ).toArray 27 (0,0)):=hM.b3;have u:w.heap[g5]? =some (.cells ([v]:List AcJ).toArray 27 (0,0)):=hM.b5;have q:w.heap[g7]? =some (.cells ([NI (fr)]:List AcJ).toArray 3 (0,0)):=hM.b7;have aw:=hT.keep hM.ext;refine gG (args:= [NI to,PQ g7 0,PQ g5 0,PQ g3 0]) Tryz.func182 rfl 20 rfl rfl (gS (Zu Uo rfl rfl (cellAt q rfl) (gS (Zv (a:=(to:Nat)) (b:=(fr:Nat)) rfl rfl (Bh _ _ _ _) ?_))));refine cD rfl (fun hc=> ?_) fun hc=> ?_
 ·have ax:=Bp (2*(to-fr)) (by omega);refine gS (Zu Gj rfl rfl (cellAt u rfl) (gS (Zu Uo rfl rfl (cellAt q rfl) (gS (Zw (xv:=NI to) (yv:=NI fr) rfl rfl rfl (BN _ _ _ (by omega) (by omega)) (gS (Zw (xv:=NI 2) (yv:=NI ((to)-(fr))) rfl rfl rfl (Cq _ _ _ (by omega)) (gS (Zx QG rfl rfl ((Dz _ w0.heap.size v (o) hM.own hM.ext.size ((2)*((to)-(fr))) (by omega) (by omega)).mono ?_))))))))));rintro e g ⟨c,rfl,y,z⟩;refine⟨_,rfl,?_⟩;have hM10:=MKD.grew hM z y;clear hM;have ay:g.heap[g3]? =some (.cells ([vt]:List AcJ).toArray 27 (0,0)):=hM10.b3;have az:g.heap[g5]? =some (.cells ([v]:List AcJ).toArray 27 (0,0)):=hM10.b5;have a0:g.heap[g7]? =some (.cells ([NI (fr)]:List AcJ).toArray 3 (0,0)):=hM10.b7;have a1:=hT.keep hM10.ext;refine gS (ZK (i:=0) (v:=c) rfl rfl hM10.b5 (Ac2 rfl) KN (Ce hM10.own).1 (Ce hM10.own).2 fun j aa ab a2=> ?_);have hM20:=AaO hM10 aa ab;clear hM10;have ac:j.heap[g3]? =some (.cells ([vt]:List AcJ).toArray 27 (0,0)):=hM20.b3;have ad:j.heap[g5]? =some (.cells ([c]:List AcJ).toArray 27 (0,0)):=hM20.b5;have ae:j.heap[g7]? =some (.cells ([NI (fr)]:List AcJ).toArray 3 (0,0)):=hM20.b7;have af:=hT.keep hM20.ext;refine gR ?_;refine MY 5 _ [4] [Is (c),Is (vt),Is (NI fr),Is (NI to),fun x w' =>RB w' x ((T.drop (fr)).take ((to)-(fr))),fun x w' =>MKD w0 wI w' lo g3 g5 g7 vt c x ((o++Ac4 ((2)*((to)-(fr))))++(T.drop (fr)).take ((to)-(fr))) (fr)] (by kernel_rfl) [14,15,16,17,18,19] (by kernel_rfl) (by kernel_rfl) (by kernel_rfl) (by kernel_rfl) (by kernel_rfl) rfl rfl rfl rfl (X0 ⟨(fun _ _ _ h k=>RB.keep h k),trivial⟩) ⟨.inr (ZD _), .inr (ZD _), .inr (ZD _), .inr (ZD _), .inl rfl,trivial⟩ ?ag ?hQ1002
  case ag=>
   refine⟨?_,?_,?_,?_,?_,?_,?_,trivial⟩
   ·refine DF (Ah rfl fun σ w1 hC h=> ?_);have e2:σ 2=PQ g5 0:=(Az (h 2 (by decide))).trans rfl;exact Zu Gj rfl e2 (cellAt (eb hC ad) (show _=some (c:AcJ)from rfl)) ⟨Ext.refl _,rfl⟩
   ·refine DF (Ah rfl fun σ w1 hC h=> ?_);have e3:σ 3=PQ g3 0:=(Az (h 3 (by decide))).trans rfl;exact Zu Gj rfl e3 (cellAt (eb hC ac) (show _=some (vt:AcJ)from rfl)) ⟨Ext.refl _,rfl⟩
   ·refine DF (Ah rfl fun σ w1 hC h=> ?_);have e1:σ 1=PQ g7 0:=(Az (h 1 (by decide))).trans rfl;exact Zu Uo rfl e1 (cellAt (eb hC ae) (show _=some (NI fr:AcJ)from rfl)) ⟨Ext.refl _,rfl⟩
   ·refine DF (Ah rfl fun σ w1 hC h=> ?_);have e0:σ 0=NI to:=(Az (h 0 (by decide))).trans rfl;exact Yk.move e0 ⟨Ext.refl _,rfl⟩
   ·refine DF (Ah rfl fun σ w1 hC h=> ?_);have al:=Az (h 15 (by decide));have am:=Az (h 16 (by decide));have an:=Az (h 17 (by decide));exact Aas (xs:=T) (l:=fr) (n:=to) Gj Qq rfl (ZB (af.keep hC) al) am an (by omega) (by omega) fun v hr _=>⟨Ext.refl _,hr⟩
   ·refine DF (Ah rfl fun σ w1 hC h=> ?_);have r:=Az (h 14 (by decide));have ao:(fun x w' =>RB w' x ((T.drop (fr)).take ((to)-(fr)))) (σ 18) w1:=h 18 (by decide);have hM1:=hM20.keep hC;exact ZW _ _ w0.heap.size (.int .u8 0) Gj Nc rfl Gj (o++Ac4 ((2)*((to)-(fr)))) ((T.drop (fr)).take ((to)-(fr))) (C3 hM1.own r) ao (by simp only[AcQ,Ac8,Ac5];omega) hM1.ext.size fun x w2 ho hg=>⟨trivial,MKD.grew hM1 (r▸hg) ho⟩
   ·exact trivial
  intro s ap he hf;obtain⟨-,-,-,-,-,k19,-⟩:=hf;obtain⟨T0,T1,T2,T3,-⟩:=he.hold [(0,NI to),(1,PQ g7 0),(2,PQ g5 0),(3,PQ g3 0)] ⟨rfl,rfl,rfl,rfl,trivial⟩ rfl;clear he;have k19:(fun x w' =>MKD w0 wI w' lo g3 g5 g7 vt c x ((o++Ac4 ((2)*((to)-(fr))))++(T.drop (fr)).take ((to)-(fr))) (fr)) (s 19) ap:=k19;obtain⟨m,t⟩:∃v,s 19=v:=⟨_,rfl⟩;rw[t]at k19;have f:=k19;clear k19;refine(ZK (i:=0) (v:=m) T2 t f.b5 (Ac2 rfl) KN (Ce f.own).1 (Ce f.own).2 fun p ar au a6=> ?_);have hM34:=AaO f ar au;clear f;have a7:p.heap[g3]? =some (.cells ([vt]:List AcJ).toArray 27 (0,0)):=hM34.b3;have a8:p.heap[g5]? =some (.cells ([m]:List AcJ).toArray 27 (0,0)):=hM34.b5;have a9:p.heap[g7]? =some (.cells ([NI (fr)]:List AcJ).toArray 3 (0,0)):=hM34.b7;have ba:=hT.keep hM34.ext;refine gX (rt0 rfl ?_);refine⟨rfl,m,?_⟩;rw[Cr,if_pos hc];exact hM34
 refine rt0 rfl ?_;refine⟨rfl,v,?_⟩;rw[Cr,if_neg (by omega)];exact hM
section
variable {P : Adg} {K : AcJ → AcK → Prop} {ρ : Ad} {w : AcK} {d : Option Tmp} {ty : AcR} {pos : String} {af : Array AdL} {gd : Option (Nat × Bool)}
theorem Ab7{t e c:AcR}(ht:P.underlying t=some (.slice c)){x:AcW}{b z n:Nat}{xs:List AcJ}(h:w.ownsRow b e z (Aa ρ x) n xs)(hk:K (NI n) w):Yk P K ((execOp (Aa ρ) ⟨d, .call ⟨.builtin .len,#[x],#[t]⟩,ty,pos,af,gd⟩).run P w):=by
  rcases h.2 with ⟨a,h0⟩ | ⟨g,cap,cur,a,-⟩
  · subst h0;exact AaE ht a hk
  · exact AaE ht a hk
theorem Acl{t e c:AcR}(ht:P.underlying t=some (.slice c))(he:∀w' :AcK,(sizeOf c).run P w' = .ok 1 w'){x y:AcW}{b:Nat}{xs:List AcJ}(h:w.ownsRow b e 1 (Aa ρ x) xs.length xs){k:AdU}{i:Nat}(hy:Aa ρ y = .int k (i:Int))(hi:i<xs.length) 
    (hk:∀v,PCell (xs.getD i undef) v w→K v w):Yk P K ((execOp (Aa ρ) ⟨d, .indexAddr t x y,ty,pos,af,gd⟩).run P w):=by
  rcases h.2 with ⟨a,h0⟩ | ⟨g,cap,cur,a,-⟩
  · omega
  · have hc:=h.cells (g:=g) (by rw[a];rfl) i (xs.getD i undef) (by simp[hi]);rw[Aek]at hc;exact AaK ht he a hy hi (hk _ ⟨_,rfl,hc⟩)
end
def Et(B T:List UInt8)(i:Nat)(pn:Nat × Nat)(q:Nat):Nat × Nat:=if pn.2<CR (B.drop q) (T.drop i)then(q,CR (B.drop q) (T.drop i))else pn
def BY(B T:List UInt8)(i:Nat):Nat × Nat:=if i+8≤T.length then(posOf B (B.length-7) ((T.drop i).take 8)).foldl (Et B T i) (0,0)else(0,0)
def De(B T:List UInt8):Nat→Nat→Nat→List UInt8→List UInt8
  | 0,_,fr,o=>Cr T fr T.length o
  | f+1,i,fr,o=>if i<T.length then(if(BY B T i).2=0 then De B T f (i+1) fr o
      else De B T f (i+(BY B T i).2) (i+(BY B T i).2) (Cr T fr i o++Ac4 (2*(BY B T i).2+1)++Ac4 (BY B T i).1))else Cr T fr T.length o
def B2(B T:List UInt8):List UInt8:=De B T T.length 0 0 (Ac4 B.length++Ac4 T.length)
theorem EO(T:List UInt8)(fr to:Nat)(o:List UInt8)(ht:to≤1048576):(Cr T fr to o).length≤o.length+(to-fr)+9:=by
  unfold Cr;split
  · have:=Bp (2*(to-fr)) (by omega);simp only[AcQ,Ac8,Ac5];omega
  · omega
theorem GJ{α:Type}(f:α→Nat→α)(a:α)(zs:List Nat)(j:Nat)(h:j<zs.length):(zs.take (j+1)).foldl f a=f ((zs.take j).foldl f a) (zs.getD j 0):=by
  rw[Adi h,List.foldl_append];simp[h]
theorem WO(zs:List Nat)(j:Nat)(h:j<zs.length):(zs.map NI).getD j undef=NI (zs.getD j 0):=by simp[h]
theorem QH{B T:List UInt8}{f i fr:Nat}{o:List UInt8}(h:¬i<T.length):De B T f i fr o=Cr T fr T.length o:=by
  cases f with
  | zero=>rfl
  | succ f=>rw[De,if_neg h]
theorem Ut{B:List UInt8}{k:Nat}{r:List UInt8}{j:Nat}(h:j<(posOf B k r).length):(posOf B k r).getD j 0<k:=by
  have hm:(posOf B k r).getD j 0∈posOf B k r:=by
    rw[AcO,AcS h];exact Ad9 h
  unfold posOf at hm;rw[Aes,AgG]at hm;exact hm.1
theorem Sr{d:Option Tmp}{ty:AcR}{pos:String}{af:Array AdL}{gd:Option (Nat × Bool)}(σ:AcW→AcJ)(w:AcK):(execOp σ ⟨d, .alloc 27,ty,pos,af,gd⟩).run AcM w = .ok (.value (PQ w.heap.size 0)) (w.alloc (.cells ([.slice none 0 0]:List AcJ).toArray 27)):=by kernel_rfl
theorem QI:Plain AcM 181:=fun _ _=>by kernel_rfl
theorem Uu{d:Option Tmp}{ty:AcR}{pos:String}{af:Array AdL}{gd:Option (Nat × Bool)}(σ:AcW→AcJ)(w:AcK):(execOp σ ⟨d, .alloc 3,ty,pos,af,gd⟩).run AcM w = .ok (.value (PQ w.heap.size 0)) (w.alloc (.cells ([NI 0]).toArray 3)):=by kernel_rfl
theorem QJ:Plain AcM 183:=fun _ _=>by kernel_rfl
theorem HK:Plain AcM 182:=fun _ _=>by kernel_rfl
theorem Uv(w:AcK)(vb q:AcJ)(B T:List UInt8)(hrb:RB w vb B)(hrt:RB w q T)(hB:B.length≤1048576)(hTl:T.length≤1048576):
  Calls AcM 145 #[vb,q] w fun e w' =>∃v',e = .returned v' ∧Ext w w' ∧w'.ownsRow w.heap.size 5 1 v' (B2 B T).length (AcL (B2 B T)):=by
 refine gG (args:= [vb,q]) Tryz.func145 rfl 83 rfl rfl ?_;have hE:=Ext.refl w;refine gS (Aaf (vr q rfl) (RB.one (hrt.keep hE)).1 fun c u dq ac b9 dr=> ?_);have ap:=ac;clear ac;have ds:c<u.heap.size:=by omega
 have ak:=Ext.refl u;have hE:=hE.trans b9;have ca:=hE.size;have hAS:=ak;refine gR ?_;have dt:c<u.heap.size:=(bl ap);refine MZ 5 7 _ [2] (fun a b=>Below u.heap.size a b∧∀(g:Nat) (cs:Array AcJ),a.heap[g]? =some (.cells cs 27 (0,0))→b.heap[g]? =some (.cells cs 27 (0,0))) [Is (vb),Is (NI B.length),fun x w' =>w'.ownsRow u.heap.size 5 1 x (([]:List UInt8)++Ac4 B.length).length (AcL (([]:List UInt8)++Ac4 B.length)),Is (q),Is (NI T.length),fun x w' =>w'.ownsRow u.heap.size 5 1 x (([]++Ac4 B.length)++Ac4 T.length).length (AcL (([]++Ac4 B.length)++Ac4 T.length)),fun x w' =>∃g:Nat,x=PQ g 0∧u.heap.size≤g∧w'.heap[g]? =some (.cells #[.slice none 0 0] 27 (0,0))] (by kernel_rfl) [15,16,17,18,19,20,5] (by kernel_rfl) (by kernel_rfl) (by kernel_rfl) (by kernel_rfl) rfl rfl rfl (by decide) rfl (L0 ⟨(fun _ _ _ h k=>Stab.own _ _ _ _ _ _ _ _ h k),(L0 ⟨(fun _ _ _ h k=>Stab.own _ _ _ _ _ _ _ _ h k),(fun _ _ _ ⟨g,h1,h2,h3⟩ k=>⟨g,h1,h2,eb k h3⟩),trivial⟩)⟩) ⟨.inr (ZD _), .inr (ZD _), .inl rfl, .inr (ZD _), .inr (ZD _), .inl rfl, .inr ((fun _ _ _ ⟨g,h1,h2,h3⟩ k=>⟨g,h1,h2,k.2 _ _ h3⟩)),trivial⟩ (fun _ _ h k=>Aic h k.1) ?cb ?hQ3001
 case cb=>
  refine⟨?_,?_,?_,?_,?_,?_,?_,?_,trivial⟩
  ·refine DF (Ah rfl fun σ w1 hC h=> ?_);have e0:σ 0=vb:=(Az (h 0 (by decide))).trans rfl;exact Yk.move e0 ⟨Ext.refl _,rfl⟩
  ·refine DF (Ah rfl fun σ w1 hC h=> ?_);have cc:=Az (h 15 (by decide));exact ZF Gj (ZB (hrb.keep (hE.trans hC)) cc) ⟨Ext.refl _,rfl⟩
  ·refine DF (Ah rfl fun σ w1 hC h=> ?_);have cd:=Az (h 16 (by decide));have hC:Ext u w1:=hC;have al:w1.ownsRow u.heap.size 5 1 (.slice none 0 0) ([]:List UInt8).length (AcL ([]:List UInt8)):=AdK _ _ _ 1;refine Zx QG rfl cd ((Dz w1 u.heap.size (.slice none 0 0) [] al hC.size B.length (by omega) (by simp)).mono ?_);rintro e w2 ⟨v',rfl,ho,hg⟩;exact⟨_,rfl,AaQ hg.by_,ho⟩
  ·refine DF (Ah rfl fun σ w1 hC h=> ?_);have e3:σ 3=PQ c 0:=(Az (h 3 (by decide))).trans rfl;exact Zu Gj rfl e3 (cellAt (eb hC ap) (show _=some (q:AcJ)from rfl)) ⟨Ext.refl _,rfl⟩
  ·refine DF (Ah rfl fun σ w1 hC h=> ?_);have ce:=Az (h 18 (by decide));exact ZF Gj (ZB (hrt.keep (hE.trans hC)) ce) ⟨Ext.refl _,rfl⟩
  ·refine DF (Ah rfl fun σ w1 hC h=> ?_);have ba:(fun x w' =>w'.ownsRow u.heap.size 5 1 x (([]:List UInt8)++Ac4 B.length).length (AcL (([]:List UInt8)++Ac4 B.length))) (σ 17) w1:=h 17 (by decide);have cf:=Az (h 19 (by decide));have hC:Ext u w1:=hC;refine Zx QG rfl cf ((Dz w1 u.heap.size (σ 17) (([]:List UInt8)++Ac4 B.length) ba hC.size T.length (by omega) (by have:=Bp B.length (by omega);simp;omega)).mono ?_);rintro e w2 ⟨v',rfl,ho,hg⟩;exact⟨_,rfl,⟨hg.below hC.size (fun k hk=>(World.ownsRow.lt ba k hk).1),fun g cs h=>Ao h hg (Fm ba h (by decide))⟩,ho⟩
  ·refine DF (Ah rfl fun σ w1 hC h=> ?_);have hC:Ext u w1:=hC;exact Yk.alloc (cs:=([.slice none 0 0]:List AcJ).toArray) Sr fun g w2 hn hb hx hs=>⟨hx,g,rfl,by have:=hC.size;omega,hb⟩
  ·exact trivial
 intro a2 bs bt he hf;obtain⟨-,-,-,-,-,k20,k5,-⟩:=hf;obtain⟨y,T1,s,T4,-⟩:=he.hold [(0,vb),(1,q),(3,PQ c 0),(4,(AcU none 0 0))] ⟨rfl,rfl,rfl,rfl,trivial⟩ rfl;clear he;have k20:(fun x w' =>w'.ownsRow u.heap.size 5 1 x (([]++Ac4 B.length)++Ac4 T.length).length (AcL (([]++Ac4 B.length)++Ac4 T.length))) (a2 20) bs:=k20;obtain⟨ay,bu⟩:∃v,a2 20=v:=⟨_,rfl⟩;rw[bu]at k20;have am:=k20;clear k20;have k5:(fun x w' =>∃g:Nat,x=PQ g 0∧u.heap.size≤g∧w'.heap[g]? =some (.cells #[.slice none 0 0] 27 (0,0))) (a2 5) bs:=k5;obtain⟨du,r⟩:∃v,a2 5=v:=⟨_,rfl⟩;rw[r]at k5;have cg:=k5;clear k5;obtain⟨g5,hv5,hlo5,ac⟩:=cg;rw[hv5]at r;have ch:OB ay g5:=Fm am ac (by decide);refine(ZK (i:=0) (v:=ay) r bu ac (Ac2 rfl) KN (Ce am).1 (Ce am).2 fun au bv bb dv=> ?_);clear ac;have ac:=bv;clear bv;have dw:=bl ac;refine gX ?_;have hE:=hE.trans bt;have hE:=Ab hE bb (AcN ca (by omega));have ak:=ak.trans bt;have ak:=Ab ak bb (AcN (AcP _) (by omega));have dx:=hE.size;have dy:=ak.size;have ap:=eb ak ap;have hq3:=(bl ap);have hq5:=(bl ac);have am:=BM am bb ch;have hoP:=am;have hzP:=hE.size;have hzS:=hAS.size;refine gS (ZA QI y ((Sq _ vb B (hrb.keep hE) (by omega)).mono ?_));rintro e aq ⟨bM,baseM,rfl,hX⟩;refine⟨_,rfl,?_⟩;have hzI:=hX.ext.size;have ar:=Ext.refl aq;have hE:=hE.trans hX.ext;have ak:=ak.trans hX.ext;have ci:=hE.size;have dz:=ak.size;refine gS (Yk.alloc Uu fun m cj d0 bw bx d1=> ?_);have az:=bw;clear bw;have d2:m<cj.heap.size:=by omega
 refine gS (ZK (i:=0) (v:=NI 0) rfl rfl az (Ac2 rfl) NC rfl rfl fun ck bz b0 d3=> ?_);clear az;have az:=bz;clear bz;have d4:=bl az;refine gS (Z8 (vs:= #[PQ m 0,PQ g5 0,PQ c 0]) (by simp only[Ads,Ado,AdA];exact congrArg Aec (Wn (vr (PQ m 0) rfl) r s)) ?_);have ar:=ar.trans bx;have ar:=Ab ar b0 (AcN (AcP _) (by omega));have ap:=eb (hX.ext.trans ar) ap;have am:=Stab.own _ _ _ _ _ _ _ _ am (hX.ext.trans ar);have ac:=eb (hX.ext.trans ar) ac;have hE:=hE.trans bx;have hE:=Ab hE b0 (AcN ci (by omega));have hM0:MKD w aq ck au.heap.size c g5 m q ay ay (([]++Ac4 B.length)++Ac4 T.length) (0):=⟨hE,ap,ac,az,BL am (by omega),fun k h1 h2=>ar.block k h2,fun k hk=> .inl (hoP.lt k hk).2,by omega,by omega,by omega,hq3,hq5,by omega,by omega,by omega,by omega⟩;have hT:=hrt;refine gL (fun(ρ:Ad) (wz:AcK)=>∃ia:Nat,∃fr:Nat,∃f:Nat,∃o:List UInt8,∃v:AcJ,ρ 0=(vb:AcJ)∧ρ 1=(q:AcJ)∧ρ 3=(PQ c 0:AcJ)∧ρ 4=((AcU none 0 0):AcJ)∧ρ 5=(PQ g5 0:AcJ)∧ρ 6=(.map (some bM):AcJ)∧ρ 7=(PQ m 0:AcJ)∧ρ 8=(.func (.func 182) #[] #[PQ m 0,PQ g5 0,PQ c 0]:AcJ)∧ρ 9=(NI ia:AcJ)∧Ext w wz∧MKD w aq wz au.heap.size c g5 m q v v (o) (fr)∧(De B T f ia fr o=B2 B T)∧(T.length≤ia+f)∧(fr≤ia)∧(ia≤T.length)∧(o.length≤20+40*fr)∧True) (fun ρ _=>T.length-(intOf (ρ 9)).toNat) ⟨0,0,T.length,([]++Ac4 B.length)++Ac4 T.length,ay,y,T1,s,T4,r,rfl,rfl,rfl,rfl,hE,hM0,(show De B T T.length 0 0 _=_ from by rw[B2,AdS]),by omega,AcP _,Adm _,by have:=Bp B.length (by omega);have:=Bp T.length (by omega);simp only[AcQ,Adp];omega,trivial⟩ ?_;clear hM0;clear hE;rintro a3 bc ⟨ia,fr,f,o,v,y,T1,s,T4,r,T6,T7,T8,t,hE,hM,hgo,hf,hfr,hat,hol,-⟩;have q9:=t;have z:bc.heap[c]? =some (.cells ([q]:List AcJ).toArray 27 (0,0)):=hM.b3;have an:bc.heap[g5]? =some (.cells ([v]:List AcJ).toArray 27 (0,0)):=hM.b5;have ao:bc.heap[m]? =some (.cells ([NI (fr)]:List AcJ).toArray 3 (0,0)):=hM.b7;refine gS (Zu Gj rfl s (cellAt z rfl) (gS (ZF Gj (ZB (hrt.keep hE) rfl) (gS (Zv (a:=(ia:Nat)) (b:=(T.length:Nat)) t rfl (AI _ _ _ _) ?_)))));refine cD rfl (fun aw=> ?_) fun aw=> ?_
 ·obtain⟨f',rfl⟩:∃f',f=f' +1:=⟨f-1,by omega⟩;refine gS (Zw (xv:=NI ia) (yv:=NI 8) t rfl rfl (Ag _ _ _ (by omega)) (gS (Zu Gj rfl s (cellAt z rfl) (gS (ZF Gj (ZB (hrt.keep hE) rfl) (gS (Zv (a:=((ia)+(8):Nat)) (b:=(T.length:Nat)) rfl rfl (DD _ _ _ _) ?_)))))));refine cD rfl (fun bd=> ?_) fun bd=> ?_
  ·have hrl:((T.drop ia).take (ia+8-ia)).length=8:=by rw[Ac8,Ac5];omega
   have hrl8:((T.drop ia).take 8).length=8:=by rw[Ac8,Ac5];omega
   refine gS (Zu Gj rfl s (cellAt z rfl) (gS (Zw (xv:=NI ia) (yv:=NI 8) t rfl rfl (Ag _ _ _ (by omega)) (gS (Aas (xs:=T) (l:=ia) (n:=(ia)+(8)) Gj Qq rfl (hrt.keep hE) t rfl (by omega) (by omega) fun cl ai ha74=>(gS (Abp HJ (ZB ai rfl) (l:=(T.drop (ia)).take (((ia)+(8))-(ia))) (n:=8) (by rw[Ac8,Ac5];omega) (by decide) fun d5 d6 cm=>(gS (Z0 rfl (show World.rangeAt _ _ _ (AcL ((T.drop ia).take 8))from by simpa only[AeX] using cm) HJ rfl (by rw[AcZ,hrl8];exact G4) (gS (Yk.look So Sp QE NF T6 rfl (MKD.idx hM hX.idx hX.lo) hrl8 fun b1 ag=>(gS (Ab7 L9 (C3 ag rfl) (gL (fun(ρ:Ad) (wz:AcK)=>∃j:Nat,∃p:Nat,∃n:Nat,ρ 0=(vb:AcJ)∧ρ 1=(q:AcJ)∧ρ 3=(PQ c 0:AcJ)∧ρ 4=((AcU none 0 0):AcJ)∧ρ 5=(PQ g5 0:AcJ)∧ρ 6=(.map (some bM):AcJ)∧ρ 7=(PQ m 0:AcJ)∧ρ 8=(.func (.func 182) #[] #[PQ m 0,PQ g5 0,PQ c 0]:AcJ)∧ρ 9=(NI ia:AcJ)∧ρ 41=(b1:AcJ)∧ρ 42=(NI ((posOf B (B.length-7) ((T.drop ia).take 8)).length):AcJ)∧ρ 43=(NI j:AcJ)∧ρ 10=(NI p:AcJ)∧ρ 11=(NI n:AcJ)∧Ext w wz∧MKD w aq wz au.heap.size c g5 m q v v (o) (fr)∧wz.heap[c]? =some (.cells ([q]:List AcJ).toArray 27 (0,0))∧wz.heap[g5]? =some (.cells ([v]:List AcJ).toArray 27 (0,0))∧wz.heap[m]? =some (.cells ([NI (fr)]:List AcJ).toArray 3 (0,0))∧RB wz cl ((T.drop (ia)).take (((ia)+(8))-(ia)))∧wz.ownsRow baseM 3 1 b1 (posOf B (B.length-7) ((T.drop ia).take 8)).length ((posOf B (B.length-7) ((T.drop ia).take 8)).map NI)∧(j≤(posOf B (B.length-7) ((T.drop ia).take 8)).length)∧(((posOf B (B.length-7) ((T.drop ia).take 8)).take j).foldl (Et B T ia) (0,0)=(p,n))∧(p≤B.length)∧(n≤T.length-ia)∧True) (fun ρ _=>(posOf B (B.length-7) ((T.drop ia).take 8)).length-(intOf (ρ 43)).toNat) ⟨0,0,0,y,T1,s,T4,r,T6,T7,T8,t,rfl,rfl,rfl,rfl,rfl,hE,hM,z,an,ao,ai,ag,Adm _,rfl,Adm _,Adm _,trivial⟩ ?_))))))))))))));clear hE hM z an ao ai ag;rintro b2 d7 ⟨j,p,n,y,T1,s,T4,r,T6,T7,T8,t,a0,a1,av,ax,aj,hE,hM,z,an,ao,ai,ag,hjl,hbp,hp,hn,-⟩;have q43:=av;refine gS (Zv (a:=(j:Nat)) (b:=((posOf B (B.length-7) ((T.drop ia).take 8)).length:Nat)) av a1 (AI _ _ _ _) ?_);refine cD rfl (fun hj=> ?_) fun hj=> ?_
   ·have hq:=Ut hj;have hpl:=posOf_length B (B.length-7) ((T.drop ia).take 8);refine gS (Acl (xs:=(posOf B (B.length-7) ((T.drop ia).take 8)).map NI) L9 Hg (by rw[Ada];exact C3 ag a0) av (by rw[Ada];exact hj) fun d8 be=> ?_);rw[WO _ _ hj]at be;refine gS (ZL Uo rfl (ZQ be rfl) ?_);clear be;refine gR ?_;refine Hu [Is (vb),Is (NI ((posOf B (B.length-7) ((T.drop ia).take 8)).getD j 0)),fun x w' =>RB w' x (B.drop ((posOf B (B.length-7) ((T.drop ia).take 8)).getD j 0)),Is (q),Is (NI ia),fun x w' =>RB w' x (T.drop (ia)),Is (NI (CR (B.drop ((posOf B (B.length-7) ((T.drop ia).take 8)).getD j 0)) (T.drop (ia)))),Is (NI (CR (B.drop ((posOf B (B.length-7) ((T.drop ia).take 8)).getD j 0)) (T.drop (ia))))] (by kernel_rfl) [47,48,49,50,51,52,53,14] (by kernel_rfl) (by kernel_rfl) (L0 ⟨(fun _ _ _ h k=>RB.keep h k),(L0 ⟨(fun _ _ _ h k=>RB.keep h k),(L0 trivial)⟩)⟩) ?cn ?hQ4012
    case cn=>
     refine⟨?_,?_,?_,?_,?_,?_,?_,?_,trivial⟩
     ·refine Ah rfl fun σ w1 hC h=> ?_;have e0:=(Az (h 0 (by decide))).trans y;exact Yk.move e0 ⟨Ext.refl _,rfl⟩
     ·refine Ah rfl fun σ w1 hC h=> ?_;have co:σ 13=NI ((posOf B (B.length-7) ((T.drop ia).take 8)).getD j 0):=(Az (h 13 (by decide))).trans rfl;exact Yk.move co ⟨Ext.refl _,rfl⟩
     ·refine Ah rfl fun σ w1 hC h=> ?_;have cp:=Az (h 47 (by decide));have cq:=Az (h 48 (by decide));exact Z1 (xs:=B) (l:=(posOf B (B.length-7) ((T.drop ia).take 8)).getD j 0) Gj Qq rfl (ZB (hrb.keep (hE.trans hC)) cp) cq (by omega) fun v hr _=>⟨Ext.refl _,hr⟩
     ·refine Ah rfl fun σ w1 hC h=> ?_;have e3:=(Az (h 3 (by decide))).trans s;exact Zu Gj rfl e3 (cellAt (eb hC z) (show _=some (q:AcJ)from rfl)) ⟨Ext.refl _,rfl⟩
     ·refine Ah rfl fun σ w1 hC h=> ?_;have e9:=(Az (h 9 (by decide))).trans t;exact Yk.move e9 ⟨Ext.refl _,rfl⟩
     ·refine Ah rfl fun σ w1 hC h=> ?_;have ct:=Az (h 50 (by decide));have cu:=Az (h 51 (by decide));exact Z1 (xs:=T) (l:=ia) Gj Qq rfl (ZB (hrt.keep (hE.trans hC)) ct) cu (by omega) fun v hr _=>⟨Ext.refl _,hr⟩
     ·refine Ah rfl fun σ w1 hC h=> ?_;have cv:(fun x w' =>RB w' x (B.drop ((posOf B (B.length-7) ((T.drop ia).take 8)).getD j 0))) (σ 49) w1:=h 49 (by decide);have cw:(fun x w' =>RB w' x (T.drop (ia))) (σ 52) w1:=h 52 (by decide);refine Zx QJ rfl rfl ((QA _ (σ 49) (σ 52) (B.drop ((posOf B (B.length-7) ((T.drop ia).take 8)).getD j 0)) (T.drop (ia)) cv cw (by simp only[Ac5];omega)).mono ?_);rintro e w2 ⟨rfl,hx⟩;exact⟨_,rfl,hx,rfl⟩
     ·refine Ah rfl fun σ w1 hC h=> ?_;have cx:=Az (h 53 (by decide));exact Yk.assign cx ⟨Ext.refl _,rfl⟩
    intro cy cz ab he hf;obtain⟨-,-,-,-,-,-,-,k14,-⟩:=hf;obtain⟨y,T1,s,T4,r,T6,T7,T8,t,ax,aj,c0,a0,a1,av,-⟩:=he.hold [(0,_),(1,_),(3,_),(4,_),(5,_),(6,_),(7,_),(8,_),(9,_),(10,_),(11,_),(13,NI ((posOf B (B.length-7) ((T.drop ia).take 8)).getD j 0)),(41,_),(42,_),(43,_)] ⟨y,T1,s,T4,r,T6,T7,T8,t,ax,aj,rfl,a0,a1,av,trivial⟩ rfl;clear he;have hM:MKD w aq cz au.heap.size c g5 m q v v (o) (fr):=(hM.keep ab);have b4:cy 14=NI (CR (B.drop ((posOf B (B.length-7) ((T.drop ia).take 8)).getD j 0)) (T.drop (ia))):=k14;clear k14;refine gX (gS (Zv (a:=(CR (B.drop ((posOf B (B.length-7) ((T.drop ia).take 8)).getD j 0)) (T.drop (ia)):Nat)) (b:=(n:Nat)) b4 aj (Bh _ _ _ _) ?_));refine cD rfl (fun bf=> ?_) fun bf=> ?_
    ·have hE:=hE.trans ab;have z:=eb ab z;have an:=eb ab an;have ao:=eb ab ao;have ai:=ai.keep ab;have ag:=Stab.own _ _ _ _ _ _ _ _ ag ab;refine gS (Zw (xv:=NI j) (yv:=NI 1) av rfl rfl (Ag _ _ _ (by omega)) (gK (Adr ⟨j+1,(posOf B (B.length-7) ((T.drop ia).take 8)).getD j 0,CR (B.drop ((posOf B (B.length-7) ((T.drop ia).take 8)).getD j 0)) (T.drop ia),y,T1,s,T4,r,T6,T7,T8,t,a0,a1,rfl,c0,b4,hE,hM,z,an,ao,ai,ag,by omega,by rw[GJ _ _ _ _ hj,hbp,Et,if_pos bf],by omega,by have:=(KI (B.drop ((posOf B (B.length-7) ((T.drop ia).take 8)).getD j 0)) (T.drop ia)).2;rw[Ac5]at this;omega,trivial⟩ ?_)));show(posOf B (B.length-7) ((T.drop ia).take 8)).length-(intOf (NI ((j)+(1)))).toNat<(posOf B (B.length-7) ((T.drop ia).take 8)).length-(intOf (b2 43)).toNat;rw[q43];simp only[intOf,Ac0];omega
    have hE:=hE.trans ab;have z:=eb ab z;have an:=eb ab an;have ao:=eb ab ao;have ai:=ai.keep ab;have ag:=Stab.own _ _ _ _ _ _ _ _ ag ab;refine gS (Zw (xv:=NI j) (yv:=NI 1) av rfl rfl (Ag _ _ _ (by omega)) (gK (Adr ⟨j+1,p,n,y,T1,s,T4,r,T6,T7,T8,t,a0,a1,rfl,ax,aj,hE,hM,z,an,ao,ai,ag,by omega,by rw[GJ _ _ _ _ hj,hbp,Et,if_neg bf],by omega,hn,trivial⟩ ?_)));show(posOf B (B.length-7) ((T.drop ia).take 8)).length-(intOf (NI ((j)+(1)))).toNat<(posOf B (B.length-7) ((T.drop ia).take 8)).length-(intOf (b2 43)).toNat;rw[q43];simp only[intOf,Ac0];omega
   rw[show(posOf B (B.length-7) ((T.drop ia).take 8)).take j=posOf B (B.length-7) ((T.drop ia).take 8)from AdD (by omega)]at hbp;have hbe:BY B T ia=(p,n):=by rw[BY,if_pos bd,hbp]
   refine gS (Zv (a:=(n:Nat)) (b:=(0:Nat)) aj rfl (AF _ _ _ _) ?_);refine cD rfl (fun al=> ?_) fun al=> ?_
   ·refine gS (Zw (xv:=NI ia) (yv:=NI 1) t rfl rfl (Ag _ _ _ (by omega)) (gK (Adr ⟨ia+1,fr,f',o,v,y,T1,s,T4,r,T6,T7,T8,rfl,hE,hM,by rw[De,if_pos aw,if_pos (by rw[hbe];exact al)]at hgo;exact hgo,by omega,by omega,by omega,hol,trivial⟩ ?_)));show T.length-(intOf (NI ((ia)+(1)))).toNat<T.length-(intOf (a3 9)).toNat;rw[q9];simp only[intOf,Ac0];omega
   refine gS (Aav HK (caps:= #[PQ m 0,PQ g5 0,PQ c 0]) T8 #[NI ia,PQ m 0,PQ g5 0,PQ c 0] (by simp only[Ads,Ado,AdA,AeP,AdP,AdS];exact congrArg Aec (Qm t rfl rfl rfl)) ((ID w aq _ (au.heap.size) c g5 m q v (o) T (fr) (ia) hM hT (by omega) (by omega) (by omega) (by omega)).mono ?_));rintro e bg ⟨rfl,a4,hM98⟩;refine⟨_,rfl,?_⟩;have hE:=hM98.ext;clear ai;clear ag;clear hM;have d9:bg.heap[c]? =some (.cells ([q]:List AcJ).toArray 27 (0,0)):=hM98.b3;have c1:bg.heap[g5]? =some (.cells ([a4]:List AcJ).toArray 27 (0,0)):=hM98.b5;have ea:bg.heap[m]? =some (.cells ([NI (fr)]:List AcJ).toArray 3 (0,0)):=hM98.b7;have hfl:=EO T fr ia o (by omega);have c2:=Bp (2*n+1) (by omega);have c3:=Bp p (by omega);refine gS (Zu Gj rfl r (cellAt c1 rfl) (gS (Zw (xv:=NI 2) (yv:=NI n) rfl aj rfl (Cq _ _ _ (by omega)) (gS (Zw (xv:=NI ((2)*(n))) (yv:=NI 1) rfl rfl rfl (Ag _ _ _ (by omega)) (gS (Zx QG rfl rfl ((Dz _ w.heap.size a4 (Cr T (fr) (ia) (o)) hM98.own hM98.ext.size (((2)*(n))+(1)) (by omega) (by first | omega | (simp only[AcQ];omega))).mono ?_))))))));rintro e bh ⟨c4,rfl,c5,c6⟩;refine⟨_,rfl,?_⟩;have hM107:=MKD.grew hM98 c6 c5;have hE:=hM107.ext;clear hM98;have ec:bh.heap[c]? =some (.cells ([q]:List AcJ).toArray 27 (0,0)):=hM107.b3;have ed:bh.heap[g5]? =some (.cells ([a4]:List AcJ).toArray 27 (0,0)):=hM107.b5;have ee:bh.heap[m]? =some (.cells ([NI (fr)]:List AcJ).toArray 3 (0,0)):=hM107.b7;refine gS (Zx QG rfl ax ((Dz _ w.heap.size c4 (Cr T (fr) (ia) (o)++Ac4 (((2)*(n))+(1))) hM107.own hM107.ext.size (p) (by omega) (by first | omega | (simp only[AcQ];omega))).mono ?_));rintro e bi ⟨a5,rfl,c7,c8⟩;refine⟨_,rfl,?_⟩;have hM115:=MKD.grew hM107 c8 c7;have hE:=hM115.ext;clear hM107;have ef:bi.heap[c]? =some (.cells ([q]:List AcJ).toArray 27 (0,0)):=hM115.b3;have eg:bi.heap[g5]? =some (.cells ([a4]:List AcJ).toArray 27 (0,0)):=hM115.b5;have eh:bi.heap[m]? =some (.cells ([NI (fr)]:List AcJ).toArray 3 (0,0)):=hM115.b7;refine gS (ZK (i:=0) (v:=a5) r rfl hM115.b5 (Ac2 rfl) KN (Ce hM115.own).1 (Ce hM115.own).2 fun bj c9 da ei=> ?_);have hM124:=AaO hM115 c9 da;have hE:=hM124.ext;clear hM115;have ej:bj.heap[c]? =some (.cells ([q]:List AcJ).toArray 27 (0,0)):=hM124.b3;have el:bj.heap[g5]? =some (.cells ([a5]:List AcJ).toArray 27 (0,0)):=hM124.b5;have em:bj.heap[m]? =some (.cells ([NI (fr)]:List AcJ).toArray 3 (0,0)):=hM124.b7;refine gS (Zw (xv:=NI ia) (yv:=NI n) t aj rfl (Ag _ _ _ (by omega)) (gS (ZK (i:=0) (v:=NI ((ia)+(n))) T7 rfl hM124.b7 (Ac2 rfl) NC rfl rfl fun bk db dc en=> ?_)));have hM133:=Abq (n:=(ia)+(n)) hM124 db dc;have hE:=hM133.ext;clear hM124;have eo:bk.heap[c]? =some (.cells ([q]:List AcJ).toArray 27 (0,0)):=hM133.b3;have ep:bk.heap[g5]? =some (.cells ([a5]:List AcJ).toArray 27 (0,0)):=hM133.b5;have eq:bk.heap[m]? =some (.cells ([NI ((ia)+(n))]:List AcJ).toArray 3 (0,0)):=hM133.b7;refine gK (Adr ⟨ia+n,ia+n,f',Cr T (fr) (ia) (o)++Ac4 (((2)*(n))+(1))++Ac4 (p),a5,y,T1,s,T4,r,T6,T7,T8,rfl,hE,hM133,by rw[De,if_pos aw,if_neg (by rw[hbe];exact al),hbe]at hgo;exact hgo,by omega,by omega,by omega,by have h5:=EO T fr ia o (by omega);have h6:=Bp (2*n+1) (by omega);have h7:=Bp p (by omega);simp only[AcQ];omega,trivial⟩ ?_);show T.length-(intOf (NI ((ia)+(n)))).toNat<T.length-(intOf (a3 9)).toNat;rw[q9];simp only[intOf,Ac0];omega
  obtain⟨p,b6⟩:∃p,p=0:=⟨_,rfl⟩;obtain⟨n,hnz⟩:∃n,n=0:=⟨_,rfl⟩;have ax:=(vr (NI 0) rfl).trans (show(AeJ .i64 ((0:Nat):Int))=NI p by rw[b6]);have aj:=(vr (NI 0) rfl).trans (show(AeJ .i64 ((0:Nat):Int))=NI n by rw[hnz]);have hbe:BY B T ia=(p,n):=by rw[BY,if_neg bd,b6,hnz]
  have hp:p≤B.length:=by omega
  have hn:n≤T.length-ia:=by omega
  refine gS (Zv (a:=(n:Nat)) (b:=(0:Nat)) aj rfl (AF _ _ _ _) ?_);refine cD rfl (fun al=> ?_) fun al=> ?_
  ·refine gS (Zw (xv:=NI ia) (yv:=NI 1) t rfl rfl (Ag _ _ _ (by omega)) (gK (Adr ⟨ia+1,fr,f',o,v,y,T1,s,T4,r,T6,T7,T8,rfl,hE,hM,by rw[De,if_pos aw,if_pos (by rw[hbe];exact al)]at hgo;exact hgo,by omega,by omega,by omega,hol,trivial⟩ ?_)));show T.length-(intOf (NI ((ia)+(1)))).toNat<T.length-(intOf (a3 9)).toNat;rw[q9];simp only[intOf,Ac0];omega
  refine gS (Aav HK (caps:= #[PQ m 0,PQ g5 0,PQ c 0]) T8 #[NI ia,PQ m 0,PQ g5 0,PQ c 0] (by simp only[Ads,Ado,AdA,AeP,AdP,AdS];exact congrArg Aec (Qm t rfl rfl rfl)) ((ID w aq _ (au.heap.size) c g5 m q v (o) T (fr) (ia) hM hT (by omega) (by omega) (by omega) (by omega)).mono ?_));rintro e bm ⟨rfl,a6,hM142⟩;refine⟨_,rfl,?_⟩;have hE:=hM142.ext;clear hM;have er:bm.heap[c]? =some (.cells ([q]:List AcJ).toArray 27 (0,0)):=hM142.b3;have dd:bm.heap[g5]? =some (.cells ([a6]:List AcJ).toArray 27 (0,0)):=hM142.b5;have es:bm.heap[m]? =some (.cells ([NI (fr)]:List AcJ).toArray 3 (0,0)):=hM142.b7;have hfl:=EO T fr ia o (by omega);have c2:=Bp (2*n+1) (by omega);have c3:=Bp p (by omega);refine gS (Zu Gj rfl r (cellAt dd rfl) (gS (Zw (xv:=NI 2) (yv:=NI n) rfl aj rfl (Cq _ _ _ (by omega)) (gS (Zw (xv:=NI ((2)*(n))) (yv:=NI 1) rfl rfl rfl (Ag _ _ _ (by omega)) (gS (Zx QG rfl rfl ((Dz _ w.heap.size a6 (Cr T (fr) (ia) (o)) hM142.own hM142.ext.size (((2)*(n))+(1)) (by omega) (by first | omega | (simp only[AcQ];omega))).mono ?_))))))));rintro e bn ⟨de,rfl,df,dh⟩;refine⟨_,rfl,?_⟩;have hM151:=MKD.grew hM142 dh df;have hE:=hM151.ext;clear hM142;have et:bn.heap[c]? =some (.cells ([q]:List AcJ).toArray 27 (0,0)):=hM151.b3;have eu:bn.heap[g5]? =some (.cells ([a6]:List AcJ).toArray 27 (0,0)):=hM151.b5;have ew:bn.heap[m]? =some (.cells ([NI (fr)]:List AcJ).toArray 3 (0,0)):=hM151.b7;refine gS (Zx QG rfl ax ((Dz _ w.heap.size de (Cr T (fr) (ia) (o)++Ac4 (((2)*(n))+(1))) hM151.own hM151.ext.size (p) (by omega) (by first | omega | (simp only[AcQ];omega))).mono ?_));rintro e bo ⟨a7,rfl,di,dj⟩;refine⟨_,rfl,?_⟩;have hM159:=MKD.grew hM151 dj di;have hE:=hM159.ext;clear hM151;have ex:bo.heap[c]? =some (.cells ([q]:List AcJ).toArray 27 (0,0)):=hM159.b3;have ey:bo.heap[g5]? =some (.cells ([a6]:List AcJ).toArray 27 (0,0)):=hM159.b5;have ez:bo.heap[m]? =some (.cells ([NI (fr)]:List AcJ).toArray 3 (0,0)):=hM159.b7;refine gS (ZK (i:=0) (v:=a7) r rfl hM159.b5 (Ac2 rfl) KN (Ce hM159.own).1 (Ce hM159.own).2 fun bp dk dl e1=> ?_);have hM168:=AaO hM159 dk dl;have hE:=hM168.ext;clear hM159;have e2:bp.heap[c]? =some (.cells ([q]:List AcJ).toArray 27 (0,0)):=hM168.b3;have e4:bp.heap[g5]? =some (.cells ([a7]:List AcJ).toArray 27 (0,0)):=hM168.b5;have e5:bp.heap[m]? =some (.cells ([NI (fr)]:List AcJ).toArray 3 (0,0)):=hM168.b7;refine gS (Zw (xv:=NI ia) (yv:=NI n) t aj rfl (Ag _ _ _ (by omega)) (gS (ZK (i:=0) (v:=NI ((ia)+(n))) T7 rfl hM168.b7 (Ac2 rfl) NC rfl rfl fun bq dm dn e6=> ?_)));have hM177:=Abq (n:=(ia)+(n)) hM168 dm dn;have hE:=hM177.ext;clear hM168;have e7:bq.heap[c]? =some (.cells ([q]:List AcJ).toArray 27 (0,0)):=hM177.b3;have e8:bq.heap[g5]? =some (.cells ([a7]:List AcJ).toArray 27 (0,0)):=hM177.b5;have fa:bq.heap[m]? =some (.cells ([NI ((ia)+(n))]:List AcJ).toArray 3 (0,0)):=hM177.b7;refine gK (Adr ⟨ia+n,ia+n,f',Cr T (fr) (ia) (o)++Ac4 (((2)*(n))+(1))++Ac4 (p),a7,y,T1,s,T4,r,T6,T7,T8,rfl,hE,hM177,by rw[De,if_pos aw,if_neg (by rw[hbe];exact al),hbe]at hgo;exact hgo,by omega,by omega,by omega,by have h5:=EO T fr ia o (by omega);have h6:=Bp (2*n+1) (by omega);have h7:=Bp p (by omega);simp only[AcQ];omega,trivial⟩ ?_);show T.length-(intOf (NI ((ia)+(n)))).toNat<T.length-(intOf (a3 9)).toNat;rw[q9];simp only[intOf,Ac0];omega
 rw[QH aw]at hgo;refine gS (Zu Gj rfl s (cellAt z rfl) (gS (ZF Gj (ZB (hrt.keep hE) rfl) (gS (Aav HK (caps:= #[PQ m 0,PQ g5 0,PQ c 0]) T8 #[NI T.length,PQ m 0,PQ g5 0,PQ c 0] (by simp only[Ads,Ado,AdA,AeP,AdP,AdS];exact congrArg Aec (Qm rfl rfl rfl rfl)) ((ID w aq _ (au.heap.size) c g5 m q v (o) T (fr) (T.length) hM hT (by omega) (by omega) (by omega) (by omega)).mono ?_))))));rintro e br ⟨rfl,b8,hM183⟩;refine⟨_,rfl,?_⟩;have hE:=hM183.ext;clear hM;have fb:br.heap[c]? =some (.cells ([q]:List AcJ).toArray 27 (0,0)):=hM183.b3;have dp:br.heap[g5]? =some (.cells ([b8]:List AcJ).toArray 27 (0,0)):=hM183.b5;have fc:br.heap[m]? =some (.cells ([NI (fr)]:List AcJ).toArray 3 (0,0)):=hM183.b7;refine gS (Zu Gj rfl r (cellAt dp rfl) (Bb rfl (vr b8 rfl) ?_));rw[hgo]at hM183;exact⟨_,rfl,hM183.ext,BL hM183.own (AcP _)⟩
def DS(D:List UInt8):Option (Nat × Nat × Nat):=match A6 0 (D.drop 0)with
  | none=>none
  | some (a,k)=>match A6 0 (D.drop (0+k))with
    | none=>none
    | some (b,j)=>some (a,b,0+k+j)
def Uw:Option (Nat × Nat × Nat)→AcJ
  | none=> .tuple #[NI 0,NI 0,NI 0,NI 6]
  | some (a,b,n)=> .tuple #[NI a,NI b,NI n,NI 0]
def Fa(F:List UInt8)(p s nx:Nat):Option (List UInt8 × Nat):=if s<1∨F.length<p∨F.length-p<s then none else some ((F.drop p).take s,nx)
def Ch(B D:List UInt8)(i:Nat):Option (List UInt8 × Nat):=match A6 0 (D.drop i)with
  | none=>none
  | some (x,k)=>if x%2=1 then(match A6 0 (D.drop (i+k))with
    | none=>none
    | some (p,m)=>Fa B p (x/2) (i+k+m))else Fa D (i+k) (x/2) (i+k+x/2)
def Cs(B D:List UInt8)(size:Nat):Nat→Nat→List UInt8→Option (List UInt8)
  | 0,_,_=>none
  | f+1,i,o=>if i<D.length then(match Ch B D i with
    | none=>none
    | some (b,nx)=>if size-o.length<b.length then none else Cs B D size f nx (o++b))else if o.length=size then some o else none
def A9(B D:List UInt8):List UInt8 × Nat:=match DS D with
  | none=>([],6)
  | some (a,b,n)=>if 262144<b then([],2)else if a≠B.length then([],6)else match Cs B D b (D.length+1) n []with
    | none=>([],6)
    | some o=>(o,0)
theorem NG{D:List UInt8}{a b n:Nat}(h:DS D=some (a,b,n)):a<9223372036854775808∧b<9223372036854775808∧n≤D.length:=by
  unfold DS at h;split at h
  · cases h
  · rename_i x k hk
    have h1:=CS (a:=0) (by omega) hk;split at h
    · cases h
    · rename_i y j hj
      have h2:=CS (a:=0+k) (by omega) hj;simp only[Aey,Aht]at h;obtain⟨rfl,rfl,rfl⟩:=h;omega
theorem Ma{F b:List UInt8}{p s nx n:Nat}(h:Fa F p s nx=some (b,n)):1≤s∧p≤F.length∧s≤F.length-p∧b=(F.drop p).take s∧n=nx:=by
  unfold Fa at h;split at h
  · cases h
  · simp only[Aey,Aht]at h;exact⟨by omega,by omega,by omega,h.1.symm,h.2.symm⟩
theorem NH{B D b:List UInt8}{i nx:Nat}(hi:i≤D.length)(h:Ch B D i=some (b,nx)):i<nx∧nx≤D.length∧b.length≤B.length+D.length:=by
  unfold Ch at h;split at h
  · cases h
  · rename_i x k hk
    have h1:=CS hi hk;split at h
    · split at h
      · cases h
      · rename_i p m hm
        have h2:=CS (a:=i+k) (by omega) hm;obtain⟨c1,c2,c3,rfl,rfl⟩:=Ma h;rw[Ac8,Ac5];omega
    · obtain⟨c1,c2,c3,rfl,rfl⟩:=Ma h;rw[Ac8,Ac5];omega
theorem CM:Plain AcM 128:=fun _ _=>by kernel_rfl
theorem Mb(w:AcK)(v:AcJ)(D:List UInt8)(hr:RB w v D):
  Calls AcM 211 #[v] w fun e w' =>e = .returned (Uw (DS D))∧Ext w w' :=by
 refine gG (args:= [v]) Tryz.func211 rfl 26 rfl rfl ?_;have hE:=Ext.refl w;rcases hgxa:A6 0 (D.drop (0))with _ | ⟨xa,ka⟩
 ·refine gS (Zx CM rfl rfl ((Nd _ v D (hr.keep hE) (0) (by omega) hgxa).mono ?_));rintro e j ⟨rfl,c⟩;refine⟨_,rfl,?_⟩;have hE:=hE.trans c;refine gS (Yk.extract (vs:= [NI 0,NI 0,NI 6]) rfl rfl (gS (Yk.extract (vs:= [NI 0,NI 0,NI 6]) rfl rfl (gS (Yk.extract (vs:= [NI 0,NI 0,NI 6]) rfl rfl (gS (Zv (a:=(6:Nat)) (b:=(0:Nat)) rfl rfl (AY _ _ _ _) (kT (by decide) (cT rfl (X4 (v:= .tuple #[NI 0,NI 0,NI 0,NI 6]) (vs:= [NI 0,NI 0,NI 0,NI 6]) rfl rfl ⟨rfl,rfl,rfl,rfl,trivial⟩ ?_))))))))));refine⟨?_,hE⟩;rw[DS,hgxa];rfl
 have hqxa:=CS (a:=0) (by omega) hgxa;rcases hgxb:A6 0 (D.drop (0+ka))with _ | ⟨xb,kb⟩
 ·refine gS (Zx CM rfl rfl ((IA _ v D (hr.keep hE) (0) (by omega) xa ka hgxa).mono ?_));rintro e k ⟨rfl,f⟩;refine⟨_,rfl,?_⟩;have hE:=hE.trans f;refine gS (Yk.extract (vs:= [NI xa,NI ((0)+ka),NI 0]) rfl rfl (gS (Yk.extract (vs:= [NI xa,NI ((0)+ka),NI 0]) rfl rfl (gS (Yk.extract (vs:= [NI xa,NI ((0)+ka),NI 0]) rfl rfl (gS (Zv (a:=(0:Nat)) (b:=(0:Nat)) rfl rfl (AY _ _ _ _) (kF (by decide) (cF rfl (gS (Zx CM rfl rfl ((Nd _ v D (hr.keep hE) ((0)+ka) (by omega) hgxb).mono ?_))))))))))));rintro e l ⟨rfl,g⟩;refine⟨_,rfl,?_⟩;have hE:=hE.trans g;refine gS (Yk.extract (vs:= [NI 0,NI 0,NI 6]) rfl rfl (gS (Yk.extract (vs:= [NI 0,NI 0,NI 6]) rfl rfl (gS (Yk.extract (vs:= [NI 0,NI 0,NI 6]) rfl rfl (gS (Zv (a:=(6:Nat)) (b:=(0:Nat)) rfl rfl (AY _ _ _ _) (kT (by decide) (cT rfl (X4 (v:= .tuple #[NI 0,NI 0,NI 0,NI 6]) (vs:= [NI 0,NI 0,NI 0,NI 6]) rfl rfl ⟨rfl,rfl,rfl,rfl,trivial⟩ ?_))))))))));refine⟨?_,hE⟩;rw[DS,hgxa];simp only;rw[hgxb];rfl
 have hqxb:=CS (a:=0+ka) (by omega) hgxb;refine gS (Zx CM rfl rfl ((IA _ v D (hr.keep hE) (0) (by omega) xa ka hgxa).mono ?_));rintro e m ⟨rfl,h⟩;refine⟨_,rfl,?_⟩;have hE:=hE.trans h;refine gS (Yk.extract (vs:= [NI xa,NI ((0)+ka),NI 0]) rfl rfl (gS (Yk.extract (vs:= [NI xa,NI ((0)+ka),NI 0]) rfl rfl (gS (Yk.extract (vs:= [NI xa,NI ((0)+ka),NI 0]) rfl rfl (gS (Zv (a:=(0:Nat)) (b:=(0:Nat)) rfl rfl (AY _ _ _ _) (kF (by decide) (cF rfl (gS (Zx CM rfl rfl ((IA _ v D (hr.keep hE) ((0)+ka) (by omega) xb kb hgxb).mono ?_))))))))))));rintro e n ⟨rfl,i⟩;refine⟨_,rfl,?_⟩;have hE:=hE.trans i;refine gS (Yk.extract (vs:= [NI xb,NI (((0)+ka)+kb),NI 0]) rfl rfl (gS (Yk.extract (vs:= [NI xb,NI (((0)+ka)+kb),NI 0]) rfl rfl (gS (Yk.extract (vs:= [NI xb,NI (((0)+ka)+kb),NI 0]) rfl rfl (gS (Zv (a:=(0:Nat)) (b:=(0:Nat)) rfl rfl (AY _ _ _ _) (kF (by decide) (cF rfl (X4 (v:= .tuple #[NI xa,NI xb,NI (((0)+ka)+kb),NI 0]) (vs:= [NI xa,NI xb,NI (((0)+ka)+kb),NI 0]) rfl rfl ⟨rfl,rfl,rfl,rfl,trivial⟩ ?_))))))))));refine⟨?_,hE⟩;rw[DS,hgxa];simp only;rw[hgxb];rfl

theorem Ux(w:AcK)(v:AcJ)(D:List UInt8)(hr:RB w v D)(h:DS D=none):
  Calls AcM 211 #[v] w fun e w' =>e = .returned (.tuple #[NI 0,NI 0,NI 0,NI 6])∧Ext w w' :=by
 have:=Mb w v D hr;rw[h]at this;exact this
theorem Ss(w:AcK)(v:AcJ)(D:List UInt8)(hr:RB w v D)(a b n:Nat)(h:DS D=some (a,b,n)):
  Calls AcM 211 #[v] w fun e w' =>e = .returned (.tuple #[NI a,NI b,NI n,NI 0])∧Ext w w' :=by
 have:=Mb w v D hr;rw[h]at this;exact this

theorem Mc(w:AcK)(vb v:AcJ)(B D:List UInt8)(hrb:RB w vb B)(hr:RB w v D)(i:Nat)(hi:i≤D.length)(hB:B.length≤1048576)(hD:D.length≤4611686018427387904):
  Calls AcM 212 #[vb,v,NI i] w fun e w' =>(match Ch B D i with | none=>e = .returned (.tuple #[.slice none 0 0,NI 0, .bool false]) | some (b,nx)=>∃v',e = .returned (.tuple #[v',NI nx, .bool true])∧RB w' v' b)∧Ext w w' :=by
 refine gG (args:= [vb,v,NI i]) Tryz.func212 rfl 70 rfl rfl ?_;have hE:=Ext.refl w;rcases hgx:A6 0 (D.drop (i))with _ | ⟨x,k⟩
 ·refine gS (Zx CM rfl rfl ((Nd _ v D (hr.keep hE) (i) (by omega) hgx).mono ?_));rintro e y ⟨rfl,o⟩;refine⟨_,rfl,?_⟩;refine gS (Yk.extract (vs:= [NI 0,NI 0,NI 6]) rfl rfl (gS (Yk.extract (vs:= [NI 0,NI 0,NI 6]) rfl rfl (gS (Yk.extract (vs:= [NI 0,NI 0,NI 6]) rfl rfl (gS (Zv (a:=(6:Nat)) (b:=(0:Nat)) rfl rfl (AY _ _ _ _) (kT (by decide) (cT rfl (JD rfl (vr (AcU none 0 0) rfl) (vr (NI 0) rfl) (vr (.bool (false)) rfl) ?_))))))))));rw[Ch,hgx];have hE:=hE.trans o;exact⟨rfl,hE⟩
 have hqx:=CS (a:=i) (by omega) hgx;refine gS (Zx CM rfl rfl ((IA _ v D (hr.keep hE) (i) (by omega) x k hgx).mono ?_));rintro e z ⟨rfl,g⟩;refine⟨_,rfl,?_⟩;refine gS (Yk.extract (vs:= [NI x,NI ((i)+k),NI 0]) rfl rfl (gS (Yk.extract (vs:= [NI x,NI ((i)+k),NI 0]) rfl rfl (gS (Yk.extract (vs:= [NI x,NI ((i)+k),NI 0]) rfl rfl (gS (Zv (a:=(0:Nat)) (b:=(0:Nat)) rfl rfl (AY _ _ _ _) (kF (by decide) (cF rfl (gS (Zw (xv:=NI x) (yv:=NI 2) rfl rfl rfl (Ly _ _ _ (by omega) (by omega)) (gS (Zw (xv:=NI x) (yv:=NI 2) rfl rfl rfl (Hb _ _ _ (by omega)) (gS (Zv (a:=((x)%(2):Nat)) (b:=(1:Nat)) rfl rfl (AF _ _ _ _) ?_)))))))))))))));refine cD rfl (fun hodd=> ?_) fun hodd=> ?_
 ·rcases hgp:A6 0 (D.drop (i+k))with _ | ⟨p,m⟩
  ·have hE:=hE.trans g;refine gS (Zx CM rfl rfl ((Nd _ v D (hr.keep hE) ((i)+k) (by omega) hgp).mono ?_));rintro e aa ⟨rfl,q⟩;refine⟨_,rfl,?_⟩;refine gS (Yk.extract (vs:= [NI 0,NI 0,NI 6]) rfl rfl (gS (Yk.extract (vs:= [NI 0,NI 0,NI 6]) rfl rfl (gS (Yk.extract (vs:= [NI 0,NI 0,NI 6]) rfl rfl (gS (Zv (a:=(6:Nat)) (b:=(0:Nat)) rfl rfl (AY _ _ _ _) (kT (by decide) (cT rfl (JD rfl (vr (AcU none 0 0) rfl) (vr (NI 0) rfl) (vr (.bool (false)) rfl) ?_))))))))));rw[Ch,hgx];simp only;rw[if_pos hodd,hgp];have hE:=hE.trans q;refine⟨?_,hE⟩
   first | rfl | trivial
  have hqp:=CS (a:=i+k) (by omega) hgp;have hE:=hE.trans g;refine gS (Zx CM rfl rfl ((IA _ v D (hr.keep hE) ((i)+k) (by omega) p m hgp).mono ?_));rintro e ab ⟨rfl,j⟩;refine⟨_,rfl,?_⟩;refine gS (Yk.extract (vs:= [NI p,NI (((i)+k)+m),NI 0]) rfl rfl (gS (Yk.extract (vs:= [NI p,NI (((i)+k)+m),NI 0]) rfl rfl (gS (Yk.extract (vs:= [NI p,NI (((i)+k)+m),NI 0]) rfl rfl (gS (Zv (a:=(0:Nat)) (b:=(0:Nat)) rfl rfl (AY _ _ _ _) (kF (by decide) (cF rfl ?_)))))))));by_cases c:x/2<1
  ·refine gS (Zv (a:=((x)/(2):Nat)) (b:=(1:Nat)) rfl rfl (AI _ _ _ _) (kT (c) (gS (ZE rfl rfl (gS (ZE rfl rfl (cT rfl (JD rfl (vr (AcU none 0 0) rfl) (vr (NI 0) rfl) (vr (.bool (false)) rfl) ?_))))))));rw[Ch,hgx];simp only;rw[if_pos hodd,hgp];simp only;rw[Fa,if_pos (by omega)];have hE:=hE.trans j;refine⟨?_,hE⟩
   first | rfl | trivial
  by_cases f:B.length<p
  ·have hE:=hE.trans j;refine gS (Zv (a:=((x)/(2):Nat)) (b:=(1:Nat)) rfl rfl (AI _ _ _ _) (kF (c) (gS (ZF Gj (ZB (hrb.keep hE) rfl) (gS (Zv (a:=(p:Nat)) (b:=(B.length:Nat)) rfl rfl (Bh _ _ _ _) (kT (f) (gS (ZH rfl rfl (gS (ZE rfl rfl (cT rfl (JD rfl (vr (AcU none 0 0) rfl) (vr (NI 0) rfl) (vr (.bool (false)) rfl) ?_)))))))))))));rw[Ch,hgx];simp only;rw[if_pos hodd,hgp];simp only;rw[Fa,if_pos (by omega)];refine⟨?_,hE⟩
   first | rfl | trivial
  by_cases h:B.length-(p)<x/2
  ·have hE:=hE.trans j;refine gS (Zv (a:=((x)/(2):Nat)) (b:=(1:Nat)) rfl rfl (AI _ _ _ _) (kF (c) (gS (ZF Gj (ZB (hrb.keep hE) rfl) (gS (Zv (a:=(p:Nat)) (b:=(B.length:Nat)) rfl rfl (Bh _ _ _ _) (kF (f) (gS (ZH rfl rfl (gS (ZF Gj (ZB (hrb.keep hE) rfl) (gS (Zw (xv:=NI B.length) (yv:=NI p) rfl rfl rfl (BN _ _ _ (by omega) (by omega)) (gS (Zv (a:=((x)/(2):Nat)) (b:=((B.length)-(p):Nat)) rfl rfl (Bh _ _ _ _) (kT (h) (gS (ZH rfl rfl (cT rfl (JD rfl (vr (AcU none 0 0) rfl) (vr (NI 0) rfl) (vr (.bool (false)) rfl) ?_))))))))))))))))))));rw[Ch,hgx];simp only;rw[if_pos hodd,hgp];simp only;rw[Fa,if_pos (by omega)];refine⟨?_,hE⟩
   first | rfl | trivial
  have hE:=hE.trans j;refine gS (Zv (a:=((x)/(2):Nat)) (b:=(1:Nat)) rfl rfl (AI _ _ _ _) (kF (c) (gS (ZF Gj (ZB (hrb.keep hE) rfl) (gS (Zv (a:=(p:Nat)) (b:=(B.length:Nat)) rfl rfl (Bh _ _ _ _) (kF (f) (gS (ZH rfl rfl (gS (ZF Gj (ZB (hrb.keep hE) rfl) (gS (Zw (xv:=NI B.length) (yv:=NI p) rfl rfl rfl (BN _ _ _ (by omega) (by omega)) (gS (Zv (a:=((x)/(2):Nat)) (b:=((B.length)-(p):Nat)) rfl rfl (Bh _ _ _ _) (kF (h) (gS (ZH rfl rfl (cF rfl (gS (Zw (xv:=NI x) (yv:=NI 2) rfl rfl rfl (Hb _ _ _ (by omega)) (gS (Zv (a:=((x)%(2):Nat)) (b:=(0:Nat)) rfl rfl (AF _ _ _ _) (kF (by omega) (cF rfl (gS (Zw (xv:=NI p) (yv:=NI ((x)/(2))) rfl rfl rfl (Ag _ _ _ (by omega)) (gS (Aas (xs:=B) (l:=p) (n:=(p)+((x)/(2))) Gj Qq rfl (hrb.keep hE) rfl rfl (by omega) (by omega) fun r s ha44=>(JD rfl (vr r rfl) (vr (NI (((i)+k)+m)) rfl) (vr (.bool (true)) rfl) ?_))))))))))))))))))))))))))))));rw[Ch,hgx];simp only;rw[if_pos hodd,hgp];simp only;rw[Fa,if_neg (by omega)];refine⟨⟨_,rfl,?_⟩,hE⟩
  simpa only[AeX] using s
 by_cases c:x/2<1
 ·refine gS (Zv (a:=((x)/(2):Nat)) (b:=(1:Nat)) rfl rfl (AI _ _ _ _) (kT (c) (gS (ZE rfl rfl (gS (ZE rfl rfl (cT rfl (JD rfl (vr (AcU none 0 0) rfl) (vr (NI 0) rfl) (vr (.bool (false)) rfl) ?_))))))));rw[Ch,hgx];simp only;rw[if_neg hodd];rw[Fa,if_pos (by omega)];have hE:=hE.trans g;refine⟨?_,hE⟩
  first | rfl | trivial
 by_cases f:D.length<i+k
 ·have hE:=hE.trans g;refine gS (Zv (a:=((x)/(2):Nat)) (b:=(1:Nat)) rfl rfl (AI _ _ _ _) (kF (c) (gS (ZF Gj (ZB (hr.keep hE) rfl) (gS (Zv (a:=((i)+k:Nat)) (b:=(D.length:Nat)) rfl rfl (Bh _ _ _ _) (kT (f) (gS (ZH rfl rfl (gS (ZE rfl rfl (cT rfl (JD rfl (vr (AcU none 0 0) rfl) (vr (NI 0) rfl) (vr (.bool (false)) rfl) ?_)))))))))))));rw[Ch,hgx];simp only;rw[if_neg hodd];rw[Fa,if_pos (by omega)];refine⟨?_,hE⟩
  first | rfl | trivial
 by_cases h:D.length-(i+k)<x/2
 ·have hE:=hE.trans g;refine gS (Zv (a:=((x)/(2):Nat)) (b:=(1:Nat)) rfl rfl (AI _ _ _ _) (kF (c) (gS (ZF Gj (ZB (hr.keep hE) rfl) (gS (Zv (a:=((i)+k:Nat)) (b:=(D.length:Nat)) rfl rfl (Bh _ _ _ _) (kF (f) (gS (ZH rfl rfl (gS (ZF Gj (ZB (hr.keep hE) rfl) (gS (Zw (xv:=NI D.length) (yv:=NI ((i)+k)) rfl rfl rfl (BN _ _ _ (by omega) (by omega)) (gS (Zv (a:=((x)/(2):Nat)) (b:=((D.length)-((i)+k):Nat)) rfl rfl (Bh _ _ _ _) (kT (h) (gS (ZH rfl rfl (cT rfl (JD rfl (vr (AcU none 0 0) rfl) (vr (NI 0) rfl) (vr (.bool (false)) rfl) ?_))))))))))))))))))));rw[Ch,hgx];simp only;rw[if_neg hodd];rw[Fa,if_pos (by omega)];refine⟨?_,hE⟩
  first | rfl | trivial
 have hE:=hE.trans g;refine gS (Zv (a:=((x)/(2):Nat)) (b:=(1:Nat)) rfl rfl (AI _ _ _ _) (kF (c) (gS (ZF Gj (ZB (hr.keep hE) rfl) (gS (Zv (a:=((i)+k:Nat)) (b:=(D.length:Nat)) rfl rfl (Bh _ _ _ _) (kF (f) (gS (ZH rfl rfl (gS (ZF Gj (ZB (hr.keep hE) rfl) (gS (Zw (xv:=NI D.length) (yv:=NI ((i)+k)) rfl rfl rfl (BN _ _ _ (by omega) (by omega)) (gS (Zv (a:=((x)/(2):Nat)) (b:=((D.length)-((i)+k):Nat)) rfl rfl (Bh _ _ _ _) (kF (h) (gS (ZH rfl rfl (cF rfl (gS (Zw (xv:=NI x) (yv:=NI 2) rfl rfl rfl (Hb _ _ _ (by omega)) (gS (Zv (a:=((x)%(2):Nat)) (b:=(0:Nat)) rfl rfl (AF _ _ _ _) (kT (by omega) (cT rfl (gS (Zw (xv:=NI ((i)+k)) (yv:=NI ((x)/(2))) rfl rfl rfl (Ag _ _ _ (by omega)) (gS (Zw (xv:=NI ((i)+k)) (yv:=NI ((x)/(2))) rfl rfl rfl (Ag _ _ _ (by omega)) (gS (Aas (xs:=D) (l:=(i)+k) (n:=((i)+k)+((x)/(2))) Gj Qq rfl (hr.keep hE) rfl rfl (by omega) (by omega) fun t u ha61=>(JD rfl (vr t rfl) (vr (NI (((i)+k)+((x)/(2)))) rfl) (vr (.bool (true)) rfl) ?_))))))))))))))))))))))))))))))));rw[Ch,hgx];simp only;rw[if_neg hodd];rw[Fa,if_neg (by omega)];refine⟨⟨_,rfl,?_⟩,hE⟩
 simpa only[AeX] using u
theorem JH:Plain AcM 211:=fun _ _=>by kernel_rfl
theorem JI:Plain AcM 212:=fun _ _=>by kernel_rfl
theorem Uy(w:AcK)(vb v:AcJ)(B D:List UInt8)(hrb:RB w vb B)(hr:RB w v D)(i:Nat)(hi:i≤D.length)(hB:B.length≤1048576)(hD:D.length≤4611686018427387904)(h:Ch B D i=none):
  Calls AcM 212 #[vb,v,NI i] w fun e w' =>e = .returned (.tuple #[.slice none 0 0,NI 0, .bool false])∧Ext w w' :=by
 have:=Mc w vb v B D hrb hr i hi hB hD;rw[h]at this;exact this
theorem Su(w:AcK)(vb v:AcJ)(B D:List UInt8)(hrb:RB w vb B)(hr:RB w v D)(i:Nat)(hi:i≤D.length)(hB:B.length≤1048576)(hD:D.length≤4611686018427387904)(b:List UInt8)(nx:Nat)(h:Ch B D i=some (b,nx)):
  Calls AcM 212 #[vb,v,NI i] w fun e w' =>∃v',e = .returned (.tuple #[v',NI nx, .bool true])∧RB w' v' b∧Ext w w' :=by
 have:=Mc w vb v B D hrb hr i hi hB hD;rw[h]at this;exact this.mono fun e w' ⟨⟨v',h1,h2⟩,h3⟩=>⟨v',h1,h2,h3⟩

theorem Sv(w:AcK)(vb v:AcJ)(B D:List UInt8)(hrb:RB w vb B)(hr:RB w v D)(hB:B.length≤1048576)(hD:D.length≤4611686018427387904):
  Calls AcM 173 #[vb,v] w fun e w' =>∃v',e = .returned (.tuple #[v',NI (A9 B D).2])∧RB w' v' (A9 B D).1∧Ext w w' ∧∀k,AcT v' =some k→w.heap.size≤k∧k<w'.heap.size:=by
 refine gG (args:= [vb,v]) Tryz.func173 rfl 65 rfl rfl ?_;have hE:=Ext.refl w;rcases hsz:DS D with _ | ⟨sa,sb,sn⟩
 ·refine gS (ZA JH rfl ((Ux _ v D (hr.keep hE) hsz).mono ?_));rintro e w4 ⟨rfl,aa⟩;refine⟨_,rfl,?_⟩;refine gS (Yk.extract (vs:= [NI 0,NI 0,NI 0,NI 6]) rfl rfl (gS (Yk.extract (vs:= [NI 0,NI 0,NI 0,NI 6]) rfl rfl (gS (Yk.extract (vs:= [NI 0,NI 0,NI 0,NI 6]) rfl rfl (gS (Yk.extract (vs:= [NI 0,NI 0,NI 0,NI 6]) rfl rfl (gS (Zv (a:=(6:Nat)) (b:=(0:Nat)) rfl rfl (AY _ _ _ _) (kT (by decide) (cT rfl (BF rfl (vr (AcU none 0 0) rfl) (vr (NI 6) rfl) ?_))))))))))));have hP:A9 B D=([],6):=by rw[A9,hsz]
  rw[hP];have hE:=hE.trans aa;exact⟨_,rfl,RB.nil _,hE,(fun k hk=>by cases hk)⟩
 have hsb:=NG hsz;refine gS (ZA JH rfl ((Ss _ v D (hr.keep hE) sa sb sn hsz).mono ?_));rintro e ab ⟨rfl,x⟩;refine⟨_,rfl,?_⟩;refine gS (Yk.extract (vs:= [NI sa,NI sb,NI sn,NI 0]) rfl rfl (gS (Yk.extract (vs:= [NI sa,NI sb,NI sn,NI 0]) rfl rfl (gS (Yk.extract (vs:= [NI sa,NI sb,NI sn,NI 0]) rfl rfl (gS (Yk.extract (vs:= [NI sa,NI sb,NI sn,NI 0]) rfl rfl (gS (Zv (a:=(0:Nat)) (b:=(0:Nat)) rfl rfl (AY _ _ _ _) (kF (by decide) (cF rfl (gS (Zv (a:=(sb:Nat)) (b:=(262144:Nat)) rfl rfl (Bh _ _ _ _) ?_)))))))))))));refine cD rfl (fun c=> ?_) fun c=> ?_
 ·refine BF rfl (vr (AcU none 0 0) rfl) (vr (NI 2) rfl) ?_;have hP:A9 B D=([],2):=by rw[A9,hsz];simp only;rw[if_pos c]
  rw[hP];have hE:=hE.trans x;exact⟨_,rfl,RB.nil _,hE,(fun k hk=>by cases hk)⟩
 have hE:=hE.trans x;refine gS (ZF Gj (ZB (hrb.keep hE) rfl) (gS (Zv (a:=(sa:Nat)) (b:=(B.length:Nat)) rfl rfl (AY _ _ _ _) ?_)));refine cD rfl (fun g=> ?_) fun g=> ?_
 ·refine BF rfl (vr (AcU none 0 0) rfl) (vr (NI 6) rfl) ?_;have hP:A9 B D=([],6):=by rw[A9,hsz];simp only;rw[if_neg c,if_pos g]
  rw[hP];exact⟨_,rfl,RB.nil _,hE,(fun k hk=>by cases hk)⟩
 have hoN:w.ownsRow w.heap.size 5 1 (AcU none 0 0) ([]:List UInt8).length (AcL ([]:List UInt8)):=AdK _ _ _ 1;have hoN:ab.ownsRow w.heap.size 5 1 (AcU none 0 0) ([]:List UInt8).length (AcL ([]:List UInt8)):=AdK _ _ _ 1;refine gL (fun(ρ:Ad) (wz:AcK)=>∃i:Nat,∃f:Nat,∃o:List UInt8,∃vo:AcJ,ρ 0=(vb:AcJ)∧ρ 1=(v:AcJ)∧ρ 6=(NI sa:AcJ)∧ρ 7=(NI sb:AcJ)∧ρ 9=(NI 0:AcJ)∧ρ 21=(.bool (false):AcJ)∧ρ 8=(NI i:AcJ)∧ρ 10=(vo:AcJ)∧Ext w wz∧wz.ownsRow w.heap.size 5 1 vo o.length (AcL (o))∧(Cs B D sb f i o=Cs B D sb (D.length+1) sn [])∧(D.length<i+f)∧(i≤D.length)∧(o.length≤sb)∧True) (fun ρ _=>D.length-(intOf (ρ 8)).toNat) ⟨sn,D.length+1,[],(AcU none 0 0),rfl,rfl,rfl,rfl,rfl,rfl,rfl,rfl,hE,Dq hoN (rfl),rfl,by omega,by omega,by simp,trivial⟩ ?_;clear hoN;clear hE;rintro ac al ⟨i,f,o,vo,p,l,T6,q,T9,af,m,j,hE,ho_vo,hgo,hf,hi,hos,-⟩;have q8:=m;have ql10:=E5 ho_vo;obtain⟨f',rfl⟩:∃f',f=f' +1:=⟨f-1,by omega⟩;refine gS (ZF Gj (ZB (hr.keep hE) l) (gS (Zv (a:=(i:Nat)) (b:=(D.length:Nat)) m rfl (AI _ _ _ _) ?_)));refine cD rfl (fun h=> ?_) fun h=> ?_
 ·rcases hpc:Ch B D i with _ | ⟨pb,nx⟩
  ·refine gS (ZV JI p l m ((Uy _ vb v B D (hrb.keep hE) (hr.keep hE) i (by omega) hB hD hpc).mono ?_));rintro e am ⟨rfl,ag⟩;refine⟨_,rfl,?_⟩;refine gS (Yk.extract (vs:= [(AcU none 0 0),NI 0, .bool (false)]) rfl rfl (gS (Yk.extract (vs:= [(AcU none 0 0),NI 0, .bool (false)]) rfl rfl (gS (Yk.extract (vs:= [(AcU none 0 0),NI 0, .bool (false)]) rfl rfl (gS (Z9 rfl (gS (ZE rfl rfl (cT rfl (BF rfl (vr (AcU none 0 0) rfl) (vr (NI 6) rfl) ?_)))))))))));rw[Cs,if_pos h,hpc]at hgo;have hP:A9 B D=([],6):=by rw[A9,hsz];simp only;rw[if_neg c,if_neg g,←hgo]
   rw[hP];have hE:=hE.trans ag;exact⟨_,rfl,RB.nil _,hE,(fun k hk=>by cases hk)⟩
  have hpb:=NH (by omega) hpc;refine gS (ZV JI p l m ((Su _ vb v B D (hrb.keep hE) (hr.keep hE) i (by omega) hB hD pb nx hpc).mono ?_));rintro e ah ⟨n,rfl,r,s⟩;refine⟨_,rfl,?_⟩;have ho_vo:=Stab.own _ _ _ _ _ _ _ _ ho_vo s;refine gS (Yk.extract (vs:= [n,NI nx, .bool (true)]) rfl rfl (gS (Yk.extract (vs:= [n,NI nx, .bool (true)]) rfl rfl (gS (Yk.extract (vs:= [n,NI nx, .bool (true)]) rfl rfl (gS (Z9 rfl (gS (ZF Gj (ZB r rfl) (gS (ZF Gj (ZB (ZP ho_vo) j) (gS (Zw (xv:=NI sb) (yv:=NI o.length) q rfl rfl (BN _ _ _ (by omega) (by omega)) (gS (Zv (a:=(pb.length:Nat)) (b:=((sb)-(o.length):Nat)) rfl rfl (Bh _ _ _ _) (gS (ZH rfl rfl ?_)))))))))))))))));refine cD rfl (fun t=> ?_) fun t=> ?_
  ·refine BF rfl (vr (AcU none 0 0) rfl) (vr (NI 6) rfl) ?_;rw[Cs,if_pos h,hpc]at hgo;simp only at hgo;rw[if_pos t]at hgo;have hP:A9 B D=([],6):=by rw[A9,hsz];simp only;rw[if_neg c,if_neg g,←hgo]
   rw[hP];have hE:=hE.trans s;exact⟨_,rfl,RB.nil _,hE,(fun k hk=>by cases hk)⟩
  have hE:=hE.trans s;refine gS (ZW _ _ w.heap.size (.int .u8 0) Gj Nc rfl Gj (o) (pb) (C3 ho_vo j) (ZB r (vr n rfl)) (by omega) hE.size fun y ai aj u=> ?_);have u:Grew ah ai vo y:= .eqv j u;have hE:=Aq hE u ho_vo (AcP _);clear r;clear ho_vo;refine gK (Adr ⟨nx,f',o++pb,y,p,l,T6,q,T9,af,rfl,rfl,hE,Dq aj (rfl),by rw[Cs,if_pos h,hpc]at hgo;simp only at hgo;rw[if_neg t]at hgo;exact hgo,by omega,by omega,by rw[AcQ];omega,trivial⟩ ?_);show D.length-(intOf (NI nx)).toNat<D.length-(intOf (ac 8)).toNat;rw[q8];simp only[intOf,Ac0];omega
 refine gS (ZF Gj (ZB (ZP ho_vo) j) (gS (Zv (a:=(o.length:Nat)) (b:=(sb:Nat)) rfl q (AY _ _ _ _) ?_)));refine cD rfl (fun z=> ?_) fun z=> ?_
 ·refine BF rfl (vr (AcU none 0 0) rfl) (vr (NI 6) rfl) ?_;rw[Cs,if_neg h,if_neg z]at hgo;have hP:A9 B D=([],6):=by rw[A9,hsz];simp only;rw[if_neg c,if_neg g,←hgo]
  rw[hP];exact⟨_,rfl,RB.nil _,hE,(fun k hk=>by cases hk)⟩
 refine BF rfl j (vr (NI 0) rfl) ?_;rw[Cs,if_neg h,if_pos (by omega)]at hgo;have hP:A9 B D=(o,0):=by rw[A9,hsz];simp only;rw[if_neg c,if_neg g,←hgo]
 rw[hP];exact⟨_,rfl,ZP ho_vo,hE,(ho_vo).lt⟩

theorem IE(T:List UInt8)(fr to:Nat)(o:List UInt8):∃r,Cr T fr to o=o++r:=by
  unfold Cr;split
  · exact⟨Ac4 (2*(to-fr))++(T.drop fr).take (to-fr),by rw[Adn]⟩
  · exact⟨[],by simp⟩
theorem IF(B T:List UInt8):∀(f i fr:Nat) (o:List UInt8),∃r,De B T f i fr o=o++r
  | 0,_,fr,o=>IE T fr T.length o
  | f+1,i,fr,o=>by
    unfold De;split
    · split
      · exact IF B T f _ _ _
      · obtain⟨r,hr⟩:=IF B T f (i+(BY B T i).2) (i+(BY B T i).2) (Cr T fr i o++Ac4 (2*(BY B T i).2+1)++Ac4 (BY B T i).1);obtain⟨q,hq⟩:=IE T fr i o;exact⟨q++Ac4 (2*(BY B T i).2+1)++Ac4 (BY B T i).1++r,by rw[hr,hq];simp only[Adn]⟩
    · exact IE T fr T.length o
theorem Ed(n:Nat)(h:n<9223372036854775808)(r:List UInt8):A6 0 (Ac4 n++r)=some (n,(Ac4 n).length):=Hd r 8 n 0 (AdE h (by decide)) (by omega) (by omega)
theorem O5(B T:List UInt8)(hB:B.length≤1048576)(hT:T.length≤1048576):DS (B2 B T)=some (B.length,T.length,0+(Ac4 B.length).length+(Ac4 T.length).length):=by
  obtain⟨r,hr⟩:=IF B T T.length 0 0 (Ac4 B.length++Ac4 T.length);have h1:B2 B T=Ac4 B.length++(Ac4 T.length++r):=by rw[B2,hr,Adn]
  unfold DS;rw[h1,Afg,Ed _ (by omega)];simp only;rw[Ad4,AeM,Ed _ (by omega)]
theorem PI(B T:List UInt8)(i:Nat)(hi:i≤T.length):∀(zs:List Nat) (pn:Nat × Nat),(∀z∈zs,z≤B.length)→pn.1≤B.length→pn.2≤T.length-i→(zs.foldl (Et B T i) pn).1≤B.length∧(zs.foldl (Et B T i) pn).2≤T.length-i
  | [],_,_,h1,h2=>⟨h1,h2⟩
  | z :: zs,pn,hz,h1,h2=>by
    rw[AfP];refine PI B T i hi zs _ (fun x hx=>hz x (by simp[hx])) ?_ ?_
    · unfold Et;split
      · exact hz z (by simp)
      · exact h1
    · unfold Et;split
      · have:=(KI (B.drop z) (T.drop i)).2;rw[Ac5]at this;exact this
      · exact h2
theorem PJ(B T:List UInt8)(i:Nat)(hi:i≤T.length):(BY B T i).1≤B.length∧(BY B T i).2≤T.length-i:=by
  unfold BY;split
  · refine PI B T i hi _ _ (fun z hz=> ?_) (Adm _) (Adm _);unfold posOf at hz;rw[Aes,AgG]at hz;omega
  · exact⟨Adm _,Adm _⟩
theorem NJ:∀(a b:List UInt8) (n:Nat),n≤CR a b→a.take n=b.take n
  | _,_,0,_=>by simp
  | [],b,n+1,h=>by simp[CR]at h
  | a :: u,[],n+1,h=>by simp[CR]at h
  | a :: u,b :: z,n+1,h=>by
    unfold CR at h;split at h
    · rename_i e
      rw[AfJ,AfJ,e,NJ u z n (by omega)]
    · omega
theorem Sw:∀(n:Nat) (a b:List UInt8),n≤a.length→n≤b.length→a.take n=b.take n→n≤CR a b
  | 0,_,_,_,_,_=>Adm _
  | n+1,[],_,h,_,_=>by simp at h
  | n+1,_ :: _,[],_,h,_=>by simp at h
  | n+1,a :: u,b :: z,h1,h2,h=>by
    rw[AfJ,AfJ]at h;injection h with c e
    unfold CR;rw[if_pos c];have:=Sw n u z (by simpa using h1) (by simpa using h2) e;omega
theorem PK(B T:List UInt8)(i:Nat):∀(zs:List Nat) (pn:Nat × Nat),(pn.2=0∨pn.2=CR (B.drop pn.1) (T.drop i)∧8≤pn.2)→(∀z∈zs,8≤CR (B.drop z) (T.drop i))→(zs.foldl (Et B T i) pn).2=0∨(zs.foldl (Et B T i) pn).2=CR (B.drop (zs.foldl (Et B T i) pn).1) (T.drop i)∧8≤(zs.foldl (Et B T i) pn).2
  | [],_,h,_=>h
  | z :: zs,pn,h,hz=>by
    rw[AfP];refine PK B T i zs _ ?_ (fun x hx=>hz x (by simp[hx]));unfold Et;split
    · exact .inr ⟨rfl,hz z (by simp)⟩
    · exact h
theorem PL(B T:List UInt8)(i:Nat)(h:(BY B T i).2≠0):(BY B T i).2=CR (B.drop (BY B T i).1) (T.drop i)∧8≤(BY B T i).2:=by
  have key:(BY B T i).2=0∨(BY B T i).2=CR (B.drop (BY B T i).1) (T.drop i)∧8≤(BY B T i).2:=by
    unfold BY;split
    · rename_i h8
      refine PK B T i _ _ (.inl rfl) (fun z hz=> ?_);unfold posOf at hz;rw[Aes,AgG]at hz;have he:=eq_of_beq hz.2;exact Sw 8 _ _ (by rw[Ac5];omega) (by rw[Ac5];omega) he
    · exact .inl rfl
  exact key.resolve_left h
def Ci(T:List UInt8)(fr to:Nat):List UInt8:=if fr<to then Ac4 (2*(to-fr))++(T.drop fr).take (to-fr)else []
def EP(B T:List UInt8):Nat→Nat→Nat→List UInt8
  | 0,_,fr=>Ci T fr T.length
  | f+1,i,fr=>if i<T.length then(if(BY B T i).2=0 then EP B T f (i+1) fr
      else Ci T fr i++(Ac4 (2*(BY B T i).2+1)++(Ac4 (BY B T i).1++EP B T f (i+(BY B T i).2) (i+(BY B T i).2))))else Ci T fr T.length
theorem J6(T:List UInt8)(fr to:Nat)(o:List UInt8):Cr T fr to o=o++Ci T fr to:=by
  unfold Cr Ci;split
  · rw[Adn]
  · simp
theorem J7(B T:List UInt8):∀(f i fr:Nat) (o:List UInt8),De B T f i fr o=o++EP B T f i fr
  | 0,_,fr,o=>J6 T fr T.length o
  | f+1,i,fr,o=>by
    unfold De EP;split
    · split
      · exact J7 B T f _ _ _
      · rw[J7 B T f,J6];simp only[Adn]
    · exact J6 T fr T.length o
theorem Sx(n:Nat)(h:n<16384):(Ac4 n).length≤2:=Lib.uvarint_length 1 n (by omega)
theorem HM(T:List UInt8)(fr to:Nat)(ht:to≤T.length)(hT:T.length≤5000):(Ci T fr to).length≤2*(to-fr):=by
  unfold Ci;split
  · have h2:=Sx (2*(to-fr)) (by omega);rw[AcQ,Ac8,Ac5];by_cases h1:to-fr=1
    · rw[h1,Af4 (by omega)];simp;omega
    · omega
  · simp
theorem IG(B T:List UInt8)(hB:B.length≤5000)(hT:T.length≤5000):∀(f i fr:Nat),fr≤i→i≤T.length→(EP B T f i fr).length≤2*(T.length-fr)
  | 0,i,fr,_,_=>HM T fr T.length (AcP _) hT
  | f+1,i,fr,h,hi=>by
    unfold EP;split
    · split
      · exact IG B T hB hT f (i+1) fr (by omega) (by omega)
      · rename_i h1 hn
        have hb:=PJ B T i hi;have h8:=(PL B T i hn).2;have ih:=IG B T hB hT f (i+(BY B T i).2) (i+(BY B T i).2) (AcP _) (by omega);have hf:=HM T fr i hi hT;have a:=Sx (2*(BY B T i).2+1) (by omega);have b:=Sx (BY B T i).1 (by omega);simp only[AcQ];omega
    · exact HM T fr T.length (AcP _) hT
theorem PM(B T:List UInt8):B2 B T=Ac4 B.length++Ac4 T.length++EP B T T.length 0 0:=J7 B T _ _ _ _
theorem IH(B T:List UInt8)(hB:B.length≤5000)(hT:T.length≤5000):(B2 B T).length≤2*T.length+18:=by
  have:=IG B T hB hT T.length 0 0 (AcP _) (Adm _);have a:=Sx B.length (by omega);have b:=Sx T.length (by omega);rw[PM,AcQ,AcQ];omega
theorem Sz(B pre bs rest:List UInt8)(h1:1≤bs.length)(h2:bs.length≤1048576):Ch B (pre++(Ac4 (2*bs.length)++(bs++rest))) pre.length=some (bs,pre.length+(Ac4 (2*bs.length)).length+bs.length):=by
  unfold Ch;rw[AeM,Ed _ (by omega)];simp only;rw[if_neg (by omega),Fa,if_neg (by simp only[AcQ];omega),Nat.mul_div_cancel_left _ (by decide)];rw[show pre++(Ac4 (2*bs.length)++(bs++rest))=(pre++Ac4 (2*bs.length))++(bs++rest) by rw[Adn],←AcQ,AeM,Ae8]
theorem QK(B pre rest:List UInt8)(p n:Nat)(hn:1≤n)(hp:p≤B.length)(hpn:n≤B.length-p)(hB:B.length≤1048576):Ch B (pre++(Ac4 (2*n+1)++(Ac4 p++rest))) pre.length=some ((B.drop p).take n,pre.length+(Ac4 (2*n+1)).length+(Ac4 p).length):=by
  unfold Ch;rw[AeM,Ed _ (by omega)];simp only;rw[if_pos (by omega),show pre++(Ac4 (2*n+1)++(Ac4 p++rest))=(pre++Ac4 (2*n+1))++(Ac4 p++rest) by rw[Adn],←AcQ,AeM,Ed _ (by omega)];simp only;rw[show(2*n+1)/2=n by omega,Fa,if_neg (by omega)]
theorem Md(T:List UInt8)(fr to:Nat)(h:fr≤to):T.take fr++(T.drop fr).take (to-fr)=T.take to:=by
  rw[←List.take_add]
  congr 1
  omega
theorem KO(B T pre rest:List UInt8)(fr to:Nat)(h:fr≤to)(ht:to≤T.length)(hT:T.length≤1048576)(g:Nat)(hg:(Ci T fr to++rest).length<g):∃g',rest.length<g' ∧Cs B (pre++(Ci T fr to++rest)) T.length g pre.length (T.take fr)=Cs B (pre++(Ci T fr to++rest)) T.length g' (pre++Ci T fr to).length (T.take to):=by
  by_cases hlt:fr<to
  · have hl:((T.drop fr).take (to-fr)).length=to-fr:=by rw[Ac8,Ac5];omega
    have hf:Ci T fr to=Ac4 (2*((T.drop fr).take (to-fr)).length)++(T.drop fr).take (to-fr):=by rw[Ci,if_pos hlt,hl]
    have hfl:1≤(Ci T fr to).length:=by rw[hf,AcQ,hl];omega
    cases g with
    | zero=>omega
    | succ g=>
      refine⟨g,by rw[AcQ]at hg;omega,?_⟩;rw[Cs,if_pos (by simp only[AcQ];omega)];have hp:=Sz B pre ((T.drop fr).take (to-fr)) rest (by omega) (by omega);rw[show pre++(Ci T fr to++rest)=pre++(Ac4 (2*((T.drop fr).take (to-fr)).length)++((T.drop fr).take (to-fr)++rest)) by rw[hf,Adn],hp];simp only;rw[if_neg (by rw[hl,Ac8];omega),Md T fr to h]
      congr 1
      rw[hf];simp only[AcQ];omega
  · have he:fr=to:=by omega
    subst he;have hf:Ci T fr fr= []:=by rw[Ci,if_neg (by omega)]
    rw[hf]at hg ⊢;exact⟨g,by simpa using hg,by simp⟩
theorem O6(B D T:List UInt8)(g:Nat)(hg:0<g):Cs B D T.length g D.length (T.take T.length)=some T:=by
  cases g with
  | zero=>omega
  | succ g=>rw[Cs,if_neg (by omega),Ad6,if_pos rfl]
theorem Me(B T pre:List UInt8)(fr:Nat)(h:fr≤T.length)(hT:T.length≤1048576)(g:Nat)(hg:(Ci T fr T.length).length<g):Cs B (pre++Ci T fr T.length) T.length g pre.length (T.take fr)=some T:=by
  obtain⟨g',h1,h2⟩:=KO B T pre [] fr T.length h (AcP _) hT g (by simpa using hg);rw[AeA]at h2;rw[h2];exact O6 B _ T g' (by omega)
theorem II(B T:List UInt8)(hB:B.length≤1048576)(hT:T.length≤1048576):∀(f i fr:Nat) (pre:List UInt8) (g:Nat),fr≤i→i≤T.length→(EP B T f i fr).length<g→Cs B (pre++EP B T f i fr) T.length g pre.length (T.take fr)=some T
  | 0,i,fr,pre,g,h1,h2,hg=>Me B T pre fr (by omega) hT g hg
  | f+1,i,fr,pre,g,h1,h2,hg=>by
    unfold EP at hg ⊢;split
    · rename_i hi
      rw[if_pos hi]at hg;split
      · rename_i hn
        rw[if_pos hn]at hg;exact II B T hB hT f (i+1) fr pre g (by omega) (by omega) hg
      · rename_i hn
        rw[if_neg hn]at hg;have hb:=PJ B T i h2;have hs:=PL B T i hn
        generalize BY B T i=pn at *
        obtain⟨p,n⟩:=pn;simp only at hn hb hs hg ⊢;have hpn:=(KI (B.drop p) (T.drop i)).1;rw[Ac5]at hpn;obtain⟨g',h3,h4⟩:=KO B T pre (Ac4 (2*n+1)++(Ac4 p++EP B T f (i+n) (i+n))) fr i h1 h2 hT g hg;rw[h4];have hu:=Lib.uvarint_pos (2*n+1);cases g' with
        | zero=>omega
        | succ g' =>
          rw[←Adn pre,Cs,if_pos (by simp only[AcQ];omega),QK B (pre++Ci T fr i) _ p n (by omega) hb.1 (by omega) hB];simp only;have hl:((B.drop p).take n).length=n:=by rw[Ac8,Ac5];omega
          rw[if_neg (by rw[hl,Ac8];omega),NJ (B.drop p) (T.drop i) n (by omega)];have ht:T.take i++(T.drop i).take n=T.take (i+n):=by
            have:=Md T i (i+n) (by omega)
            rwa [AeX]at this
          rw[ht];have ih:=II B T hB hT f (i+n) (i+n) (pre++Ci T fr i++Ac4 (2*n+1)++Ac4 p) g' (AcP _) (by omega) (by simp only[AcQ]at h3;omega);rw[←ih];simp only[Adn,AcQ,Ae2]
    · rename_i hi
      rw[if_neg hi]at hg;exact Me B T pre fr (by omega) hT g hg
theorem QL(B T:List UInt8)(hB:B.length≤5000)(hT:T.length≤5000):A9 B (B2 B T)=(T,0):=by
  unfold A9;rw[O5 B T (by omega) (by omega)];simp only;rw[if_neg (by omega),if_neg (by simp),PM,Ad4,←AcQ];have:=II B T (by omega) (by omega) T.length 0 0 (Ac4 B.length++Ac4 T.length) ((Ac4 B.length++Ac4 T.length++EP B T T.length 0 0).length+1) (AcP _) (Adm _) (by simp only[AcQ];omega);rw[List.take_zero]at this;rw[this]
theorem Abi(n i:Nat)(h:i<8):(Sha.be64 n).take (i+1)=(Sha.be64 n).take i++ [AdQ (n/2^(56-8*i))]:=by
 unfold Sha.be64;rw[Adi (by simp;omega)];simp
def HashAt(w:AcK)(g:Nat)(p:List UInt8):Prop:=∃s r,Sha.At p s r∧w.heap[g]? =some (.cells (hashL s r (p.length%64) p.length).toArray 226 (0,0))
theorem HashAt.keep{w w' :AcK}{g:Nat}{p:List UInt8}(h:HashAt w g p)(k:Ext w w'):HashAt w' g p:=by
  obtain⟨s,r,h1,h2⟩:=h;exact⟨s,r,h1,eb k h2⟩
theorem sha6_ty147:Tryz.prog.underlying 147=some (.pointer 226):=by kernel_rfl
theorem sha6_fo226_3:AV AcM 226 3 73:=fun b o w=>by simp[go_sem]
theorem IJ:AV AcM 226 1 8:=fun b o w=>by simp[go_sem]
theorem Ee:AV AcM 226 2 72:=fun b o w=>by simp[go_sem]
theorem KP:Tryz.prog.underlying 224=some (.array 64 5):=by kernel_rfl
theorem IK:AV AcM 226 0 0:=fun b o w=>by simp[go_sem]
theorem QM:Plain AcM 137:=fun _ _=>by kernel_rfl
theorem WP(w:AcK)(hG:Laid w):
    Calls AcM 81 #[] w fun e w' =>∃g,e = .returned (PQ g 0)∧w.heap.size≤g∧HashAt w' g []∧Ext w w' :=by
  obtain⟨tF,fF,hF0⟩:=hG.first;refine gG (args:= []) Tryz.func81 rfl 4 rfl rfl ?_;have hE:=Ext.refl w;refine gS (Zz rfl (eb hE hF0) AS rfl DW (gS (Yk.run (v:= .agg (hashL Sha.first (AcX 64 0) 0 0).toArray) (by kernel_rfl) (gS (Yk.box (vr (.agg (hashL Sha.first (AcX 64 0) 0 0).toArray) rfl) fun a c i b f j=> ?_)))));have h:=b;clear b;have k:a<c.heap.size:=by omega
  refine Bb rfl (vr (PQ a 0) rfl) ?_;have hE:=hE.trans f;exact⟨_,rfl,by omega,⟨_,_,Sha.at_nil,h⟩,hE⟩

theorem Mf(w:AcK)(hG:Laid w)(g:Nat)(hh:1<g)(p:List UInt8)(hH:HashAt w g p)(v:AcJ)(c:List UInt8)(hc:RB w v c)(hv:v.ownBlock≠some g)(hb:p.length+c.length<4611686018427387904):
    Calls AcM 82 #[PQ g 0,v] w fun e w' =>e = .returned (.tuple #[])∧HashAt w' g (p++c)∧w.grownBy w' (some g):=by
  obtain⟨s,r,hat,u⟩:=hH;have hs:=hat.slen;have hr:=hat.len;obtain⟨f,hf⟩:∃f,f=p.length%64:=⟨_,rfl⟩;rw[←hf]at u;obtain⟨N,hN⟩:∃N,p.length+c.length=N:=⟨_,rfl⟩;have hgr:w.grownBy w (some g):=Aef _ _;refine gG (args:= [PQ g 0,v]) Tryz.func82 rfl 60 rfl rfl (gS (ZR sha6_ty147 rfl (cF rfl (gS (Yk.nilCheck rfl (gS (Yk.fieldAt sha6_fo226_3 rfl (gS (Zu Uo rfl rfl (cellAt u (hashL_size hs hr)) (gS (ZF Gj (ZB hc rfl) (gS (Zw (xv:=NI p.length) (yv:=NI c.length) rfl rfl rfl (Ag _ _ _ (by omega)) (gS (Yk.nilCheck rfl (gS (Yk.fieldAt sha6_fo226_3 rfl (gS (ZK (i:=73) (v:=NI ((p.length)+(c.length))) rfl rfl u (by rw[Cy hs hr];omega) NC rfl rfl fun w4 ay al b2=> ?_)))))))))))))))))));have hG:Laid w4:=Laid.kept hG al hh;have hgr:w.grownBy w4 (some g):=Am hgr al (fun _ e=> .inl e);clear u;have u:=ay;clear ay;have b3:=bl u;have u:w4.heap[g]? =some (.cells (hashL s r f N).toArray 226 (0,0)):=A1 u (by rw[Ii hs hr,hN]);have hc:=RB.kept hc al (.inr hv);refine gL (fun(ρ:Ad) (wz:AcK)=>∃m:Nat,∃s1:List UInt32,∃r1:List UInt8,∃f1:Nat,∃v1:AcJ,ρ 0=(PQ g 0:AcJ)∧ρ 6=(.bool (false):AcJ)∧ρ 1=(v1:AcJ)∧Laid wz∧w.grownBy wz (some g)∧RB wz v1 (c.drop m)∧wz.heap[g]? =some (.cells (hashL s1 r1 f1 N).toArray 226 (0,0))∧(m≤c.length)∧(Sha.At (p++c.take m) s1 r1)∧(f1=(p++c.take m).length%64)∧(OB v1 g)∧True) (fun ρ _=>BI (ρ 1)) ⟨0,s,r,f,v,rfl,rfl,rfl,hG,hgr,hc,A1 u (rfl),by omega,by simpa using hat,by simpa using hf,hv,trivial⟩ ?_;clear hc;clear u;clear hG hgr;rintro az ag ⟨m,s1,r1,f1,v1,q,T6,z,hG,hgr,ab,hb0l,hm,hat1,hf1,hv1,-⟩;have q1:=z;have ql1:=ab.sliceLen;have t:=hat1.slen;have am:=hat1.len;have hf64:f1<64:=by omega
  refine gS (ZF Gj (ZB ab z) (gS (Zv (a:=((c.drop m:List UInt8).length:Nat)) (b:=(0:Nat)) rfl rfl (Bh _ _ _ _) ?_)));refine cD rfl (fun hc1' => ?_) fun hc1' => ?_
  · obtain⟨X,hX⟩:∃X,X=(c.drop m).take (64-f1):=⟨_,rfl⟩;obtain⟨n,hn⟩:∃n,n=X.length:=⟨_,rfl⟩;have hxl:X.length=n:=hn.symm;have hcl:(c.drop m).length=c.length-m:=Ac5;have hnm:AfN (c.drop m).length (64-f1)=n:=by rw[hn,hX,Ac8];exact AiO _ _
    have b4:0<n:=by rw[←hnm];exact Nat.lt_min.2 ⟨hc1',by omega⟩
    have b5:f1+n≤64:=by(have:n≤64-f1:=by rw[←hnm];exact Nat.min_le_right _ _);omega
    have a6:n≤(c.drop m).length:=by rw[←hnm];exact Ags _ _
    have hXn:X=(c.drop m).take n:=by rw[hX,←hnm];simp[List.take_eq_take_iff];exact AiO _ _
    have htk:(p++c.take m)++X=p++c.take (m+n):=by rw[Adn,hXn,List.take_add]
    
    refine gR ?_;refine No 9 [Is (PQ g 0),Is (PQ g 0),Is (PQ g 8),Is (PQ g 0),Is (PQ g 0),Is (PQ g 72),Is (NI f1),Is (.slice (some ⟨g,8+f1,none⟩) (64-f1) (64-f1)),Is (v1),fun x w' =>x=NI n∧w'.heap[g]? =some (.cells (hashL s1 (r1.take f1++X++r1.drop (f1+n)) f1 N).toArray 226 (0,0))∧ag.grownBy w' (some g),fun x w' =>x=NI n∧w'.heap[g]? =some (.cells (hashL s1 (r1.take f1++X++r1.drop (f1+n)) f1 N).toArray 226 (0,0))∧ag.grownBy w' (some g)] (by kernel_rfl) [19,20,21,22,23,24,25,26,27,28,4] (by kernel_rfl) (by kernel_rfl) (by kernel_rfl) rfl (Y8 ⟨(fun _ _ _ hp he=>⟨hp.1,eb he hp.2.1,Am hp.2.2 he.grown (fun _ e=>by cases e)⟩),(fun _ _ _ hp he=>⟨hp.1,eb he hp.2.1,Am hp.2.2 he.grown (fun _ e=>by cases e)⟩),trivial⟩) (Y8 trivial) ?a7 ?hQ1003
    case a7=>
      refine⟨?_,?_,?_,?_,?_,?_,?_,?_,?_,?_,?_,trivial⟩
      · refine Ah rfl fun σ w1 hC h=> ?_;have e0:=(Az (h 0 (by decide))).trans q;have hC:Ext _ w1:=hC;exact Yk.move e0 ⟨Ext.refl _,rfl⟩
      · refine Ah rfl fun σ w1 hC h=> ?_;have a8:=Az (h 19 (by decide));have hC:Ext _ w1:=hC;exact Yk.nilCheck a8 ⟨Ext.refl _,rfl⟩
      · refine Ah rfl fun σ w1 hC h=> ?_;have a9:=Az (h 20 (by decide));have hC:Ext _ w1:=hC;exact Yk.fieldAt IJ a9 ⟨Ext.refl _,rfl⟩
      · refine Ah rfl fun σ w1 hC h=> ?_;have e0:=(Az (h 0 (by decide))).trans q;have hC:Ext _ w1:=hC;exact Yk.move e0 ⟨Ext.refl _,rfl⟩
      · refine Ah rfl fun σ w1 hC h=> ?_;have ba:=Az (h 22 (by decide));have hC:Ext _ w1:=hC;exact Yk.nilCheck ba ⟨Ext.refl _,rfl⟩
      · refine Ah rfl fun σ w1 hC h=> ?_;have bb:=Az (h 23 (by decide));have hC:Ext _ w1:=hC;exact Yk.fieldAt Ee bb ⟨Ext.refl _,rfl⟩
      · refine Ah rfl fun σ w1 hC h=> ?_;have bc:=Az (h 24 (by decide));have hC:Ext _ w1:=hC;exact Zu Uo rfl bc (cellAt (eb hC hb0l) (HC t am)) ⟨Ext.refl _,rfl⟩
      · refine Ah rfl fun σ w1 hC h=> ?_;have bd:=Az (h 21 (by decide));have be:=Az (h 25 (by decide));have hC:Ext _ w1:=hC;exact Abo KP Qq bd be (by omega) ⟨Ext.refl _,rfl⟩
      · refine Ah rfl fun σ w1 hC h=> ?_;have e1:=(Az (h 1 (by decide))).trans z;have hC:Ext _ w1:=hC;exact Yk.move e1 ⟨Ext.refl _,rfl⟩
      · refine Ah rfl fun σ w1 hC h=> ?_;have bf:=Az (h 26 (by decide));have bg:=Az (h 27 (by decide));have hC:Ext _ w1:=hC;refine Abk (.tmp 26) (.tmp 27) (o:=8+f1) Gj X7 bf (l:=c.drop m) (by show RB w1 (σ 27) _;rw[bg];exact ab.keep hC) (eb hC hb0l) (by rw[hnm];simp only[Ac6,Cy t am];omega) ?_;refine⟨trivial,by rw[hnm];rfl,?_,?_⟩
        · rw[hnm,←hX,←hxl];have:=Qx (f:=f1) (n:=N) (at_:=f1) (x:=X) t am (by omega);rw[this];exact setRow_heap w1 g _ _ _ _ (eb hC hb0l)
        · exact Am (Ug hC.grown (some g)) ⟨rfl,rfl,rfl,by simp,fun k _ hk=>setRow_other w1 g k _ (fun e=>hk (by rw[e]))⟩ (fun _ e=> .inl e)
      · refine Ah rfl fun σ w1 hC h=> ?_;have bh:(fun x w' =>x=NI n∧w'.heap[g]? =some (.cells (hashL s1 (r1.take f1++X++r1.drop (f1+n)) f1 N).toArray 226 (0,0))∧ag.grownBy w' (some g)) (σ 28) w1:=h 28 (by decide);exact Yk.assign rfl ⟨Ext.refl _,bh⟩
    intro a0 ah he hf;obtain⟨-,-,-,-,-,-,-,-,-,-,k4,-⟩:=hf;obtain⟨q,z,T6,-⟩:=he.hold [(0,_),(1,_),(6,_)] ⟨q,z,T6,trivial⟩ rfl;clear he;have k4:(fun x w' =>x=NI n∧w'.heap[g]? =some (.cells (hashL s1 (r1.take f1++X++r1.drop (f1+n)) f1 N).toArray 226 (0,0))∧ag.grownBy w' (some g)) (a0 4) ah:=k4;obtain⟨b6,T4⟩:∃v,a0 4=v:=⟨_,rfl⟩;rw[T4]at k4;have bi:=k4;clear k4;obtain⟨hv4,a1,ao⟩:=bi;rw[hv4]at T4;have hG:Laid ah:=Laid.kept hG ao hh;have hgr:w.grownBy ah (some g):=Am hgr ao (fun _ e=> .inl e);clear hb0l;have j:=a1;clear a1;obtain⟨r2,ai⟩:∃r2,r2=r1.take f1++X++r1.drop (f1+n):=⟨_,rfl⟩;have hr2l:r2.length=64:=by rw[ai];simp only[AcQ,Ac8,Ac5];omega
    have j:ah.heap[g]? =some (.cells (hashL s1 r2 f1 N).toArray 226 (0,0)):=A1 j (by rw[←ai]);refine gX (gS (Yk.nilCheck q (gS (Yk.fieldAt Ee rfl (gS (Zu Uo rfl rfl (cellAt j (HC t hr2l)) (gS (Zw (xv:=NI f1) (yv:=NI n) rfl T4 rfl (Ag _ _ _ (by omega)) (gS (Yk.nilCheck q (gS (Yk.fieldAt Ee rfl (gS (ZK (i:=72) (v:=NI ((f1)+(n))) rfl rfl j (by rw[Cy t hr2l];omega) NC rfl rfl fun ap a2 aq b7=> ?_))))))))))))));have hG:Laid ap:=Laid.kept hG aq hh;have hgr:w.grownBy ap (some g):=Am hgr aq (fun _ e=> .inl e);clear j;have j:=a2;clear a2;have b8:=bl j;have j:ap.heap[g]? =some (.cells (hashL s1 r2 (f1+n) N).toArray 226 (0,0)):=A1 j (Ih t hr2l);have ab:=RB.kept ab ao (.inr hv1);have ab:=RB.kept ab aq (.inr hv1);refine gS (Z1 (xs:=c.drop m) (l:=n) Gj Qq z ab T4 (a6) fun af y ha29=> ?_);have aj:OB af g:=fun e=>hv1 (ha29.symm.trans e);refine gS (Yk.nilCheck q (gS (Yk.fieldAt Ee rfl (gS (Zu Uo rfl rfl (cellAt j (HC t hr2l)) (gS (Zv (a:=((f1+n):Nat)) (b:=(64:Nat)) rfl rfl (AF _ _ _ _) ?_)))))));refine cD rfl (fun bj=> ?_) fun bj=> ?_
    · have hr2f:r2=r1.take f1++X:=by rw[ai,AdR (by omega),AeA]
      obtain⟨R,hR⟩:∃R,R=Sha.rounds s1 r2:=⟨_,rfl⟩;have HRl:R.length=8:=by rw[hR,Sha.rounds_length _ _ t]
      have hatF:Sha.At ((p++c.take m)++X) R r2:=by rw[hR,hr2f,hf1];exact hat1.fill X (by omega)
      have hfF:0=((p++c.take m)++X).length%64:=by rw[AcQ];omega
      refine gR ?_;refine Lx 12 (fun(a_ b_:AcK)=>b_.heap[g]? =some (.cells ((cellsU R).toList++(hashL s1 r2 (f1+n) N).drop (cellsU R).size).toArray 226 (0,0))∧a_.grownBy b_ (some g)∧b_.heap.size=a_.heap.size) [Is (PQ g 0),Is (PQ g 0),Is (PQ g 0),Is (PQ g 0),Is (.agg (cellsU s1)),Is (PQ g 0),Is (PQ g 0),Is (PQ g 8),Is (.slice (some ⟨g,8,none⟩) 64 64),Is (.agg (cellsU R)),Is (PQ g 0),Is (PQ g 0),(fun _ _=>True)] (by kernel_rfl) [45,46,47,48,49,50,51,52,53,54,55,56] (by kernel_rfl) (by kernel_rfl) (by kernel_rfl) rfl (X1 ⟨Stab.any,trivial⟩) (X1 ⟨Stab.any,trivial⟩) ?bk ?hQ2007
      case bk=>
        refine⟨?_,?_,?_,?_,?_,?_,?_,?_,?_,?_,?_,?_,?_,trivial⟩
        · refine Ah rfl fun σ w1 hC h=> ?_;have e0:=(Az (h 0 (by decide))).trans q;have hC:Ext _ w1:=hC;exact Yk.move e0 ⟨Ext.refl _,rfl⟩
        · refine Ah rfl fun σ w1 hC h=> ?_;have e0:=(Az (h 0 (by decide))).trans q;have hC:Ext _ w1:=hC;exact Yk.move e0 ⟨Ext.refl _,rfl⟩
        · refine Ah rfl fun σ w1 hC h=> ?_;have bm:=Az (h 46 (by decide));have hC:Ext _ w1:=hC;exact Yk.nilCheck bm ⟨Ext.refl _,rfl⟩
        · refine Ah rfl fun σ w1 hC h=> ?_;have bn:=Az (h 47 (by decide));have hC:Ext _ w1:=hC;exact Yk.fieldAt IK bn ⟨Ext.refl _,rfl⟩
        · refine Ah rfl fun σ w1 hC h=> ?_;have bo:=Az (h 48 (by decide));have hC:Ext _ w1:=hC;exact Z0 (cs:=s1.map fun x=>U x) bo (JF (eb hC j)) AS rfl (by rw[Ada,t];exact DW) ⟨Ext.refl _,rfl⟩
        · refine Ah rfl fun σ w1 hC h=> ?_;have e0:=(Az (h 0 (by decide))).trans q;have hC:Ext _ w1:=hC;exact Yk.move e0 ⟨Ext.refl _,rfl⟩
        · refine Ah rfl fun σ w1 hC h=> ?_;have bp:=Az (h 50 (by decide));have hC:Ext _ w1:=hC;exact Yk.nilCheck bp ⟨Ext.refl _,rfl⟩
        · refine Ah rfl fun σ w1 hC h=> ?_;have bq:=Az (h 51 (by decide));have hC:Ext _ w1:=hC;exact Yk.fieldAt IJ bq ⟨Ext.refl _,rfl⟩
        · refine Ah rfl fun σ w1 hC h=> ?_;have br:=Az (h 52 (by decide));have hC:Ext _ w1:=hC;exact Aac KP Qq br ⟨Ext.refl _,rfl⟩
        · refine Ah rfl fun σ w1 hC h=> ?_;have bs:=Az (h 49 (by decide));have bt:=Az (h 53 (by decide));have hC:Ext _ w1:=hC;refine Zx QM bs bt ((Qw _ (hG.keep hC) s1 t _ r2 (WN t hr2l (eb hC j)) hr2l).mono ?_);rintro e w2 ⟨rfl,hx⟩;exact⟨_,rfl,hx,by rw[hR];rfl⟩
        · refine Ah rfl fun σ w1 hC h=> ?_;have bu:=Az (h 45 (by decide));have hC:Ext _ w1:=hC;exact Yk.nilCheck bu ⟨Ext.refl _,rfl⟩
        · refine Ah rfl fun σ w1 hC h=> ?_;have bv:=Az (h 55 (by decide));have hC:Ext _ w1:=hC;exact Yk.fieldAt IK bv ⟨Ext.refl _,rfl⟩
        · refine Ah rfl fun σ w1 hC h=> ?_;have bw:=Az (h 56 (by decide));have bx:=Az (h 54 (by decide));have hC:Ext _ w1:=hC;exact AbG bw bx (eb hC j) (by rw[G0,HRl,Cy t hr2l];omega) (by rw[G0,HRl];exact DW) (E8 _) fun w2 h1 h2 h3=>⟨⟨h1,h2,h3⟩,trivial⟩
      intro bz a3 ar au b0 he hf;obtain⟨-,-,-,-,-,-,-,-,-,-,-,-,-⟩:=hf;obtain⟨q,z,T4,T6,-⟩:=he.hold [(0,_),(1,af),(4,_),(6,_)] ⟨q,rfl,T4,T6,trivial⟩ rfl;clear he;have hG:Laid a3:=(hG.keep au);have hgr:w.grownBy a3 (some g):=Am hgr au.grown (fun _ e=>by cases e);obtain⟨a4,av,b9⟩:=b0;have hG:Laid ar:=Laid.kept hG av hh;have hgr:w.grownBy ar (some g):=Am hgr av (fun _ e=> .inl e);clear j;have j:=a4;clear a4;have j:ar.heap[g]? =some (.cells (hashL R r2 (f1+n) N).toArray 226 (0,0)):=A1 j (by rw[G0,HRl];exact OZ t);refine gX (gS (Yk.nilCheck q (gS (Yk.fieldAt Ee rfl (gS (ZK (i:=72) (v:=NI 0) rfl rfl j (by rw[Cy HRl hr2l];omega) NC rfl rfl fun aw a5 ax ca=> ?_))))));have hG:Laid aw:=Laid.kept hG ax hh;have hgr:w.grownBy aw (some g):=Am hgr ax (fun _ e=> .inl e);clear j;have j:=a5;clear a5;have cb:=bl j;have j:aw.heap[g]? =some (.cells (hashL R r2 0 N).toArray 226 (0,0)):=A1 j (Ih HRl hr2l);have y:=y.keep au;have y:=RB.kept y av (.inr aj);have y:=RB.kept y ax (.inr aj);refine gK (Adr ⟨m+n,R,r2,0,af,q,T6,z,hG,hgr,(show RB _ _ _ from(by rw[←Ahh];exact y)),A1 j (rfl),by omega,by rw[←htk];exact hatF,by rw[←htk];exact hfF,aj,trivial⟩ ?_);show BI (bz 1)<BI (az 1);rw[z,q1];have q3:=y.sliceLen;have q4:=ql1;rw[q3,q4];simp only[Ac5];omega
    have hatP:Sha.At ((p++c.take m)++X) s1 r2:=by rw[ai,←hxl,hf1];exact hat1.put X (by omega)
    have hfP:f1+n=((p++c.take m)++X).length%64:=by rw[AcQ];omega
    refine gK (Adr ⟨m+n,s1,r2,f1+n,af,q,T6,rfl,hG,hgr,(show RB _ _ _ from(by rw[←Ahh];exact y)),A1 j (rfl),by omega,by rw[←htk];exact hatP,by rw[←htk];exact hfP,aj,trivial⟩ ?_);show BI (af)<BI (az 1);rw[q1];have q3:=y.sliceLen;have q4:=ql1;rw[q3,q4];simp only[Ac5];omega
  have hcF:=hc1';refine rt0 rfl ?_;have hml:m=c.length:=by have:=hcF;simp at this;omega
  subst hml;refine⟨rfl,⟨s1,r1,by simpa using hat1,?_⟩,hgr⟩;have e1:f1=(p++c).length%64:=by simpa using hf1
  have e2:N=(p++c).length:=by rw[←hN,AcQ]
  rw[←e1,←e2];exact hb0l
theorem SA(s:List UInt32)(r:List UInt8)(f n:Nat):∀v∈(hashL s r f n).toArray.toList,v.oneCell' =true:=by
 intro v hv;simp[hashL,AcL]at hv;rcases hv with ⟨_,_,rfl⟩ | ⟨_,_,rfl⟩ | rfl | rfl <;> rfl
namespace Sha
def outs(s:List UInt32)(i:Nat):List UInt8:=(out s).take (4*i)++AcX (32-4*i) 0
theorem out_length:∀s:List UInt32,(out s).length=4*s.length
 | []=>rfl
 | x :: s=>by
  have:=out_length s;unfold out at *;rw[AdJ,AcQ,this];simp;omega
theorem outs_length(s:List UInt32)(hs:s.length=8)(i:Nat)(hi:i≤8):(outs s i).length=32:=by
 unfold outs;rw[AcQ,Ac8,Ac7,out_length,hs];omega
theorem outs_all(s:List UInt32)(hs:s.length=8):outs s 8=out s:=by
 unfold outs;rw[AdD (by rw[out_length,hs];exact AcP _)];simp
theorem outs_step(s:List UInt32)(hs:s.length=8)(i:Nat)(hi:i<8):
  ((((outs s i).set (4*i) (s.getD i 0>>>24).toUInt8).set (4*i+1) (s.getD i 0>>>16).toUInt8).set (4*i+2) (s.getD i 0>>>8).toUInt8).set (4*i+3) (s.getD i 0).toUInt8=outs s (i+1):=by
 match s,hs with
 | [a,b,c,d,e,f,g,h],_=>
  have:i=0∨i=1∨i=2∨i=3∨i=4∨i=5∨i=6∨i=7:=by omega
  rcases this with rfl | rfl | rfl | rfl | rfl | rfl | rfl | rfl <;> rfl
theorem sum_length(p:List UInt8):(sum p).length=32:=by
 unfold sum;rw[out_length,blocks_length _ _ _ rfl]
end Sha
theorem JJ:(Tryz.prog.info? 226).map (·.size)=some 74:=by kernel_rfl
theorem QN:∃fs,Tryz.prog.underlying 226=some (.struct fs):=EZ (by kernel_rfl)
theorem QO{d:Option Tmp}{ty:AcR}{pos:String}{af:Array AdL}{gd:Option (Nat × Bool)}(σ:AcW→AcJ)(w:AcK):(execOp σ ⟨d, .alloc 226,ty,pos,af,gd⟩).run AcM w = .ok (.value (PQ w.heap.size 0)) (w.alloc (.cells (hashL (AcX 8 0) (AcX 64 0) 0 0).toArray 226)):=by kernel_rfl
theorem KQ:Tryz.prog.underlying 228=some (.int .u64):=by kernel_rfl
theorem SB:Plain AcM 82:=fun _ _=>by kernel_rfl
theorem SC(w:AcK)(hG:Laid w)(g:Nat)(p:List UInt8)(hH:HashAt w g p)(hp:p.length<1152921504606846976):
  Calls AcM 83 #[PQ g 0] w fun e w' =>e = .returned (AB (Sha.sum p))∧Ext w w' :=by
 obtain⟨s,r,hat,c⟩:=hH;have hs:=hat.slen;have hr:=hat.len;obtain⟨f,hf⟩:∃f,f=p.length%64:=⟨_,rfl⟩;obtain⟨N,hN⟩:∃N,p.length=N:=⟨_,rfl⟩;rw[←hf,hN]at c;have hw2:1<w.heap.size:=hG.two;refine gG (args:= [PQ g 0]) Tryz.func83 rfl 85 rfl rfl ?_;have hE:=Ext.refl w;refine gS (Yk.alloc Ur fun n2 w3 b4 bf bg ct=> ?_);have cu:=As (bl c) b4;have h:=bf;clear bf;have cv:n2<w3.heap.size:=by omega
 have c:=eb bg c;refine gS (ZR sha6_ty147 rfl (cF rfl (gS (Yk.nilCheck rfl (gS (Zz rfl c (QN).choose_spec rfl (by rw[Ac6,Cy hs hr];exact JJ) (gS (Yk.alloc QO fun y b5 bh bi a4 cw=> ?_))))))));have m:=Ext.refl w3;have hE:=hE.trans bg;have bj:=hE.size;have cx:=As (bl c) bh;have cy:=As (bl h) bh;have o:=bi;clear bi;have cz:y<b5.heap.size:=by omega
 refine gS (Zy (vr (PQ y 0) rfl) (vr (.agg (hashL s r f N).toArray) rfl) o (by rw[Ac6,Ac6,Cy hs hr];rfl) (by rw[Ac6,Cy hs hr];exact JJ) (SA s r f N) fun af bk a5 c0=> ?_);have c:=eb a4 c;have c:=kb a5 c (by omega);have hE:=hE.trans a4;have hE:=Ab hE a5 (AcN bj (by omega));have h:=eb a4 h;have h:=kb a5 h (by omega);have m:=m.trans a4;have m:=Ab m a5 (AcN (AcP _) (by omega));clear o;have o:=bk;clear bk;have c1:=bl o;refine gS (AaB (b:=128) Sd (vr (B8 (128)) rfl) fun a6 c2 ag=> ?_);have q:=Ext.refl af;have bm:=hE.size;have bn:=m.size;have b6:OB a6 g:=Dp ag.own (bl c);have b7:OB a6 n2:=Dp ag.own (bl h);have b8:OB a6 y:=Dp ag.own (bl o);have bo:=ag.own;have c:=eb ag.ext c;have hE:=hE.trans ag.ext;have h:=eb ag.ext h;have m:=m.trans ag.ext;have o:=eb ag.ext o;have q:=q.trans ag.ext;refine gL (fun(ρ:Ad) (wz:AcK)=>∃k:Nat,∃v4:AcJ,ρ 0=(PQ g 0:AcJ)∧ρ 2=(PQ n2 0:AcJ)∧ρ 3=(PQ y 0:AcJ)∧ρ 11=(.bool (false):AcJ)∧ρ 4=(v4:AcJ)∧wz.heap[g]? =some (.cells (hashL s r f N).toArray 226 (0,0))∧Ext w wz∧wz.heap[n2]? =some (.cells (AcL (AcX 32 0)).toArray 33 (0,0))∧Ext w3 wz∧wz.heap[y]? =some (.cells (hashL s r f N).toArray 226 (0,0))∧Ext af wz∧wz.ownsRow af.heap.size 5 1 v4 (128 :: AcX k 0:List UInt8).length (AcL (128 :: AcX k 0))∧(k≤(119-N%64)%64)∧(OB v4 g)∧(OB v4 n2)∧(OB v4 y)∧True) (fun ρ _=>65-BI (ρ 4)) ⟨0,a6,rfl,rfl,rfl,rfl,rfl,c,hE,h,m,o,q,Dq bo (rfl),Adm _,b6,b7,b8,trivial⟩ ?_;clear bo;clear c hE h m o q;rintro b9 ca ⟨k,v4,T0,T2,T3,ao,T4,c,hE,h,m,o,q,ho_v4,hk,hap_v4_g,hap_v4_n2,hap_v4_n14,-⟩;have q4:=T4;have ql4:=E5 ho_v4;refine gS (Yk.nilCheck T0 (gS (Yk.fieldAt sha6_fo226_3 rfl (gS (Zu Uo rfl rfl (cellAt c (hashL_size hs hr)) (gS (ZF Gj (ZB (ZP ho_v4) T4) (gS (Zw (xv:=NI N) (yv:=NI ((128 :: AcX k 0:List UInt8).length)) rfl rfl rfl (Ag _ _ _ (by simp;omega)) (gS (Zw (xv:=NI ((N)+((128 :: AcX k 0:List UInt8).length))) (yv:=NI 64) rfl rfl rfl (Hb _ _ _ (by omega)) (gS (Zv (a:=(((N)+((128 :: AcX k 0:List UInt8).length))%(64):Nat)) (b:=(56:Nat)) rfl rfl (AY _ _ _ _) ?_)))))))))))));refine cD rfl (fun bb=> ?_) fun bb=> ?_
 ·refine gS (AaB (b:=0) Sd (vr (B8 (0)) rfl) fun bp cb al=> ?_);have c3:=hE.size;have c4:=m.size;have c5:=q.size;have cc:Ai v4 bp:=DN ho_v4 al.own;have bc:=al.own;have q:=q.trans al.ext;have ho_v4:=Stab.own _ _ _ _ _ _ _ _ ho_v4 al.ext;refine gS (ZW _ _ af.heap.size (.int .u8 0) Gj Nc rfl Gj (128 :: AcX k 0) ([(0:UInt8)]) (C3 ho_v4 T4) (ZB (ZP bc) (vr bp rfl)) (by simp;omega) q.size fun ax cd bq ac=> ?_);have ac:Grew cb cd v4 ax:= .eqv T4 ac;have c:=eb al.ext c;have ce:OB ax g:=An ac hap_v4_g (bl c);have h:=eb al.ext h;have cf:OB ax n2:=An ac hap_v4_n2 (bl h);have o:=eb al.ext o;have cg:OB ax y:=An ac hap_v4_n14 (bl o);have c:=Ao c ac hap_v4_g;have hE:=hE.trans al.ext;have hE:=Aq hE ac ho_v4 bm;have h:=Ao h ac hap_v4_n2;have m:=m.trans al.ext;have m:=Aq m ac ho_v4 bn;have o:=Ao o ac hap_v4_n14;have q:=Aq q ac ho_v4 (AcP _);have bc:=Dy bc ac cc;clear ho_v4;refine gK (Adr ⟨k+1,ax,T0,T2,T3,ao,rfl,c,hE,h,m,o,q,Dq bq (by simp[List.replicate_succ']),by simp at bb;omega,ce,cf,cg,trivial⟩ ?_);show 65-BI (ax)<65-BI (b9 4);rw[q4];have qn:=E5 bq;rw[qn,ql4];simp;omega
 refine gS (Yk.nilCheck T0 (gS (Yk.fieldAt sha6_fo226_3 rfl (gS (Zu Uo rfl rfl (cellAt c (hashL_size hs hr)) (gS (Z4 Uo KQ rfl (JX (N) (by omega)) (gS (Zw (xv:= .int .u64 ((N:Nat):Int)) (yv:= .int .u64 ((8:Nat):Int)) rfl rfl rfl (WE _ _ _ (by omega)) ?_)))))))));obtain⟨Z,hZ⟩:∃Z,Z=(128:UInt8) :: AcX k 0:=⟨_,rfl⟩;have ho_v4:ca.ownsRow af.heap.size 5 1 v4 (Z:List UInt8).length (AcL (Z)):=(hZ.symm:128 :: AcX k 0=Z)▸ho_v4;have hZl:Z.length=1+k:=by rw[hZ];simp;omega
 refine gL (fun(ρ:Ad) (wz:AcK)=>∃i:Nat,∃z:AcJ,ρ 0=(PQ g 0:AcJ)∧ρ 2=(PQ n2 0:AcJ)∧ρ 3=(PQ y 0:AcJ)∧ρ 5=(.int .u64 (((N)*(8):Nat):Int):AcJ)∧ρ 11=(.bool (false):AcJ)∧ρ 36=(NI i:AcJ)∧ρ 4=(z:AcJ)∧wz.heap[g]? =some (.cells (hashL s r f N).toArray 226 (0,0))∧Ext w wz∧wz.heap[n2]? =some (.cells (AcL (AcX 32 0)).toArray 33 (0,0))∧Ext w3 wz∧wz.heap[y]? =some (.cells (hashL s r f N).toArray 226 (0,0))∧Ext af wz∧wz.ownsRow af.heap.size 5 1 z (Z++(Sha.be64 (8*N)).take i:List UInt8).length (AcL (Z++(Sha.be64 (8*N)).take i))∧(i≤8)∧(OB z g)∧(OB z n2)∧(OB z y)∧True) (fun ρ _=>8-(intOf (ρ 36)).toNat) ⟨0,v4,T0,T2,T3,rfl,ao,rfl,T4,c,hE,h,m,o,q,Dq ho_v4 (by simp),by omega,hap_v4_g,hap_v4_n2,hap_v4_n14,trivial⟩ ?_;clear ho_v4;clear c hE h m o q;rintro ch ci ⟨i,z,T0,T2,T3,T5,ao,ap,T4,c,hE,h,m,o,q,n,hi,hap_v5_g,hap_v5_n2,hap_v5_n14,-⟩;have q36:=ap;have ql4:=E5 n;refine gS (Zv (a:=(i:Nat)) (b:=(8:Nat)) ap rfl (AI _ _ _ _) ?_);refine cD rfl (fun br=> ?_) fun br=> ?_
 ·refine gS (Zw (xv:=NI 8) (yv:=NI i) rfl ap rfl (Cq _ _ _ (by omega)) (gS (Zw (xv:=NI 56) (yv:=NI ((8)*(i))) rfl rfl rfl (BN _ _ _ (by omega) (by omega)) (gS (Zw (xv:= .int .u64 (((N)*(8):Nat):Int)) (yv:=NI ((56)-((8)*(i)))) T5 rfl rfl (WG _ _ _ _ (by omega)) (gS (Z4 KQ u5 rfl (Hc (((N)*(8))/2^((56)-((8)*(i))))) (gS (AaB (b:=AdQ (((N)*(8))/2^((56)-((8)*(i))))) Sd (vr (B8 (AdQ (((N)*(8))/2^((56)-((8)*(i)))))) rfl) fun bs cj am=> ?_)))))))));have c6:=hE.size;have c7:=m.size;have c8:=q.size;have ck:Ai z bs:=DN n am.own;have bd:=am.own;have q:=q.trans am.ext;have n:=Stab.own _ _ _ _ _ _ _ _ n am.ext;refine gS (ZW _ _ af.heap.size (.int .u8 0) Gj Nc rfl Gj (Z++(Sha.be64 (8*N)).take i) ([(AdQ (((N)*(8))/2^((56)-((8)*(i)))):UInt8)]) (C3 n T4) (ZB (ZP bd) (vr bs rfl)) (by simp[Sha.be64];omega) q.size fun a1 cl cm ad=> ?_);have ad:Grew cj cl z a1:= .eqv T4 ad;have c:=eb am.ext c;have cn:OB a1 g:=An ad hap_v5_g (bl c);have h:=eb am.ext h;have co:OB a1 n2:=An ad hap_v5_n2 (bl h);have o:=eb am.ext o;have cp:OB a1 y:=An ad hap_v5_n14 (bl o);have c:=Ao c ad hap_v5_g;have hE:=hE.trans am.ext;have hE:=Aq hE ad n bm;have h:=Ao h ad hap_v5_n2;have m:=m.trans am.ext;have m:=Aq m ad n bn;have o:=Ao o ad hap_v5_n14;have q:=Aq q ad n (AcP _);have bd:=Dy bd ad ck;clear n;refine gS (Zw (xv:=NI i) (yv:=NI 1) ap rfl rfl (Ag _ _ _ (by omega)) (gK (Adr ⟨i+1,a1,T0,T2,T3,T5,ao,rfl,rfl,c,hE,h,m,o,q,Dq cm (by rw[Abi _ _ br,Adn,Agz N 8]),by omega,cn,co,cp,trivial⟩ ?_)));show 8-(intOf (NI ((i)+(1)))).toNat<8-(intOf (ch 36)).toNat;rw[q36];simp only[intOf,Ac0];omega
 obtain⟨Q,hQ⟩:∃Q,Q=Z++(Sha.be64 (8*N)).take i:=⟨_,rfl⟩;have n:ci.ownsRow af.heap.size 5 1 z (Q:List UInt8).length (AcL (Q)):=(hQ.symm:Z++(Sha.be64 (8*N)).take i=Q)▸n;have hQt:Q=Sha.tail p.length:=by simp at bb;rw[hQ,hZ,show i=8 by omega,show k=(119-p.length%64)%64 by omega,AdD (by simp[Sha.be64]),←hN];simp[Sha.tail]
 have hQl:Q.length≤100:=by rw[hQ];simp[Sha.be64];omega
 refine gS (Zx SB T3 T4 ((Mf _ (hG.keep hE) y (by omega) p ⟨s,r,hat,by rw[←hf,hN];exact o⟩ z Q (ZP n) hap_v5_n14 (by omega)).mono ?_));rintro e bt ⟨rfl,⟨s2,r2,hat2,t⟩,a2⟩;refine⟨_,rfl,?_⟩;have c:=kb a2 c (by omega);have hE:=Ab hE a2 (AcN bj (by omega));have h:=kb a2 h (by omega);have m:=Ab m a2 (AcN (AcP _) (by omega));clear q;have n:=BM n a2 hap_v5_n14;clear o;have ae:=hat2.slen;have c9:=hat2.len;refine gS (Yk.alloc Ur fun a7 cq be bu aq da=> ?_);have u:=Ext.refl bt;have a8:=hE.size;have a9:=m.size;have db:=As (bl c) be;have dc:=As (bl h) be;have dd:=As (bl t) be;have ba:OB z a7:=A3 n (by omega);have bv:=bu;clear bu;have de:a7<cq.heap.size:=by omega
 have c:=eb aq c;have hE:=hE.trans aq;have h:=eb aq h;have m:=m.trans aq;have n:=Stab.own _ _ _ _ _ _ _ _ n aq;have t:=eb aq t;have u:=u.trans aq;refine gS (Yk.fieldAt IK T3 (gS (Z0 (cs:=s2.map fun x=>U x) rfl (JF t) AS rfl (by rw[Ada,ae];exact DW) (gL (fun(ρ:Ad) (wz:AcK)=>∃j:Nat,ρ 0=(PQ g 0:AcJ)∧ρ 2=(PQ n2 0:AcJ)∧ρ 3=(PQ y 0:AcJ)∧ρ 4=(z:AcJ)∧ρ 5=(.int .u64 (((N)*(8):Nat):Int):AcJ)∧ρ 7=(PQ a7 0:AcJ)∧ρ 11=(.bool (false):AcJ)∧ρ 36=(NI i:AcJ)∧ρ 52=(.agg (s2.map fun x=>U x).toArray:AcJ)∧ρ 53=(NI j:AcJ)∧wz.heap[g]? =some (.cells (hashL s r f N).toArray 226 (0,0))∧Ext w wz∧wz.heap[n2]? =some (.cells (AcL (AcX 32 0)).toArray 33 (0,0))∧Ext w3 wz∧wz.ownsRow af.heap.size 5 1 z (Q:List UInt8).length (AcL (Q))∧wz.heap[y]? =some (.cells (hashL s2 r2 ((p++Q).length%64) (p++Q).length).toArray 226 (0,0))∧Ext bt wz∧wz.heap[a7]? =some (.cells (AcL (Sha.outs s2 j)).toArray 33 (0,0))∧(j≤8)∧True) (fun ρ _=>8-(intOf (ρ 53)).toNat) ⟨0,T0,T2,T3,T4,T5,rfl,ao,ap,rfl,rfl,c,hE,h,m,n,t,u,A1 bv (rfl),by omega,trivial⟩ ?_))));clear bv;clear c hE h m n t u;rintro cr df ⟨j,T0,T2,T3,T4,T5,T7,ao,ap,bw,an,c,hE,h,m,n,t,u,hb128l,hj,-⟩;have q53:=an;refine gS (Zv (a:=(j:Nat)) (b:=(8:Nat)) an rfl (AI _ _ _ _) ?_);refine cD rfl (fun bx=> ?_) fun bx=> ?_
 ·refine gS (AbC (l:=s2) (i:=j) AS AJ rfl AM bw an (by omega) (ae) (gS (Zw (xv:=NI 4) (yv:=NI j) rfl an rfl (Cq _ _ _ (by omega)) (gS (Zw (xv:=NI 4) (yv:=NI j) rfl an rfl (Cq _ _ _ (by omega)) (gS (Zw (xv:=NI ((4)*(j))) (yv:=NI 1) rfl rfl rfl (Ag _ _ _ (by omega)) (gS (Zw (xv:=NI 4) (yv:=NI j) rfl an rfl (Cq _ _ _ (by omega)) (gS (Zw (xv:=NI ((4)*(j))) (yv:=NI 2) rfl rfl rfl (Ag _ _ _ (by omega)) (gS (Zw (xv:=NI 4) (yv:=NI j) rfl an rfl (Cq _ _ _ (by omega)) (gS (Zw (xv:=NI ((4)*(j))) (yv:=NI 3) rfl rfl rfl (Ag _ _ _ (by omega)) (gS (Zw rfl rfl rfl (Jj _ _ _ 24 (by decide)) (gS (AaG AJ u5 rfl (gS (Zw rfl rfl rfl (Jj _ _ _ 16 (by decide)) (gS (AaG AJ u5 rfl (gS (Zw rfl rfl rfl (Jj _ _ _ 8 (by decide)) (gS (AaG AJ u5 rfl (gS (AaG AJ u5 rfl (gS (ZJ (i:=(4)*(j)) Wq Qq T7 rfl (by omega) ?_)))))))))))))))))))))))))))))));refine gS (Aaw (i:=(4)*(j)) (v:=((s2.getD (j) 0)>>>24).toUInt8) rfl rfl hb128l (by rw[Sha.outs_length _ ae _ (by omega)];omega) X7 fun dh bz ar di=> ?_);have c:=kb ar c (by omega);have hE:=Ab hE ar (AcN a8 (by omega));have h:=kb ar h (by omega);have m:=Ab m ar (AcN a9 (by omega));have n:=BM n ar ba;have t:=kb ar t (by omega);have u:=Ab u ar (AcN (AcP _) (by omega));clear hb128l;have hb128l:=bz;clear bz;have dj:=bl hb128l;refine gS (ZJ (i:=((4)*(j))+(1)) Wq Qq T7 rfl (by omega) (gS (Aaw (i:=((4)*(j))+(1)) (v:=((s2.getD (j) 0)>>>16).toUInt8) rfl rfl hb128l (by rw[Aer,Sha.outs_length _ ae _ (by omega)];omega) X7 fun dk b0 au dl=> ?_)));have c:=kb au c (by omega);have hE:=Ab hE au (AcN a8 (by omega));have h:=kb au h (by omega);have m:=Ab m au (AcN a9 (by omega));have n:=BM n au ba;have t:=kb au t (by omega);have u:=Ab u au (AcN (AcP _) (by omega));clear hb128l;have hb128l:=b0;clear b0;have dm:=bl hb128l;refine gS (ZJ (i:=((4)*(j))+(2)) Wq Qq T7 rfl (by omega) (gS (Aaw (i:=((4)*(j))+(2)) (v:=((s2.getD (j) 0)>>>8).toUInt8) rfl rfl hb128l (by rw[Aer,Aer,Sha.outs_length _ ae _ (by omega)];omega) X7 fun dn b1 av dp=> ?_)));have c:=kb av c (by omega);have hE:=Ab hE av (AcN a8 (by omega));have h:=kb av h (by omega);have m:=Ab m av (AcN a9 (by omega));have n:=BM n av ba;have t:=kb av t (by omega);have u:=Ab u av (AcN (AcP _) (by omega));clear hb128l;have hb128l:=b1;clear b1;have dq:=bl hb128l;refine gS (ZJ (i:=((4)*(j))+(3)) Wq Qq T7 rfl (by omega) (gS (Aaw (i:=((4)*(j))+(3)) (v:=(s2.getD (j) 0).toUInt8) rfl rfl hb128l (by rw[Aer,Aer,Aer,Sha.outs_length _ ae _ (by omega)];omega) X7 fun dr b2 aw ds=> ?_)));have c:=kb aw c (by omega);have hE:=Ab hE aw (AcN a8 (by omega));have h:=kb aw h (by omega);have m:=Ab m aw (AcN a9 (by omega));have n:=BM n aw ba;have t:=kb aw t (by omega);have u:=Ab u aw (AcN (AcP _) (by omega));clear hb128l;have hb128l:=b2;clear b2;have dt:=bl hb128l;refine gS (Zw (xv:=NI j) (yv:=NI 1) an rfl rfl (Ag _ _ _ (by omega)) (gK (Adr ⟨j+1,T0,T2,T3,T4,T5,T7,ao,ap,bw,rfl,c,hE,h,m,n,t,u,A1 hb128l (congrArg AcL (Sha.outs_step s2 ae j bx)),by omega,trivial⟩ ?_)));show 8-(intOf (NI ((j)+(1)))).toNat<8-(intOf (cr 53)).toNat;rw[q53];simp only[intOf,Ac0];omega
 refine gS (Zz T7 hb128l Wq rfl (by rw[Ac6,AcZ,Sha.outs_length _ ae _ (by omega)];exact R4) (gS (Zy T2 (vr (AB (Sha.outs s2 j)) rfl) h (by rw[Ac6,AcZ,Sha.outs_length _ ae _ (by omega)];rfl) (by rw[Ac6,AcZ,Sha.outs_length _ ae _ (by omega)];exact R4) (Af _) fun du b3 a3 dv=> ?_)));have c:=kb a3 c (by omega);have hE:=Ab hE a3 (AcN (AcP _) (by omega));clear m;have n:=BM n a3 hap_v5_n2;have t:=kb a3 t (by omega);clear u;have hb128l:=kb a3 hb128l (by omega);clear h;have h:=b3;clear b3;have dw:=bl h;refine L6 rfl (ResF.row T2 h Wq rfl (by rw[Ac6,AcZ,Sha.outs_length _ ae _ (by omega)];exact R4)) ?_;refine⟨?_,hE⟩;have e:Sha.outs s2 j=Sha.sum p:=by rw[show j=8 by omega,Sha.outs_all s2 ae,hat2.state,hQt];rfl
 rw[e]

theorem HashAt.other{w w' :AcK}{g b:Nat}{p:List UInt8}(h:HashAt w g p)(hg:w.grownBy w' (some b))(hne:g≠b):HashAt w' g p:=by
 obtain⟨s,r,h1,h2⟩:=h;exact⟨s,r,h1,(hg.block g (bl h2) (by simpa using hne)).trans h2⟩
theorem IL(ls:List (List UInt8))(i:Nat)(hi:i<ls.length):(ls.take (i+1)).flatten=(ls.take i).flatten++ls.getD i []:=by
 rw[Adi hi,AiI];simp[hi]
theorem KR(ls:List (List UInt8))(i:Nat)(hi:i<ls.length):(ls.take i).flatten.length+(ls.getD i []).length≤ls.flatten.length:=by
 have h1:=IL ls i hi;have h2:ls.flatten=(ls.take (i+1)).flatten++(ls.drop (i+1)).flatten:=by rw[←AiI,Afb]
 rw[h2,h1];simp only[AcQ];omega
theorem SD:Plain AcM 81:=fun _ _=>by kernel_rfl
theorem Mg:Tryz.prog.underlying 38=some (.slice 27):=by kernel_rfl
theorem SE:∀w' :AcK,(sizeOf 27).run AcM w' = .ok 1 w' :=fun _=>by kernel_rfl
theorem SF:Plain AcM 83:=fun _ _=>by kernel_rfl
theorem LB(w:AcK)(g:Nat)(p:List UInt8)(hH:HashAt w g p)(v:AcJ)(hc:RB w v [])(hb:p.length<4611686018427387904):
  Calls AcM 82 #[PQ g 0,v] w fun e w' =>e = .returned (.tuple #[])∧HashAt w' g p∧w.grownBy w' (some g):=by
 obtain⟨s,r,hat,c⟩:=hH;have hs:=hat.slen;have hr:=hat.len;obtain⟨f,hf⟩:∃f,f=p.length%64:=⟨_,rfl⟩;rw[←hf]at c;have hgr:w.grownBy w (some g):=Aef _ _;refine gG (args:= [PQ g 0,v]) Tryz.func82 rfl 60 rfl rfl (gS (ZR sha6_ty147 rfl (cF rfl (gS (Yk.nilCheck rfl (gS (Yk.fieldAt sha6_fo226_3 rfl (gS (Zu Uo rfl rfl (cellAt c (hashL_size hs hr)) (gS (ZF Gj (ZB hc rfl) (gS (Zw (xv:=NI p.length) (yv:=NI ((([]:List UInt8):List UInt8).length)) rfl rfl rfl (Ag _ _ _ (by simp;omega)) (gS (Yk.nilCheck rfl (gS (Yk.fieldAt sha6_fo226_3 rfl (gS (ZK (i:=73) (v:=NI ((p.length)+((([]:List UInt8):List UInt8).length))) rfl rfl c (by rw[Cy hs hr];omega) NC rfl rfl fun h j k m=> ?_)))))))))))))))))));have hc:RB h v ([]:List UInt8):=AbU hc;have hgr:w.grownBy h (some g):=Am hgr k (fun _ e=> .inl e);clear c;have c:=j;clear j;have n:=bl c;have c:h.heap[g]? =some (.cells (hashL s r f p.length).toArray 226 (0,0)):=A1 c (Ii hs hr);refine gL (fun(ρ:Ad) (wz:AcK)=>ρ 0=(PQ g 0:AcJ)∧ρ 6=(.bool (false):AcJ)∧ρ 1=(v:AcJ)∧RB wz v ([]:List UInt8)∧w.grownBy wz (some g)∧wz.heap[g]? =some (.cells (hashL s r f p.length).toArray 226 (0,0))∧True) (fun ρ _=>0) ⟨rfl,rfl,rfl,hc,hgr,c,trivial⟩ ?_;clear hc hgr c;rintro o q ⟨t,u,l,hc,hgr,c,-⟩;refine gS (ZF Gj (ZB hc l) (gS (Zv (a:=((([]:List UInt8):List UInt8).length:Nat)) (b:=(0:Nat)) rfl rfl (Bh _ _ _ _) (cF ((rfl).trans (congrArg Adl (decide_eq_false (by simp)))) (rt0 rfl ?_)))));exact⟨rfl,⟨s,r,hat,by rw[←hf];exact c⟩,hgr⟩

theorem SG(w:AcK)(hG:Laid w)(g:Nat)(hh:1<g)(p:List UInt8)(hH:HashAt w g p)(v:AcJ)(c:List UInt8)(hc:RB w v c)(hv:0<c.length→v.ownBlock≠some g)(hb:p.length+c.length<4611686018427387904):
  Calls AcM 82 #[PQ g 0,v] w fun e w' =>e = .returned (.tuple #[])∧HashAt w' g (p++c)∧w.grownBy w' (some g):=by
 by_cases h0:0<c.length
 ·exact Mf w hG g hh p hH v c hc (hv h0) hb
 ·have:c= []:=Adw (by omega);subst this;rw[AeA];exact LB w g p hH v hc (by simpa using hb)

theorem PN(w:AcK)(hG:Laid w)(v:AcJ)(ls:List (List UInt8))(hls:RBs w v ls)(hb:ls.flatten.length<1152921504606846976)(hlen:ls.length<1152921504606846976):
    Calls AcM 45 #[v] w fun e w' =>e = .returned (AB (Sha.sum ls.flatten))∧Ext w w' :=by
 have hw2:1<w.heap.size:=hG.two;refine gG (args:= [v]) Tryz.func45 rfl 19 rfl rfl ?_;have hE:=Ext.refl w;refine gS (Yk.alloc Ur fun g j ag p aa ah=> ?_);have c:=p;clear p;have ai:g<j.heap.size:=by omega
 have hE:=hE.trans aa;refine gS (AaR SD ((WP _ (hG.keep hE)).mono ?_));rintro e aj ⟨gH,rfl,q,r,k⟩;refine⟨_,rfl,?_⟩;have f:=Ext.refl j;have ab:=hE.size;have ak:g<gH:=by have:=(bl c);omega
 have hE:=hE.trans k;have c:=eb k c;have f:=f.trans k;refine gS (AbW Mg (AcF (hls.keep hE) rfl) (gL (fun(ρ:Ad) (wz:AcK)=>∃i:Nat,ρ 0=(v:AcJ)∧ρ 2=(PQ g 0:AcJ)∧ρ 3=(PQ gH 0:AcJ)∧ρ 7=(v:AcJ)∧ρ 8=(NI ls.length:AcJ)∧ρ 9=(NI i:AcJ)∧Ext w wz∧wz.heap[g]? =some (.cells (AcL (AcX 32 0)).toArray 33 (0,0))∧Ext j wz∧HashAt wz gH ((ls.take i).flatten)∧(i≤ls.length)∧True) (fun ρ _=>ls.length-(intOf (ρ 9)).toNat) ⟨0,rfl,rfl,rfl,rfl,rfl,rfl,hE,c,f,by simpa using r,Adm _,trivial⟩ ?_));clear r;clear hE c;rintro ac al ⟨i,T0,l,m,s,t,h,hE,c,f,hHi,hi,-⟩;have q9:=h;refine gS (Zv (a:=(i:Nat)) (b:=(ls.length:Nat)) h t (AI _ _ _ _) ?_);refine cD rfl (fun hi3=> ?_) fun hi3=> ?_
 ·refine gS (AbV (ls:=ls) (i:=i) hE Mg SE hls s h (hi3) fun am ae u x=>(gS (ZL Gj rfl (ZQ u rfl) ?_)));clear u;refine gS (Zx SB m rfl ((SG _ (hG.keep hE) gH (by omega) ((ls.take i).flatten) hHi ae (ls.getD (i) []) (x.keep hE) (fun h0 hb=>by have:=RB.lt x h0 hb;omega) (by have:=KR ls i hi3;omega)).mono ?_));rintro e an ⟨rfl,af,n⟩;refine⟨_,rfl,?_⟩;clear hHi;have hE:=Ab hE n (AcN ab q);have c:=kb n c (by omega);have f:=Ab f n (AcN (AcP _) q);refine gS (Zw (xv:=NI i) (yv:=NI 1) h rfl rfl (Ag _ _ _ (by have:=hlen;omega)) (gK (Adr ⟨i+1,T0,l,m,s,t,rfl,hE,c,f,(show HashAt _ _ _ from by rw[IL ls i hi3];exact af),by omega,trivial⟩ ?_)));show ls.length-(intOf (NI ((i)+(1)))).toNat<ls.length-(intOf (ac 9)).toNat;rw[q9];simp only[intOf,Ac0];omega
 have hfl:(ls.take i).flatten=ls.flatten:=by rw[AdD (by omega)]
 have hfl2:=congrArg AgQ hfl;refine gS (ZA SF m ((SC _ (hG.keep hE) gH ((ls.take i).flatten) hHi (by omega)).mono ?_));rintro e ao ⟨rfl,o⟩;refine⟨_,rfl,?_⟩;have c:=eb o c;refine gS (Zy l (vr (AB (Sha.sum ((ls.take i).flatten))) rfl) c (by rw[Ac6,AcZ,Sha.sum_length];rfl) (by rw[Ac6,AcZ,Sha.sum_length];exact R4) (Af _) fun ap y z aq=> ?_);clear f;have hHi:=hHi.keep o;have hHi:=HashAt.other hHi z (by omega);clear c;have c:=y;clear y;have ar:=bl c;refine L6 rfl (ResF.row l c Wq rfl (by rw[Ac6,AcZ,Sha.sum_length];exact R4)) ?_;rw[hfl];have hE:=hE.trans o;have hE:=Ab hE z (AcN (AcP _) (by omega));exact⟨rfl,hE⟩
namespace Sha
end Sha
structure Pt where
  v:AcJ
  bytes:Bs
  base:Int
def AC:Pt:=⟨.slice none 0 0,[],0⟩
def partC(p:Pt):List AcJ:= [p.v, .int .i64 p.base]
def LC(w:AcK)(ps:List Pt):Prop:=∀p∈ps,RB w p.v p.bytes ∧ -9223372036854775808≤p.base∧p.base≤9223372036854775807
theorem partC_one{p:Pt}(h:p.v.cells = #[p.v]∧p.v.oneCell' =true):∀u∈partC p,u.oneCell' =true:=by
  intro u hu;simp only[partC,Adz,Aeu,or_false]at hu;rcases hu with rfl | rfl
  · exact h.2
  · rfl
structure BS where
  b:Bs
  ids:List Bs
  places:List Nat
  depths:List Nat
  total:Nat
def Bu(s:Bs):Bs:=Ac4 s.length++s
def Dr(p:Pt)(s:BS):Nat:=if p.base<0 then 0 else s.depths.getD p.base.toNat 0+1
def bnext(ps:List Pt)(p:Pt)(s:BS):BS:=
  { b:=if p.base<0 then s.b++ [0]++Bu p.bytes else s.b++ [1]++s.ids.getD p.base.toNat []++Bu (B2 (ps.getD p.base.toNat AC).bytes p.bytes)
    ids:=s.ids++ [Sha.sum p.bytes],places:=s.places++ [s.b.length],depths:=s.depths++ [Dr p s],total:=s.total+p.bytes.length }
def EQ(ps:List Pt)(i:Nat)(s:BS):Except Nat BS:=
  if(ps.getD i AC).base < -1∨(i:Int)≤(ps.getD i AC).base then .error 1
  else if Sha.sum (ps.getD i AC).bytes∈s.ids then .error 11
  else if 50<Dr (ps.getD i AC) s then .error 17
  else .ok (bnext ps (ps.getD i AC) s)
def C4(ps:List Pt):Nat→Except Nat BS
  | 0=> .ok ⟨80 :: Ac4 ps.length,[],[],[],0⟩
  | i+1=>match C4 ps i with
    | .error e=> .error e
    | .ok s=>EQ ps i s
theorem Fo{ps:List Pt}{e:Nat}:∀ {i:Nat} (_:C4 ps i = .error e) (k:Nat),C4 ps (i+k) = .error e
  | _,h,0=>h
  | i,h,k+1=>by
    show(match C4 ps (i+k)with | .error e=>_ | .ok s=>_)=_;rw[Fo h k]
theorem EW{ps:List Pt}{i:Nat}{s:BS}(h:C4 ps i = .ok s):C4 ps (i+1)=EQ ps i s:=by
  show(match C4 ps i with | .error e=>_ | .ok s=>_)=_;rw[h]
def Bw(s:BS)(id:Bs):Option Nat:=(s.ids.zip s.places).lookup id
def Ct(ps:List Pt):Prop:=ps.length≤60∧∀p∈ps,p.bytes.length≤200
structure BOk (i : Nat) (s : BS) : Prop where
  ids:s.ids.length=i
  places:s.places.length=i
  depths:s.depths.length=i
  len:∀id∈s.ids,id.length=32
  b:s.b.length≤10+500*i
  pl:∀p∈s.places,p≤10+500*i
  dp:∀d∈s.depths,d≤50
  total:s.total≤200*i
theorem Wr{n:Nat}(h:n<16384):(Ac4 n).length≤2:=by
  by_cases h1:n<128
  · rw[Af4 h1];simp
  · rw[Ah0 (by omega),Af4 (by omega)];simp
theorem CW{α β:Type}[BEq α][LawfulBEq α]:∀(l:List α) (m:List β) (x:α),x∉l→(l.zip m).lookup x=none
  | [],_,_,_=>by simp
  | _ :: _,[],_,_=>by simp
  | a :: l,b :: m,x,h=>by
    simp only[Adz,not_or]at h;rw[AeU,Ael,CW l m x h.2];have:(x==a)=false:=by simpa using h.1
    rw[this]
theorem D7{α β:Type}[BEq α][LawfulBEq α]:∀(l:List α) (m:List β) (x:α),l.length=m.length→x∈l→∃y,(l.zip m).lookup x=some y∧y∈m
  | [],_,_,_,h=>by simp at h
  | _ :: _,[],_,h,_=>by simp at h
  | a :: l,b :: m,x,hl,h=>by
    rw[AeU,Ael];by_cases e:x=a
    · subst e;exact⟨b,by simp,by simp⟩
    · have:(x==a)=false:=by simpa using e
      rw[this];obtain⟨y,h1,h2⟩:=D7 l m x (by simpa using hl) ((Adz.1 h).resolve_left e);exact⟨y,h1,by simp[h2]⟩
theorem GK{α β:Type}[BEq α][LawfulBEq α][DecidableEq α]:∀(l:List α) (m:List β) (a:α) (b:β),l.length=m.length→a∉l→(fun x=>((l++ [a]).zip (m++ [b])).lookup x)=updM (fun x=>(l.zip m).lookup x) a (some b)
  | [],[],a,b,_,_=>by
    funext x
    unfold updM;simp only[AdS,AeU,List.zip_nil_left,Ael,List.lookup_nil];by_cases e:x=a
    · simp[e]
    · have:(x==a)=false:=by simpa using e
      simp[e,this]
  | [],_ :: _,_,_,h,_=>by simp at h
  | _ :: _,[],_,_,h,_=>by simp at h
  | c :: l,d :: m,a,b,hl,h=>by
    simp only[Adz,not_or]at h;have ih:=GK l m a b (by simpa using hl) h.2
    funext x
    have ihx:=congrFun ih x;unfold updM at ihx ⊢;simp only[AdP,AeU,Ael,ihx];by_cases e:x=a
    · subst e;have:(x==c)=false:=by simpa using h.1
      simp[this]
    · simp[e]
theorem IM{ps:List Pt}{p:Pt}{i:Nat}{s:BS}(h:BOk i s)(hn:Sha.sum p.bytes∉s.ids):Bw (bnext ps p s)=updM (Bw s) (Sha.sum p.bytes) (some s.b.length):=by
  have:=GK s.ids s.places (Sha.sum p.bytes) s.b.length (by rw[h.ids,h.places]) hn;exact this
theorem BOk.next{ps:List Pt}{i:Nat}{s:BS}(hL:Ct ps)(h:BOk i s)(hi:i<ps.length){s' :BS}(hs:EQ ps i s=Except.ok s'):BOk (i+1) s' :=by
  unfold EQ at hs;split at hs
  · cases hs
  · split at hs
    · cases hs
    · split at hs
      · cases hs
      · rename_i h1 h2 h3
        cases hs;have hp:=hL.2 _ (getD_mem AC hi);refine⟨by simp[bnext,h.ids],by simp[bnext,h.places],by simp[bnext,h.depths],?_,?_,?_,?_,?_⟩
        · intro id hid;simp only[bnext,Adf,AcY]at hid;rcases hid with hid | rfl
          · exact h.len id hid
          · exact Sha.sum_length _
        · have hb:=h.b;have hu:=Wr (n:=(ps.getD i AC).bytes.length) (by omega);simp only[bnext];split
          · simp only[AcQ,Adh,Adp,Bu];omega
          · rename_i hbase
            have a:(ps.getD i AC).base.toNat<s.ids.length:=by rw[h.ids];omega
            have h32:=h.len _ (getD_mem [] a);have hq:=hL.2 _ (getD_mem AC (l:=ps) (i:=(ps.getD i AC).base.toNat) (by rw[h.ids]at a;omega));have hm:=IH (ps.getD (ps.getD i AC).base.toNat AC).bytes (ps.getD i AC).bytes (by omega) (by omega);have c:=Wr (n:=(B2 (ps.getD (ps.getD i AC).base.toNat AC).bytes (ps.getD i AC).bytes).length) (by omega);simp only[AcQ,Adh,Adp,Bu,h32];omega
        · intro q hq;have hb:=h.b;simp only[bnext,Adf,AcY]at hq;rcases hq with hq | rfl
          · have:=h.pl q hq;omega
          · omega
        · intro q hq;simp only[bnext,Adf,AcY]at hq;rcases hq with hq | rfl
          · exact h.dp q hq
          · omega
        · have ht:=h.total;simp only[bnext];omega
theorem IN{ps:List Pt}(hL:Ct ps):∀(i:Nat) (s:BS),i≤ps.length→C4 ps i = .ok s→BOk i s
  | 0,s,_,h=>by
    cases h;have:=Wr (n:=ps.length) (by have:=hL.1;omega);exact⟨rfl,rfl,rfl,by simp,by simp only[Adh];omega,by simp,by simp,by simp⟩
  | i+1,s,hi,h=>by
    have h' :(match C4 ps i with | .error e=> .error e | .ok s=>EQ ps i s)=Except.ok s:=h;cases hb:C4 ps i with
    | error e=>rw[hb]at h';cases h'
    | ok s0=>
      rw[hb]at h';exact(IN hL i s0 (by omega) hb).next hL (by omega) h'
def Cu(s:BS)(at_:Nat):Bs:=(Be s.ids).flatMap A8++(AO s.ids).flatMap (fun id=>id++A8 ((Bw s id).getD 0))++A8 at_
def AZ(ps:List Pt):Bs × Nat:=
  match C4 ps ps.length with
  | .error e=>([],e)
  | .ok s=>(s.b++Cu s s.b.length++Sha.sum (s.b++Cu s s.b.length),0)
theorem KS(l:List Nat):(l.flatMap A8).length=4*l.length:=by
  induction l with
  | nil=>rfl
  | cons a r ih=>rw[AdJ,AcQ,ih,GI,Adh];omega
theorem NK(f:Bs→Nat)(l:List Bs)(h:∀x∈l,x.length=32):(l.flatMap fun id=>id++A8 (f id)).length=36*l.length:=by
  induction l with
  | nil=>rfl
  | cons a r ih=>
    rw[AdJ,AcQ,AcQ,GI,h a (by simp),ih (fun x hx=>h x (by simp[hx])),Adh];omega
theorem G5{i:Nat}{s:BS}(h:BOk i s)(a:Nat):(Cu s a).length=1028+36*i:=by
  unfold Cu;rw[AcQ,AcQ,KS,BW,NK (fun id=>(Bw s id).getD 0) _ (fun x hx=>h.len x ((sortB_perm _).subset hx)),GH,h.ids,GI];omega
theorem YP:KeyLaw AcM 33:=deep_law_laid (by kernel_rfl) (m:=3) (by decide) (of_decide_eq_true (by kernel_rfl)) (by kernel_rfl) (by kernel_rfl)
theorem Cm:KL AcM 33 (fun v=>∃l,keyOf AcM 33 v=some l):=Ab0 YP
theorem Cn:∀id:List UInt8,id.length=32→∃l,keyOf AcM 33 (rk id)=some l:=fun _ h=>
 L7 (n:=32) (e:=5) Tryz.underlying33 Agi (by kernel_rfl) (by kernel_rfl) (by kernel_rfl) (of_decide_eq_true (by kernel_rfl)) h
theorem Hh:∀u:AcK,(zeroValue 3).run AcM u = .ok (NI 0) u:=fun _=>by kernel_rfl
theorem Gc(w:AcK)(hG:Laid w)(v:AcJ)(l:Bs)(h:RBs w v [l])(hl:l.length≤1099511627776):
  Calls AcM 45 #[v] w fun e w' =>e = .returned (AB (Sha.sum l))∧Ext w w' :=by
 have:=PN w hG v [l] h (by simp;omega) (by simp)
 simpa using this
theorem NL(w:AcK)(v:AcJ)(l:Bs)(hr:RB w v l)(s:Bs)(hl:l.length+s.length+16≤140737488355328):
  Calls AcM 144 #[v,St s] w fun e w' =>∃v',e = .returned v' ∧NewB 5 w w' v' (l++Bu s):=by
 have:=OY w v l hr ⟨s.toArray⟩ (by simpa [Aij] using hl)
 simpa [Bu,Aij,Adn] using this
theorem Eu{ps:List Pt}{i e:Nat}(hi:i<ps.length)(h:C4 ps (i+1) = .error e):AZ ps=([],e):=by
 have:=Fo h (ps.length-(i+1));rw[show i+1+(ps.length-(i+1))=ps.length by omega]at this;unfold AZ;rw[this]
theorem SH{ps:List Pt}{s:BS}(h:C4 ps ps.length = .ok s):AZ ps=(s.b++Cu s s.b.length++Sha.sum (s.b++Cu s s.b.length),0):=by
 unfold AZ;rw[h]
theorem KT{α:Type}(l:List α)(i:Nat)(d:α)(h:i<l.length):l.take (i+1)=l.take i++ [l.getD i d]:=by rw[Adi h,AcO,AcS h];rfl
theorem KU:(Tryz.prog.info? 156).map (·.size)=some 2:=by kernel_rfl
theorem FG:Tryz.prog.underlying 154=some (.slice 156):=by kernel_rfl
theorem SI:Plain AcM 143:=fun _ _=>by kernel_rfl
theorem KV:∀w' :AcK,(sizeOf 156).run AcM w' = .ok 2 w' :=fun _=>by kernel_rfl
theorem SJ:∃fs,Tryz.prog.underlying 156=some (.struct fs):=EZ (by kernel_rfl)
theorem SK{d:Option Tmp}{ty:AcR}{pos:String}{af:Array AdL}{gd:Option (Nat × Bool)}(σ:AcW→AcJ)(w:AcK):(execOp σ ⟨d, .alloc 156,ty,pos,af,gd⟩).run AcM w = .ok (.value (PQ w.heap.size 0)) (w.alloc (.cells ([(AcU none 0 0),NI 0]).toArray 156)):=by kernel_rfl
theorem Cj:AV AcM 156 0 0:=fun b o w=>by simp[go_sem]
theorem BR:AV AcM 156 1 1:=fun b o w=>by simp[go_sem]
theorem Gm(ao:Option Addr)(n c:Nat)(w:AcK):(Adt 38 1 #[(0, .slice ao n c)]).run AcM w = .ok (.slice (some ⟨w.heap.size,0,none⟩) 1 1) (w.alloc (.cells #[.slice ao n c] 27)):=by kernel_rfl
theorem J8:Plain AcM 45:=fun _ _=>by kernel_rfl
theorem Ef:Tryz.prog.underlying 233=some (.map 33 3):=by kernel_rfl
theorem NM:∀(cs:Array AcJ),cs.size=32→∀w:AcK,(Adt 42 1 #[(0, .agg cs)]).run AcM w = .ok (.slice (some ⟨w.heap.size,0,none⟩) 1 1) (w.alloc (.cells cs 33))
 | ⟨[c0,c1,c2,c3,c4,c5,c6,c7,c8,c9,c10,c11,c12,c13,c14,c15,c16,c17,c18,c19,c20,c21,c22,c23,c24,c25,c26,c27,c28,c29,c30,c31]⟩,_,w=>Us c0 c1 c2 c3 c4 c5 c6 c7 c8 c9 c10 c11 c12 c13 c14 c15 c16 c17 c18 c19 c20 c21 c22 c23 c24 c25 c26 c27 c28 c29 c30 c31 w
theorem PO:Tryz.prog.underlying 9=some (.string):=by kernel_rfl
theorem Mh:Plain AcM 144:=fun _ _=>by kernel_rfl
theorem SL:Plain AcM 145:=fun _ _=>by kernel_rfl
theorem SM:Plain AcM 132:=fun _ _=>by kernel_rfl
theorem IO:Plain AcM 146:=fun _ _=>by kernel_rfl
theorem Uz:Plain AcM 55:=fun _ _=>by kernel_rfl
theorem SN(w:AcK)(hG:Laid w)(v:AcJ)(ps:List Pt)(hr:RG 2 partC w v ps)(hps:LC w ps)(hL:Ct ps):
  Calls AcM 91 #[v] w fun e w' =>∃v',e = .returned (.tuple #[v',NI (AZ ps).2])∧w'.ownsRow w.heap.size 5 1 v' (AZ ps).1.length (AcL (AZ ps).1)∧Ext w w' :=by
 have hw2:=hG.two;have hL1:=hL.1;refine gG (args:= [v]) Tryz.func91 rfl 165 rfl rfl ?_;have hE:=Ext.refl w;refine gS (ZI FG (ZC hr rfl) (gS (ZA SI rfl ((Sf _ (ps.length) (by omega)).mono ?_))));rintro e w6 ⟨v3,rfl,bf,fj⟩;refine⟨_,rfl,?_⟩;refine gS (Aan rk NI (fun id:List UInt8=>id.length=32) fun n8 w9 i7 b4 c9 i8=> ?_);have hE:=hE.trans fj;have da:=hE.size;have fk:OB v3 n8:=A3 bf (by omega);have i9:n8<w9.heap.size:=by omega
 have hids0:OG w.heap.size 33 32 AcL w9 (AcU none 0 0) ([]:List Bs):=OG.nil _ _ _ _ _;have fl:AcT (AcU none 0 0)≠some n8:=fun h=>by cases h
 have fm:Ai (AcU none 0 0) v3:=fun k h=>by cases h
 have fn:Ai v3 (AcU none 0 0):=fun k _ h=>by cases h
 have hE:=hE.trans c9;refine gS (ZI FG (ZC (hr.keep hE) rfl) (gS (Acj 8 L9 YO rfl rfl (by omega) (by omega) fun ab fo fp db ch ja=> ?_)));have dc:=hE.size;have jb:=As b4.lt fp;have bf:=Stab.own _ _ _ _ _ _ _ _ bf c9;have fq:OB v3 ab:=A3 bf (by omega);have fr:AcT (AcU none 0 0)≠some ab:=A3 hids0.2 (by omega);have dd:=db;clear db;have jc:ab<fo.heap.size:=by omega
 have hE:=hE.trans ch;have bf:=Stab.own _ _ _ _ _ _ _ _ bf ch;have b4:=b4.keep ch;have hids0:=hids0.keep ch;refine gS (ZI FG (ZC (hr.keep hE) rfl) (gL (fun(ρ:Ad) (wz:AcK)=>∃i:Nat,∃s:BS,∃vb:AcJ,∃vi:AcJ,ρ 0=(v:AcJ)∧ρ 5=(.map (some n8):AcJ)∧ρ 7=(.slice (some ⟨ab,0,none⟩) ps.length ps.length:AcJ)∧ρ 28=(v:AcJ)∧ρ 29=(NI ps.length:AcJ)∧ρ 30=(NI i:AcJ)∧ρ 8=(NI s.total:AcJ)∧ρ 4=(vb:AcJ)∧ρ 6=(vi:AcJ)∧Ext w wz∧wz.ownsRow w.heap.size 5 1 vb (s.b:List UInt8).length (AcL (s.b))∧OG w.heap.size 33 32 (AcL) wz vi (s.ids)∧MapF rk NI (fun id:List UInt8=>id.length=32) wz n8 (Bw s)∧wz.heap[ab]? =some (.cells ((s.depths++AcX (ps.length-i) 0).map fun x=>NI x).toArray 3 (0,0))∧(C4 ps i = .ok s)∧(i≤ps.length)∧(OB vb n8)∧(Ai vb vi)∧(OB vb ab)∧(OB vi n8)∧(Ai vi vb)∧(OB vi ab)∧True) (fun ρ _=>ps.length-(intOf (ρ 30)).toNat) ⟨0,⟨80 :: Ac4 ps.length,[],[],[],0⟩,v3,(AcU none 0 0),rfl,rfl,rfl,rfl,rfl,rfl,rfl,rfl,rfl,hE,Dq bf (rfl),Bc hids0 (rfl),Cb b4 (rfl),A1 dd (rfl),rfl,Adm _,fk,fn,fq,fl,fm,fr,trivial⟩ ?_));clear bf;clear b4;clear hids0;clear dd;clear hE;rintro de df ⟨i,s,vb,vi,T0,T5,T7,aq,ar,ad,T8,T4,T6,hE,hr_vb,hr_vi,hb11l,hb38l,hs,hi,hap_vb_n8,hap_vb_vi,hap_vb_n24,hap_vi_n8,hap_vi_vb,hap_vi_n24,-⟩;have q30:=ad;have hB:=IN hL i s hi hs;have hBi:=hB.ids;have hBp:=hB.places;have hBd:=hB.depths;have hBb:=hB.b;have hBt:=hB.total;obtain⟨dl,hdl⟩:∃dl,dl=s.depths++AcX (ps.length-i) 0:=⟨_,rfl⟩;have hb38l:df.heap[ab]? =some (.cells (dl.map fun x=>NI x).toArray 3 (0,0)):=A1 hb38l (by rw[hdl]);have hdll:dl.length=ps.length:=by rw[hdl,AcQ,Ac7];omega
 have hdg:∀m,m<i→dl.getD m 0=s.depths.getD m 0:=fun m hm=>by rw[hdl,AcO,AdF (by omega),←AcO]
 refine gS (Zv (a:=(i:Nat)) (b:=(ps.length:Nat)) ad ar (AI _ _ _ _) ?_);refine cD rfl (fun ct=> ?_) fun ct=> ?_
 ·have hil:i<ps.length:=ct;obtain⟨p,hp⟩:∃p,p=ps.getD i AC:=⟨_,rfl⟩;have hpm:p∈ps:=by rw[hp];exact getD_mem AC hil
  have hpl:=hL.2 p hpm;have hpb:=(hps p hpm).2;have hpr:=(hps p hpm).1;have hst:=EW hs;unfold EQ at hst;rw[←hp]at hst;have fs:(partC (ps.getD (i) AC)).length=2:=(RG.elem (hr.keep hE) AC (by omega));refine gS (ZO FG KV (by decide) AC (ZC (hr.keep hE) aq) ad (by omega) fun jd dh=>(gS (ZS (ZT dh rfl) (SJ).choose_spec rfl (by rw[fs];exact KU) (gS (Yk.alloc SK fun am ft di dj b5 je=> ?_)))));have o:=Ext.refl df;have jf:=hE.size;have jg:=As hb11l.lt di;have jh:=As (bl hb38l) di;have ci:OB vb am:=A3 hr_vb (by omega);have dk:OB vi am:=A3 hr_vi.2 (by omega);have f:=dj;clear dj;have ji:am<ft.heap.size:=by omega
  refine gS (Zy (vr (PQ am 0) rfl) (vr (.agg (partC (ps.getD (i) AC)).toArray) rfl) f (by rfl) (by exact KU) ((partC_one (RB.one (hps _ (getD_mem AC ct)).1))) fun dm dn b6 jj=> ?_);have hb11l:=hb11l.keep b5;have hb11l:=MapF.other hb11l b6 (Ak (by omega));clear f;have f:=dn;clear dn;have jk:=bl f;clear dh;have f:dm.heap[am]? =some (.cells ([p.v, .int .i64 (p.base:Int)]).toArray 156 (0,0)):=A1 f (show partC (ps.getD i AC)= [p.v, .int .i64 (p.base:Int)] by rw[←hp];rfl);by_cases hA:p.base < -1
  ·have o:=o.trans b5;have o:=Ab o b6 (AcN (AcP _) (by omega));have hE:=hE.trans o;refine gS (Yk.fieldAt Cj rfl (gS (Zu Gj rfl rfl (cellAt f rfl) (gS (ZF Gj (ZB (hpr.keep hE) rfl) (gS (Zv (a:=((p.bytes:List UInt8).length:Nat)) (b:=(262144:Nat)) rfl rfl (Bh _ _ _ _) ?_)))))));refine cD rfl (fun az=> ?_) fun az=> ?_
   ·exact absurd az (by omega)
   refine gS (Yk.fieldAt BR rfl (gS (Zu Uo rfl rfl (cellAt f rfl) (gS (Zv rfl rfl (FV _ .i64 (p.base:Int) (-1:Int)) (kT (by omega) (gS (ZE rfl rfl (cT rfl (BF rfl (vr (AcU none 0 0) rfl) (vr (NI 1) rfl) ?_))))))))));rw[if_pos (by omega)]at hst;rw[Eu (by omega) hst];exact⟨_,rfl,AdK _ _ _ 1,hE⟩
  by_cases hBq:(i:Int)≤p.base
  ·have o:=o.trans b5;have o:=Ab o b6 (AcN (AcP _) (by omega));have hE:=hE.trans o;refine gS (Yk.fieldAt Cj rfl (gS (Zu Gj rfl rfl (cellAt f rfl) (gS (ZF Gj (ZB (hpr.keep hE) rfl) (gS (Zv (a:=((p.bytes:List UInt8).length:Nat)) (b:=(262144:Nat)) rfl rfl (Bh _ _ _ _) ?_)))))));refine cD rfl (fun az=> ?_) fun az=> ?_
   ·exact absurd az (by omega)
   refine gS (Yk.fieldAt BR rfl (gS (Zu Uo rfl rfl (cellAt f rfl) (gS (Zv rfl rfl (FV _ .i64 (p.base:Int) (-1:Int)) (kF (by omega) (gS (Yk.fieldAt BR rfl (gS (Zu Uo rfl rfl (cellAt f rfl) (gS (Zv rfl ad (M8 _ .i64 (p.base:Int) ((i:Nat):Int)) (kT (by omega) (gS (ZH rfl rfl (cT rfl (BF rfl (vr (AcU none 0 0) rfl) (vr (NI 1) rfl) ?_)))))))))))))))));rw[if_pos (by omega)]at hst;rw[Eu (by omega) hst];exact⟨_,rfl,AdK _ _ _ 1,hE⟩
  by_cases hC0:p.base<0
  ·have o:=o.trans b5;have o:=Ab o b6 (AcN (AcP _) (by omega));have hE:=hE.trans o;refine gS (Yk.fieldAt Cj rfl (gS (Zu Gj rfl rfl (cellAt f rfl) (gS (ZF Gj (ZB (hpr.keep hE) rfl) (gS (Zv (a:=((p.bytes:List UInt8).length:Nat)) (b:=(262144:Nat)) rfl rfl (Bh _ _ _ _) ?_)))))));refine cD rfl (fun az=> ?_) fun az=> ?_
   ·exact absurd az (by omega)
   refine gS (Yk.fieldAt BR rfl (gS (Zu Uo rfl rfl (cellAt f rfl) (gS (Zv rfl rfl (FV _ .i64 (p.base:Int) (-1:Int)) (kF (by omega) (gS (Yk.fieldAt BR rfl (gS (Zu Uo rfl rfl (cellAt f rfl) (gS (Zv rfl ad (M8 _ .i64 (p.base:Int) ((i:Nat):Int)) (kF (by omega) (gS (ZH rfl rfl (cF rfl (gS (Yk.fieldAt Cj rfl (gS (Zu Gj rfl rfl (cellAt f rfl) (gS (Aae Gm (ZB (hpr.keep hE) (vr p.v rfl)) fun fu jl fv dq=> ?_))))))))))))))))))))));have hE:=hE.trans dq;refine gS (ZA J8 rfl ((Gc _ (hG.keep hE) fu (p.bytes) fv (by omega)).mono ?_));rintro e jm ⟨rfl,dr⟩;refine⟨_,rfl,?_⟩;refine gS (Yk.alloc Ur fun b7 fw cu ds bg jn=> ?_);have hE:=hE.trans dr;have hZ1:=dq.trans dr;have o:=o.trans hZ1;have cv:=hE.size;have hb11l:=hb11l.keep hZ1;have jo:=As hb11l.lt cu;have jp:=o.size;have hb38l:=eb o hb38l;have jq:=As (bl hb38l) cu;have f:=eb hZ1 f;have jr:=As (bl f) cu;have hr_vb:=Stab.own _ _ _ _ _ _ _ _ hr_vb o;have dt:OB vb b7:=A3 hr_vb (by omega);have hr_vi:=hr_vi.keep o;have du:OB vi b7:=A3 hr_vi.2 (by omega);have an:=ds;clear ds;have js:b7<fw.heap.size:=by omega
   refine gS (Zy (vr (PQ b7 0) rfl) (vr (AB (Sha.sum (p.bytes))) rfl) an (by exact Bn (Sha.sum_length _) Ac7) (by exact Ac (Sha.sum_length _)) (Af _) fun fx dv bh jt=> ?_);have hb11l:=hb11l.keep bg;have hb11l:=MapF.other hb11l bh (Ak (by omega));clear an;have an:=dv;clear dv;have ju:=bl an;rw[if_neg (by omega)]at hst;by_cases hin:Sha.sum p.bytes∈s.ids
   ·rw[if_pos hin]at hst;obtain⟨q,hq,-⟩:=D7 s.ids s.places (Sha.sum p.bytes) (by omega) hin;refine gS (Zz rfl an Wq rfl (by exact Ac (Sha.sum_length _)) (gS (Aab (ek:=rk) (ev:=NI) (D:=(fun id:List UInt8=>id.length=32)) Cm Cn (fun _ _=>Cg) Ef (z:=NI 0) Hh T5 rfl hb11l (Sha.sum_length _) (show Bw s _=some q from hq) (gS (Yk.extract (vs:= [NI q, .bool (true)]) rfl rfl (gS (Yk.extract (vs:= [NI q, .bool (true)]) rfl rfl (cT rfl (BF rfl (vr (AcU none 0 0) rfl) (vr (NI 11) rfl) ?_)))))))));rw[Eu (by omega) hst];have hE:=hE.trans bg;have hE:=Ab hE bh (AcN cv (by omega));exact⟨_,rfl,AdK _ _ _ 1,hE⟩
   rw[if_neg hin]at hst;have hq:=CW s.ids s.places (Sha.sum p.bytes) hin;have f:=eb bg f;have f:=kb bh f (by omega);refine gS (Zz rfl an Wq rfl (by exact Ac (Sha.sum_length _)) (gS (Aah (ek:=rk) (ev:=NI) (D:=(fun id:List UInt8=>id.length=32)) Cm Cn (fun _ _=>Cg) Ef (z:=NI 0) Hh T5 rfl hb11l (Sha.sum_length _) (show Bw s _=none from hq) (gS (Yk.extract (vs:= [NI 0, .bool (false)]) rfl rfl (gS (Yk.extract (vs:= [NI 0, .bool (false)]) rfl rfl (cF rfl (gS (Yk.fieldAt BR rfl (gS (Zu Uo rfl rfl (cellAt f rfl) (gS (Zv rfl rfl (M8 _ .i64 (p.base:Int) ((0:Nat):Int)) (kF (by omega) ?_)))))))))))))));obtain⟨d2,hd2⟩:∃d2,d2=s.depths++Dr p s :: AcX (ps.length-i-1) 0:=⟨_,rfl⟩;have hb38l:=eb bg hb38l;have hb38l:=kb bh hb38l (by omega);have hb38l:fx.heap[ab]? =some (.cells (d2.map fun x=>NI x).toArray 3 (0,0)):=A1 hb38l (congrArg (Afs fun x=>NI x) (by rw[hd2,hdl,show ps.length-i=(ps.length-i-1)+1 by omega];unfold Dr;rw[if_pos hC0];rfl));have hdv:d2.getD i 0=Dr p s:=by rw[hd2,AcO,AdB (by omega),hBd,Aez];simp
   have hd2l:d2.length=ps.length:=by rw[hd2,AcQ,Adh,Ac7];omega
   refine cF rfl (gS (AaF (i:=i) L9 Hg T7 ad (by omega) (gS (Zu Uo rfl rfl (cellAt hb38l (Gl (i:=i) (by omega))) (gS (Zv (a:=((d2).getD (i) 0:Nat)) (b:=(50:Nat)) rfl rfl (Bh _ _ _ _) ?_))))));refine cD rfl (fun a0=> ?_) fun a0=> ?_
   ·refine BF rfl (vr (AcU none 0 0) rfl) (vr (NI 17) rfl) ?_;rw[hdv]at a0;rw[if_pos a0]at hst;rw[Eu (by omega) hst];have hE:=hE.trans bg;have hE:=Ab hE bh (AcN cv (by omega));exact⟨_,rfl,AdK _ _ _ 1,hE⟩
   rw[hdv]at a0;rw[if_neg a0]at hst;have hst3:=hst;have hr_vb:=Stab.own _ _ _ _ _ _ _ _ hr_vb bg;have hr_vb:=BM hr_vb bh dt;refine gS (Zz rfl an Wq rfl (by exact Ac (Sha.sum_length _)) (gS (ZF Gj (ZB (ZP hr_vb) T4) (gS (Aak (ek:=rk) (ev:=NI) (D:=(fun id:List UInt8=>id.length=32)) (c:=(s.b:List UInt8).length) Cm Cn Ef T5 (vr (AB (Sha.sum (p.bytes))) rfl) (vr (NI ((s.b:List UInt8).length)) rfl) hb11l (Sha.sum_length _) fun fy a4 bw jv=> ?_)))));clear hb11l;have jw:n8<fy.heap.size:=a4.lt;have an:=kb bw an (by omega);refine gS (Zz rfl an Wq rfl (by exact Ac (Sha.sum_length _)) (gS (Z2 (a:=(Sha.sum (p.bytes))) (enc:=AcL) (vr (AB (Sha.sum (p.bytes))) rfl) (by rw[AcZ];exact(Sha.sum_length _)) NM fun fz f0 dw bo=> ?_)));have hE:=hE.trans bg;have hE:=Ab hE bh (AcN cv (by omega));have hE:=Ab hE bw (AcN da (by omega));have hE:=hE.trans bo;have hr_vi:=hr_vi.keep bg;have hr_vi:=OG.kept hr_vi bh du;have hr_vi:=OG.kept hr_vi bw hap_vi_n8;have hr_vi:=hr_vi.keep bo;refine gS (ZM _ _ w.heap.size _ 32 NB pk6_ig33.choose_spec.1 pk6_ig33.choose_spec.2 NB (s.ids) ([(Sha.sum (p.bytes))]) (OG.of hr_vi T6) (ZC dw (vr fz rfl)) (fun _ _=>Af _) (by simp only[Adh,Adp];omega) (by simp only[Adh,Adp];omega) hE.size fun a8 u cj a1=> ?_);have a1:Grew f0 u vi a8:= .eqv T6 a1;have a4:=a4.keep bo;have f1:OB a8 n8:=An a1 hap_vi_n8 a4.lt;have hr_vb:=BM hr_vb bw hap_vb_n8;have hr_vb:=Stab.own _ _ _ _ _ _ _ _ hr_vb bo;have f2:Ai a8 vb:=AK a1 hap_vi_vb hr_vb;have dx:Ai vb a8:=fun k h1 h2=>f2 k h2 h1;have hb38l:=kb bw hb38l (by omega);have hb38l:=eb bo hb38l;have f3:OB a8 ab:=An a1 hap_vi_n24 (bl hb38l);have f:=kb bw f (by omega);have f:=eb bo f;have an:=eb bo an;have hE:=Aq hE a1 hr_vi.2 (AcP _);have hr_vb:=Dy hr_vb a1 hap_vi_vb;have hb38l:=Ao hb38l a1 hap_vi_n24;have f:=Ao f a1 dk;have an:=Ao an a1 du;have a4:=MapF.grew a4 a1 hap_vi_n8;clear dw;clear hr_vi;refine gS (Yk.fieldAt Cj rfl (gS (Zu Gj rfl rfl (cellAt f rfl) (gS (ZF Gj (ZB (hpr.keep hE) rfl) (gS (Zw (xv:=NI s.total) (yv:=NI ((p.bytes:List UInt8).length)) T8 rfl rfl (Ag _ _ _ (by omega)) (gS (Yk.fieldAt BR rfl (gS (Zu Uo rfl rfl (cellAt f rfl) (gS (Zv rfl rfl (FV _ .i64 (p.base:Int) ((0:Nat):Int)) (kT (by omega) (cT rfl (gR ?_))))))))))))))));have f4:∀k,AcT vb=some k→w.heap.size≤k:=fun k hk=>(hr_vb.lt k hk).1;have hsz_:w.heap.size≤u.heap.size:=hE.size;refine Es (AcT vb) [2] [0] (fun m=>if m=2 then [0,1]else []) (fun m=>if m=2 then [0,1,2,6,7]else []) [fun x w' =>E9 w.heap.size u.heap.size 5 (AcT vb) (s.b) x w',fun x w' =>RB w' x (([0]:List UInt8)),fun x w' =>E9 w.heap.size u.heap.size 5 (AcT vb) ((s.b:List UInt8)++(([0]:List UInt8):List UInt8)) x w',Is (PQ am 0),Is (p.v),Is (St (p.bytes)),fun x w' =>E9 w.heap.size u.heap.size 5 (AcT vb) (((s.b:List UInt8)++(([0]:List UInt8):List UInt8):List UInt8)++Bu (p.bytes:List UInt8)) x w',fun x w' =>E9 w.heap.size u.heap.size 5 (AcT vb) (((s.b:List UInt8)++(([0]:List UInt8):List UInt8):List UInt8)++Bu (p.bytes:List UInt8)) x w'] (by kernel_rfl) [92,93,94,95,96,97,98,4] (by kernel_rfl) (by kernel_rfl) (by kernel_rfl) (by kernel_rfl) (by kernel_rfl) rfl ⟨(fun _ _ _ h k=>⟨Stab.own _ _ _ _ _ _ _ _ h.1 k,h.2⟩),(fun _ _ _ h k=>RB.keep h k),(fun _ _ _ h k=>⟨Stab.own _ _ _ _ _ _ _ _ h.1 k,h.2⟩),ZD _,ZD _,ZD _,(fun _ _ _ h k=>⟨Stab.own _ _ _ _ _ _ _ _ h.1 k,h.2⟩),(fun _ _ _ h k=>⟨Stab.own _ _ _ _ _ _ _ _ h.1 k,h.2⟩),trivial⟩ ⟨⟨.inl rfl, .inl rfl, .inl rfl, .inr (ZD _), .inr (ZD _), .inr (ZD _), .inl rfl, .inl rfl,trivial⟩,trivial⟩ ?f5 ?hQ4025
   case f5=>
    refine⟨?_,?_,?_,?_,?_,?_,?_,?_,trivial⟩
    ·refine Ah rfl fun σ w1 hC h=> ?_;have hX:Ext u w1:=hC;have hC:BX u.heap.size (AcT vb) u w1:=Z5 hX (AcP _);have e4:=(Az (h 4 (by decide))).trans T4;exact Yk.move e4 ⟨Ext.refl _,Stab.own _ _ _ _ _ _ _ _ hr_vb hX,fun k hk=> .inl hk⟩
    ·refine Ah rfl fun σ w1 hC h=> ?_;have hC:BX u.heap.size (AcT vb) u w1:=hC;exact AbB (e:=5) ([0]:List UInt8) (by decide) (fun _ _=>by kernel_rfl) fun v w2 hN=>⟨hN.ext,hN.rb⟩
    ·refine Ah rfl fun σ w1 hC h=> ?_;have hC:BX u.heap.size (AcT vb) u w1:=hC;have cx:(fun x w' =>E9 w.heap.size u.heap.size 5 (AcT vb) (s.b) x w') (σ 92) w1:=h 92 (by decide);have f6:(fun x w' =>RB w' x (([0]:List UInt8))) (σ 93) w1:=h 93 (by decide);exact ZW _ _ w.heap.size (.int .u8 0) Gj Nc rfl Gj (s.b) (([0]:List UInt8)) cx.1 f6 (by simp only[Adh,Adp];omega) (AcN hsz_ hC.size) fun v w2 ho hg=>⟨Z6 hg.by_ hC.size cx.2,ho,fun k hk=>(hg.fresh k hk).elim (cx.2 k) (fun x=> .inr (AcN hC.size x))⟩
    ·refine Ah rfl fun σ w1 hC h=> ?_;have hC:BX u.heap.size (AcT vb) u w1:=hC;have b8:σ 10=PQ am 0:=(Az (h 10 (by decide))).trans rfl;exact Yk.fieldAt Cj b8 ⟨Ext.refl _,rfl⟩
    ·refine Ah rfl fun σ w1 hC h=> ?_;have hC:BX u.heap.size (AcT vb) u w1:=hC;have f7:=Az (h 95 (by decide));exact Zu Gj rfl f7 (cellAt (BX.blk hC f ci) (show _=some (p.v:AcJ)from rfl)) ⟨Ext.refl _,rfl⟩
    ·refine Ah rfl fun σ w1 hC h=> ?_;have hC:BX u.heap.size (AcT vb) u w1:=hC;have f8:=Az (h 96 (by decide));exact Z3 Gj u5 PO (ZB (hpr.keep (DH hE hC (by omega) (fun k hk=>by have:=f4 k hk;omega))) f8) ⟨Ext.refl _,rfl⟩
    ·refine Ah rfl fun σ w1 hC h=> ?_;have hC:BX u.heap.size (AcT vb) u w1:=hC;have f9:(fun x w' =>E9 w.heap.size u.heap.size 5 (AcT vb) ((s.b:List UInt8)++(([0]:List UInt8):List UInt8)) x w') (σ 94) w1:=h 94 (by decide);have ga:=Az (h 97 (by decide));refine Zx Mh rfl ga ((NL _ (σ 94) ((s.b:List UInt8)++(([0]:List UInt8):List UInt8)) (ZP f9.1) (p.bytes) (by simp only[AcQ,Adh,Adp];omega)).mono ?_);rintro e w2 ⟨v,rfl,hN⟩;exact⟨_,rfl,hN.ext,BL hN.own (AcN hsz_ hC.size),fun k hk=> .inr (AcN hC.size (hN.own.lt k hk).1)⟩
    ·refine Ah rfl fun σ w1 hC h=> ?_;have hC:BX u.heap.size (AcT vb) u w1:=hC;have gb:(fun x w' =>E9 w.heap.size u.heap.size 5 (AcT vb) (((s.b:List UInt8)++(([0]:List UInt8):List UInt8):List UInt8)++Bu (p.bytes:List UInt8)) x w') (σ 98) w1:=h 98 (by decide);exact Yk.assign rfl ⟨Ext.refl _,gb⟩
   intro dy dz gc he hf;obtain⟨-,-,-,-,-,-,-,k4,-⟩:=hf;obtain⟨T0,T5,T6,T7,T8,T9,ge,gf,gg,aq,ar,ad,gh,gi,gj,gk,-⟩:=he.hold [(0,_),(5,_),(6,a8),(7,_),(8,NI ((s.total)+((p.bytes:List UInt8).length))),(9,_),(10,PQ am 0),(11,PQ b7 0),(13, .bool (false)),(28,_),(29,_),(30,_),(47, .bool (false)),(58, .bool (false)),(61, .bool (false)),(91, .bool (true))] ⟨T0,T5,rfl,T7,rfl,ad,rfl,rfl,rfl,aq,ar,ad,rfl,rfl,rfl,rfl,trivial⟩ rfl;clear he;have k4:(fun x w' =>E9 w.heap.size u.heap.size 5 (AcT vb) (((s.b:List UInt8)++(([0]:List UInt8):List UInt8):List UInt8)++Bu (p.bytes:List UInt8)) x w') (dy 4) dz:=k4;obtain⟨bx,T4⟩:∃v,dy 4=v:=⟨_,rfl⟩;rw[T4]at k4;have a9:Grew u dz vb bx:=⟨gc.grown,k4.2⟩;have gl:=k4.1;clear k4;have gm:OB bx n8:=An a9 hap_vb_n8 a4.lt;have gn:OB bx ab:=An a9 hap_vb_n24 (bl hb38l);have d0:Ai bx a8:=AK a9 dx cj.2;have go:Ai a8 bx:=fun k h1 h2=>d0 k h2 h1;have hE:=Aq hE a9 hr_vb (AcP _);have hb38l:=Ao hb38l a9 hap_vb_n24;have f:=Ao f a9 ci;have an:=Ao an a9 dt;have a4:=MapF.grew a4 a9 hap_vb_n8;have cj:=Bg cj a9 dx;clear hr_vb;refine gX ?_;have hbn:(bnext ps p s).b=s.b++ [0]++Bu p.bytes:=by unfold bnext;simp only;rw[if_pos hC0]
   refine gS (Zw (xv:=NI i) (yv:=NI 1) ad rfl rfl (Ag _ _ _ (by omega)) ?_);have hdep:d2=(bnext ps p s).depths++AcX (ps.length-(i+1)) 0:=by rw[hd2];simp only[bnext,Adn,Af6,Nat.sub_sub]
   refine gK (Adr ⟨i+1,bnext ps p s,bx,a8,T0,T5,T7,aq,ar,rfl,T8,T4,T6,hE,Dq gl (by rw[hbn]),Bc cj (rfl),Cb a4 ((IM hB hin).symm),A1 hb38l (congrArg (Afs fun x=>NI x) hdep),hst3,by omega,gm,d0,gn,f1,go,f3,trivial⟩ ?_);show ps.length-(intOf (NI ((i)+(1)))).toNat<ps.length-(intOf (de 30)).toNat;rw[q30];simp only[intOf,Ac0];omega
  have o:=o.trans b5;have o:=Ab o b6 (AcN (AcP _) (by omega));have hE:=hE.trans o;obtain⟨m,hm⟩:∃m:Nat,p.base=(m:Int):=⟨p.base.toNat,by omega⟩;have hmi:m<i:=by omega
  have f:dm.heap[am]? =some (.cells ([p.v,NI m]).toArray 156 (0,0)):=A1 f (by rw[hm]);refine gS (Yk.fieldAt Cj rfl (gS (Zu Gj rfl rfl (cellAt f rfl) (gS (ZF Gj (ZB (hpr.keep hE) rfl) (gS (Zv (a:=((p.bytes:List UInt8).length:Nat)) (b:=(262144:Nat)) rfl rfl (Bh _ _ _ _) ?_)))))));refine cD rfl (fun az=> ?_) fun az=> ?_
  ·exact absurd az (by omega)
  refine gS (Yk.fieldAt BR rfl (gS (Zu Uo rfl rfl (cellAt f rfl) (gS (Zv rfl rfl (FV _ .i64 ((m:Nat):Int) (-1:Int)) (kF (by omega) (gS (Yk.fieldAt BR rfl (gS (Zu Uo rfl rfl (cellAt f rfl) (gS (Zv (a:=(m:Nat)) (b:=(i:Nat)) rfl ad (EM _ _ _ _) (kF (by omega) (gS (ZH rfl rfl (cF rfl (gS (Yk.fieldAt Cj rfl (gS (Zu Gj rfl rfl (cellAt f rfl) (gS (Aae Gm (ZB (hpr.keep hE) (vr p.v rfl)) fun gp jx gq d1=> ?_))))))))))))))))))))));have hE:=hE.trans d1;refine gS (ZA J8 rfl ((Gc _ (hG.keep hE) gp (p.bytes) gq (by omega)).mono ?_));rintro e jy ⟨rfl,d3⟩;refine⟨_,rfl,?_⟩;refine gS (Yk.alloc Ur fun bp gr cy d4 bi jz=> ?_);have hE:=hE.trans d3;have hZ2:=d1.trans d3;have o:=o.trans hZ2;have cz:=hE.size;have hb11l:=hb11l.keep hZ2;have j0:=As hb11l.lt cy;have j1:=o.size;have hb38l:=eb o hb38l;have j2:=As (bl hb38l) cy;have f:=eb hZ2 f;have j3:=As (bl f) cy;have hr_vb:=Stab.own _ _ _ _ _ _ _ _ hr_vb o;have c0:OB vb bp:=A3 hr_vb (by omega);have hr_vi:=hr_vi.keep o;have d5:OB vi bp:=A3 hr_vi.2 (by omega);have t:=d4;clear d4;have j4:bp<gr.heap.size:=by omega
  refine gS (Zy (vr (PQ bp 0) rfl) (vr (AB (Sha.sum (p.bytes))) rfl) t (by exact Bn (Sha.sum_length _) Ac7) (by exact Ac (Sha.sum_length _)) (Af _) fun j5 d6 bj j6=> ?_);have hb11l:=hb11l.keep bi;have hb11l:=MapF.other hb11l bj (Ak (by omega));clear t;have t:=d6;clear d6;have j7:=bl t;rw[if_neg (by omega)]at hst;by_cases hin:Sha.sum p.bytes∈s.ids
  ·rw[if_pos hin]at hst;obtain⟨q,hq,-⟩:=D7 s.ids s.places (Sha.sum p.bytes) (by omega) hin;refine gS (Zz rfl t Wq rfl (by exact Ac (Sha.sum_length _)) (gS (Aab (ek:=rk) (ev:=NI) (D:=(fun id:List UInt8=>id.length=32)) Cm Cn (fun _ _=>Cg) Ef (z:=NI 0) Hh T5 rfl hb11l (Sha.sum_length _) (show Bw s _=some q from hq) (gS (Yk.extract (vs:= [NI q, .bool (true)]) rfl rfl (gS (Yk.extract (vs:= [NI q, .bool (true)]) rfl rfl (cT rfl (BF rfl (vr (AcU none 0 0) rfl) (vr (NI 11) rfl) ?_)))))))));rw[Eu (by omega) hst];have hE:=hE.trans bi;have hE:=Ab hE bj (AcN cz (by omega));exact⟨_,rfl,AdK _ _ _ 1,hE⟩
  rw[if_neg hin]at hst;have hq:=CW s.ids s.places (Sha.sum p.bytes) hin;have hb38l:=eb bi hb38l;have hb38l:=kb bj hb38l (by omega);have f:=eb bi f;have f:=kb bj f (by omega);refine gS (Zz rfl t Wq rfl (by exact Ac (Sha.sum_length _)) (gS (Aah (ek:=rk) (ev:=NI) (D:=(fun id:List UInt8=>id.length=32)) Cm Cn (fun _ _=>Cg) Ef (z:=NI 0) Hh T5 rfl hb11l (Sha.sum_length _) (show Bw s _=none from hq) (gS (Yk.extract (vs:= [NI 0, .bool (false)]) rfl rfl (gS (Yk.extract (vs:= [NI 0, .bool (false)]) rfl rfl (cF rfl (gS (Yk.fieldAt BR rfl (gS (Zu Uo rfl rfl (cellAt f rfl) (gS (Zv (a:=(m:Nat)) (b:=(0:Nat)) rfl rfl (EM _ _ _ _) (kT (Adm _) (cT rfl (gS (Yk.fieldAt BR rfl (gS (Zu Uo rfl rfl (cellAt f rfl) (gS (AaF (i:=m) L9 Hg T7 rfl (by omega) (gS (Zu Uo rfl rfl (cellAt hb38l (Gl (i:=m) (by omega))) (gS (Zw (xv:=NI ((dl).getD (m) 0)) (yv:=NI 1) rfl rfl rfl (Ag _ _ _ (by have:=hB.dp _ (getD_mem 0 (l:=s.depths) (i:=m) (by omega));rw[hdg m hmi];omega)) (gS (AaF (i:=i) L9 Hg T7 ad (by omega) (gS (AaV (i:=i) (v:=((dl).getD (m) 0)+(1)) rfl rfl hb38l (by omega) NC fun gs d7 bq j8=> ?_))))))))))))))))))))))))))))));have hb11l:=MapF.other hb11l bq (Ak (by omega));clear hb38l;have hb38l:=d7;clear d7;have j9:=bl hb38l;obtain⟨d2,hd2⟩:∃d2,d2=s.depths++Dr p s :: AcX (ps.length-i-1) 0:=⟨_,rfl⟩;have hb38l:gs.heap[ab]? =some (.cells (d2.map fun x=>NI x).toArray 3 (0,0)):=A1 hb38l (congrArg (Afs fun x=>NI x) (by rw[hd2,hdg m hmi,hdl,Aeg _ _ (by omega),hBd,Aez,show ps.length-i=(ps.length-i-1)+1 by omega];unfold Dr;rw[if_neg hC0,hm,Ac0];rfl));have hdv:d2.getD i 0=Dr p s:=by rw[hd2,AcO,AdB (by omega),hBd,Aez];simp
  have hd2l:d2.length=ps.length:=by rw[hd2,AcQ,Adh,Ac7];omega
  refine gS (AaF (i:=i) L9 Hg T7 ad (by omega) (gS (Zu Uo rfl rfl (cellAt hb38l (Gl (i:=i) (by omega))) (gS (Zv (a:=((d2).getD (i) 0:Nat)) (b:=(50:Nat)) rfl rfl (Bh _ _ _ _) ?_)))));refine cD rfl (fun a0=> ?_) fun a0=> ?_
  ·refine BF rfl (vr (AcU none 0 0) rfl) (vr (NI 17) rfl) ?_;rw[hdv]at a0;rw[if_pos a0]at hst;rw[Eu (by omega) hst];have hE:=hE.trans bi;have hE:=Ab hE bj (AcN cz (by omega));have hE:=Ab hE bq (AcN dc (by omega));exact⟨_,rfl,AdK _ _ _ 1,hE⟩
  rw[hdv]at a0;rw[if_neg a0]at hst;have hst3:=hst;have hr_vb:=Stab.own _ _ _ _ _ _ _ _ hr_vb bi;have hr_vb:=BM hr_vb bj c0;have hr_vb:=BM hr_vb bq hap_vb_n24;have t:=kb bq t (by omega);refine gS (Zz rfl t Wq rfl (by exact Ac (Sha.sum_length _)) (gS (ZF Gj (ZB (ZP hr_vb) T4) (gS (Aak (ek:=rk) (ev:=NI) (D:=(fun id:List UInt8=>id.length=32)) (c:=(s.b:List UInt8).length) Cm Cn Ef T5 (vr (AB (Sha.sum (p.bytes))) rfl) (vr (NI ((s.b:List UInt8).length)) rfl) hb11l (Sha.sum_length _) fun gt ac bz ka=> ?_)))));clear hb11l;have kc:n8<gt.heap.size:=ac.lt;have t:=kb bz t (by omega);refine gS (Zz rfl t Wq rfl (by exact Ac (Sha.sum_length _)) (gS (Z2 (a:=(Sha.sum (p.bytes))) (enc:=AcL) (vr (AB (Sha.sum (p.bytes))) rfl) (by rw[AcZ];exact(Sha.sum_length _)) NM fun gu gv d8 br=> ?_)));have hE:=hE.trans bi;have hE:=Ab hE bj (AcN cz (by omega));have hE:=Ab hE bq (AcN dc (by omega));have hE:=Ab hE bz (AcN da (by omega));have hE:=hE.trans br;have hr_vi:=hr_vi.keep bi;have hr_vi:=OG.kept hr_vi bj d5;have hr_vi:=OG.kept hr_vi bq hap_vi_n24;have hr_vi:=OG.kept hr_vi bz hap_vi_n8;have hr_vi:=hr_vi.keep br;refine gS (ZM _ _ w.heap.size _ 32 NB pk6_ig33.choose_spec.1 pk6_ig33.choose_spec.2 NB (s.ids) ([(Sha.sum (p.bytes))]) (OG.of hr_vi T6) (ZC d8 (vr gu rfl)) (fun _ _=>Af _) (by simp only[Adh,Adp];omega) (by simp only[Adh,Adp];omega) hE.size fun ax d9 ae a2=> ?_);have a2:Grew gv d9 vi ax:= .eqv T6 a2;have ac:=ac.keep br;have gw:OB ax n8:=An a2 hap_vi_n8 ac.lt;have hr_vb:=BM hr_vb bz hap_vb_n8;have hr_vb:=Stab.own _ _ _ _ _ _ _ _ hr_vb br;have gx:Ai ax vb:=AK a2 hap_vi_vb hr_vb;have ea:Ai vb ax:=fun k h1 h2=>gx k h2 h1;have hb38l:=kb bz hb38l (by omega);have hb38l:=eb br hb38l;have gy:OB ax ab:=An a2 hap_vi_n24 (bl hb38l);have f:=kb bq f (by omega);have f:=kb bz f (by omega);have f:=eb br f;have t:=eb br t;have hE:=Aq hE a2 hr_vi.2 (AcP _);have hr_vb:=Dy hr_vb a2 hap_vi_vb;have f:=Ao f a2 dk;have t:=Ao t a2 d5;have hb38l:=Ao hb38l a2 hap_vi_n24;have ac:=MapF.grew ac a2 hap_vi_n8;clear d8;clear hr_vi;refine gS (Yk.fieldAt Cj rfl (gS (Zu Gj rfl rfl (cellAt f rfl) (gS (ZF Gj (ZB (hpr.keep hE) rfl) (gS (Zw (xv:=NI s.total) (yv:=NI ((p.bytes:List UInt8).length)) T8 rfl rfl (Ag _ _ _ (by omega)) (gS (Yk.fieldAt BR rfl (gS (Zu Uo rfl rfl (cellAt f rfl) (gS (Zv (a:=(m:Nat)) (b:=(0:Nat)) rfl rfl (AI _ _ _ _) (kF (by omega) ?_))))))))))))));have hm32:(s.ids.getD m []).length=32:=hB.len _ (getD_mem [] (by omega));have hpq:=(hps _ (getD_mem AC (l:=ps) (i:=m) (by omega))).1;have hql:=hL.2 _ (getD_mem AC (l:=ps) (i:=m) (by omega));have hmk:=IH (ps.getD m AC).bytes p.bytes (by omega) (by omega);refine cF rfl (gS (Yk.fieldAt BR rfl (gS (Zu Uo rfl rfl (cellAt f rfl) ?_))));have c1:(AcL (((s.ids)++ [(Sha.sum (p.bytes))]).getD (m) ([]:List UInt8))).length=32:=(RG.elem (ZG ae) ([]:List UInt8) (by rw[AcQ];omega));refine gS (ZO NB Sj (by decide) ([]:List UInt8) (ZC (ZG ae) rfl) rfl (by rw[AcQ];omega) fun kd ec=>(gS (ZS (ZT ec rfl) Wq rfl (by rw[c1];exact R4) (gS (Yk.alloc Ur fun ba gz ck ed c2 ke=> ?_)))));have ay:=Ext.refl d9;have kf:=hE.size;have kg:=As (bl f) ck;have kh:=As (bl t) ck;have ki:=As (bl hb38l) ck;have kj:=As ac.lt ck;have ee:OB vb ba:=A3 hr_vb (by omega);have g0:OB ax ba:=A3 ae.2 (by omega);have ah:=ed;clear ed;have kk:ba<gz.heap.size:=by omega
  refine gS (Zy (vr (PQ ba 0) rfl) (vr (AB (((s.ids)++ [(Sha.sum (p.bytes))]).getD (m) ([]:List UInt8))) rfl) ah (by exact Bn (AD (c1)) Ac7) (by exact Ac (AD (c1))) (Af _) fun g1 ef c3 kl=> ?_);have ac:=ac.keep c2;have ac:=MapF.other ac c3 (Ak (by omega));clear ah;have ah:=ef;clear ef;have km:=bl ah;clear ec;have ah:g1.heap[ba]? =some (.cells (AcL (s.ids.getD m [])).toArray 33 (0,0)):=A1 ah (congrArg AcL (by rw[AcO,AdF (by omega),←AcO]));refine CD [0,3,1,2,4,5] [1,2,4,5] [3] fun kn cl=>(yp (Aac Wq Qq rfl zz) (yC (AaB (b:=1) Sd (vr (B8 (1)) rfl) fun cm g2 a5=> ?_)));have ay:=ay.trans c2;have ay:=Ab ay c3 (AcN (AcP _) (by omega));have ay:=ay.trans cl;have hE:=hE.trans ay;have ko:=hE.size;have kp:=ay.size;have f:=eb ay f;have t:=eb ay t;have hb38l:=eb ay hb38l;have ac:=ac.keep cl;have ah:=eb cl ah;have hr_vb:=Stab.own _ _ _ _ _ _ _ _ hr_vb ay;have eg:Ai vb cm:=DN hr_vb a5.own;have ae:=ae.keep c2;have ae:=OG.kept ae c3 g0;have ae:=ae.keep cl;have bb:=a5.own;have hE:=hE.trans a5.ext;have hr_vb:=Stab.own _ _ _ _ _ _ _ _ hr_vb a5.ext;refine yC (ZW _ _ w.heap.size (.int .u8 0) Gj Nc rfl Gj (s.b) ([(1:UInt8)]) (C3 hr_vb T4) (ZB (ZP bb) (vr cm rfl)) (by simp only[Adh,Adp];omega) hE.size fun a6 eh c4 ai=> ?_);have ai:Grew g2 eh vb a6:= .eqv T4 ai;have ac:=ac.keep a5.ext;have ei:OB a6 n8:=An ai hap_vb_n8 ac.lt;have hb38l:=eb a5.ext hb38l;have ej:OB a6 ab:=An ai hap_vb_n24 (bl hb38l);have f:=eb a5.ext f;have el:OB a6 am:=An ai ci (bl f);have t:=eb a5.ext t;have em:OB a6 bp:=An ai c0 (bl t);have ae:=ae.keep a5.ext;have en:Ai a6 ax:=AK ai ea ae.2;have ah:=eb a5.ext ah;have eo:OB a6 ba:=An ai ee (bl ah);have ep:Ai a6 cm:=AK ai eg bb;have hE:=Aq hE ai hr_vb (AcP _);have f:=Ao f ai ci;have t:=Ao t ai c0;have hb38l:=Ao hb38l ai hap_vb_n24;have ac:=MapF.grew ac ai hap_vb_n8;have ae:=Bg ae ai ea;have ah:=Ao ah ai ee;have bb:=Dy bb ai eg;clear hr_vb;refine yC (ZW _ _ w.heap.size (.int .u8 0) Gj Nc rfl Gj (s.b++ [(1:UInt8)]) (s.ids.getD m []) (C3 c4 (vr a6 rfl)) (ZB (Aap ah hm32 (by decide)) (vr (.slice (some ⟨ba,0,none⟩) 32 32) rfl)) (by simp only[AcQ,Adh,Adp,hm32];omega) hE.size fun r g cn aj=> ?_);have aj:Grew eh g a6 r:=aj;have eq:OB r n8:=An aj ei ac.lt;have er:OB r ab:=An aj ej (bl hb38l);have c5:OB r am:=An aj el (bl f);have g3:OB r bp:=An aj em (bl t);have es:Ai r ax:=AK aj en ae.2;have g4:OB r ba:=An aj eo (bl ah);have g5:Ai r cm:=AK aj ep bb;have hE:=Aq hE aj c4 (AcP _);have f:=Ao f aj el;have t:=Ao t aj em;have hb38l:=Ao hb38l aj ej;have ac:=MapF.grew ac aj ei;have ae:=Bg ae aj en;have ah:=Ao ah aj eo;have bb:=Dy bb aj ep;clear c4;refine yC (Yk.assign rfl (gR ?_));have c6:∀k,AcT r=some k→w.heap.size≤k:=fun k hk=>(cn.lt k hk).1;have hsz_:w.heap.size≤g.heap.size:=hE.size;refine Es (AcT r) [] [0] (fun m=> []) (fun m=> []) [fun x w' =>E9 w.heap.size g.heap.size 5 (AcT r) (s.b++ [(1:UInt8)]++s.ids.getD m []) x w',Is (v),Is (PQ am 1),Is (NI m),fun x w' =>PR (partC (ps.getD (m) AC)) x w',fun x w' =>PR (((partC (ps.getD (m) AC)).drop 0).take 1) x w',Is ((ps.getD (m) AC).v),Is (PQ am 0),Is (p.v),fun x w' =>RB w' x (B2 ((ps.getD m AC).bytes) (p.bytes)),Is (St (B2 ((ps.getD m AC).bytes) (p.bytes))),fun x w' =>E9 w.heap.size g.heap.size 5 (AcT r) ((s.b++ [(1:UInt8)]++s.ids.getD m []:List UInt8)++Bu (B2 ((ps.getD m AC).bytes) (p.bytes):List UInt8)) x w',fun x w' =>E9 w.heap.size g.heap.size 5 (AcT r) ((s.b++ [(1:UInt8)]++s.ids.getD m []:List UInt8)++Bu (B2 ((ps.getD m AC).bytes) (p.bytes):List UInt8)) x w'] (by kernel_rfl) [109,110,111,112,113,114,115,116,117,118,119,120,4] (by kernel_rfl) (by kernel_rfl) (by kernel_rfl) (by kernel_rfl) (by kernel_rfl) rfl ⟨(fun _ _ _ h k=>⟨Stab.own _ _ _ _ _ _ _ _ h.1 k,h.2⟩),ZD _,ZD _,ZD _,(fun _ _ _ h k=>PR.keep h k),(fun _ _ _ h k=>PR.keep h k),ZD _,ZD _,ZD _,(fun _ _ _ h k=>RB.keep h k),ZD _,(fun _ _ _ h k=>⟨Stab.own _ _ _ _ _ _ _ _ h.1 k,h.2⟩),(fun _ _ _ h k=>⟨Stab.own _ _ _ _ _ _ _ _ h.1 k,h.2⟩),trivial⟩ trivial ?g6 ?hQ5028
  case g6=>
   refine⟨?_,?_,?_,?_,?_,?_,?_,?_,?_,?_,?_,?_,?_,trivial⟩
   ·refine Ah rfl fun σ w1 hC h=> ?_;have hX:Ext g w1:=hC;have hC:BX g.heap.size (AcT r) g w1:=Z5 hX (AcP _);have e4:σ 4=r:=(Az (h 4 (by decide))).trans rfl;exact Yk.move e4 ⟨Ext.refl _,Stab.own _ _ _ _ _ _ _ _ cn hX,fun k hk=> .inl hk⟩
   ·refine Ah rfl fun σ w1 hC h=> ?_;have hC:BX g.heap.size (AcT r) g w1:=hC;have e0:=(Az (h 0 (by decide))).trans T0;exact Yk.move e0 ⟨Ext.refl _,rfl⟩
   ·refine Ah rfl fun σ w1 hC h=> ?_;have hC:BX g.heap.size (AcT r) g w1:=hC;have b8:σ 10=PQ am 0:=(Az (h 10 (by decide))).trans rfl;exact Yk.fieldAt BR b8 ⟨Ext.refl _,rfl⟩
   ·refine Ah rfl fun σ w1 hC h=> ?_;have hC:BX g.heap.size (AcT r) g w1:=hC;have g8:=Az (h 111 (by decide));exact Zu Uo rfl g8 (cellAt (BX.blk hC f c5) (show _=some (NI m:AcJ)from rfl)) ⟨Ext.refl _,rfl⟩
   ·refine Ah rfl fun σ w1 hC h=> ?_;have hC:BX g.heap.size (AcT r) g w1:=hC;have g9:=Az (h 110 (by decide));have ha:=Az (h 112 (by decide));exact ZO FG KV (by decide) AC (ZC (hr.keep (DH hE hC (by omega) (fun k hk=>by have:=c6 k hk;omega))) g9) ha (by omega) fun v h=>⟨Ext.refl _,h⟩
   ·refine Ah rfl fun σ w1 hC h=> ?_;have hC:BX g.heap.size (AcT r) g w1:=hC;have hb:(fun x w' =>PR (partC (ps.getD (m) AC)) x w') (σ 113) w1:=h 113 (by decide);exact AbJ (n:=1) Cj hb fun v h=>⟨Ext.refl _,h⟩
   ·refine Ah rfl fun σ w1 hC h=> ?_;have hC:BX g.heap.size (AcT r) g w1:=hC;have hc:(fun x w' =>PR (((partC (ps.getD (m) AC)).drop 0).take 1) x w') (σ 114) w1:=h 114 (by decide);exact ZL Gj rfl (PR.cell hc (show _=some ((ps.getD (m) AC).v:AcJ)from rfl)) ⟨Ext.refl _,rfl⟩
   ·refine Ah rfl fun σ w1 hC h=> ?_;have hC:BX g.heap.size (AcT r) g w1:=hC;have b8:σ 10=PQ am 0:=(Az (h 10 (by decide))).trans rfl;exact Yk.fieldAt Cj b8 ⟨Ext.refl _,rfl⟩
   ·refine Ah rfl fun σ w1 hC h=> ?_;have hC:BX g.heap.size (AcT r) g w1:=hC;have hd:=Az (h 116 (by decide));exact Zu Gj rfl hd (cellAt (BX.blk hC f c5) (show _=some (p.v:AcJ)from rfl)) ⟨Ext.refl _,rfl⟩
   ·refine Ah rfl fun σ w1 hC h=> ?_;have hC:BX g.heap.size (AcT r) g w1:=hC;have hh:=Az (h 115 (by decide));have hj:=Az (h 117 (by decide));refine Zx SL hh hj ((Uv _ ((ps.getD (m) AC).v) (p.v) ((ps.getD m AC).bytes) (p.bytes) (hpq.keep (DH hE hC (by omega) (fun k hk=>by have:=c6 k hk;omega))) (hpr.keep (DH hE hC (by omega) (fun k hk=>by have:=c6 k hk;omega))) (by omega) (by omega)).mono ?_);rintro e w2 ⟨_,rfl,hx,ho⟩;exact⟨_,rfl,hx,ZP ho⟩
   ·refine Ah rfl fun σ w1 hC h=> ?_;have hC:BX g.heap.size (AcT r) g w1:=hC;have hl:(fun x w' =>RB w' x (B2 ((ps.getD m AC).bytes) (p.bytes))) (σ 118) w1:=h 118 (by decide);exact Z3 Gj u5 PO hl ⟨Ext.refl _,rfl⟩
   ·refine Ah rfl fun σ w1 hC h=> ?_;have hC:BX g.heap.size (AcT r) g w1:=hC;have hn:(fun x w' =>E9 w.heap.size g.heap.size 5 (AcT r) (s.b++ [(1:UInt8)]++s.ids.getD m []) x w') (σ 109) w1:=h 109 (by decide);have ht:=Az (h 119 (by decide));refine Zx Mh rfl ht ((NL _ (σ 109) (s.b++ [(1:UInt8)]++s.ids.getD m []) (ZP hn.1) (B2 ((ps.getD m AC).bytes) (p.bytes)) (by simp only[AcQ,Adh,Adp,hm32];omega)).mono ?_);rintro e w2 ⟨v,rfl,hN⟩;exact⟨_,rfl,hN.ext,BL hN.own (AcN hsz_ hC.size),fun k hk=> .inr (AcN hC.size (hN.own.lt k hk).1)⟩
   ·refine Ah rfl fun σ w1 hC h=> ?_;have hC:BX g.heap.size (AcT r) g w1:=hC;have hu:(fun x w' =>E9 w.heap.size g.heap.size 5 (AcT r) ((s.b++ [(1:UInt8)]++s.ids.getD m []:List UInt8)++Bu (B2 ((ps.getD m AC).bytes) (p.bytes):List UInt8)) x w') (σ 120) w1:=h 120 (by decide);exact Yk.assign rfl ⟨Ext.refl _,hu⟩
  intro et eu hv he hf;obtain⟨-,-,-,-,-,-,-,-,-,-,-,-,k4,-⟩:=hf;obtain⟨T0,T5,T6,T7,T8,T9,ge,gf,gg,kq,aq,ar,ad,gh,gi,gj,gk,-⟩:=he.hold [(0,_),(5,_),(6,ax),(7,_),(8,NI ((s.total)+((p.bytes:List UInt8).length))),(9,_),(10,PQ am 0),(11,PQ bp 0),(13, .bool (false)),(14,PQ ba 0),(28,_),(29,_),(30,_),(47, .bool (false)),(58, .bool (false)),(61, .bool (true)),(91, .bool (false))] ⟨T0,T5,rfl,T7,rfl,ad,rfl,rfl,rfl,rfl,aq,ar,ad,rfl,rfl,rfl,rfl,trivial⟩ rfl;clear he;have k4:(fun x w' =>E9 w.heap.size g.heap.size 5 (AcT r) ((s.b++ [(1:UInt8)]++s.ids.getD m []:List UInt8)++Bu (B2 ((ps.getD m AC).bytes) (p.bytes):List UInt8)) x w') (et 4) eu:=k4;obtain⟨b0,T4⟩:∃v,et 4=v:=⟨_,rfl⟩;rw[T4]at k4;have a3:Grew g eu r b0:=⟨hv.grown,k4.2⟩;have hw:=k4.1;clear k4;have hy:OB b0 n8:=An a3 eq ac.lt;have hz:OB b0 ab:=An a3 er (bl hb38l);have ew:Ai b0 ax:=AK a3 es ae.2;have h0:Ai ax b0:=fun k h1 h2=>ew k h2 h1;have hE:=Aq hE a3 cn (AcP _);have f:=Ao f a3 c5;have t:=Ao t a3 g3;have hb38l:=Ao hb38l a3 er;have ac:=MapF.grew ac a3 eq;have ae:=Bg ae a3 es;have ah:=Ao ah a3 g4;have bb:=Dy bb a3 g5;clear cn;refine gX ?_;have hbn:(bnext ps p s).b=s.b++ [1]++s.ids.getD m []++Bu (B2 (ps.getD m AC).bytes p.bytes):=by unfold bnext;simp only;rw[if_neg hC0,hm,Ac0]
  refine gS (Zw (xv:=NI i) (yv:=NI 1) ad rfl rfl (Ag _ _ _ (by omega)) ?_);have hdep:d2=(bnext ps p s).depths++AcX (ps.length-(i+1)) 0:=by rw[hd2];simp only[bnext,Adn,Af6,Nat.sub_sub]
  refine gK (Adr ⟨i+1,bnext ps p s,b0,ax,T0,T5,T7,aq,ar,rfl,T8,T4,T6,hE,Dq hw (by rw[hbn]),Bc ae (rfl),Cb ac ((IM hB hin).symm),A1 hb38l (congrArg (Afs fun x=>NI x) hdep),hst3,by omega,hy,ew,hz,gw,h0,gy,trivial⟩ ?_);show ps.length-(intOf (NI ((i)+(1)))).toNat<ps.length-(intOf (de 30)).toNat;rw[q30];simp only[intOf,Ac0];omega
 have hie:i=ps.length:=by omega
 have hfl:=BW s.ids;have hsl:=GH s.ids;refine gS (ZF Gj (ZB (ZP hr_vb) T4) (gS (ZA SM T6 ((PH _ vi (s.ids) (ZG hr_vi)).mono ?_))));rintro e kr ⟨rfl,b9⟩;refine⟨_,rfl,?_⟩;have hE:=hE.trans b9;have hr_vb:=Stab.own _ _ _ _ _ _ _ _ hr_vb b9;have hr_vi:=hr_vi.keep b9;have hb11l:=hb11l.keep b9;have hb38l:=eb b9 hb38l;refine gL (fun(ρ:Ad) (wz:AcK)=>∃c:Nat,∃vc:AcJ,ρ 0=(v:AcJ)∧ρ 5=(.map (some n8):AcJ)∧ρ 6=(vi:AcJ)∧ρ 7=(.slice (some ⟨ab,0,none⟩) ps.length ps.length:AcJ)∧ρ 8=(NI s.total:AcJ)∧ρ 15=(NI ((s.b:List UInt8).length):AcJ)∧ρ 28=(v:AcJ)∧ρ 29=(NI ps.length:AcJ)∧ρ 30=(NI i:AcJ)∧ρ 125=(.agg ((Be (s.ids)).map fun x=>NI x).toArray:AcJ)∧ρ 126=(NI c:AcJ)∧ρ 4=(vc:AcJ)∧Ext w wz∧OG w.heap.size 33 32 (AcL) wz vi (s.ids)∧MapF rk NI (fun id:List UInt8=>id.length=32) wz n8 (Bw s)∧wz.heap[ab]? =some (.cells (dl.map fun x=>NI x).toArray 3 (0,0))∧wz.ownsRow w.heap.size 5 1 vc (s.b++((Be s.ids).take c).flatMap A8:List UInt8).length (AcL (s.b++((Be s.ids).take c).flatMap A8))∧(c≤256)∧(OB vc n8)∧(Ai vc vi)∧(OB vc ab)∧True) (fun ρ _=>256-(intOf (ρ 126)).toNat) ⟨0,vb,T0,T5,T6,T7,T8,rfl,aq,ar,ad,rfl,rfl,T4,hE,hr_vi,hb11l,hb38l,Dq hr_vb (by simp),by omega,hap_vb_n8,hap_vb_vi,hap_vb_n24,trivial⟩ ?_;clear hr_vb;clear hE hr_vi hb11l hb38l;rintro h3 h4 ⟨c,vc,T0,T5,T6,T7,T8,ca,aq,ar,ad,cb,bs,T4,hE,hr_vi,hb11l,hb38l,hr_vc,hcl,hap_vc_n8,hap_vc_vi,hap_vc_n24,-⟩;have q126:=bs;have hbl:(s.b++((Be s.ids).take c).flatMap A8).length≤40000:=by rw[AcQ,KS,Ac8];omega
 have hfc:=Jm s.ids c;refine gS (Zv (a:=(c:Nat)) (b:=(256:Nat)) bs rfl (AI _ _ _ _) ?_);refine cD rfl (fun h5=> ?_) fun h5=> ?_
 ·refine gS (AbD (l:=Be (s.ids)) (i:=c) Ec Uo rfl Hg cb bs (by omega) (by rw[hfl]) (gS (Zx IO T4 rfl ((J3 w _ hE vc (s.b++((Be s.ids).take c).flatMap A8) ((Be (s.ids)).getD (c) 0) (by have:=Jm s.ids c;omega) (by omega) hr_vc).mono ?_))));rintro e ks ⟨co,rfl,h6,bt⟩;refine⟨_,rfl,?_⟩;have h7:OB co n8:=An bt hap_vc_n8 hb11l.lt;have h8:Ai co vi:=AK bt hap_vc_vi hr_vi.2;have h9:OB co ab:=An bt hap_vc_n24 (bl hb38l);have hE:=Aq hE bt hr_vc (AcP _);have hr_vi:=Bg hr_vi bt hap_vc_vi;have hb11l:=MapF.grew hb11l bt hap_vc_n8;have hb38l:=Ao hb38l bt hap_vc_n24;clear hr_vc;refine gS (Zw (xv:=NI c) (yv:=NI 1) bs rfl rfl (Ag _ _ _ (by omega)) (gK (Adr ⟨c+1,co,T0,T5,T6,T7,T8,ca,aq,ar,ad,cb,rfl,rfl,hE,hr_vi,hb11l,hb38l,Dq h6 (by rw[KT (Be s.ids) c 0 (by rw[hfl];omega),AfG,AdJ,List.flatMap_nil,AeA,Adn]),by omega,h7,h8,h9,trivial⟩ ?_)));show 256-(intOf (NI ((c)+(1)))).toNat<256-(intOf (h3 126)).toNat;rw[q126];simp only[intOf,Ac0];omega
 refine gS (ZA Uz T6 ((NE _ vi (s.ids) (by omega) (ZG hr_vi)).mono ?_));rintro e kt ⟨bk,rfl,y,cc⟩;refine⟨_,rfl,?_⟩;have ku:=hE.size;have ia:Ai vc bk:=DN hr_vc y.2;have hE:=hE.trans cc;have hr_vi:=hr_vi.keep cc;have hb11l:=hb11l.keep cc;have hb38l:=eb cc hb38l;have hr_vc:=Stab.own _ _ _ _ _ _ _ _ hr_vc cc;refine gS (ZI NB (ZC (ZG y) rfl) (gL (fun(ρ:Ad) (wz:AcK)=>∃j:Nat,∃ve:AcJ,ρ 0=(v:AcJ)∧ρ 5=(.map (some n8):AcJ)∧ρ 6=(vi:AcJ)∧ρ 7=(.slice (some ⟨ab,0,none⟩) ps.length ps.length:AcJ)∧ρ 8=(NI s.total:AcJ)∧ρ 15=(NI ((s.b:List UInt8).length):AcJ)∧ρ 28=(v:AcJ)∧ρ 29=(NI ps.length:AcJ)∧ρ 30=(NI i:AcJ)∧ρ 125=(.agg ((Be (s.ids)).map fun x=>NI x).toArray:AcJ)∧ρ 126=(NI c:AcJ)∧ρ 134=(bk:AcJ)∧ρ 135=(NI (((AO (s.ids))).length):AcJ)∧ρ 136=(NI j:AcJ)∧ρ 4=(ve:AcJ)∧Ext w wz∧OG w.heap.size 33 32 (AcL) wz vi (s.ids)∧MapF rk NI (fun id:List UInt8=>id.length=32) wz n8 (Bw s)∧wz.heap[ab]? =some (.cells (dl.map fun x=>NI x).toArray 3 (0,0))∧OG h4.heap.size 33 32 AcL wz bk (AO (s.ids))∧wz.ownsRow w.heap.size 5 1 ve (s.b++(Be s.ids).flatMap A8++((AO s.ids).take j).flatMap (fun id=>id++A8 ((Bw s id).getD 0)):List UInt8).length (AcL (s.b++(Be s.ids).flatMap A8++((AO s.ids).take j).flatMap (fun id=>id++A8 ((Bw s id).getD 0))))∧(j≤s.ids.length)∧(OB ve n8)∧(Ai ve vi)∧(OB ve ab)∧(Ai ve bk)∧True) (fun ρ _=>s.ids.length-(intOf (ρ 136)).toNat) ⟨0,vc,T0,T5,T6,T7,T8,ca,aq,ar,ad,cb,bs,rfl,rfl,rfl,T4,hE,hr_vi,hb11l,hb38l,y,Dq hr_vc (by rw[show c=256 by omega,AdD (by rw[hfl];omega)];simp),by omega,hap_vc_n8,hap_vc_vi,hap_vc_n24,ia,trivial⟩ ?_));clear hr_vc;clear hE hr_vi hb11l hb38l y;rintro ib ic ⟨j,ve,T0,T5,T6,T7,T8,ca,aq,ar,ad,cb,bs,ex,ey,cp,T4,hE,hr_vi,hb11l,hb38l,y,hr_ve,hjl,hap_ve_n8,hap_ve_vi,hap_ve_n24,hap_ve_v351,-⟩;have q136:=cp;have hbl2:(s.b++(Be s.ids).flatMap A8++((AO s.ids).take j).flatMap (fun id=>id++A8 ((Bw s id).getD 0))).length≤60000:=by rw[AcQ,AcQ,KS,hfl,NK (fun id=>(Bw s id).getD 0) _ (fun x hx=>hB.len x ((sortB_perm _).subset (Ait hx))),Ac8];omega
 refine gS (Zv (a:=(j:Nat)) (b:=(((AO (s.ids))).length:Nat)) cp ey (AI _ _ _ _) ?_);refine cD rfl (fun ie=> ?_) fun ie=> ?_
 ·have ez:((AO s.ids).getD j []).length=32:=hB.len _ ((sortB_perm _).subset (getD_mem [] (by omega)));obtain⟨q2,hq2,hqm⟩:∃q,Bw s ((AO s.ids).getD j [])=some q∧q∈s.places:=D7 s.ids s.places _ (by omega) ((sortB_perm _).subset (getD_mem [] (by omega)));have hq2l:=hB.pl q2 hqm;have b1:(AcL (((AO (s.ids))).getD (j) ([]:List UInt8))).length=32:=(RG.elem (ZG y) ([]:List UInt8) (by omega));refine gS (ZO NB Sj (by decide) ([]:List UInt8) (ZC (ZG y) ex) cp (by omega) fun kv e1=>(gS (ZS (ZT e1 rfl) Wq rfl (by rw[b1];exact R4) (gS (Yk.alloc Ur fun bm ig e2 e3 cq kw=> ?_)))));have bc:=Ext.refl ic;have kx:=hE.size;have ky:=As hb11l.lt e2;have kz:=As (bl hb38l) e2;have e5:OB ve bm:=A3 hr_ve (by omega);have ih:OB vi bm:=A3 hr_vi.2 (by omega);have ii:OB bk bm:=A3 y.2 (by omega);have ao:=e3;clear e3;have k0:bm<ig.heap.size:=by omega
  refine gS (Zy (vr (PQ bm 0) rfl) (vr (AB (((AO (s.ids))).getD (j) ([]:List UInt8))) rfl) ao (by exact Bn (AD (b1)) Ac7) (by exact Ac (AD (b1))) (Af _) fun k1 e6 cr k2=> ?_);have hb11l:=hb11l.keep cq;have hb11l:=MapF.other hb11l cr (Ak (by omega));clear ao;have ao:=e6;clear e6;have k3:=bl ao;clear e1;refine D6 [0,1,3,4,5,2,6,7] [2,6,7] [] [4,5] fun ij cd=> ?_;have bc:=bc.trans cq;have bc:=Ab bc cr (AcN (AcP _) (by omega));have bc:=bc.trans cd;have hE:=hE.trans bc;have hr_ve:=Stab.own _ _ _ _ _ _ _ _ hr_ve bc;have hb11l:=hb11l.keep cd;have ao:=eb cd ao;refine m2 (A:=fun wz=>wz.heap[bm]? =some (.cells (AcL (((AO (s.ids))).getD (j) ([]:List UInt8))).toArray 33 (0,0))) ao (B:=fun wz=>MapF rk NI (fun id:List UInt8=>id.length=32) wz n8 (Bw s)) hb11l ?_;refine ys (Aac Wq Qq rfl zz) (yf (fun _ ⟨ao,_,_⟩=>Zz rfl ao Wq rfl (by exact Ac (AD (b1))) zz) (yf (fun _ ⟨_,hb11l,_⟩=>Aaq (ek:=rk) (ev:=NI) (D:=(fun id:List UInt8=>id.length=32)) Cm Cn (fun _ _=>Cg) Ef (z:=NI 0) Hh T5 rfl hb11l (AD (b1)) hq2 zz) (yI (ZW _ _ w.heap.size (.int .u8 0) Gj Nc rfl Gj (s.b++(Be s.ids).flatMap A8++((AO s.ids).take j).flatMap (fun id=>id++A8 ((Bw s id).getD 0))) (((AO (s.ids))).getD (j) ([]:List UInt8)) (C3 hr_ve T4) (ZB (Aap ao (AD (b1)) (by decide)) (vr (.slice (some ⟨bm,0,none⟩) 32 32) rfl)) (by rw[ez];omega) hE.size fun bu ik c7 av=> ?_))));have av:Grew ij ik ve bu:= .eqv T4 av;have e7:OB bu n8:=An av hap_ve_n8 hb11l.lt;have hr_vi:=hr_vi.keep cq;have hr_vi:=OG.kept hr_vi cr ih;have hr_vi:=hr_vi.keep cd;have e8:Ai bu vi:=AK av hap_ve_vi hr_vi.2;have hb38l:=eb bc hb38l;have e9:OB bu ab:=An av hap_ve_n24 (bl hb38l);have y:=y.keep cq;have y:=OG.kept y cr ii;have y:=y.keep cd;have fa:Ai bu bk:=AK av hap_ve_v351 y.2;have il:OB bu bm:=An av e5 (bl ao);have hE:=Aq hE av hr_ve (AcP _);have hr_vi:=Bg hr_vi av hap_ve_vi;have hb11l:=MapF.grew hb11l av hap_ve_n8;have hb38l:=Ao hb38l av hap_ve_n24;have y:=Bg y av hap_ve_v351;have ao:=Ao ao av e5;clear hr_ve;refine⟨⟨ao,hb11l,trivial⟩,?_⟩;refine yD rfl (Zx IO rfl rfl ((J3 w _ hE bu (s.b++(Be s.ids).flatMap A8++((AO s.ids).take j).flatMap (fun id=>id++A8 ((Bw s id).getD 0))++((AO (s.ids))).getD (j) ([]:List UInt8)) (q2) (by omega) (by rw[AcQ,ez];omega) c7).mono ?_));rintro e k5 ⟨ce,rfl,im,a7⟩;refine⟨_,rfl,?_⟩;have io:OB ce n8:=An a7 e7 hb11l.lt;have ip:Ai ce vi:=AK a7 e8 hr_vi.2;have iq:OB ce ab:=An a7 e9 (bl hb38l);have ir:Ai ce bk:=AK a7 fa y.2;have hE:=Aq hE a7 c7 (AcP _);have hr_vi:=Bg hr_vi a7 e8;have hb11l:=MapF.grew hb11l a7 e7;have hb38l:=Ao hb38l a7 e9;have y:=Bg y a7 fa;have ao:=Ao ao a7 il;clear c7;refine yD rfl (Yk.assign rfl (gS (Zw (xv:=NI j) (yv:=NI 1) cp rfl rfl (Ag _ _ _ (by omega)) (gK (Adr ⟨j+1,ce,T0,T5,T6,T7,T8,ca,aq,ar,ad,cb,bs,ex,ey,rfl,rfl,hE,hr_vi,hb11l,hb38l,y,Dq im (by rw[KT (AO s.ids) j [] (by rw[hsl];omega),AfG,AdJ,List.flatMap_nil,AeA];simp only[hq2,AdI,Adn]),by omega,io,ip,iq,ir,trivial⟩ ?_)))));show s.ids.length-(intOf (NI ((j)+(1)))).toNat<s.ids.length-(intOf (ib 136)).toNat;rw[q136];simp only[intOf,Ac0];omega
 refine gS (Zx IO T4 ca ((J3 w _ hE ve (s.b++(Be s.ids).flatMap A8++((AO s.ids).take j).flatMap (fun id=>id++A8 ((Bw s id).getD 0))) ((s.b:List UInt8).length) (by omega) (by omega) hr_ve).mono ?_));rintro e iu ⟨bd,rfl,aw,be⟩;refine⟨_,rfl,?_⟩;have iv:OB bd n8:=An be hap_ve_n8 hb11l.lt;have iw:Ai bd vi:=AK be hap_ve_vi hr_vi.2;have ix:OB bd ab:=An be hap_ve_n24 (bl hb38l);have iy:Ai bd bk:=AK be hap_ve_v351 y.2;have hE:=Aq hE be hr_ve (AcP _);have hr_vi:=Bg hr_vi be hap_ve_vi;have hb11l:=MapF.grew hb11l be hap_ve_n8;have hb38l:=Ao hb38l be hap_ve_n24;have y:=Bg y be hap_ve_v351;clear hr_ve;obtain⟨C,hCd⟩:∃C,C=s.b++Cu s s.b.length:=⟨_,rfl⟩;have aw:iu.ownsRow w.heap.size 5 1 bd (C:List UInt8).length (AcL (C)):=(by rw[hCd,AdD (by rw[hsl];omega)];unfold Cu;simp only[Adn]:(s.b++(Be s.ids).flatMap A8++((AO s.ids).take j).flatMap (fun id=>id++A8 ((Bw s id).getD 0)):List UInt8)++A8 ((s.b:List UInt8).length)=C)▸aw;have hCl:C.length≤60000:=by rw[hCd,AcQ,G5 hB];omega
 refine gS (Aae Gm (ZB (ZP aw) (vr bd rfl)) fun iz k6 i0 fb=> ?_);have hE:=hE.trans fb;refine gS (ZA J8 rfl ((Gc _ (hG.keep hE) iz (C) i0 (by omega)).mono ?_));rintro e i1 ⟨rfl,fc⟩;refine⟨_,rfl,?_⟩;refine gS (Yk.alloc Ur fun cs i2 fd fe cf k7=> ?_);have b2:=Ext.refl i1;have hE:=hE.trans fc;have i3:=hE.size;have hZ3:=fb.trans fc;have hb11l:=hb11l.keep hZ3;have k8:=As hb11l.lt fd;have hb38l:=eb hZ3 hb38l;have k9:=As (bl hb38l) fd;have aw:=Stab.own _ _ _ _ _ _ _ _ aw hZ3;have ff:OB bd cs:=A3 aw (by omega);have bv:=fe;clear fe;have la:cs<i2.heap.size:=by omega
 refine gS (Zy (vr (PQ cs 0) rfl) (vr (AB (Sha.sum (C))) rfl) bv (by exact Bn (Sha.sum_length _) Ac7) (by exact Ac (Sha.sum_length _)) (Af _) fun i4 fg cg lb=> ?_);have hb11l:=hb11l.keep cf;have hb11l:=MapF.other hb11l cg (Ak (by omega));clear bv;have bv:=fg;clear fg;have lc:=bl bv;have hE:=hE.trans cf;have hE:=Ab hE cg (AcN i3 (by omega));have aw:=Stab.own _ _ _ _ _ _ _ _ aw cf;have aw:=BM aw cg ff;refine gS (Aac Wq Qq rfl (gS (ZW _ _ w.heap.size (.int .u8 0) Gj Nc rfl Gj (C) (Sha.sum (C)) (C3 aw (vr bd rfl)) (ZB (Aap bv (Sha.sum_length _) (by decide)) (vr (.slice (some ⟨cs,0,none⟩) 32 32) rfl)) (by rw[Sha.sum_length];omega) hE.size fun fh i5 fi bn=> ?_)));have bn:Grew i4 i5 bd fh:=bn;have b2:=b2.trans cf;have b2:=Ab b2 cg (AcN (AcP _) (by omega));have hr_vi:=hr_vi.keep (hZ3.trans b2);have hb38l:=eb cf hb38l;have hb38l:=kb cg hb38l (by omega);have y:=y.keep (hZ3.trans b2);have hE:=Aq hE bn aw (AcP _);have hr_vi:=Bg hr_vi bn iw;have hb11l:=MapF.grew hb11l bn iv;have hb38l:=Ao hb38l bn ix;have y:=Bg y bn iy;have bv:=Ao bv bn ff;clear aw;refine gS (ZF Gj (ZB (ZP fi) rfl) (gS (Zv (a:=((C++Sha.sum (C):List UInt8).length:Nat)) (b:=(1048576:Nat)) rfl rfl (Bh _ _ _ _) (kF (by simp only[AcQ,Sha.sum_length];omega) (gS (Zv (a:=(s.total:Nat)) (b:=(4194304:Nat)) T8 rfl (Bh _ _ _ _) (kF (by omega) (gS (ZH rfl rfl (cF rfl (BF rfl (vr fh rfl) (vr (NI 0) rfl) ?_)))))))))));rw[SH (show C4 ps ps.length = .ok s from by rw[←hie];exact hs)];refine⟨_,rfl,?_,hE⟩;have hfin:=BL fi (show w.heap.size≤w.heap.size by first | exact AcP _ | omega);rw[hCd]at hfin;exact hfin

end Go.Proofs.YtfpekahfdalfkaaGreatDoor
